/-
  Texts of the proof, part 5 of 6: what is used to prove the statement. No condition.
-/
import Derived.Test.YtgijlolllojpaaaGreatDoorShbClocksQ3
import Derived.Deep.Slices
import Derived.OpenShut
import Derived.Below
import Derived.Test.YtgijlolllojpaaaGreatDoorProg
import Derived.KernelRfl
import Derived.Recover
namespace Go.Proofs.YtgijlolllojpaaaGreatDoor.AI
open Go.RowKit
set_option maxRecDepth 100000
set_option maxHeartbeats 4000000
set_option linter.unusedVariables false
set_option linter.unusedSimpArgs false
open Act renaming put→Om
open _root_.Array renaming replicate→oJ
open _root_.Bool renaming true→ai,false→aj
open Call renaming operands→eY
open _root_.Int renaming ofNat→aO
open _root_.List renaming length→al,range→bt,length_singleton→dS,cons_append→gr,length_nil→j6,toArray→kM,nil_append→l9,getElem?_cons_zero→re,take_succ_cons→wy
open _root_.Nat renaming beq→aC,testBit→aN,add_zero→dx,ble→eO,blt→gm
open Oper renaming wp→H7
open _root_.Option renaming some→af,none→ah,bind_some→aH,map_some→co,map→l8,getD_some→vu
open Region renaming wanted→iO
open Result renaming andThen_ok→cQ
open Sem renaming run_bind→eM,run_pure→o8
open _root_.Sum renaming inr→bP,inl→lD
open Value renaming okWide→H5
open Value.bool renaming injEq→CE
open World renaming cell?→Oh
noncomputable section
theorem U1 {K V:Ty} {es:List (K.den×V.den)} (I:mpE K V es=ai):es.map (λp=>(qc K p.1,AV.f (gK V p.2)))=[]:=by
 unfold mpE at I;split at I
 .rfl
 .cases I
theorem ajw {K V:Ty} {es:List (K.den×V.den)} (I:mpE K V es=ai):U0 K=ai:=by
 unfold mpE at I;split at I
 .rfl
 .cases I
theorem XG {str:Bool} {K:Ty} (I:YO str K=ai):U0 K=ai:=by
 cases K<;>cases str<;>first|rfl|cases I
theorem OZ {str:Bool} {K:Ty} (I:YO str K=ai) (k k':K.den):vn .eql (qc K k) (qc K k')=af (.bool (QJ K k k'))/\zD str (qc K k)=ai/\gK K k= .raw (qc K k):=by
 cases K<;>cases str<;>first|cases I|skip
 .exact⟨by simp only[vn,qc,QJ,c4,bG,ak,CE];exact Bool.beq_eq_decide_eq _ _,rfl,rfl⟩
 .exact⟨by simp only[vn,qc,QJ,Ef],rfl,rfl⟩
theorem Rs {str:Bool} {K V:Ty} (I:YO str K=ai) (k:K.den):∀es:List (K.den×V.den),tU (qc K k) (es.map λp=>(qc K p.1,AV.f (gK V p.2)))=af ((tD k es).map λv=>AV.f (gK V v))
 |[]=>rfl
 |(k',v)::r=>by
  simp only[gq,tU,(OZ I k k').1,tD];cases hb:QJ K k k' with
  |true=>rfl
  |false=>simp only[cE,ef];exact Rs I k r
theorem XD {str:Bool} {K V:Ty} (I:YO str K=ai) (k:K.den) (v:V.den):∀es:List (K.den×V.den),zB (qc K k) (.f (gK V v)) (es.map λp=>(qc K p.1,AV.f (gK V p.2)))=af ((Jb k v es).map λp=>(qc K p.1,AV.f (gK V p.2)))
 |[]=>rfl
 |(k',J)::r=>by
  simp only[gq,zB,(OZ I k k').1,Jb];cases hb:QJ K k k' with
  |true=>rfl
  |false=>simp only[XD I k v r,cE,ef,gq]
theorem aih {h:bi} {ok b:Bool} {v:TV} {y:AV} (hv:cz h v=af y):cz h (pkT ok v (.f .bool b))=af (pkV ok y b):=by
 cases ok with
 |false=>exact hv
 |true=>simp only[pkT,pkV,cz,cU,hv];rfl
section ops
variable {R:Type} {P:Program} {o:Oper} {e:iU} {h:bi} {nx:Nat} {K:KO R} {r:R}
theorem Le.aggOf {l:List FV} (hc:∀x∈l,x.isCell=ai):Le (.agg (l.map .f)) (.f (.agg l)):=by
 intro φ O w v hr;cases hr with
 |@agg _ vs hl hcl hrr=>
  refine .f (.agg l vs (by simpa using hl) hc λj y u I hu=>?_);have:=hrr j (.f y) u (by rw[bc,I];rfl) hu;cases this with
  |f h=>exact h
def Rj (S:Ty) (l:List TV):Option (S.den×Nat×List TV):=match l with
 |c::r=>(match iM PT.leaf S c with|some (x,m)=>af (x,m,r)|none=>ah)
 |[]=>ah
theorem Nh:∀{l I:List FV},l.map AV.f=I.map AV.f->l=I
 |[],[],_=>rfl
 |[],_::_,h=>by simp at h
 |_::_,[],h=>by simp at h
 |x::r,y::r',h=>by
  simp only[gq,iY,AV.f.injEq]at h;rw[h.1,Nh h.2]
theorem I1 (h:bi):∀(ds:List TypeDesc) (T:Ty),rm ds=af T->∀(n:Nat) (l:List TV) (x:T.den) (m:Nat) (r:List TV),fg PT.leaf n T l=af (x,m,r)->∀J,cU h l=af J->∃l2,cU h r=af l2/\J=(bS T x).map .f++l2
 |[],T,hd,n,l,x,m,r,hp,J,hl=>by
  simp only[rm,ak]at hd;subst hd;cases n with
  |zero=>simp[fg]at hp
  |succ n=>
   simp only[fg,ak,aE]at hp;obtain⟨_,_,rfl⟩:=hp;exact⟨J,hl,rfl⟩
 |d::ds,T,hd,n,l,x,m,r,hp,J,hl=>by
  have plain:∀(S:Ty),S.one=ai->(∀t,S≠ .sl t)->∀(v:TV) (a:S.den) (m:Nat) (y:AV),iM PT.leaf S v=af (a,m)->cz h v=af y->y= .f (gK S a):=by
   intro S Y hns v a m y I hy;cases v with
   |f Q q=>
    simp only[iM]at I;split at I
    .rename_i z hz;simp only[ak,aE]at I;obtain⟨rfl,_⟩:=I;obtain⟨e,rfl⟩:=jr hz;subst e;simp only[cz,ak]at hy;exact hy.symm
    .cases I
   |emp=>
    cases S with
    |sl t=>exact cY rfl (hns t)
    |_=>simp[iM]at I
   |nil=>
    cases S with
    |sl t=>exact cY rfl (hns t)
    |_=>simp[iM]at I
   |row id=>simp[iM,PT.get]at I
   |fel T xs j hj off=>simp[iM]at I
   |pel id sz j off=>simp[iM]at I
   |ptr id off=>simp[iM]at I
   |csl id off z=>simp[iM]at I
   |mp id=>simp[iM]at I
   |rtl id jj=>simp[iM]at I
   |agg q=>simp[iM]at I
   |tup q=>simp[iM]at I
   |clo f q=>simp[iM]at I
   |undef=>simp[iM]at I
   |np=>simp[iM]at I
   |anyb=>simp[iM]at I
  have one:∀(S:Ty),S.one=ai->(∀t,S≠ .sl t)->∀(n:Nat) (l:List TV) (a:S.den) (m:Nat) (r:List TV),fg PT.leaf n S l=af (a,m,r)->∀J,cU h l=af J->∃l2,cU h r=af l2/\J=(bS S a).map .f++l2:=by
   intro S Y hns n l a m r hp J hl;cases n with
   |zero=>simp[fg]at hp
   |succ n=>
    cases l with
    |nil=>
     cases S with
     |int k=>cases hp
     |bool=>cases hp
     |str=>cases hp
     |sl t=>exact cY rfl (hns t)
     |_=>cases Y
    |cons c q=>
     have hpp:Rj S (c::q)=af (a,m,r):=by
      cases S with
      |int k=>simp only[fg]at hp;simp only[Rj];cases hq:iM PT.leaf (.int k) c with
       |none=>rw[hq]at hp;cases hp
       |some z=>rw[hq]at hp;exact hp
      |bool=>simp only[fg]at hp;simp only[Rj];cases hq:iM PT.leaf .bool c with
       |none=>rw[hq]at hp;cases hp
       |some z=>rw[hq]at hp;exact hp
      |str=>simp only[fg]at hp;simp only[Rj];cases hq:iM PT.leaf .str c with
       |none=>rw[hq]at hp;cases hp
       |some z=>rw[hq]at hp;exact hp
      |sl t=>exact cY rfl (hns t)
      |_=>cases Y
     simp only[Rj]at hpp;split at hpp
     .rename_i a1 m1 h1;simp only[ak,aE]at hpp;obtain⟨rfl,rfl,rfl⟩:=hpp;obtain⟨y,l2,rfl,g1,Z⟩:=c7 hl;have:=plain S Y hns c a1 m1 y h1 g1;subst this;exact⟨l2,Z,by rw[(DF S a1 Y).1];rfl⟩
     .cases hpp
  have two:∀(S U:Ty),S.one=ai->(∀t,S≠ .sl t)->rm ds=af U->T= .pr S U->∃l2,cU h r=af l2/\J=(bS T x).map .f++l2:=by
   intro S U Y hns M e;subst e;cases n with
   |zero=>simp[fg]at hp
   |succ n=>
    simp only[fg]at hp;split at hp
    .rename_i x1 m1 r1 h1;split at hp
     .rename_i x2 m2 r2 h2;simp only[ak,aE]at hp;obtain⟨rfl,rfl,rfl⟩:=hp;obtain⟨l2,g1,Z⟩:=one S Y hns n l x1 m1 r1 h1 J hl;obtain⟨l3,g3,g4⟩:=I1 h ds U M n r1 x2 m2 r2 h2 l2 g1;exact⟨l3,g3,by rw[Z,g4,bS,cC,iD]⟩
     .cases hp
    .cases hp
  cases d with
  |int k=>
   simp only[rm]at hd;split at hd
   .rename_i U M;simp only[ak]at hd;exact two (.int k) U rfl (λt h=>by cases h) M hd.symm
   .cases hd
  |bool=>
   simp only[rm]at hd;split at hd
   .rename_i U M;simp only[ak]at hd;exact two .bool U rfl (λt h=>by cases h) M hd.symm
   .cases hd
  |string=>
   simp only[rm]at hd;split at hd
   .rename_i U M;simp only[ak]at hd;exact two .str U rfl (λt h=>by cases h) M hd.symm
   .cases hd
  |_=>simp[rm]at hd
theorem DC:∀(ds:List TypeDesc) (T:Ty),rm ds=af T->∀a b:T.den,pj ds (bS T a) (bS T b)=af (QJ T a b)
 |[],T,hd,a,b=>by simp only[rm,ak]at hd;subst hd;rfl
 |d::ds,T,hd,a,b=>by
  cases d with
  |int k=>
   simp only[rm]at hd;split at hd
   .rename_i U M;simp only[ak]at hd;subst hd;have J:=DC ds U M a.2 b.2;simp only[bS,gr,l9,pj,ye,c4,bG,QJ];cases he:((a.1:Int)==b.1) with
    |true=>have I:(a.1:Int)=b.1:=by simpa using he
           simp only[J,I,cN,pR]
    |false=>have I:¬(a.1:Int)=b.1:=by simpa using he
            simp only[I,cB,nI]
   .cases hd
  |bool=>
   simp only[rm]at hd;split at hd
   .rename_i U M;simp only[ak]at hd;subst hd;have J:=DC ds U M a.2 b.2;simp only[bS,gr,l9,pj,ye,QJ];cases he:((a.1:Bool)==b.1)<;>simp[he,J]
   .cases hd
  |string=>
   simp only[rm]at hd;split at hd
   .rename_i U M;simp only[ak]at hd;subst hd;have J:=DC ds U M a.2 b.2;simp only[bS,gr,l9,pj,ye,QJ,Ef];cases he:decide ((a.1:ζ)=b.1) with
    |true=>simp only[J,pR]
    |false=>simp only[nI]
   .cases hd
  |_=>simp[rm]at hd
theorem N_ {u:TV} (hu:u.isC=aj) {lu:List TV} (hl:u.cs=af lu) {ds:List TypeDesc} {T:Ty} (hd:rm ds=af T) {a:T.den} {m:Nat} (hp:fg PT.leaf 40 T lu=af (a,m,[])) {y:AV} (I:cz h u=af y):Le y (.f (.agg (bS T a))):=by
 obtain⟨h1,_⟩:=KN hl I;obtain⟨l2,h2,J⟩:=I1 h ds T hd 40 lu a m [] hp _ h1;simp only[cU,ak]at h2;subst h2;rw[iZ]at J;cases u with
 |agg l=>
  simp only[cz]at I;split at I
  .rename_i M _;simp only[ak]at I;subst I;have:M=(bS T a).map .f:=J;rw[this];exact Le.aggOf (om T a)
  .cases I
 |f S x=>
  simp only[cz,ak]at I;subst I;have U:S.one=aj:=hu;rw[AF]at J;have:bS S x=bS T a:=Nh J;rw[qQ S x U,this];exact Le.refl _
 |tup l=>simp[TV.cs,TV.isC]at hl
 |undef=>simp[TV.cs,TV.isC]at hl
 |np=>cases hu
 |anyb=>simp[TV.cs,TV.isC]at hl
 |fel T xs j hj off=>cases hu
 |pel id sz j off=>cases hu
 |ptr id off=>cases hu
 |csl id off z=>cases hu
 |row id=>cases hu
 |emp=>cases hu
 |nil=>cases hu
 |mp id=>cases hu
 |rtl id Y=>cases hl
 |clo g l=>cases hu
variable (hinv:mj h nx) (hi:ub e h)
include hinv hi
theorem apr {con:FuncId->Option cq} {b7:TypeId->Option Ty} {neg:Bool} {ds:List TypeDesc} {x y:Operand} {st:Bool} (hc:dt P o.op=af (.eqs neg ds x y)) (hk:dW con b7 (.op (.eqs neg ds x y)) e h nx K=af r):kU P o st e h nx K r:=by
 obtain⟨H,hH⟩:=jS h;simp only[dW]at hk;split at hk
 .rename_i T u v hd hu hv;split at hk
  .cases hk
  .rename_i hcc;simp only[i_,not_or,Bool.not_eq_true]at hcc;split at hk
   .rename_i lu lv hlu hlv;split at hk
    .rename_i a m1 b m2 hpa hpb;obtain⟨yu,h1,h2⟩:=bO hi hu;obtain⟨yv,h3,h4⟩:=bO hi hv;obtain⟨⟨⟨U,M⟩,hc3⟩,Z⟩:=hcc;have l1:=N_ U hlu hd hpa h2;have l2:=N_ M hlv hd hpb h4;have tmp:∀(z:Operand) (q:TV),fR e z=af q->q.isC=aj->U9 z=aj->∃t,z= .tmp t:=by
      intro z q I hq hg;cases z with
      |tmp t=>exact⟨t,rfl⟩
      |const c=>
       have I:cst c=af q:=by
        simp only[fR,ak9]at I;split at I
        .cases hg
        .exact I
       have:=(KL h I).2.2;rw[hq]at this;cases this
      |func g=>simp only[fR,ak]at I;subst I;cases hq
      |global g=>
       simp only[fR]at I;split at I
       .cases I;cases hq
       .cases I
     obtain⟨t,rfl⟩:=tmp x u hu U hc3;obtain⟨t',rfl⟩:=tmp y v hv M Z;have same:t=t'->bS T a=bS T b:=by
      intro ht;subst ht;rw[hu]at hv;cases hv;rw[hlu]at hlv;cases hlv;rw[hpa]at hpb;cases hpb;rfl
     let J:Am:=((J4 e h).set t (af (.f (.agg (bS T a))))).set t' (af (.f (.agg (bS T b))))
     have e1:mO J (.tmp t)=af (.f (.agg (bS T a))):=by
      simp only[mO,J,PT.get_set];by_cases ht:t=t'
      .rw[aD ht,same ht]
      .rw[ay ht];simp
     have e2:mO J (.tmp t')=af (.f (.agg (bS T b))):=by simp only[mO,J,PT.get_set,bG]
     have ha:eU (.eqs neg ds (.tmp t) (.tmp t')) J H 0=af ⟨raw (.bool (QJ T a b !=neg)),[],[],[],[]⟩:=by
      simp only[eU,e1,e2,DC ds T hd a b];rfl
     have ht:=I3 hc ha;rw[hH]at ht;have Y:gQ P o (fY e h) (bC h) _:=ht.envLe (e2:=fY e h) λs z _ I=>by
      simp only[J,PT.get_set]at I;rw[<- vM];simp only[mO]at h1 h3;split at I
      .rename_i es;subst es;cases I;exact⟨yv,h3,l2⟩
      .split at I
       .rename_i es;subst es;cases I;exact⟨yu,h1,l1⟩
       .exact⟨z,I,Le.refl _⟩
     refine ⟨_,0,0,h,nx,hk,⟨⟨_,Y,λy hy=>?_,by simp[CC.eff,uo],by simp[CC.eff],by simp[CC.eff],by simp[CC.eff]⟩,λ_ _ h=>h,hinv,bX _,λ_=>⟨rfl,rfl⟩⟩⟩;simp only[cz,ak]at hy;exact hy
    .cases hk
   .cases hk
 .cases hk
theorem apf {con:FuncId->Option cq} {b7:TypeId->Option Ty} (hc:dt P o.op=af .mkm) (hk:dW con b7 (.op .mkm) e h nx K=af r):kU P o aj e h nx K r:=by
 have _:=hi;obtain⟨H,M⟩:=jS h;refine ⟨_,_,_,_,_,hk,js.new hinv hc M (y0:=.mp (nm nx)) (rdl:=[]) (b0:=⟨0,.mp []⟩) rfl (dU.zero h) (λ_ _ he=>by cases he) (λY U d g b' I=>?_) (λY U y d g J=>?_) (by simp)⟩
 .cases I;exact j_.refl d _
 .simp only[cz,ak]at J;subst J;exact lY.refl d _
theorem amc {con:FuncId->Option cq} {b7:TypeId->Option Ty} {x:Operand} (hc:dt P o.op=af (.lenm x)) (hk:dW con b7 (.op (.lenm x)) e h nx K=af r):kU P o aj e h nx K r:=by
 obtain⟨H,J⟩:=jS h;simp only[dW]at hk;split at hk
 .rename_i id hv;split at hk
  .rename_i K' V es hb;obtain⟨y,h1,h2⟩:=bO hi hv;simp only[cz,ak]at h2;subst h2;split at hk
   case isFalse=>cases hk
   rename_i hO;have hg:H.get (nm id)=af ⟨0,.mp (es.map λp=>(qc K' p.1,.f (gK V p.2)))⟩:=by rw[J,bM,hb];show af (xu.mk 0 (mpC K' V es))=_;rw[Ca hO]
   exact⟨_,_,_,_,_,hk,js.pure (k:=0) hinv hc J (y0:=raw (.int .i64 es.length)) (rdl:=[nm id]) (by simp only[eU,h1,hg,bY]) (λy I=>by simp only[cz,ak]at I;subst I;exact Le.refl _) (λn hn=>by simp only[aL]at hn;subst hn;rw[ec];exact b9.2 rfl) (λh=>by cases h)⟩
  .cases hk
 .cases hk
theorem apj {con:FuncId->Option cq} {b7:TypeId->Option Ty} {str ok:Bool} {z:Value} {x k:Operand} (hc:dt P o.op=af (.lku str ok z x k)) (hk:dW con b7 (.op (.lku str ok z x k)) e h nx K=af r):kU P o aj e h nx K r:=by
 obtain⟨H,Y⟩:=jS h;simp only[dW]at hk;split at hk
 .rename_i id KT kv hv U;split at hk
  .rename_i K' V es hb;split at hk
   .rename_i J;obtain⟨y,h1,h2⟩:=bO hi hv;obtain⟨y2,h3,h4⟩:=bO hi U;simp only[cz,ak]at h2 h4;subst h2;subst h4;simp only[av]at J;have hg:H.get (nm id)=af ⟨0,.mp (es.map λp=>(qc K' p.1,.f (gK V p.2)))⟩:=by rw[Y,bM,hb];show af (xu.mk 0 (mpC K' V es))=_;rw[Ca J.2]
    obtain⟨_,hok,henc⟩:=OZ J.1 kv kv;rw[henc]at h3;have hrd:∀n∈[nm id],aN (kT id) (ow n)=ai:=λn hn=>by simp only[aL]at hn;subst hn;rw[ec];exact b9.2 rfl
    split at hk
    .rename_i hE;split at hk
     .rename_i v M;have hzz:=(KL h M).1;exact⟨_,_,_,_,_,hk,js.pure (k:=0) hinv hc Y (y0:=pkV ok (raw z) aj) (rdl:=[nm id]) (by simp only[eU,h1,h3,hg,hok,bG,U1 hE,tU]) (λy I=>by rw[aih hzz]at I;cases I;exact Le.refl _) hrd (λh=>by cases h)⟩
     .cases hk
    .split at hk
     .rename_i kv' Z zv hkv M;split at hk
      .rename_i zv' hzv;obtain⟨e1,e2⟩:=jr hkv;cases e1;subst e2;obtain⟨e3,e4⟩:=jr hzv;cases e3;subst e4;have hzz:=(KL h M).1;simp only[cz,ak]at hzz;refine ⟨_,_,_,_,_,hk,js.pure (k:=0) hinv hc Y (y0:=pkV ok (.f (gK _ (Ge kv' es zv'))) (OV kv' es)) (rdl:=[nm id]) ?_ (λy I=>by rw[aih (y:=.f (gK _ (Ge kv' es zv'))) rfl]at I;cases I;exact Le.refl _) hrd (λh=>by cases h)⟩;simp only[eU,h1,h3,hg,hok,bG,Rs J.1];unfold Ge OV;cases hf:tD kv' es with
       |none=>simp only[Option.map_none];rw[hzz]
       |some v=>rfl
      .cases hk
     .cases hk
   .cases hk
  .cases hk
 .cases hk
theorem ape {con:FuncId->Option cq} {b7:TypeId->Option Ty} {str:Bool} {x k v:Operand} (hc:dt P o.op=af (.mup str x k v)) (hk:dW con b7 (.op (.mup str x k v)) e h nx K=af r):kU P o aj e h nx K r:=by
 obtain⟨H,hH⟩:=jS h;simp only[dW]at hk;split at hk
 .rename_i id KT U VT vv hv Z Y;split at hk
  .rename_i K' V es hb;split at hk
   .rename_i J;simp only[av]at J;obtain⟨y,h1,h2⟩:=bO hi hv;obtain⟨y2,h3,h4⟩:=bO hi Z;obtain⟨y3,h5,h6⟩:=bO hi Y;simp only[cz,ak]at h2 h4 h6;subst h2;subst h4;subst h6;have hg:H.get (nm id)=af ⟨0,.mp (es.map λp=>(qc K' p.1,.f (gK V p.2)))⟩:=by rw[hH,bM,hb];show af (xu.mk 0 (mpC K' V es))=_;rw[Ca J.2]
    obtain⟨_,hok,henc⟩:=OZ J.1.1 U U;rw[henc]at h3;have hrd:∀n∈[nm id],aN (kT id) (ow n)=ai:=λn hn=>by simp only[aL]at hn;subst hn;rw[ec];exact b9.2 rfl
    split at hk
    .rename_i hE;exact⟨_,_,_,_,_,hk,js.wrt (k:=0) (m:=0) (v:=.undef) (rd:=kT id) hinv hc hH (y0:=raw undef) (b0:=⟨0,.mp [(qc KT U,.f (gK VT vv))]⟩) (rdl:=[nm id]) (by simp only[eU,h1,h3,h5,hg,hok,bG,U1 hE,zB]) (B:=.mp KT VT [(U,vv)]) hb (dU.zero h) (by simp) rfl (λty' l2 he=>by cases he) (λH1 H2 d g b' I=>by simp only[kH,Ca (XG J.1.1),ak]at I;subst I;exact j_.refl d _) (λH1 H2 y d g M=>by simp only[cz,ak]at M;subst M;exact lY.refl d _) hrd⟩
    .split at hk
     .rename_i kv' vv' hkv hvv;obtain⟨e1,e2⟩:=jr hkv;cases e1;subst e2;obtain⟨e3,e4⟩:=jr hvv;cases e3;subst e4;exact⟨_,_,_,_,_,hk,js.wrt (k:=0) (m:=0) (v:=.undef) (rd:=kT id) hinv hc hH (y0:=raw undef) (b0:=⟨0,.mp ((Jb kv' vv' es).map λp=>(qc _ p.1,.f (gK _ p.2)))⟩) (rdl:=[nm id]) (by simp only[eU,h1,h3,h5,hg,hok,bG,XD J.1.1]) (B:=.mp _ _ (Jb kv' vv' es)) hb (dU.zero h) (by simp) rfl (λty' l2 he=>by cases he) (λH1 H2 d g b' I=>by simp only[kH,Ca (XG J.1.1),ak]at I;subst I;exact j_.refl d _) (λH1 H2 y d g M=>by simp only[cz,ak]at M;subst M;exact lY.refl d _) hrd⟩
     .cases hk
   .cases hk
  .cases hk
 .cases hk
theorem apb {con:FuncId->Option cq} {b7:TypeId->Option Ty} {x:Operand} (hc:dt P o.op=af (.rng x)) (hk:dW con b7 (.op (.rng x)) e h nx K=af r):kU P o aj e h nx K r:=by
 obtain⟨H,M⟩:=jS h;simp only[dW]at hk;split at hk
 .rename_i s hv;obtain⟨y,h1,h2⟩:=bO hi hv;simp only[cz,ak]at h2;subst h2;refine ⟨_,_,_,_,_,hk,js.new hinv hc M (y0:=.ptr (nm nx) 0) (rdl:=[]) (b0:=⟨0,.it ⟨kM s⟩ 0⟩) (by simp only[eU,h1];rfl) (dU.zero h) (λ_ _ he=>by cases he) (λY U d g b' I=>?_) (λY U y d g J=>?_) (by simp)⟩
  .cases I;exact j_.refl d _
  .simp only[cz,ak]at J;subst J;exact lY.refl d _
 .cases hk
theorem apc {con:FuncId->Option cq} {b7:TypeId->Option Ty} {x:Operand} (hc:dt P o.op=af (.nxt x)) (hk:dW con b7 (.op (.nxt x)) e h nx K=af r):kU P o aj e h nx K r:=by
 obtain⟨H,M⟩:=jS h;simp only[dW]at hk;split at hk
 .rename_i id hv;split at hk
  .rename_i K' V es hb;split at hk
   .rename_i s p Z;obtain⟨y,h1,h2⟩:=bO hi hv;simp only[cz,ak]at h2;subst h2;have hg:H.get (nm id)=af ⟨0,.it ⟨kM s⟩ p⟩:=by rw[M,bM,hb];show af (xu.mk 0 (mpC K' V es))=_;rw[ak0 Z]
    have hrd:∀n∈[nm id],aN (kT id) (ow n)=ai:=λn hn=>by simp only[aL]at hn;subst hn;rw[ec];exact b9.2 rfl
    rcases pN hk with ⟨hp,hk⟩|⟨hp,hk⟩
    .obtain⟨hj,hk⟩:=dY hk;have hp:=a8 hp;have e2:(⟨kM s⟩:ByteArray).data.toList[p]? =af (List.getD s p 0):=by
      show s[p]? =_;rw[aA,aB hp];rfl
     have e3:gm (List.getD s p 0).toNat 128=ai:=by
      have hj:(aO (List.getD s p 0).toNat:Int)<128:=bw hj;exact bE (Int.ofNat_lt.1 hj)
     exact⟨_,_,_,_,_,hk,js.wrt (k:=0) (m:=0) (rd:=kT id) hinv hc M (y0:=.tup [raw (.bool ai),raw (.int .i64 p),raw (.int .i32 (List.getD s p 0).toNat)]) (b0:=⟨0,.it ⟨kM s⟩ (p+1)⟩) (rdl:=[nm id]) (by simp only[eU,h1,hg,e2,e3,bG]) (B:=.mp itK .un [((s,aO (p+1)),())]) hb (dU.zero h) (by simp) rfl (λty' l2 he=>by cases he) (λY U d g b' I=>by cases I;exact j_.refl d _) (λY U y d g J=>by cases J;exact lY.refl d _) hrd⟩
    .have hp:s.length<=p:=Nat.not_lt.1 λq=>by rw[show gm p s.length=ai from bE q]at hp;cases hp
     have e2:(⟨kM s⟩:ByteArray).data.toList[p]? =ah:=by
      show s[p]? =_;exact bR hp
     exact⟨_,_,_,_,_,hk,js.wrt (k:=0) (m:=0) (rd:=kT id) hinv hc M (y0:=.tup [raw (.bool aj)]) (b0:=⟨0,.it ⟨kM s⟩ p⟩) (rdl:=[nm id]) (by simp only[eU,h1,hg,e2]) (B:=.mp itK .un [((s,aO p),())]) hb (dU.zero h) (by simp) rfl (λty' l2 he=>by cases he) (λY U d g b' I=>by cases I;exact j_.refl d _) (λY U y d g J=>by cases J;exact lY.refl d _) hrd⟩
   .cases hk
  .cases hk
 .cases hk
theorem K_op {con:FuncId->Option cq} {b7:TypeId->Option Ty} {s:Z5} (hc:dt P o.op=af s) (hk:dW con b7 (.op s) e h nx K=af r):kU P o s.still e h nx K r:=by
 cases s with
 |mv x=>exact K_mv hinv hi hc hk
 |pick c a b=>exact am7 hinv hi hc hk
 |alloc ty z=>exact ahv hinv hi hc hk
 |box ty x=>exact apv hinv hi hc hk
 |build z parts=>exact ahu hinv hi hc hk
 |bsl ty sz len z parts=>exact apu hinv hi hc hk
 |load sz ag x=>exact ama hinv hi hc hk
 |store sz x v=>exact ahr hinv hi hc hk
 |nilc x=>exact am8 hinv hi hc hk
 |bin op x y=>exact apw hinv hi hc hk
 |eqs neg ds x y=>exact apr hinv hi hc hk
 |eqb neg x y=>exact aps hinv hi hc hk
 |isnil neg x=>exact aht hinv hi hc hk
 |not x=>exact apd hinv hi hc hk
 |conv k x=>exact amf hinv hi hc hk
 |mksl ty sz bytes z l c=>exact am9 hinv hi hc hk
 |slc sz x lo I mx=>exact apa hinv hi hc hk
 |fad off x=>exact apo hinv hi hc hk
 |fld off sz ag x=>exact apn hinv hi hc hk
 |iad sz x i=>exact apm hinv hi hc hk
 |idx n sz ag x i=>exact apl hinv hi hc hk
 |iada n sz x i=>exact amd hinv hi hc hk
 |ext x i=>exact apq hinv hi hc hk
 |len x=>exact apk hinv hi hc hk
 |lens x=>exact amb hinv hi hc hk
 |max x y=>exact api hinv hi hc hk
 |min x y=>exact aph hinv hi hc hk
 |sidx x i=>exact am6 hinv hi hc hk
 |app ty sz bytes s x=>exact apx hinv hi hc hk
 |copy sz d x=>exact ame hinv hi hc hk
 |clr sz z x=>exact apt hinv hi hc hk
 |mkf f caps=>exact apg hinv hi hc hk
 |mkm=>exact apf hinv hi hc hk
 |rng x=>exact apb hinv hi hc hk
 |nxt x=>exact apc hinv hi hc hk
 |lenm x=>exact amc hinv hi hc hk
 |lku str ok z x k=>exact apj hinv hi hc hk
 |mup str x k v=>exact ape hinv hi hc hk
 |_=>simp[dW]at hk
end ops
mutual
def AV.ren (g:Nat->Nat):AV->AV
 |.f x=>.f x
 |.ptr id off=>.ptr (g id) off
 |.sl id off n=>.sl (g id) off n
 |.row id sz n=>.row (g id) sz n
 |.mp id=>.mp (g id)
 |.emp=>.emp
 |.anyb=>.anyb
 |.agg l=>.agg (AV.renL g l)
 |.tup l=>.tup (AV.renL g l)
 |.clo q l=>.clo q (AV.renL g l)
def AV.renL (g:Nat->Nat):List AV->List AV
 |[]=>[]
 |x::r=>x.ren g::AV.renL g r
end
theorem oL (g:Nat->Nat):∀l,AV.renL g l=l.map (AV.ren g)
 |[]=>rfl
 |x::r=>by rw[AV.renL,oL g r];rfl
theorem CZ (g:Nat->Nat) (x:AV):(x.ren g).isCell=x.isCell:=by cases x<;>rfl
theorem cW.renTo {φ φ':PM} {g:Nat->Nat} {O:Nat->Prop} {w:World} (hk:∀i k,φ i=af k->φ' (g i)=af k) {x:AV} {v:Value} (h:cW φ O w x v):cW φ' O w (x.ren g) v:=by
 induction h with
 |f h=>exact .f h
 |ptr h=>exact .ptr (hk _ _ h)
 |sl h hn hc=>exact .sl (hk _ _ h) hn hc
 |row h hn hc hsh=>exact .row (hk _ _ h) hn hc hsh
 |emp=>exact .emp
 |anyb=>exact .anyb
 |mp h=>exact .mp (hk _ _ h)
 |agg hl hcl hr M=>
  simp only[AV.ren,oL];refine .agg (by simpa using hl) (λx I=>?_) λj x v I hv=>?_
  .obtain⟨y,J,rfl⟩:=c_.1 I;rw[CZ];exact hcl y J
  .rw[bc]at I;obtain⟨y,J,rfl⟩:=jT.1 I;exact M j y v J hv
 |tup hl hr M=>
  simp only[AV.ren,oL];refine .tup (by simpa using hl) λj x v I hv=>?_
  rw[bc]at I;obtain⟨y,J,rfl⟩:=jT.1 I;exact M j y v J hv
 |clo hl hr M=>
  simp only[AV.ren,oL];refine .clo (by simpa using hl) λj x v I hv=>?_
  rw[bc]at I;obtain⟨y,J,rfl⟩:=jT.1 I;exact M j y v J hv
theorem cW.renFrom {φ φ':PM} {g:Nat->Nat} {O:Nat->Prop} {w:World} {p:Nat->Bool} (hk:∀i k,p i=ai->φ (g i)=af k->φ' i=af k) {z:AV} {v:Value} (h:cW φ O w z v):∀x:AV,x.all p=ai->z=x.ren g->cW φ' O w x v:=by
 induction h with
 |f h=>intro x hp e;cases x<;>simp only[AV.ren,reduceCtorEq]at e;cases e;exact .f h
 |ptr h=>intro x hp e;cases x<;>simp only[AV.ren,reduceCtorEq]at e;cases e;exact .ptr (hk _ _ hp h)
 |sl h hn hc=>intro x hp e;cases x<;>simp only[AV.ren,reduceCtorEq]at e;cases e;exact .sl (hk _ _ hp h) hn hc
 |row h hn hc hsh=>intro x hp e;cases x<;>simp only[AV.ren,reduceCtorEq]at e;cases e;exact .row (hk _ _ hp h) hn hc hsh
 |emp=>intro x hp e;cases x<;>simp only[AV.ren,reduceCtorEq]at e;exact .emp
 |anyb=>intro x hp e;cases x<;>simp only[AV.ren,reduceCtorEq]at e;exact .anyb
 |mp h=>intro x hp e;cases x<;>simp only[AV.ren,reduceCtorEq]at e;cases e;exact .mp (hk _ _ hp h)
 |agg hl hcl hr J=>
  intro x hp e;cases x<;>simp only[AV.ren,reduceCtorEq]at e;rename_i l;cases e;rw[oL]at hl hcl hr J;refine .agg (by simpa using hl) (λx I=>?_) λj x v I hv=>?_
  .have:=hcl (x.ren g) (c_.2 ⟨x,I,rfl⟩);rwa [CZ]at this
  .exact J j (x.ren g) v (by rw[bc,I];rfl) hv x (mh hp x (ba I)) rfl
 |tup hl hr J=>
  intro x hp e;cases x<;>simp only[AV.ren,reduceCtorEq]at e;rename_i l;cases e;rw[oL]at hl hr J;refine .tup (by simpa using hl) λj x v I hv=>?_
  exact J j (x.ren g) v (by rw[bc,I];rfl) hv x (mh hp x (ba I)) rfl
 |clo hl hr J=>
  intro x hp e;cases x<;>simp only[AV.ren,reduceCtorEq]at e;rename_i l;cases e;rw[oL]at hl hr J;refine .clo (by simpa using hl) λj x v I hv=>?_
  exact J j (x.ren g) v (by rw[bc,I];rfl) hv x (mh hp x (ba I)) rfl
def BC.ren (g:Nat->Nat):BC->BC
 |.fz l=>.fz l
 |.mx l=>.mx (l.map (AV.ren g))
 |.mp es=>.mp (es.map λp=>(p.1,p.2.ren g))
 |.it s p=>.it s p
def xu.ren (g:Nat->Nat) (b:xu):xu:=⟨b.ty,b.c.ren g⟩
theorem jC.renTo {φ φ':PM} {g:Nat->Nat} {O O':Nat->Prop} {w:World} (hk:∀x v,cW φ O w x v->cW φ' O' w (x.ren g) v) {b:xu} {o:Obj} (h:jC φ O w b o):jC φ' O' w (b.ren g) o:=by
 obtain⟨ty,c⟩:=b;unfold jC at h ⊢;simp only[xu.ren];cases c with
 |fz l=>
  simp only[BC.ren];obtain⟨arr,h1,h2,J⟩:=h;refine ⟨arr,h1,h2,λj x I=>?_⟩;obtain⟨a,v,c,d⟩:=J j x I;simp only[BC.get]at I;obtain⟨q,_,rfl⟩:=jT.1 I;exact⟨a,v,c,hk _ _ d⟩
 |mx l=>
  simp only[BC.ren];obtain⟨arr,h1,h2,J⟩:=h;refine ⟨arr,h1,by simpa[BC.len] using h2,λj x I=>?_⟩;simp only[BC.get,bc]at I;obtain⟨q,hq,rfl⟩:=jT.1 I;obtain⟨a,v,c,d⟩:=J j q hq;exact⟨by rw[CZ];exact a,v,c,hk _ _ d⟩
 |mp es=>
  simp only[BC.ren];obtain⟨e,c,h1,h2,J⟩:=h;refine ⟨e,c,h1,by rw[h2,Aq];rfl,λj x I=>?_⟩;rw[bc]at I;obtain⟨q,hq,rfl⟩:=jT.1 I;obtain⟨m,a,b⟩:=J j q hq;exact⟨m,a,hk _ _ b⟩
 |it s p=>exact h
theorem jC.renFrom {φ φ':PM} {g:Nat->Nat} {O O':Nat->Prop} {w:World} {p:Nat->Bool} (hk:∀x v,x.all p=ai->cW φ O w (x.ren g) v->cW φ' O' w x v) {b:xu} (hb:b.c.all p=ai) {o:Obj} (h:jC φ O w (b.ren g) o):jC φ' O' w b o:=by
 obtain⟨ty,c⟩:=b;unfold jC at h ⊢;simp only[xu.ren]at h;cases c with
 |fz l=>
  simp only[BC.ren]at h;obtain⟨arr,h1,h2,J⟩:=h;refine ⟨arr,h1,h2,λj x I=>?_⟩;obtain⟨a,v,c,d⟩:=J j x I;simp only[BC.get]at I;obtain⟨q,_,rfl⟩:=jT.1 I;exact⟨a,v,c,hk _ _ rfl d⟩
 |mx l=>
  simp only[BC.ren]at h;obtain⟨arr,h1,h2,J⟩:=h;refine ⟨arr,h1,by simpa[BC.len] using h2,λj x I=>?_⟩;simp only[BC.get]at I;obtain⟨a,v,c,d⟩:=J j (x.ren g) (by simp only[BC.get,bc,I];rfl);rw[CZ]at a;exact⟨a,v,c,hk _ _ (mh hb x (ba I)) d⟩
 |mp es=>
  simp only[BC.ren]at h;obtain⟨e,c,h1,h2,J⟩:=h;refine ⟨e,c,h1,by rw[h2,Aq];rfl,λj x I=>?_⟩;obtain⟨m,a,b⟩:=J j (x.1,x.2.ren g) (by rw[bc,I];rfl);exact⟨m,a,hk _ _ (mh hb x.2 (c_.2 ⟨x,ba I,rfl⟩)) b⟩
 |it s p=>exact h
mutual
def C2 (g:Nat->Nat):TV->TV
 |.row i=>.row (g i)
 |.rtl i j=>.rtl (g i) j
 |.agg l=>.agg (kG g l)
 |.tup l=>.tup (kG g l)
 |.clo q l=>.clo q (kG g l)
 |.f T v=>.f T v
 |.fel T xs j h off=>.fel T xs j h off
 |.pel a b c d=>.pel (g a) b c d
 |.ptr a b=>.ptr (g a) b
 |.csl a b c=>.csl (g a) b c
 |.emp=>.emp
 |.nil=>.nil
 |.mp i=>.mp (g i)
 |.undef=>.undef
 |.np=>.np
 |.anyb=>.anyb
def kG (g:Nat->Nat):List TV->List TV
 |[]=>[]
 |x::r=>C2 g x::kG g r
end
theorem At (g:Nat->Nat):∀l,kG g l=l.map (C2 g)
 |[]=>rfl
 |x::r=>by rw[kG,At g r];rfl
def l_ (g:Nat->Nat):iw->iw
 |.cells ty l=>.cells ty (kG g l)
 |.rows ty p T xs=>.rows ty p T xs
 |.dead p sz n=>.dead p sz n
 |.mp K V es=>.mp K V es
theorem IR (g:Nat->Nat) (b:iw):mR (l_ g b)=mR b:=by cases b<;>rfl
def Iq (g:Nat->Nat) (n:Nat):Nat:=nm (g (ow n))
theorem x_ (g:Nat->Nat) (i:Nat):Iq g (nm i)=nm (g i):=by unfold Iq;rw[ec]
mutual
theorem ak7 {g:Nat->Nat} {h1 h2:bi} (hrow:∀i r,eH h1 i=af r->eH h2 (g i)=af r):∀(v:TV) (y:AV),cz h1 v=af y->cz h2 (C2 g v)=af (y.ren (Iq g))
 |.f _ _,y,he=>by simp only[cz,ak]at he;subst he;rfl
 |.fel _ _ _ _ _,y,he=>by simp only[cz,ak]at he;subst he;rfl
 |.pel _ _ _ _,y,he=>by simp only[cz,ak]at he;subst he;simp only[C2,cz,AV.ren,x_]
 |.ptr _ _,y,he=>by simp only[cz,ak]at he;subst he;simp only[C2,cz,AV.ren,x_]
 |.csl _ _ _,y,he=>by simp only[cz,ak]at he;subst he;simp only[C2,cz,AV.ren,x_]
 |.row id,y,he=>by
  simp only[cz]at he;split at he
  .rename_i p sz n hr;simp only[ak]at he;subst he;simp only[C2,cz,hrow id _ hr];unfold fG;split
   .rfl
   .simp only[AV.ren,x_]
  .cases he
 |.rtl id jj,y,he=>by
  simp only[cz]at he;split at he
  .rename_i p sz n hr;simp only[ak]at he;subst he;simp only[C2,cz,hrow id _ hr,AV.ren,x_]
  .cases he
 |.emp,y,he=>by simp only[cz,ak]at he;subst he;rfl
 |.nil,y,he=>by simp only[cz,ak]at he;subst he;rfl
 |.mp _,y,he=>by simp only[cz,ak]at he;subst he;simp only[C2,cz,AV.ren,x_]
 |.agg l,y,he=>by
  simp only[cz]at he;split at he
  .rename_i l' hl;simp only[ak]at he;subst he;simp only[C2,cz,qP hrow l l' hl,AV.ren]
  .cases he
 |.tup l,y,he=>by
  simp only[cz]at he;split at he
  .rename_i l' hl;simp only[ak]at he;subst he;simp only[C2,cz,qP hrow l l' hl,AV.ren]
  .cases he
 |.clo q l,y,he=>by
  simp only[cz]at he;split at he
  .rename_i l' hl;simp only[ak]at he;subst he;simp only[C2,cz,qP hrow l l' hl,AV.ren]
  .cases he
 |.undef,y,he=>by simp only[cz,ak]at he;subst he;rfl
 |.np,y,he=>by simp only[cz,ak]at he;subst he;rfl
 |.anyb,y,he=>by simp only[cz,ak]at he;subst he;rfl
theorem qP {g:Nat->Nat} {h1 h2:bi} (hrow:∀i r,eH h1 i=af r->eH h2 (g i)=af r):∀(l:List TV) (l':List AV),cU h1 l=af l'->cU h2 (kG g l)=af (AV.renL (Iq g) l')
 |[],l',he=>by simp only[cU,ak]at he;subst he;rfl
 |x::r,l',he=>by
  obtain⟨y,l2,rfl,e1,e2⟩:=c7 he;exact pi (ak7 hrow x y e1) (qP hrow r l2 e2)
end
theorem DB {g:Nat->Nat} {h1 h2:bi} (hrow:∀i r,eH h1 i=af r->eH h2 (g i)=af r) {b:iw} {y:xu} (he:kH h1 b=af y):kH h2 (l_ g b)=af (y.ren (Iq g)):=by
 cases b with
 |rows ty p T xs=>
  simp only[kH]at he;split at he
  .cases he
  .rename_i hc;simp only[ak]at he;subst he;simp only[l_,kH,ay hc];rfl
 |cells ty l=>
  simp only[kH]at he;split at he
  .rename_i I hl;simp only[ak]at he;subst he;simp only[l_,kH,qP hrow l I hl,oL];rfl
  .cases he
 |dead p sz n=>cases he
 |mp K V es=>
  simp only[kH,ak]at he;subst he;simp only[l_,kH,xu.ren,ak,xu.mk.injEq,BR];unfold mpC;split
  .rfl
  .simp only[BC.ren,Aq];rfl
theorem C1 (g:Nat->Nat) (a b:List TV):kG g (a++b)=kG g a++kG g b:=by
 rw[At,At,At,cC]
theorem qd (g:Nat->Nat):∀(n:Nat) (T:Ty) (v:T.den) (l:List TV),cellsOf n T v=af l->kG g l=l
 |0,_,_,_,he=>by simp[cellsOf]at he
 |n+1,.st t,v,l,he=>qd g n t v l he
 |n+1,.pr a b,v,l,he=>by
  simp only[cellsOf]at he;split at he
  .rename_i x y J I;simp only[ak]at he;subst he;rw[C1,qd g n a v.1 x J,qd g n b v.2 y I]
  .cases he
 |n+1,.un,v,l,he=>by simp only[cellsOf,ak]at he;subst he;rfl
 |n+1,.ex,v,l,he=>qd g n Nu (Oq v) l he
 |n+1,.sm,v,l,he=>qd g n M5 (Oo v) l he
 |n+1,.int k,v,l,he=>by simp only[cellsOf,ak]at he;subst he;rfl
 |n+1,.bool,v,l,he=>by simp only[cellsOf,ak]at he;subst he;rfl
 |n+1,.str,v,l,he=>by simp only[cellsOf,ak]at he;subst he;rfl
 |n+1,.sl t,v,l,he=>by simp only[cellsOf,ak]at he;subst he;rfl
abbrev Ik:Nat->Nat:=λi=>i
mutual
theorem abf (g:Nat->Nat):∀(p:PV) (x:p.ty.den),qi g p x=(qi Ik p x).map (kG g)
 |.d T,x=>by
  simp only[qi];cases h:cellsOf 40 T x with
  |none=>rfl
  |some l=>simp only[co,qd g 40 T x l h]
 |.ptr i o,x=>rfl
 |.csl i o z,x=>rfl
 |.clo q i o,x=>rfl
 |.row i,x=>rfl
 |.mp i,x=>rfl
 |.nil,x=>rfl
 |.emp,x=>rfl
 |.agg ps,x=>Au g ps x
theorem Au (g:Nat->Nat):∀(ps:List PV) (x:(PV.tyL ps).den),rk g ps x=(rk Ik ps x).map (kG g)
 |[],x=>rfl
 |p::r,x=>by
  simp only[rk];rw[abf g p,Au g r];cases qi Ik p (Pt p.ty (PV.tyL r) x) with
  |none=>rfl
  |some a=>
   cases rk Ik r (LP p.ty (PV.tyL r) x) with
   |none=>rfl
   |some b=>simp only[co,C1]
end
def akl (o:Option (List TV)):Option TV:=match o with|some l=>af (.agg l)|none=>ah
theorem adq (g:Nat->Nat) (o:Option (List TV)):akl (o.map (kG g))=(akl o).map (C2 g):=by cases o<;>rfl
theorem abd (g:Nat->Nat) (p:PV) (x:p.ty.den):tP g p x=(tP Ik p x).map (C2 g):=by
 cases p with
 |agg ps=>exact (gM akl (Au g ps x)).trans (adq g _)
 |_=>rfl
theorem ud (g:Nat->Nat):∀(ps:List PV) (x:(PV.tyL ps).den),qp g ps x=(qp Ik ps x).map (kG g)
 |[],x=>rfl
 |p::r,x=>by
  simp only[qp];rw[abd g p,ud g r];cases tP Ik p (Pt p.ty (PV.tyL r) x) with
  |none=>rfl
  |some a=>
   cases qp Ik r (LP p.ty (PV.tyL r) x) with
   |none=>rfl
   |some b=>rfl
def Wx (ty:TypeId) (o:Option (List TV)):Option (Option iw):=match o with|some l=>af (af (.cells ty l))|none=>ah
theorem Ww (g:Nat->Nat) (ty:TypeId) (o:Option (List TV)):Wx ty (o.map (kG g))=(Wx ty o).map (l8 (l_ g)):=by cases o<;>rfl
theorem abg (g:Nat->Nat) (b:PB) (x:b.ty.den):C6 g b x=(C6 Ik b x).map (l8 (l_ g)):=by
 cases b with
 |cells ty ps=>exact (gM (Wx ty) (Au g ps x)).trans (Ww g ty _)
 |_=>rfl
theorem wF (g:Nat->Nat):∀(bs:List PB) (x:(PB.tyL bs).den),oM g bs x=(oM Ik bs x).map (List.map (l8 (l_ g)))
 |[],x=>rfl
 |b::r,x=>by
  simp only[oM];rw[abg g b,wF g r];cases C6 Ik b (Pt b.ty (PB.tyL r) x) with
  |none=>rfl
  |some a=>
   cases oM Ik r (LP b.ty (PB.tyL r) x) with
   |none=>rfl
   |some l=>rfl
theorem C5 (g:Nat->Nat):∀(bs:List PB) (x:(PB.tyL bs).den) (l:List (Option iw)),oM g bs x=af l->l.length=bs.length
 |[],x,l,h=>by simp only[oM,ak]at h;subst h;rfl
 |b::r,x,l,h=>by
  simp only[oM]at h;split at h
  .split at h
   .rename_i q hq;simp only[ak]at h;subst h;simp[C5 g r _ q hq]
   .cases h
  .cases h
theorem JR (h:bi) (i j:Nat):(kill h i).get j=if j=i then (h.get i).map vG else h.get j:=by
 unfold kill;cases hb:h.get i with
 |none=>
  simp only[Option.map_none];split
  .rename_i e;rw[e,hb]
  .rfl
 |some b=>rw[PT.get_set];rfl
theorem vE (g:Nat->Nat):∀(l:List (Option iw)) (i:Nat) (h:bi) (j:Nat),(∀k,k<l.length->j≠g (i+k))->(AW g i l h).get j=h.get j
 |[],i,h,j,_=>rfl
 |some c::r,i,h,j,hj=>by
  rw[AW,vE g r (i+1) _ j (λk hk=>by have:=hj (k+1) (by simpa using hk);rwa [show i+1+k=i+(k+1) from by omega]),PT.get_set,ay];exact hj 0 (by simp)
 |none::r,i,h,j,hj=>by
  rw[AW,vE g r (i+1) _ j (λk hk=>by have:=hj (k+1) (by simpa using hk);rwa [show i+1+k=i+(k+1) from by omega]),JR,ay];exact hj 0 (by simp)
theorem vF (g:Nat->Nat):∀(l:List (Option iw)) (i:Nat) (h:bi),(∀a b,a<l.length->b<l.length->g (i+a)=g (i+b)->a=b)->∀(k:Nat) (c:Option iw),l[k]? =af c->(AW g i l h).get (g (i+k))=(match c with|some b=>af b|none=>(h.get (g (i+k))).map vG)
 |[],i,h,_,k,c,hk=>by simp at hk
 |o::r,i,h,hinj,k,c,hk=>by
  have hinj':∀a b,a<r.length->b<r.length->g (i+1+a)=g (i+1+b)->a=b:=λa b J hb e=>by
   have:=hinj (a+1) (b+1) (by simpa using J) (by simpa using hb) (by rw[show i+(a+1)=i+1+a from by omega,show i+(b+1)=i+1+b from by omega];exact e);omega
  cases k with
  |zero=>
   simp at hk;subst hk;have hne:∀k,k<r.length->g (i+0)≠g (i+1+k):=λk hk e=>by
    have:=hinj 0 (k+1) (by simp) (by simpa using hk) (by rw[show i+(k+1)=i+1+k from by omega];exact e);omega
   cases o with
   |some b=>rw[AW,vE g r (i+1) _ _ hne];simp only[dx];rw[PT.get_set,aD rfl]
   |none=>rw[AW,vE g r (i+1) _ _ hne];simp only[dx];rw[JR,aD rfl]
  |succ k=>
   have I:r[k]? =af c:=by simpa using hk
   have hkl:k<r.length:=(bl.1 I).1;have hne:g (i+(k+1))≠g i:=λe=>by
    have:=hinj (k+1) 0 (by simpa using hkl) (by simp) (by rw[e];rfl);omega
   rw[show i+(k+1)=i+1+k from by omega]at hne ⊢;cases o with
   |some b=>
    rw[AW,vF g r (i+1) _ hinj' k c I];cases c with
    |some _=>rfl
    |none=>simp only[PT.get_set,ay hne]
   |none=>
    rw[AW,vF g r (i+1) _ hinj' k c I];cases c with
    |some _=>rfl
    |none=>simp only[JR,ay hne]
def yq (h' h:bi):Prop:=∀i r,eH h' i=af r->eH h i=af r
section get
variable {h h':bi} {H H':HF} {g:Nat->Nat}
theorem lY.agg {l I:List AV} (hl:ij H H' l I) (hc:∀x∈I,x.isCell=ai):lY H H' (.agg l) (.agg I):=by
 intro φ E w v hrep hr;cases hr with
 |@agg _ vs hlen hcl hrr=>
  refine .agg (by rw[hlen,<-hl.length]) hc λj y u J hu=>?_
  obtain⟨x,M,hle⟩:=hl.get j y J;exact hle φ E w u hrep (hrr j x u M hu)
theorem Q_ (hr:yq h' h) {i:Nat} {y M:AV} (J:cz h (.row i)=af y) (I:cz h' (.row i)=af M):M=y:=by
 simp only[cz]at J I;cases h1:eH h' i with
 |none=>rw[h1]at I;cases I
 |some r=>
  rw[h1]at I;rw[hr i r h1]at J;rw[J]at I;cases I;rfl
mutual
theorem ag8 (d:vU H H') (hr:yq h' h):∀(p:PV) (l:List TV) (x:p.ty.den) (m:Nat) (r:List TV) (cs:List TV) (l' cs':List AV),pK g h p l=af (x,m,r)->qi g p x=af cs->cU h l=af l'->cU h' cs=af cs'->Ey h H H' m->∃l1 l2,l'=l1++l2/\cU h r=af l2/\ij H H' l1 cs'
 |.d T,l,x,m,r,cs,l',cs',hg,hp,hl,hc,gv=>by
  obtain⟨l1,l2,e1,e2,e3⟩:=sA d 40 T l x m r l' hg hl gv;have:=(lV h' 40 T x cs hp).1;rw[hc]at this;cases this;exact⟨l1,l2,e1,e2,e3⟩
 |.ptr i q,l,x,m,r,cs,l',cs',hg,hp,hl,hc,gv=>by
  simp only[pK]at hg;split at hg
  .rename_i i' o' r';split at hg
   .rename_i hb;simp only[av]at hb;have e1:=aw hb.1;have e2:=aw hb.2;subst e1;subst e2;simp only[ak,aE]at hg;obtain⟨_,_,rfl⟩:=hg;simp only[qi,ak]at hp;subst hp;obtain⟨y,l2,rfl,g1,g2⟩:=c7 hl;simp only[cz,ak]at g1;subst g1;simp only[cU,cz,ak]at hc;subst hc;exact⟨[_],l2,rfl,g2,lY.refl d _,trivial⟩
   .cases hg
  .cases hg
 |.csl i q z,l,x,m,r,cs,l',cs',hg,hp,hl,hc,gv=>by
  simp only[pK]at hg;split at hg
  .rename_i i' o' z' r';split at hg
   .rename_i hb;simp only[av]at hb;have e1:=aw hb.1.1;have e2:=aw hb.1.2;have e3:=aw hb.2;subst e1;subst e2;subst e3;simp only[ak,aE]at hg;obtain⟨_,_,rfl⟩:=hg;simp only[qi,ak]at hp;subst hp;obtain⟨y,l2,rfl,g1,g2⟩:=c7 hl;simp only[cz,ak]at g1;subst g1;simp only[cU,cz,ak]at hc;subst hc;exact⟨[_],l2,rfl,g2,lY.refl d _,trivial⟩
   .cases hg
  .cases hg
 |.clo q i z,l,x,m,r,cs,l',cs',hg,hp,hl,hc,gv=>by
  simp only[pK]at hg;split at hg
  .rename_i q' i' z' r';split at hg
   .rename_i hb;simp only[av]at hb;have e1:=aw hb.1.1;have e2:=aw hb.1.2;have e3:=aw hb.2;subst e1;subst e2;subst e3;simp only[ak,aE]at hg;obtain⟨_,_,rfl⟩:=hg;simp only[qi,ak]at hp;subst hp;obtain⟨y,l2,rfl,g1,g2⟩:=c7 hl;simp only[cz,cU,ak]at g1;subst g1;simp only[cU,cz,ak]at hc;subst hc;exact⟨[_],l2,rfl,g2,lY.refl d _,trivial⟩
   .cases hg
  .cases hg
 |.row i,l,x,m,r,cs,l',cs',hg,hp,hl,hc,gv=>by
  simp only[pK]at hg;split at hg
  .rename_i i' r';split at hg
   .rename_i hb;have e1:=aw hb;subst e1;simp only[ak,aE]at hg;obtain⟨_,_,rfl⟩:=hg;simp only[qi,ak]at hp;subst hp;obtain⟨y,l2,rfl,g1,g2⟩:=c7 hl;obtain⟨y',l3,rfl,g3,g4⟩:=c7 hc;simp only[cU,ak]at g4;subst g4;rw[Q_ hr g1 g3];exact⟨[_],l2,rfl,g2,lY.refl d _,trivial⟩
   .cases hg
  .cases hg
 |.mp i,l,x,m,r,cs,l',cs',hg,hp,hl,hc,gv=>by
  simp only[pK]at hg;split at hg
  .rename_i i' r';split at hg
   .rename_i hb;have e1:=aw hb;subst e1;simp only[ak,aE]at hg;obtain⟨_,_,rfl⟩:=hg;simp only[qi,ak]at hp;subst hp;obtain⟨y,l2,rfl,g1,g2⟩:=c7 hl;simp only[cz,ak]at g1;subst g1;simp only[cU,cz,ak]at hc;subst hc;exact⟨[_],l2,rfl,g2,lY.refl d _,trivial⟩
   .cases hg
  .cases hg
 |.nil,l,x,m,r,cs,l',cs',hg,hp,hl,hc,gv=>by
  simp only[pK]at hg;split at hg
  .simp only[ak,aE]at hg;obtain⟨_,_,rfl⟩:=hg;simp only[qi,ak]at hp;subst hp;obtain⟨y,l2,rfl,g1,g2⟩:=c7 hl;simp only[cz,ak]at g1;subst g1;simp only[cU,cz,ak]at hc;subst hc;exact⟨[_],l2,rfl,g2,lY.refl d _,trivial⟩
  .cases hg
 |.emp,l,x,m,r,cs,l',cs',hg,hp,hl,hc,gv=>by
  simp only[pK]at hg;split at hg
  .simp only[ak,aE]at hg;obtain⟨_,_,rfl⟩:=hg;simp only[qi,ak]at hp;subst hp;obtain⟨y,l2,rfl,g1,g2⟩:=c7 hl;simp only[cz,ak]at g1;subst g1;simp only[cU,cz,ak]at hc;subst hc;exact⟨[_],l2,rfl,g2,Le.nilEmp.toH d,trivial⟩
  .simp only[ak,aE]at hg;obtain⟨_,_,rfl⟩:=hg;simp only[qi,ak]at hp;subst hp;obtain⟨y,l2,rfl,g1,g2⟩:=c7 hl;simp only[cz,ak]at g1;subst g1;simp only[cU,cz,ak]at hc;subst hc;exact⟨[_],l2,rfl,g2,lY.refl d _,trivial⟩
  .cases hg
 |.agg ps,l,x,m,r,cs,l',cs',hg,hp,hl,hc,gv=>Dy d hr ps l x m r cs l' cs' hg hp hl hc gv
theorem Dy (d:vU H H') (hr:yq h' h):∀(ps:List PV) (l:List TV) (x:(PV.tyL ps).den) (m:Nat) (r:List TV) (cs:List TV) (l' cs':List AV),zL g h ps l=af (x,m,r)->rk g ps x=af cs->cU h l=af l'->cU h' cs=af cs'->Ey h H H' m->∃l1 l2,l'=l1++l2/\cU h r=af l2/\ij H H' l1 cs'
 |[],l,x,m,r,cs,l',cs',hg,hp,hl,hc,gv=>by
  simp only[zL,ak,aE]at hg;obtain⟨_,_,rfl⟩:=hg;simp only[rk,ak]at hp;subst hp;simp only[cU,ak]at hc;subst hc;exact⟨[],l',rfl,hl,trivial⟩
 |p::ps,l,x,m,r,cs,l',cs',hg,hp,hl,hc,gv=>by
  simp only[zL]at hg;split at hg
  .rename_i x1 m1 r1 h1;split at hg
   .rename_i x2 m2 r2 h2;simp only[ak,aE]at hg;obtain⟨rfl,rfl,rfl⟩:=hg;simp only[rk,t7,vB]at hp;split at hp
    .rename_i a ha;split at hp
     .rename_i b hb;simp only[ak]at hp;subst hp;obtain⟨a',b',rfl,ea,eb⟩:=Co hc;obtain⟨ga,gb⟩:=gv.or;obtain⟨l1,l2,rfl,q1,q2⟩:=ag8 d hr p l _ _ _ a l' a' h1 ha hl ea ga;obtain⟨l3,l4,rfl,q3,q4⟩:=Dy d hr ps _ _ _ _ b l2 b' h2 hb q1 eb gb;exact⟨l1++l3,l4,by simp,q3,q2.append q4⟩
     .cases hp
    .cases hp
   .cases hg
  .cases hg
end
mutual
theorem YF:∀(p:PV) (x:p.ty.den) (cs:List TV),qi g p x=af cs->kD cs=ai
 |.d T,x,cs,hp=>(lV PT.leaf 40 T x cs hp).2
 |.ptr i q,x,cs,hp=>by simp only[qi,ak]at hp;subst hp;rfl
 |.csl i q z,x,cs,hp=>by simp only[qi,ak]at hp;subst hp;rfl
 |.clo q i z,x,cs,hp=>by simp only[qi,ak]at hp;subst hp;rfl
 |.row i,x,cs,hp=>by simp only[qi,ak]at hp;subst hp;rfl
 |.mp i,x,cs,hp=>by simp only[qi,ak]at hp;subst hp;rfl
 |.nil,x,cs,hp=>by simp only[qi,ak]at hp;subst hp;rfl
 |.emp,x,cs,hp=>by simp only[qi,ak]at hp;subst hp;rfl
 |.agg ps,x,cs,hp=>xI ps x cs hp
theorem xI:∀(ps:List PV) (x:(PV.tyL ps).den) (cs:List TV),rk g ps x=af cs->kD cs=ai
 |[],x,cs,hp=>by simp only[rk,ak]at hp;subst hp;rfl
 |p::ps,x,cs,hp=>by
  simp only[rk]at hp;split at hp
  .rename_i a ha;split at hp
   .rename_i b hb;simp only[ak]at hp;subst hp;exact TQ (YF p _ a ha) (xI ps _ b hb)
   .cases hp
  .cases hp
end
theorem ag7 (d:vU H H') (hr:yq h' h) {p:PV} {v:TV} {x:p.ty.den} {m:Nat} {u:TV} {y M:AV} (hg:xY g h p v=af (x,m)) (hp:tP g p x=af u) (J:cz h v=af y) (I:cz h' u=af M) (Z:Ey h H H' m):lY H H' y M:=by
 cases p with
 |d T=>
  simp only[tP,ak]at hp;subst hp;simp only[cz,ak]at I;subst I;exact (Ql d hg J Z).1
 |agg ps=>
  simp only[xY]at hg;split at hg
  .cases hg
  .rename_i hc;split at hg
   .rename_i l hl;split at hg
    .rename_i x1 m1 h1;simp only[ak,aE]at hg;obtain⟨rfl,rfl⟩:=hg;simp only[tP]at hp;split at hp
     .rename_i cs hcs;simp only[ak]at hp;subst hp;simp only[cz]at I;split at I
      .rename_i cs' hcs';simp only[ak]at I;subst I;obtain⟨e1,e2⟩:=KN hl J;obtain⟨l1,l2,Y,U,q3⟩:=Dy d hr ps l _ _ [] cs y.cs cs' h1 hcs e1 hcs' Z;simp only[cU,ak]at U;subst U;rw[iZ]at Y;subst Y;have hcell:∀x∈cs',x.isCell=ai:=lX (su hcs' (xI ps _ cs hcs));cases v with
       |agg q=>
        simp only[cz]at J;split at J
        .simp only[ak]at J;subst J;exact lY.agg q3 hcell
        .cases J
       |f S z=>
        simp only[cz,ak]at J;subst J;have ho:S.one=aj:=by simpa[TV.isC] using hc
        rw[AF]at q3;rw[qQ S z ho];intro φ E w v hrep hrel;exact lY.agg q3 hcell φ E w v hrep (Le.aggF _ _ _ _ hrel)
       |tup q=>simp[TV.cs,TV.isC]at hl
       |undef=>simp[TV.cs,TV.isC]at hl
       |np=>simp[TV.isC]at hc
       |anyb=>simp[TV.cs,TV.isC]at hl
       |fel T xs j hj off=>simp[TV.isC]at hc
       |pel id sz j off=>simp[TV.isC]at hc
       |ptr id off=>simp[TV.isC]at hc
       |csl id off z=>simp[TV.isC]at hc
       |row id=>simp[TV.isC]at hc
       |emp=>simp[TV.isC]at hc
       |nil=>simp[TV.isC]at hc
       |mp id=>simp[TV.isC]at hc
       |rtl id jj=>cases hl
       |clo g l=>simp[TV.isC]at hc
      .cases I
     .cases hp
    .cases hg
   .cases hg
 |ptr i q=>
  simp only[tP,ak]at hp;subst hp;simp only[xY]at hg;split at hg
  .rename_i h1;simp only[pK]at h1;split at h1
   .rename_i e;simp only[iY]at e;obtain⟨rfl,_⟩:=e;split at h1
    .rename_i hb;simp only[av]at hb;have e1:=aw hb.1;have e2:=aw hb.2;subst e1;subst e2;simp only[cz,ak]at J I;subst J;subst I;exact lY.refl d _
    .cases h1
   .cases h1
  .cases hg
 |csl i q z=>
  simp only[tP,ak]at hp;subst hp;simp only[xY]at hg;split at hg
  .rename_i h1;simp only[pK]at h1;split at h1
   .rename_i e;simp only[iY]at e;obtain⟨rfl,_⟩:=e;split at h1
    .rename_i hb;simp only[av]at hb;have e1:=aw hb.1.1;have e2:=aw hb.1.2;have e3:=aw hb.2;subst e1;subst e2;subst e3;simp only[cz,ak]at J I;subst J;subst I;exact lY.refl d _
    .cases h1
   .cases h1
  .cases hg
 |clo q i z=>
  simp only[tP,ak]at hp;subst hp;simp only[xY]at hg;split at hg
  .rename_i h1;simp only[pK]at h1;split at h1
   .rename_i e;simp only[iY]at e;obtain⟨rfl,_⟩:=e;split at h1
    .rename_i hb;simp only[av]at hb;have e1:=aw hb.1.1;have e2:=aw hb.1.2;have e3:=aw hb.2;subst e1;subst e2;subst e3;simp only[cz,cU,ak]at J I;subst J;subst I;exact lY.refl d _
    .cases h1
   .cases h1
  .cases hg
 |row i=>
  simp only[tP,ak]at hp;subst hp;simp only[xY]at hg;split at hg
  .rename_i h1;simp only[pK]at h1;split at h1
   .rename_i e;simp only[iY]at e;obtain⟨rfl,_⟩:=e;split at h1
    .rename_i hb;have e1:=aw hb;subst e1;rw[Q_ hr J I];exact lY.refl d _
    .cases h1
   .cases h1
  .cases hg
 |mp i=>
  simp only[tP,ak]at hp;subst hp;simp only[xY]at hg;split at hg
  .rename_i h1;simp only[pK]at h1;split at h1
   .rename_i e;simp only[iY]at e;obtain⟨rfl,_⟩:=e;split at h1
    .rename_i hb;have e1:=aw hb;subst e1;simp only[cz,ak]at J I;subst J;subst I;exact lY.refl d _
    .cases h1
   .cases h1
  .cases hg
 |nil=>
  simp only[tP,ak]at hp;subst hp;simp only[xY]at hg;split at hg
  .rename_i h1;simp only[pK]at h1;split at h1
   .rename_i e;simp only[iY]at e;obtain⟨rfl,_⟩:=e;simp only[cz,ak]at J I;subst J;subst I;exact lY.refl d _
   .cases h1
  .cases hg
 |emp=>
  simp only[tP,ak]at hp;subst hp;simp only[xY]at hg;split at hg
  .rename_i h1;simp only[pK]at h1;split at h1
   .rename_i e;simp only[iY]at e;obtain⟨rfl,_⟩:=e;simp only[cz,ak]at J I;subst J;subst I;exact Le.nilEmp.toH d
   .rename_i e;simp only[iY]at e;obtain⟨rfl,_⟩:=e;simp only[cz,ak]at J I;subst J;subst I;exact lY.refl d _
   .cases h1
  .cases hg
theorem Dw (d:vU H H') (hr:yq h' h):∀(ps:List PV) (vs:List TV) (x:(PV.tyL ps).den) (m:Nat) (us:List TV) (l J:List AV),yG g h ps vs=af (x,m)->qp g ps x=af us->cU h vs=af l->cU h' us=af J->Ey h H H' m->ij H H' l J
 |[],[],x,m,us,l,J,hg,hp,hl,I,M=>by
  simp only[qp,ak]at hp;subst hp;simp only[cU,ak]at hl I;subst hl;subst I;trivial
 |[],_::_,x,m,us,l,J,hg,_,_,_,_=>by simp[yG]at hg
 |_::_,[],x,m,us,l,J,hg,_,_,_,_=>by simp[yG]at hg
 |p::ps,v::vs,x,m,us,l,J,hg,hp,hl,I,M=>by
  simp only[yG]at hg;split at hg
  .rename_i x1 m1 h1;split at hg
   .rename_i x2 m2 h2;simp only[ak,aE]at hg;obtain⟨rfl,rfl⟩:=hg;simp only[qp,t7,vB]at hp;split at hp
    .rename_i a Y;split at hp
     .rename_i b hb;simp only[ak]at hp;subst hp;obtain⟨y,l2,rfl,e1,e2⟩:=c7 hl;obtain⟨y',U,rfl,e3,e4⟩:=c7 I;obtain⟨ga,Z⟩:=M.or;exact⟨ag7 d hr h1 Y e1 e3 ga,Dw d hr ps vs _ _ b l2 U h2 hb e2 e4 Z⟩
     .cases hp
    .cases hp
   .cases hg
  .cases hg
inductive BM (g:Nat->Nat) (h:bi) (m:Nat):iw->iw->Prop
 |rows (ty:TypeId) (p:Bool) (T:Ty) (xs:List T.den):BM g h m (.rows ty p T xs) (.rows ty p T xs)
 |mp (K V:Ty) (es:List (K.den×V.den)):BM g h m (.mp K V es) (.mp K V es)
 |cells (ty:TypeId) (ps:List PV) (x:(PV.tyL ps).den) (l l2:List TV) (m':Nat) (hg:zL g h ps l=af (x,m',[])) (hp:rk g ps x=af l2) (hm:∀i,aN m' i=ai->aN m i=ai):BM g h m (.cells ty l) (.cells ty l2)
theorem BM.mono {m m2:Nat} (hm:∀i,aN m i=ai->aN m2 i=ai) {b c:iw} (h1:BM g h m b c):BM g h m2 b c:=by
 cases h1 with
 |rows ty p T xs=>exact .rows ty p T xs
 |mp K V es=>exact .mp K V es
 |cells ty ps x l l2 m' hg hp I=>exact .cells ty ps x l l2 m' hg hp λi hi=>hm i (I i hi)
theorem ag9 {i:Nat} {b:PB} {x:b.ty.den} {m:Nat} {c:iw} (hg:Fm g h i b=af (x,m)) (hp:C6 g b x=af (af c)):∃b0,h.get (g i)=af b0/\BM g h m b0 c:=by
 cases b with
 |rows ty p T=>
  simp only[Fm]at hg;split at hg
  .rename_i ty' M S xs hb;split at hg
   .rename_i hc;simp only[av,c5]at hc;obtain⟨rfl,rfl⟩:=hc;split at hg
    .rename_i z I;simp only[ak,aE]at hg;obtain⟨rfl,rfl⟩:=hg;obtain⟨e,rfl⟩:=jr I;cases e;simp only[C6,ak]at hp;subst hp;exact⟨_,hb,.rows _ _ _ _⟩
    .cases hg
   .cases hg
  .cases hg
 |rowsP ty T=>
  simp only[Fm]at hg;split at hg
  .rename_i ty' M S xs hb;split at hg
   .rename_i hc;have hc:ty=ty':=by simpa using hc
    subst hc;split at hg
    .rename_i z I;simp only[ak,aE]at hg;obtain⟨rfl,rfl⟩:=hg;obtain⟨e,rfl⟩:=jr I;cases e;simp only[C6,ak]at hp;subst hp;exact⟨_,hb,.rows _ _ _ _⟩
    .cases hg
   .cases hg
  .cases hg
 |cells ty ps=>
  simp only[Fm]at hg;split at hg
  .rename_i ty' l hb;split at hg
   .rename_i hc;have hc:ty=ty':=by simpa using hc
    subst hc;split at hg
    .rename_i z m1 I;simp only[ak,aE]at hg;obtain⟨rfl,rfl⟩:=hg;simp only[C6]at hp;split at hp
     .rename_i l2 J;simp only[ak]at hp;subst hp;exact⟨_,hb,.cells ty ps _ l l2 _ I J λ_ h=>h⟩
     .cases hp
    .cases hg
   .cases hg
  .cases hg
 |mp K V=>
  simp only[Fm]at hg;split at hg
  .rename_i K' V' es hb;split at hg
   .rename_i z I;simp only[ak,aE]at hg;obtain⟨rfl,rfl⟩:=hg;obtain⟨e,rfl⟩:=jr I;cases e;simp only[C6,ak]at hp;subst hp;exact⟨_,hb,.mp _ _ _⟩
   .cases hg
  .cases hg
 |gone=>simp[C6]at hp
theorem JS:∀(bs:List PB) (i:Nat) (x:(PB.tyL bs).den) (m:Nat) (I:List (Option iw)),Bk g h i bs=af (x,m)->oM g bs x=af I->∀(k:Nat) c,I[k]? =af (af c)->∃b0,h.get (g (i+k))=af b0/\BM g h m b0 c
 |[],i,x,m,I,hg,hp,k,c,hk=>by
  simp only[oM,ak]at hp;subst hp;simp at hk
 |b::r,i,x,m,I,hg,hp,k,c,hk=>by
  simp only[Bk]at hg;split at hg
  .rename_i U m1 h1;split at hg
   .rename_i M m2 h2;simp only[ak,aE]at hg;obtain⟨rfl,rfl⟩:=hg;simp only[oM,t7,vB]at hp;split at hp
    .rename_i a J;split at hp
     .rename_i q hq;simp only[ak]at hp;subst hp;cases k with
      |zero=>
       simp at hk;subst hk;obtain⟨b0,e1,e2⟩:=ag9 h1 J;exact⟨b0,e1,e2.mono λi hi=>by rw[bu,hi];rfl⟩
      |succ k=>
       obtain⟨b0,e1,e2⟩:=JS r (i+1) _ _ q h2 hq k c (by simpa using hk);rw[show i+1+k=i+(k+1) from by omega]at e1;exact⟨b0,e1,e2.mono λi hi=>by rw[bu,hi];simp⟩
     .cases hp
    .cases hp
   .cases hg
  .cases hg
end get
theorem R7 {σ:PT Nat} {i a:Nat} (h:σ.get i=af a):ii σ i=a:=by unfold ii;rw[h]
theorem Xf {σ:PT Nat}:∀(n i acc sm:Nat),ab5 σ n i acc=af sm->
 (∀k,k<n->aN acc (ii σ (i+k))=aj)/\(∀a b,a<n->b<n->ii σ (i+a)=ii σ (i+b)->a=b)/\∀q,aN sm q=ai↔aN acc q=ai\/∃k,k<n/\ii σ (i+k)=q
 |0,i,acc,sm,h=>by
  simp only[ab5,ak]at h;subst h;exact⟨λk hk=>by omega,λa b J=>by omega,λq=>⟨.inl,λhq=>hq.elim id λ⟨k,hk,_⟩=>by omega⟩⟩
 |n+1,i,acc,sm,h=>by
  simp only[ab5]at h;split at h
  .rename_i a J;split at h
   .cases h
   .rename_i hna;have hna:aN acc a=aj:=by simpa using hna
    have hga:=R7 J;obtain⟨h1,h2,M⟩:=Xf n (i+1) (acc|||kT a) sm h;have hne:∀k,k<n->ii σ (i+1+k)≠a/\aN acc (ii σ (i+1+k))=aj:=λk hk=>by
     have:=h1 k hk;rw[bu,Bool.or_eq_false_iff]at this;refine ⟨λe=>?_,this.1⟩;have I:=this.2;rw[e]at I;rw[b9.2 rfl]at I;cases I
    refine ⟨λk hk=>?_,λx y Y U hxy=>?_,λq=>?_⟩
    .cases k with
     |zero=>rw[dx,hga];exact hna
     |succ k=>rw[show i+(k+1)=i+1+k from by omega];exact (hne k (by omega)).2
    .cases x with
     |zero=>
      cases y with
      |zero=>rfl
      |succ y=>
       rw[dx,hga,show i+(y+1)=i+1+y from by omega]at hxy;exact cY hxy.symm (hne y (by omega)).1
     |succ x=>
      cases y with
      |zero=>
       rw[show i+0=i from rfl,hga,show i+(x+1)=i+1+x from by omega]at hxy;exact cY hxy (hne x (by omega)).1
      |succ y=>
       rw[show i+(x+1)=i+1+x from by omega,show i+(y+1)=i+1+y from by omega]at hxy;have:=h2 x y (by omega) (by omega) hxy;omega
    .rw[M,bu,i_];constructor
     .rintro ((hq|hq)|⟨k,hk,hq⟩)
      .exact .inl hq
      .exact .inr ⟨0,by omega,by rw[dx,hga];exact b9.1 hq⟩
      .exact .inr ⟨k+1,by omega,by rw[show i+(k+1)=i+1+k from by omega];exact hq⟩
     .rintro (hq|⟨k,hk,hq⟩)
      .exact .inl (.inl hq)
      .cases k with
       |zero=>rw[dx,hga]at hq;exact .inl (.inr (b9.2 hq))
       |succ k=>exact .inr ⟨k,by omega,by rw[show i+1+k=i+(k+1) from by omega];exact hq⟩
  .cases h
theorem Sd {σ:PT Nat}:∀(n:Nat),XV σ n=ai->∀i,i<n->ii σ i=i
 |0,_,i,hi=>by omega
 |n+1,h,i,hi=>by
  simp only[XV,av]at h;by_cases e:i=n
  .subst e;cases I:σ.get i with
   |none=>rw[I]at h;exact cY h.1 (by simp)
   |some a=>rw[I]at h;rw[R7 I];exact aw h.1
  .exact Sd n h.2 i (by omega)
structure Iy (np:Nat) (t:Tm) (vs:List TV) (h:bi) (z:t.ty.den) (m:Nat) (σ:PT Nat) (sm:Nat):Prop where
 ex:∃x m1 y m2,z=U2 _ _ x y/\m=m1|||m2/\yG (ii σ) h t.vs vs=af (x,m1)/\Bk (ii σ) h 0 t.bs=af (y,m2)
 inj:∀a b,a<t.bs.length->b<t.bs.length->ii σ a=ii σ b->a=b
 sig:∀q,aN sm q=ai↔∃k,k<t.bs.length/\ii σ k=q
 disj:∀i,aN m i=ai->aN sm i=aj
 fix:∀i,i<np->ii σ i=i
theorem wP {np:Nat} {t:Tm} {vs:List TV} {h:bi} {z:t.ty.den} {m:Nat} {σ:PT Nat} {sm:Nat} (hm:EW np t vs h=af ⟨z,m,σ,sm⟩):Iy np t vs h z m σ sm:=by
 unfold EW at hm;rw[Pu]at hm;split at hm
 .rename_i sm' hs;split at hm
  .rename_i x m1 h1;split at hm
   .rename_i y m2 h2;split at hm
    .rename_i hc;simp only[av]at hc;simp only[ak,aja.mk.injEq]at hm;obtain⟨rfl,rfl,rfl,rfl⟩:=hm;obtain⟨M,J,I⟩:=Xf _ _ _ _ hs;simp only[bQ]at M J I;exact⟨⟨x,m1,y,m2,rfl,rfl,h1,h2⟩,J,λq=>by rw[I];simp,λi hi=>yl hc.1 i hi,Sd np hc.2⟩
    .cases hm
   .cases hm
  .cases hm
 .cases hm
mutual
theorem zM {g:Nat->Nat} {h:bi}:∀(p:PV) (l:List TV) (x:p.ty.den) (m:Nat) (r:List TV),pK g h p l=af (x,m,r)->dU h m
 |.d T,l,x,m,r,hg=>vC 40 T l x m r hg
 |.ptr i q,l,x,m,r,hg=>by
  simp only[pK]at hg;split at hg
  .split at hg
   .simp only[ak,aE]at hg;obtain⟨_,rfl,_⟩:=hg;exact dU.zero h
   .cases hg
  .cases hg
 |.csl i q z,l,x,m,r,hg=>by
  simp only[pK]at hg;split at hg
  .split at hg
   .simp only[ak,aE]at hg;obtain⟨_,rfl,_⟩:=hg;exact dU.zero h
   .cases hg
  .cases hg
 |.clo q i z,l,x,m,r,hg=>by
  simp only[pK]at hg;split at hg
  .split at hg
   .simp only[ak,aE]at hg;obtain⟨_,rfl,_⟩:=hg;exact dU.zero h
   .cases hg
  .cases hg
 |.row i,l,x,m,r,hg=>by
  simp only[pK]at hg;split at hg
  .split at hg
   .simp only[ak,aE]at hg;obtain⟨_,rfl,_⟩:=hg;exact dU.zero h
   .cases hg
  .cases hg
 |.mp i,l,x,m,r,hg=>by
  simp only[pK]at hg;split at hg
  .split at hg
   .simp only[ak,aE]at hg;obtain⟨_,rfl,_⟩:=hg;exact dU.zero h
   .cases hg
  .cases hg
 |.nil,l,x,m,r,hg=>by
  simp only[pK]at hg;split at hg
  .simp only[ak,aE]at hg;obtain⟨_,rfl,_⟩:=hg;exact dU.zero h
  .cases hg
 |.emp,l,x,m,r,hg=>by
  simp only[pK]at hg;split at hg
  .simp only[ak,aE]at hg;obtain⟨_,rfl,_⟩:=hg;exact dU.zero h
  .simp only[ak,aE]at hg;obtain⟨_,rfl,_⟩:=hg;exact dU.zero h
  .cases hg
 |.agg ps,l,x,m,r,hg=>Io ps l x m r hg
theorem Io {g:Nat->Nat} {h:bi}:∀(ps:List PV) (l:List TV) (x:(PV.tyL ps).den) (m:Nat) (r:List TV),zL g h ps l=af (x,m,r)->dU h m
 |[],l,x,m,r,hg=>by
  simp only[zL,ak,aE]at hg;obtain⟨_,rfl,_⟩:=hg;exact dU.zero h
 |p::ps,l,x,m,r,hg=>by
  simp only[zL]at hg;split at hg
  .rename_i x1 m1 r1 h1;split at hg
   .rename_i x2 m2 r2 h2;simp only[ak,aE]at hg;obtain⟨_,rfl,_⟩:=hg;exact (zM p l x1 m1 r1 h1).or (Io ps r1 _ _ _ h2)
   .cases hg
  .cases hg
end
theorem ak4 {g:Nat->Nat} {h:bi} {p:PV} {v:TV} {x:p.ty.den} {m:Nat} (hg:xY g h p v=af (x,m)):dU h m:=by
 cases p with
 |d T=>exact Yh hg
 |agg ps=>
  simp only[xY]at hg;split at hg
  .cases hg
  .split at hg
   .split at hg
    .rename_i I m1 h1;simp only[ak,aE]at hg;obtain⟨_,rfl⟩:=hg;exact Io ps _ _ _ _ h1
    .cases hg
   .cases hg
 |ptr i q=>
  simp only[xY]at hg;split at hg
  .rename_i h1;simp only[ak,aE]at hg;obtain⟨_,rfl⟩:=hg;exact zM _ _ _ _ _ h1
  .cases hg
 |csl i q z=>
  simp only[xY]at hg;split at hg
  .rename_i h1;simp only[ak,aE]at hg;obtain⟨_,rfl⟩:=hg;exact zM _ _ _ _ _ h1
  .cases hg
 |clo q i z=>
  simp only[xY]at hg;split at hg
  .rename_i h1;simp only[ak,aE]at hg;obtain⟨_,rfl⟩:=hg;exact zM _ _ _ _ _ h1
  .cases hg
 |row i=>
  simp only[xY]at hg;split at hg
  .rename_i h1;simp only[ak,aE]at hg;obtain⟨_,rfl⟩:=hg;exact zM _ _ _ _ _ h1
  .cases hg
 |mp i=>
  simp only[xY]at hg;split at hg
  .rename_i h1;simp only[ak,aE]at hg;obtain⟨_,rfl⟩:=hg;exact zM _ _ _ _ _ h1
  .cases hg
 |nil=>
  simp only[xY]at hg;split at hg
  .rename_i h1;simp only[ak,aE]at hg;obtain⟨_,rfl⟩:=hg;exact zM _ _ _ _ _ h1
  .cases hg
 |emp=>
  simp only[xY]at hg;split at hg
  .rename_i h1;simp only[ak,aE]at hg;obtain⟨_,rfl⟩:=hg;exact zM _ _ _ _ _ h1
  .cases hg
theorem In {g:Nat->Nat} {h:bi}:∀(ps:List PV) (vs:List TV) (x:(PV.tyL ps).den) (m:Nat),yG g h ps vs=af (x,m)->dU h m
 |[],[],x,m,hg=>by simp only[yG,ak,aE]at hg;obtain⟨_,rfl⟩:=hg;exact dU.zero h
 |[],_::_,x,m,hg=>by simp[yG]at hg
 |_::_,[],x,m,hg=>by simp[yG]at hg
 |p::ps,v::vs,x,m,hg=>by
  simp only[yG]at hg;split at hg
  .rename_i J m1 h1;split at hg
   .rename_i I m2 h2;simp only[ak,aE]at hg;obtain⟨_,rfl⟩:=hg;exact (ak4 h1).or (In ps vs I m2 h2)
   .cases hg
  .cases hg
theorem ak5 {g:Nat->Nat} {h:bi} {i:Nat} {b:PB} {x:b.ty.den} {m:Nat} (hg:Fm g h i b=af (x,m)):dU h m:=by
 cases b with
 |rows ty p T=>
  simp only[Fm]at hg;split at hg
  .split at hg
   .split at hg
    .simp only[ak,aE]at hg;obtain⟨_,rfl⟩:=hg;exact dU.zero h
    .cases hg
   .cases hg
  .cases hg
 |rowsP ty T=>
  simp only[Fm]at hg;split at hg
  .split at hg
   .split at hg
    .simp only[ak,aE]at hg;obtain⟨_,rfl⟩:=hg;exact dU.zero h
    .cases hg
   .cases hg
  .cases hg
 |cells ty ps=>
  simp only[Fm]at hg;split at hg
  .split at hg
   .split at hg
    .rename_i h1;simp only[ak,aE]at hg;obtain⟨_,rfl⟩:=hg;exact Io ps _ _ _ _ h1
    .cases hg
   .cases hg
  .cases hg
 |mp K V=>
  simp only[Fm]at hg;split at hg
  .split at hg
   .simp only[ak,aE]at hg;obtain⟨_,rfl⟩:=hg;exact dU.zero h
   .cases hg
  .cases hg
 |gone=>simp only[Fm,ak,aE]at hg;obtain⟨_,rfl⟩:=hg;exact dU.zero h
theorem Ip {g:Nat->Nat} {h:bi}:∀(bs:List PB) (i:Nat) (x:(PB.tyL bs).den) (m:Nat),Bk g h i bs=af (x,m)->dU h m
 |[],i,x,m,hg=>by simp only[Bk,ak,aE]at hg;obtain⟨_,rfl⟩:=hg;exact dU.zero h
 |b::r,i,x,m,hg=>by
  simp only[Bk]at hg;split at hg
  .rename_i J m1 h1;split at hg
   .rename_i I m2 h2;simp only[ak,aE]at hg;obtain⟨_,rfl⟩:=hg;exact (ak5 h1).or (Ip r (i+1) I m2 h2)
   .cases hg
  .cases hg
structure qX (t:Tm) (x:t.ty.den) (vs:List TV) (h1:bi) (l1:List (Option iw)):Prop where
 pv:qp Ik t.vs (Pt _ _ x)=af vs
 pb:oM Ik t.bs (LP _ _ x)=af l1
 len:l1.length=t.bs.length
 at_:∀i b,h1.get i=af b↔l1[i]? =af (af b)
 ok:kV h1 vs=ai
 lt:rO t.bs.length vs=ai
 cells:∀i ty l,h1.get i=af (.cells ty l)->kV h1 l=ai/\rO t.bs.length l=ai
theorem ac0 (l:List (Option iw)) (i:Nat) (b:iw):(AW Ik 0 l PT.leaf).get i=af b↔l[i]? =af (af b):=by
 by_cases hi:i<l.length
 .obtain⟨c,hc⟩:∃c,l[i]? =af c:=⟨l[i],aB hi⟩
  have:=vF Ik l 0 PT.leaf (λa b _ _ e=>by simp only[Ik]at e;omega) i c hc;rw[show Ik (0+i)=i from by simp only[Ik];omega]at this;rw[this,hc];cases c with
  |some b'=>simp
  |none=>simp[PT.get]
 .rw[vE Ik l 0 PT.leaf i (λk hk=>by simp only[Ik];omega),bR (by omega)];simp[PT.get]
theorem wT {t:Tm} {x:t.ty.den} {vs:List TV} {h1:bi} (hi:Dj t x=af (vs,h1)):∃l1,qX t x vs h1 l1:=by
 unfold Dj at hi;split at hi
 .rename_i us hus;split at hi
  .rename_i h hh;split at hi
   .rename_i hc;simp only[av]at hc;simp only[ak,aE]at hi;obtain⟨rfl,rfl⟩:=hi;unfold M9 at hh;split at hh
    .rename_i l1 I;simp only[ak]at hh;refine ⟨l1,hus,I,C5 _ _ _ _ I,λi b=>?_,hc.1.1,hc.1.2,λi ty l hil=>?_⟩
     .rw[<- hh];exact ac0 l1 i b
     .have:=PT.get_all _ h 1 0 i _ hc.2 hil;simpa only[av] using this
    .cases hh
   .cases hi
  .cases hi
 .cases hi
def Xs (nb:Nat) (n:Nat):Bool:=n%2==0&&gm (n/2) nb
theorem BV {nb i:Nat}:Xs nb (nm i)=ai↔i<nb:=by
 unfold Xs nm;rw[show 2*i%2=0 from by omega,show 2*i/2=i from by omega];simp only[c4,pR];exact⟨λh=>a8 h,λh=>bE h⟩
theorem abh {nb n:Nat} (h:Xs nb n=ai):∃i,i<nb/\n=nm i:=by
 unfold Xs at h;simp only[av,c5]at h;exact⟨n/2,a8 h.2,by unfold nm;omega⟩
mutual
theorem ajz {nb:Nat} {h:bi}:∀(v:TV) (y:AV),LZ nb v=ai->cz h v=af y->y.all (Xs nb)=ai
 |.f _ _,y,_,he=>by simp only[cz,ak]at he;subst he;rfl
 |.fel _ _ _ _ _,y,_,he=>by simp only[cz,ak]at he;subst he;rfl
 |.pel id _ _ _,y,hl,he=>by simp only[cz,ak]at he;subst he;exact BV.2 (a8 hl)
 |.ptr id _,y,hl,he=>by simp only[cz,ak]at he;subst he;exact BV.2 (a8 hl)
 |.csl id _ _,y,hl,he=>by simp only[cz,ak]at he;subst he;exact BV.2 (a8 hl)
 |.row id,y,hl,he=>by
  simp only[cz]at he;split at he
  .simp only[ak]at he;subst he;unfold fG;split
   .rfl
   .exact BV.2 (a8 hl)
  .cases he
 |.rtl id jj,y,hl,he=>by
  simp only[cz]at he;split at he
  .simp only[ak]at he;subst he;exact BV.2 (a8 hl)
  .cases he
 |.emp,y,_,he=>by simp only[cz,ak]at he;subst he;rfl
 |.nil,y,_,he=>by simp only[cz,ak]at he;subst he;rfl
 |.mp id,y,hl,he=>by simp only[cz,ak]at he;subst he;exact BV.2 (a8 hl)
 |.agg l,y,hl,he=>by
  simp only[cz]at he;split at he
  .rename_i l' hl';simp only[ak]at he;subst he;exact tW l l' hl hl'
  .cases he
 |.tup l,y,hl,he=>by
  simp only[cz]at he;split at he
  .rename_i l' hl';simp only[ak]at he;subst he;exact tW l l' hl hl'
  .cases he
 |.clo q l,y,hl,he=>by
  simp only[cz]at he;split at he
  .rename_i l' hl';simp only[ak]at he;subst he;exact tW l l' hl hl'
  .cases he
 |.undef,y,_,he=>by simp only[cz,ak]at he;subst he;rfl
 |.np,y,_,he=>by simp only[cz,ak]at he;subst he;rfl
 |.anyb,y,_,he=>by simp only[cz,ak]at he;subst he;rfl
theorem tW {nb:Nat} {h:bi}:∀(l:List TV) (l':List AV),rO nb l=ai->cU h l=af l'->AV.allL (Xs nb) l'=ai
 |[],l',_,he=>by simp only[cU,ak]at he;subst he;rfl
 |x::r,l',hl,he=>by
  obtain⟨y,l2,rfl,e1,e2⟩:=c7 he;simp only[rO,av]at hl;simp only[AV.allL,av];exact⟨ajz x y hl.1 e1,tW r l2 hl.2 e2⟩
end
theorem qX.blk_all {t:Tm} {x:t.ty.den} {vs:List TV} {h1:bi} {l1:List (Option iw)} (I:qX t x vs h1 l1) {i:Nat} {b:iw} (hb:h1.get i=af b) {y:xu} (J:kH h1 b=af y):y.c.all (Xs t.bs.length)=ai:=by
 cases b with
 |rows ty p T xs=>
  simp only[kH]at J;split at J
  .cases J
  .simp only[ak]at J;subst J;rfl
 |cells ty l=>
  simp only[kH]at J;split at J
  .rename_i M hl;simp only[ak]at J;subst J;exact tW l M (I.cells i ty l hb).2 hl
  .cases J
 |dead p sz n=>cases J
 |mp K V es=>
  simp only[kH,ak]at J;subst J;show BC.all _ (mpC K V es)=ai;unfold mpC;split
  .rfl
  .simp only[BC.all,Aq];have key:∀l:List (K.den×V.den),AV.allL (Xs t.bs.length) (l.map ((λx=>x.2)∘λp=>(qc K p.1,AV.f (gK V p.2))))=ai:=λl=>by
    induction l with
    |nil=>rfl
    |cons e r U=>simp only[gq,AV.allL,av];exact⟨rfl,U⟩
   exact key es
theorem qX.lt_len {t:Tm} {x:t.ty.den} {vs:List TV} {h1:bi} {l1:List (Option iw)} (I:qX t x vs h1 l1) {i:Nat} {b:iw} (hb:h1.get i=af b):i<t.bs.length:=by
 rw[<- I.len];exact (bl.1 ((I.at_ i b).1 hb)).1
def φ1 (nb:Nat) (g:Nat->Nat) (φ:PM):PM:=λn=>if Xs nb n then φ (Iq g n) else ah
theorem aan {nb:Nat} {g:Nat->Nat} {φ:PM} {i:Nat} (hi:i<nb):φ1 nb g φ (nm i)=φ (nm (g i)):=by
 unfold φ1;rw[aD (BV.2 hi),x_]
theorem xE {nb:Nat} {g:Nat->Nat} {φ:PM} {n k:Nat} (h:φ1 nb g φ n=af k):∃i,i<nb/\n=nm i/\φ (nm (g i))=af k:=by
 unfold φ1 at h;split at h
 .rename_i hp;obtain⟨i,hi,rfl⟩:=abh hp;rw[x_]at h;exact⟨i,hi,rfl,h⟩
 .cases h
structure ah9 (t:Tm) (x:t.ty.den) (vs:List TV) (h1:bi) (g:Nat->Nat) (φ:PM) (E E':Nat->Prop) (Hv:HF) (w:World):Prop where
 rep:rq (φ1 t.bs.length g φ) E' (bC h1) w
 val:∀x v,x.all (Xs t.bs.length)=ai->cW φ (tot E φ Hv) w (x.ren (Iq g)) v->cW (φ1 t.bs.length g φ) (tot E' (φ1 t.bs.length g φ) (bC h1)) w x v
 own_:∀k,own (φ1 t.bs.length g φ) (bC h1) k->own φ Hv k
 tot_:∀k,tot E' (φ1 t.bs.length g φ) (bC h1) k->tot E φ Hv k
theorem rq.toId {t:Tm} {x:t.ty.den} {vs:List TV} {h1:bi} {l1:List (Option iw)} (I:qX t x vs h1 l1) {g:Nat->Nat} (inj:∀a b,a<t.bs.length->b<t.bs.length->g a=g b->a=b) {φ:PM} {E E':Nat->Prop} {Hv:HF} {w:World} (r:rq φ E Hv w)
 (hat:∀i b y,h1.get i=af b->kH h1 b=af y->Hv (nm (g i))=af (y.ren (Iq g)))
 (hE:∀k,E' k->tot E φ Hv k) (hne:∀i k b,i<t.bs.length->Hv (nm (g i))=af b->φ (nm (g i))=af k->¬E' k) (hel:∀k,E' k->k<w.heap.size):ah9 t x vs h1 g φ E E' Hv w:=by
 have own1:∀k,own (φ1 t.bs.length g φ) (bC h1) k->own φ Hv k:=by
  rintro k ⟨n,y,h2,h3⟩;obtain⟨i,hi,rfl,Y⟩:=xE h3;obtain⟨j,b,e,U,J⟩:=jE h2;have:=kW e;subst this;exact⟨nm (g i),_,hat i b y U J,Y⟩
 have tot1:∀k,tot E' (φ1 t.bs.length g φ) (bC h1) k->tot E φ Hv k:=λk hk=>hk.elim (hE k) λh=>.inr (own1 k h)
 have val:∀x v,x.all (Xs t.bs.length)=ai->cW φ (tot E φ Hv) w (x.ren (Iq g)) v->cW (φ1 t.bs.length g φ) (tot E' (φ1 t.bs.length g φ) (bC h1)) w x v:=λx v hx hr=>by
  have h2:cW (φ1 t.bs.length g φ) (tot E φ Hv) w x v:=cW.renFrom (λi k hp hk=>by unfold φ1;rw[aD hp];exact hk) hr x hx rfl;exact h2.ext (λ_ _ h=>h) (LA.refl _ w) λk _ hk=>tot1 k hk
 refine ⟨⟨λn n' b b' k Z g2 g3 g4=>?_,λn y Z=>?_,hel,λg' cells hg=>(r.gl g' cells hg).ext (LA.refl _ w) λk _ hk=>tot1 k hk⟩,val,own1,tot1⟩
 .obtain⟨i,hi,rfl,Y⟩:=xE g3;obtain⟨j,hj,rfl,U⟩:=xE g4;obtain⟨i',c,e,J,M⟩:=jE Z;have:=kW e;subst this;obtain⟨j',c',e,h8,h9⟩:=jE g2;have:=kW e;subst this;have:=r.inj _ _ _ _ k (hat i c _ J M) (hat j c' _ h8 h9) Y U;rw[inj i j hi hj (kW this)]
 .obtain⟨i,c,rfl,J,M⟩:=jE Z;have hi:=I.lt_len J;obtain⟨k,p1,p2,ob,p3,p4⟩:=r.at_ _ _ (hat i c y J M);exact⟨k,by rw[aan hi];exact p1,hne i k _ hi (hat i c y J M) p1,ob,p3,jC.renFrom val (I.blk_all J M) p4⟩
theorem BM.view {g:Nat->Nat} {h hv:bi} {H H':HF} {m:Nat} (d:vU H H') (Y:Ey h H H' m) (hr:yq hv h) {b0 c:iw} (hb:BM g h m b0 c) {y I:xu} (e0:kH h b0=af y) (e1:kH hv c=af I):j_ H H' y I:=by
 cases hb with
 |rows ty p T xs=>
  simp only[kH]at e0 e1;rw[e0]at e1;cases e1;exact j_.refl d y
 |mp K V es=>
  simp only[kH]at e0 e1;rw[e0]at e1;cases e1;exact j_.refl d y
 |cells ty ps x l l2 m' hg hp hm=>
  simp only[kH]at e0 e1;split at e0
  .rename_i U hl;simp only[ak]at e0;subst e0;split at e1
   .rename_i cs' hc;simp only[ak]at e1;subst e1;obtain⟨l1,Z,M,J,q3⟩:=Dy d hr ps l x m' [] l2 U cs' hg hp hl hc λi hi=>Y i (hm i hi)
    simp only[cU,ak]at J;subst J;rw[iZ]at M;subst M;exact j_.cells rfl rfl q3 (lX (su hc (xI ps x l2 hp)))
   .cases e1
  .cases e0
theorem BM.erB_some {g:Nat->Nat} {h hv:bi} {nx m:Nat} (hinv:mj h nx) {i:Nat} {b0 c:iw} (h0:h.get i=af b0) (hb:BM g h m b0 c) {I:xu} (e1:kH hv c=af I):∃y,kH h b0=af y:=by
 cases hb with
 |rows ty p T xs=>exact⟨I,e1⟩
 |mp K V es=>exact⟨I,e1⟩
 |cells ty ps x l l2 m' hg hp hm=>
  obtain⟨J,hl⟩:=fE h l (hinv.cells i ty l h0);exact⟨_,by simp only[kH,hl];rfl⟩
theorem BM.row {g:Nat->Nat} {h:bi} {m:Nat} {b0 c:iw} (hb:BM g h m b0 c):mR c=mR b0:=by
 cases hb<;>rfl
structure qf (P:Program) (f:FuncId) (c:cq):Prop where
 callable:Et P f
 calls:∀x y,c.m x=af y->∀vs hp l1 rs hq l2 la lr,qX c.pre x vs hp l1->qX c.post y rs hq l2->cU hp vs=af la->cU hq rs=af lr->
  ∀(φ:PM) (E:Nat->Prop) (w:World) (us:ξ),rq φ E (bC hp) w->j9 φ (tot E φ (bC hp)) w la us->(∀n k,φ n=af k->ow n<c.pre.bs.length)->
  Calls P f us.toArray w λen w'=>∃v φ',en= .returned v/\LA (own φ (bC hp)) w w'/\(∀k,k<w.heap.size->own φ' (bC hq) k->own φ (bC hp) k)/\(∀i,i<c.pre.bs.length->φ' (nm i)=φ (nm i))/\rq φ' E (bC hq) w'/\cW φ' (tot E φ' (bC hq)) w' (EA lr) v
theorem Nc {g:Nat->Nat}:∀(bs:List PB) (x:(PB.tyL bs).den) (l:List (Option iw)),B5 bs=ai->oM g bs x=af l->∀(i:Nat) (c:Option iw),l[i]? =af c->∃b,c=af b
 |[],x,l,_,hp,i,c,hc=>by simp only[oM,ak]at hp;subst hp;simp at hc
 |b::r,x,l,hn,hp,i,c,hc=>by
  simp only[oM]at hp;split at hp
  .rename_i a I;split at hp
   .rename_i q hq;simp only[ak]at hp;subst hp;cases i with
    |zero=>
     simp at hc;subst hc;cases b with
     |gone=>simp[B5]at hn
     |rows ty p T=>simp only[C6,ak]at I;exact⟨_,I.symm⟩
     |rowsP ty T=>simp only[C6,ak]at I;exact⟨_,I.symm⟩
     |cells ty ps=>
      simp only[C6]at I;split at I
      .simp only[ak]at I;exact⟨_,I.symm⟩
      .cases I
     |mp K V=>simp only[C6,ak]at I;exact⟨_,I.symm⟩
    |succ i=>
     refine Nc r _ q ?_ hq i c (by simpa using hc);cases b<;>first|exact hn|simp[B5]at hn
   .cases hp
  .cases hp
theorem F6 {h h2:bi} {g:Nat->Nat}:∀n,ur h h2 g n=ai->∀i,i<n->∀r,eH h (g i)=af r->eH h2 (g i)=af r
 |0,_,i,hi,_,_=>by omega
 |n+1,hs,i,hi,r,hr=>by
  simp only[ur,av]at hs;by_cases e:i=n
  .subst e;obtain⟨p,s,k⟩:=r;have h1:=hs.1;rw[hr]at h1;cases I:eH h2 (g i) with
   |none=>rw[I]at h1;cases h1
   |some q=>
    obtain⟨J,s',k'⟩:=q;rw[I]at h1;simp only[av,c5]at h1;rw[h1.1.1,aw h1.1.2,aw h1.2]
  .exact F6 n hs.2 i (by omega) r hr
theorem j9.le {H H':HF} {φ:PM} {E:Nat->Prop} {w:World} (r:rq φ E H w):∀{l I:List AV} {us:ξ},ij H H' l I->j9 φ (tot E φ H) w l us->j9 φ (tot E φ H') w I us
 |[],[],[],_,_=>trivial
 |[],[],_::_,_,h=>h.elim
 |_::_,_::_,[],_,h=>h.elim
 |[],_::_,_,h,_=>h.elim
 |_::_,[],_,h,_=>h.elim
 |_::_,_::_,_::_,hl,h=>⟨hl.1 _ _ _ _ r h.1,j9.le r hl.2 h.2⟩
theorem j9.toId {φ φ':PM} {O O':Nat->Prop} {w:World} {γ:Nat->Nat} {p:Nat->Bool} (hv:∀x v,x.all p=ai->cW φ O w (x.ren γ) v->cW φ' O' w x v):∀{l:List AV} {us:ξ},AV.allL p l=ai->j9 φ O w (AV.renL γ l) us->j9 φ' O' w l us
 |[],[],_,_=>trivial
 |[],_::_,_,h=>h.elim
 |_::_,[],_,h=>h.elim
 |_::_,_::_,hp,h=>by
  simp only[AV.allL,av]at hp;exact⟨hv _ _ hp.1 h.1,j9.toId hv hp.2 h.2⟩
theorem Xl {h:bi}:∀{rs:List TV} {lr:List AV},cU h rs=af lr->cz h (Ra rs)=af (EA lr)
 |[],lr,he=>by simp only[cU,ak]at he;subst he;rfl
 |[x],lr,he=>by
  obtain⟨y,l2,rfl,e1,e2⟩:=c7 he;simp only[cU,ak]at e2;subst e2;exact e1
 |x::y::r,lr,he=>by
  obtain⟨J,l2,rfl,e1,e2⟩:=c7 he;obtain⟨I,M,rfl,e3,U⟩:=c7 e2;simp only[Ra,cz,he,EA]
theorem aax (γ:Nat->Nat):∀l:List AV,EA (AV.renL γ l)=(EA l).ren γ
 |[]=>rfl
 |[x]=>rfl
 |x::y::r=>rfl
theorem aay {p:Nat->Bool}:∀{l:List AV},AV.allL p l=ai->(EA l).all p=ai
 |[],_=>rfl
 |[x],h=>by simp only[AV.allL,av]at h;exact h.1
 |x::y::r,h=>h
theorem afp {nx I q:Nat}:aN (((1<<<I)-1)<<<nx) q=ai↔nx<=q/\q<nx+I:=by
 rw[Nat.testBit_shiftLeft,Nat.one_shiftLeft,Nat.testBit_two_pow_sub_one];simp only[av,be];omega
theorem ade {P:Program} {o:Oper} {e:iU} {h:bi} {nx:Nat} {f:FuncId} {c:cq} {l:List TV} (hinv:mj h nx) (sp:qf P f c) {x:c.pre.ty.den} {m:Nat} {σ:PT Nat} {sm:Nat} (M:Iy 0 c.pre l h x m σ sm) {vs:List TV} {hp:bi} {l1:List (Option iw)} (I:qX c.pre x vs hp l1) (hng:B5 c.pre.bs=ai) {y:c.post.ty.den} (hm:c.m x=af y) {rs:List TV} {hq:bi} {l2:List (Option iw)} (J:qX c.post y rs hq l2) (hle:c.pre.bs.length<=c.post.bs.length)
 {g:Nat->Nat} (glo:∀i,i<c.pre.bs.length->g i=ii σ i) (ghi:∀i,c.pre.bs.length<=i->g i=nx+(i-c.pre.bs.length)) {h2:bi} (hh2:h2=AW g 0 (l2.map (l8 (l_ g))) (eJ m h)) (hsr:ur h h2 g c.pre.bs.length=ai) {la:List AV} (hla:cU h l=af la)
 (hexec:∀(φ:PM) (E:Nat->Prop) (h':HF) (w:World) (a:Act),(∀t,.tmp t∈o.op.operands->∀y,fY e h t=af y->cW φ (tot E φ h') w y (a.tmps.getD t undef))->rq φ E h' w->∃us:ξ,(execOp a.eval o).run P w= .ok (.enter f us.toArray) w/\j9 φ (tot E φ h') w la us):
 js P o aj e h nx (Ra (kG g rs)) (sm|||m) (sm|||m|||(((1<<<(c.post.bs.length-c.pre.bs.length))-1)<<<nx)) h2 (nx+(c.post.bs.length-c.pre.bs.length)):=by
 obtain⟨x1,m1,x2,m2,hx,hmm,gv,gb⟩:=M.ex;have hmr:dU h m:=by rw[hmm];exact (In _ _ _ _ gv).or (Ip _ _ _ _ gb)
 generalize hnp:c.pre.bs.length=np at*
 generalize hnq:c.post.bs.length=nq at*
 have pvg:qp (ii σ) c.pre.vs x1=af (kG (ii σ) vs):=by
  have Y:=ud (ii σ) c.pre.vs x1;have h4:=I.pv;rw[hx,t7]at h4;rw[Y,h4];rfl
 have pbg:oM (ii σ) c.pre.bs x2=af (l1.map (l8 (l_ (ii σ)))):=by
  have Y:=wF (ii σ) c.pre.bs x2;have h4:=I.pb;rw[hx,vB]at h4;rw[Y,h4];rfl
 have hl1:∀i,i<np->∃b,l1[i]? =af (af b):=λi hi=>by
  have hi':i<l1.length:=by rw[I.len,hnp];exact hi
  obtain⟨b,hb⟩:=Nc c.pre.bs _ l1 hng I.pb i l1[i] (aB hi');exact⟨b,by rw[aB hi',hb]⟩
 have hbm:∀i b,l1[i]? =af (af b)->∃b0,h.get (ii σ i)=af b0/\BM (ii σ) h m b0 (l_ (ii σ) b):=λi b hb=>by
  obtain⟨b0,U,Z⟩:=JS c.pre.bs 0 x2 m2 _ gb pbg i (l_ (ii σ) b) (by rw[bc,hb];rfl);rw[bQ]at U;exact⟨b0,U,Z.mono λj hj=>by rw[hmm,bu,hj];simp⟩
 have inj1:∀a b,a<np->b<np->ii σ a=ii σ b->a=b:=λa b ha hb=>M.inj a b (by rw[hnp];exact ha) (by rw[hnp];exact hb)
 have sig:∀q,aN sm q=ai↔∃k,k<np/\ii σ k=q:=λq=>by rw[M.sig,hnp]
 have gnx:∀i,i<np->ii σ i<nx:=λi hi=>by
  obtain⟨b,hb⟩:=hl1 i hi;obtain⟨b0,U,_⟩:=hbm i b hb;exact hinv.low _ _ U
 have hmS:∀i,i<np->aN m (ii σ i)=aj:=λi hi=>by
  cases hx:aN m (ii σ i) with
  |false=>rfl
  |true=>have:=M.disj _ hx;rw[(sig _).2 ⟨i,hi,rfl⟩]at this;cases this
 have injg:∀a b,a<nq->b<nq->g a=g b->a=b:=λa b ha hb hab=>by
  by_cases h1:a<np
  .by_cases h2:b<np
   .rw[glo a h1,glo b h2]at hab;exact inj1 a b h1 h2 hab
   .rw[glo a h1,ghi b (by omega)]at hab;have:=gnx a h1;omega
  .by_cases h2:b<np
   .rw[ghi a (by omega),glo b h2]at hab;have:=gnx b h2;omega
   .rw[ghi a (by omega),ghi b (by omega)]at hab;omega
 let hv:bi:=AW (ii σ) 0 (l1.map (l8 (l_ (ii σ)))) (eJ m h)
 have hv_at:∀i b,l1[i]? =af (af b)->hv.get (ii σ i)=af (l_ (ii σ) b):=λi b hb=>by
  have:=vF (ii σ) (l1.map (l8 (l_ (ii σ)))) 0 (eJ m h) (λa b ha hb=>by
   simp only[bY,I.len,hnp]at ha hb;simp only[bQ];exact inj1 a b ha hb) i (af (l_ (ii σ) b)) (by rw[bc,hb];rfl)
  rw[bQ]at this;exact this
 have hv_ne:∀j,(∀i,i<np->j≠ii σ i)->hv.get j=(eJ m h).get j:=λj hj=>
  vE (ii σ) _ 0 _ j λk hk=>by
   simp only[bY,I.len,hnp]at hk;rw[bQ];exact hj k hk
 have rows_in:yq hv h:=λj r hr=>by
  rw[bU]at hr ⊢;by_cases hj:∃i,i<np/\j=ii σ i
  .obtain⟨i,hi,rfl⟩:=hj;obtain⟨b,hb⟩:=hl1 i hi;obtain⟨b0,U,Z⟩:=hbm i b hb;rw[hv_at i b hb]at hr;rw[U];simp only[aH]at hr ⊢;rw[<- Z.row];exact hr
  .rw[hv_ne j (λi hi e=>hj ⟨i,hi,e⟩),jf]at hr;split at hr
   .rename_i ht;obtain⟨ty,p,T,xs,hb⟩:=hmr j ht;rw[hb]at hr ⊢;exact hr
   .exact hr
 have rows_hp:∀i r,eH hp i=af r->eH hv (ii σ i)=af r:=λi r hr=>by
  rw[bU]at hr ⊢;cases hb:hp.get i with
  |none=>rw[hb]at hr;cases hr
  |some b=>
   rw[hb]at hr;rw[hv_at i b ((I.at_ i b).1 hb)];simp only[aH,IR]at hr ⊢;exact hr
 have dead_m:∀i,aN m i=ai->bC hv (nm i)=ah:=λi hi=>by
  rw[bM,hv_ne i (λk hk e=>by rw[e,hmS k hk]at hi;cases hi)];obtain⟨p,sz,n,hd⟩:=uk hmr hi;rw[hd];rfl
 have h2_at:∀i cc,l2[i]? =af cc->h2.get (g i)=(match cc with|some b=>af (l_ g b)|none=>((eJ m h).get (g i)).map vG):=λi cc hc=>by
  have:=vF g (l2.map (l8 (l_ g))) 0 (eJ m h) (λa b ha hb=>by
   simp only[bY,J.len,hnq]at ha hb;simp only[bQ];exact injg a b ha hb) i (cc.map (l_ g)) (by rw[bc,hc];rfl)
  rw[bQ]at this;rw[hh2,this];cases cc<;>rfl
 have h2_ne:∀j,(∀i,i<nq->j≠g i)->h2.get j=(eJ m h).get j:=λj hj=>by
  rw[hh2];refine vE g _ 0 _ j λk hk=>?_
  simp only[bY,J.len,hnq]at hk;rw[bQ];exact hj k hk
 have rows_hq:∀i r,eH hq i=af r->eH h2 (g i)=af r:=λi r hr=>by
  rw[bU]at hr ⊢;cases hb:hq.get i with
  |none=>rw[hb]at hr;cases hr
  |some b=>
   rw[hb]at hr;rw[h2_at i _ ((J.at_ i b).1 hb)];simp only[aH,IR]at hr ⊢;exact hr
 have rows2:cu h h2:=λj r hr=>by
  by_cases hj:∃i,i<np/\j=ii σ i
  .obtain⟨i,hi,rfl⟩:=hj;rw[<- glo i hi]at hr ⊢;exact F6 np hsr i hi r hr
  .have hjn:j<nx:=by
    rw[bU]at hr;cases hb:h.get j with
    |none=>rw[hb]at hr;cases hr
    |some b=>exact hinv.low j b hb
   have:=cu.kill m h j r hr;rw[bU]at this ⊢;rw[h2_ne j (λi hi e=>?_)]
   .exact this
   .by_cases hip:i<np
    .exact hj ⟨i,hip,by rw[e,glo i hip]⟩
    .rw[ghi i (by omega)]at e;omega
 obtain⟨lr,hlr⟩:=fE hq rs J.ok;obtain⟨lp,hlp⟩:=fE hp vs I.ok;have er2:∀i b yb,hq.get i=af b->kH hq b=af yb->bC h2 (nm (g i))=af (yb.ren (Iq g)):=λi b yb hb hyb=>by
  rw[bM,h2_at i _ ((J.at_ i b).1 hb)];exact DB rows_hq hyb
 have er2':∀i,i<nq->∀z,bC h2 (nm (g i))=af z->∃b yb,hq.get i=af b/\kH hq b=af yb/\z=yb.ren (Iq g):=λi hi z hz=>by
  have hi':i<l2.length:=by rw[J.len,hnq];exact hi
  have hcc:=aB hi';cases hcv:l2[i] with
  |none=>
   rw[hcv]at hcc;rw[bM,h2_at i ah hcc]at hz;simp only at hz;cases hkg:(eJ m h).get (g i) with
   |none=>rw[hkg]at hz;cases hz
   |some b0=>rw[hkg]at hz;cases b0<;>simp[vG,kH]at hz
  |some b=>
   rw[hcv]at hcc;have hb:=(J.at_ i b).2 hcc;rw[bM,h2_at i (af b) hcc]at hz;have hyb:∃yb,kH hq b=af yb:=by
    cases b with
    |rows ty p T xs=>simp only[aH,l_,kH]at hz ⊢;exact⟨z,hz⟩
    |cells ty q=>
     obtain⟨q',hq'⟩:=fE hq q (J.cells i ty q hb).1;exact⟨_,by simp only[kH,hq'];rfl⟩
    |dead p sz n=>simp[l_,kH]at hz
    |mp K V es=>exact⟨_,rfl⟩
   obtain⟨yb,hyb⟩:=hyb;have:=DB rows_hq hyb;simp only[aH]at hz;rw[this]at hz;exact⟨b,yb,hb,hyb,by cases hz;rfl⟩
 have dead2:∀i,aN m i=ai->bC h2 (nm i)=ah:=λi hi=>by
  have hlt:=hmr.lt hinv hi;rw[bM,h2_ne i (λk hk e=>?_)]
  .obtain⟨p,sz,n,hd⟩:=uk hmr hi;rw[hd];rfl
  .by_cases hkp:k<np
   .rw[e,glo k hkp,hmS k hkp]at hi;cases hi
   .rw[ghi k (by omega)]at e;omega
 have inv2:mj h2 (nx+(nq-np)):=by
  refine ⟨λj ty q hj=>?_,λj b hj=>?_⟩
  .by_cases hjg:∃i,i<nq/\j=g i
   .obtain⟨i,hi,rfl⟩:=hjg;have hi':i<l2.length:=by rw[J.len,hnq];exact hi
    have hcc:=aB hi';cases hcv:l2[i] with
    |none=>
     rw[hcv]at hcc;rw[h2_at i ah hcc]at hj;simp only at hj;cases hkg:(eJ m h).get (g i) with
     |none=>rw[hkg]at hj;cases hj
     |some b0=>rw[hkg]at hj;cases b0<;>simp[vG]at hj
    |some b=>
     rw[hcv]at hcc;have hb:=(J.at_ i b).2 hcc;rw[h2_at i (af b) hcc]at hj;simp only[ak]at hj;cases b with
     |cells ty' q'=>
      simp only[l_,iw.cells.injEq]at hj;obtain⟨_,rfl⟩:=hj;obtain⟨z,hz⟩:=fE hq q' (J.cells i ty' q' hb).1;exact kR _ _ _ (qP rows_hq q' z hz)
     |rows _ _ _ _=>simp[l_]at hj
     |dead _ _ _=>simp[l_]at hj
     |mp _ _ _=>simp[l_]at hj
   .rw[h2_ne j (λi hi e=>hjg ⟨i,hi,e⟩)]at hj;refine ja rows2 q ?_;have hkk:=(hinv.kill m).cells j ty q hj;rw[jf]at hj;split at hj
    .rename_i ht;obtain⟨_,_,_,_,hb⟩:=hmr j ht;rw[hb]at hj;cases hj
    .exact hinv.cells j ty q hj
  .by_cases hjg:∃i,i<nq/\j=g i
   .obtain⟨i,hi,rfl⟩:=hjg;by_cases hip:i<np
    .rw[glo i hip];have:=gnx i hip;omega
    .rw[ghi i (by omega)];omega
   .rw[h2_ne j (λi hi e=>hjg ⟨i,hi,e⟩)]at hj;have:=(hinv.kill m).low j b hj;omega
 let S:ι:=(bt np).map λi=>nm (ii σ i)
 have memS:∀n,n∈S↔∃i,i<np/\n=nm (ii σ i):=λn=>by
  simp only[S,c_,jU];exact⟨λ⟨i,h1,h2⟩=>⟨i,h1,h2.symm⟩,λ⟨i,h1,h2⟩=>⟨i,h1,h2.symm⟩⟩
 let NN:ι:=(bt (nq-np)).map λt=>nm (nx+t)
 have memN:∀n,n∈NN↔∃t,t<nq-np/\n=nm (nx+t):=λn=>by
  simp only[NN,c_,jU];exact⟨λ⟨i,h1,h2⟩=>⟨i,h1,h2.symm⟩,λ⟨i,h1,h2⟩=>⟨i,h1,h2.symm⟩⟩
 have memW:∀n,n∈S++Gb m++NN↔(∃i,i<nq/\n=nm (g i))\/n∈Gb m:=λn=>by
  rw[bV,bV,memS,memN];constructor
  .rintro ((⟨i,hi,rfl⟩|hn)|⟨t,ht,rfl⟩)
   .exact .inl ⟨i,by omega,by rw[glo i hi]⟩
   .exact .inr hn
   .exact .inl ⟨np+t,by omega,by rw[ghi _ (by omega),show np+t-np=t from by omega]⟩
  .rintro (⟨i,hi,rfl⟩|hn)
   .by_cases hip:i<np
    .exact .inl (.inl ⟨i,hip,by rw[glo i hip]⟩)
    .exact .inr ⟨i-np,by omega,by rw[ghi i (by omega)]⟩
   .exact .inl (.inr hn)
 have hOpT:gQ P o (fY e h) (bC h) ⟨EA (AV.renL (Iq g) lr),S++Gb m,S++Gb m++NN,bC h2,NN⟩:=by
  intro φ E h' w a hrd hwr hops hrep hN;have hS':∀i,i<np->h' (nm (ii σ i))=bC h (nm (ii σ i)):=λi hi=>hrd _ (lx _ ((memS _).2 ⟨i,hi,rfl⟩))
  have hM':∀i,aN m i=ai->h' (nm i)=bC h (nm i):=λi hi=>hrd _ (nN _ (lJ.2 hi))
  obtain⟨us,hrun,hrel⟩:=hexec φ E h' w a hops hrep
  let Hv:HF:=λn=>if n∈S++Gb m then bC hv n else h' n
  have Hv_in:∀n,n∈S++Gb m->Hv n=bC hv n:=λn hn=>by simp only[Hv,hn,bG]
  have Hv_out:∀n,n∉S++Gb m->Hv n=h' n:=λn hn=>by simp only[Hv,hn,ef]
  have blkS:∀i,i<np->∀z,bC hv (nm (ii σ i))=af z->∃b0 b y0,h.get (ii σ i)=af b0/\l1[i]? =af (af b)/\BM (ii σ) h m b0 (l_ (ii σ) b)/\kH h b0=af y0/\kH hv (l_ (ii σ) b)=af z:=λi hi z hz=>by
   obtain⟨b,hb⟩:=hl1 i hi;obtain⟨b0,U,Z⟩:=hbm i b hb;rw[bM,hv_at i b hb]at hz;simp only[aH]at hz;obtain⟨y0,hy0⟩:=BM.erB_some hinv U Z hz;exact⟨b0,b,y0,U,hb,Z,hy0,hz⟩
  have hd:vU h' Hv:=λn b hb=>by
   by_cases hn:n∈S++Gb m
   .rw[Hv_in n hn]at hb;rcases bV.1 hn with hs|hs
    .obtain⟨i,hi,rfl⟩:=(memS n).1 hs;obtain⟨b0,b1,y0,U,Z,q3,q4,q5⟩:=blkS i hi b hb;exact⟨y0,by rw[hS' i hi,bM,U];exact q4⟩
    .obtain⟨i,rfl,hi⟩:=oa.1 hs;rw[dead_m i hi]at hb;cases hb
   .rw[Hv_out n hn]at hb;exact⟨b,hb⟩
  have gvv:Ey h h' Hv m:=λi hi=>⟨hM' i hi,by rw[Hv_in _ (nN _ (lJ.2 hi)),dead_m i hi]⟩
  have V:Ln h' Hv:=⟨hd,λn b b' hb hb'=>by
   by_cases hn:n∈S++Gb m
   .rw[Hv_in n hn]at hb';rcases bV.1 hn with hs|hs
    .obtain⟨i,hi,rfl⟩:=(memS n).1 hs;obtain⟨b0,b1,y0,U,Z,q3,q4,q5⟩:=blkS i hi b' hb';rw[hS' i hi,bM,U]at hb;simp only[aH]at hb;exact BM.view hd gvv rows_in q3 hb q5
    .obtain⟨i,rfl,hi⟩:=oa.1 hs;rw[dead_m i hi]at hb';cases hb'
   .rw[Hv_out n hn,hb]at hb';cases hb';exact j_.refl hd b⟩
  have hrepv:=V.rep hrep;have hlpg:cU hv (kG (ii σ) vs)=af (AV.renL (Iq (ii σ)) lp):=qP rows_hp vs lp hlp;have hrel1:j9 φ (tot E φ Hv) w (AV.renL (Iq (ii σ)) lp) us:=
   j9.le hrep (Dw hd rows_in c.pre.vs l x1 m1 _ la _ gv pvg hla hlpg (λi hi=>gvv i (by rw[hmm,bu,hi];rfl))) hrel
  let E':Nat->Prop:=λk=>E k\/∃n b,Hv n=af b/\n∉S/\φ n=af k
  have T:ah9 c.pre x vs hp (ii σ) φ E E' Hv w:=by
   refine rq.toId I (λa b ha hb=>inj1 a b (by rw[<- hnp];exact ha) (by rw[<- hnp];exact hb)) hrepv (λi b yb hb hyb=>?_) ?_ ?_ ?_
   .have hi:=I.lt_len hb;rw[hnp]at hi;rw[Hv_in _ (lx _ ((memS _).2 ⟨i,hi,rfl⟩)),bM,hv_at i b ((I.at_ i b).1 hb)];exact DB rows_hp hyb
   .rintro k (hE|⟨n,b,h1,_,Y⟩)
    .exact .inl hE
    .exact .inr ⟨n,b,h1,Y⟩
   .rintro i k b hi h1 Y (hE|⟨n,b',h4,h5,h6⟩)
    .obtain⟨k',p1,p2,_⟩:=hrepv.at_ _ _ h1;rw[Y]at p1;cases p1;exact p2 hE
    .have:=hrepv.inj _ _ _ _ k h1 h4 Y h6;exact h5 (by rw[<- this];exact (memS _).2 ⟨i,by rw[<- hnp];exact hi,rfl⟩)
   .rintro k (hE|⟨n,b,h1,_,Y⟩)
    .exact hrepv.el k hE
    .obtain⟨k',U,_,ob,q3,_⟩:=hrepv.at_ n b h1;rw[Y]at U;cases U;exact (cJ.1 q3).1
  have hcalls:=sp.calls x y hm vs hp l1 rs hq l2 lp lr I J hlp hlr (φ1 c.pre.bs.length (ii σ) φ) E' w us T.rep (j9.toId T.val (tW vs lp I.lt hlp) hrel1) (λn k hk=>by
   obtain⟨i,hi,rfl,_⟩:=xE hk;rw[ec];exact hi)
  unfold H7;rw[hrun];refine Calls.mono hcalls ?_;rintro en w' ⟨v,φc',rfl,hext,hown,hnm,rp,rv'⟩
  let isN:Nat->Prop:=λn=>n∈NN
  let φ':PM:=λn=>if n∈NN then φc' (nm (np+(ow n-nx))) else φ n
  have φ'_new:∀t,t<nq-np->φ' (nm (nx+t))=φc' (nm (np+t)):=λt ht=>by
   have:nm (nx+t)∈NN:=(memN _).2 ⟨t,ht,rfl⟩;simp only[φ',this,bG,ec];rw[show nx+t-nx=t from by omega]
  have φ'_old:∀n,n∉NN->φ' n=φ n:=λn hn=>by simp only[φ',hn,ef]
  have loN:∀i,i<nx->nm i∉NN:=λi hi hn=>by
   obtain⟨t,_,e⟩:=(memN _).1 hn;have:=kW e;omega
  have φ'_g:∀i,i<nq->φ' (nm (g i))=φc' (nm i):=λi hi=>by
   by_cases hip:i<np
   .rw[glo i hip,φ'_old _ (loN _ (gnx i hip)),hnm i (by rw[hnp];exact hip),aan (by rw[hnp];exact hip)]
   .rw[ghi i (by omega),φ'_new _ (by omega),show np+(i-np)=i from by omega]
  have hsub:∀n k,φ n=af k->φ' n=af k:=λn k hk=>by
   by_cases hn:n∈NN
   .rw[hN n hn]at hk;cases hk
   .rw[φ'_old n hn];exact hk
  let F:HF:=eZ h' (S++Gb m++NN) (bC h2)
  have F_g:∀i,i<nq->F (nm (g i))=bC h2 (nm (g i)):=λi hi=>by
   simp only[F,eZ,(memW _).2 (.inl ⟨i,hi,rfl⟩),bG]
  have F_out:∀n,n∉S++Gb m++NN->F n=h' n:=λn hn=>by simp only[F,eZ,hn,ef]
  have from_:∀n b,F n=af b->(∃i bq yb,i<nq/\n=nm (g i)/\hq.get i=af bq/\kH hq bq=af yb/\b=yb.ren (Iq g))\/(h' n=af b/\Hv n=af b/\n∉S/\n∉NN/\φ' n=φ n):=λn b hb=>by
   by_cases hn:n∈S++Gb m++NN
   .rcases (memW n).1 hn with ⟨i,hi,rfl⟩|hs
    .rw[F_g i hi]at hb;obtain⟨bq,yb,U,Z,q3⟩:=er2' i hi b hb;exact .inl ⟨i,bq,yb,hi,rfl,U,Z,q3⟩
    .obtain⟨i,rfl,hi⟩:=oa.1 hs;have:F (nm i)=bC h2 (nm i):=by simp only[F,eZ,hn,bG]
     rw[this,dead2 i hi]at hb;cases hb
   .rw[F_out n hn]at hb;have h1:n∉S++Gb m:=λhh=>hn (lx _ hh)
    have Y:n∉NN:=λhh=>hn (nN _ hh)
    exact .inr ⟨hb,by rw[Hv_out n h1];exact hb,λhh=>h1 (lx _ hh),Y,φ'_old n Y⟩
  have own':∀k,own φ' F k->own φc' (bC hq) k\/∃n b,Hv n=af b/\n∉S/\φ n=af k:=by
   rintro k ⟨n,b,h1,Y⟩;rcases from_ n b h1 with ⟨i,bq,yb,hi,rfl,U,Z,_⟩|⟨_,Z,q3,_,q5⟩
   .rw[φ'_g i hi]at Y;exact .inl ⟨nm i,yb,by rw[bM,U];exact Z,Y⟩
   .exact .inr ⟨n,b,Z,q3,by rw[<- q5];exact Y⟩
  have mv:jg φ φ' h' F w w':=by
   refine ⟨hsub,hext.mono λk hk=>hd.own (T.own_ k hk),λk hk ho=>?_⟩;rcases own' k ho with h1|⟨n,b,h1,_,Y⟩
   .exact hd.own (T.own_ k (hown k hk h1))
   .exact hd.own ⟨n,b,h1,Y⟩
  have tot':∀k,tot E φ' F k->tot E' φc' (bC hq) k:=by
   rintro k (h1|h1)
   .exact .inl (.inl h1)
   .rcases own' k h1 with Y|Y
    .exact .inr Y
    .exact .inl (.inr Y)
  let φr:PM:=λn=>if Xs nq n then φc' n else ah
  have rel_r:∀x v,x.all (Xs nq)=ai->cW φc' (tot E' φc' (bC hq)) w' x v->cW φr (tot E φ' F) w' x v:=λx v hx hr=>
   hr.restrict (λi k hi hk=>by simp only[φr,hi,bG];exact hk) tot' hx
  have rel_g:∀x v,cW φr (tot E φ' F) w' x v->cW φ' (tot E φ' F) w' (x.ren (Iq g)) v:=λx v hr=>
   hr.renTo λn k hk=>by
    simp only[φr]at hk;split at hk
    .rename_i hpn;obtain⟨i,hi,rfl⟩:=abh hpn;rw[x_,φ'_g i hi];exact hk
    .cases hk
  have hnqJ:=hnq;refine ⟨v,φ',rfl,mv,λn k hk=>?_,?_,?_⟩
  .by_cases hn:n∈NN
   .exact .inr hn
   .rw[φ'_old n hn]at hk;exact .inl hk
  .refine ⟨λn n' b b' k h1 Y h4 h5=>?_,λn b h1=>?_,λk hk=>dE (hrep.el k hk) mv.ext.size,λg' cells hg=>mv.keepF (hrep.gl g' cells hg)⟩
   .rcases from_ n b h1 with ⟨i,bq,yb,hi,rfl,U,Z,_⟩|⟨U,Z,q3,_,q5⟩
    .rw[φ'_g i hi]at h4;have hqi:bC hq (nm i)=af yb:=by rw[bM,U];exact Z
     rcases from_ n' b' Y with ⟨j,bj,yj,hj,rfl,t1,t2,_⟩|⟨t1,t2,t3,_,t5⟩
     .rw[φ'_g j hj]at h5;have:=rp.inj _ _ _ _ k hqi (by rw[bM,t1];exact t2) h4 h5;rw[kW this]
     .exfalso;obtain⟨k',p1,p2,_⟩:=rp.at_ _ _ hqi;rw[h4]at p1;cases p1;exact p2 (.inr ⟨n',b',t2,t3,by rw[<- t5];exact h5⟩)
    .rcases from_ n' b' Y with ⟨j,bj,yj,hj,rfl,t1,t2,_⟩|⟨t1,t2,t3,_,t5⟩
     .exfalso;rw[φ'_g j hj]at h5;have hqj:bC hq (nm j)=af yj:=by rw[bM,t1];exact t2
      obtain⟨k',p1,p2,_⟩:=rp.at_ _ _ hqj;rw[h5]at p1;cases p1;exact p2 (.inr ⟨n,b,Z,q3,by rw[<- q5];exact h4⟩)
     .exact hrep.inj n n' b b' k U t1 (by rw[<- q5];exact h4) (by rw[<- t5];exact h5)
   .rcases from_ n b h1 with ⟨i,bq,yb,hi,rfl,U,Z,rfl⟩|⟨U,Z,q3,_,q5⟩
    .have hqi:bC hq (nm i)=af yb:=by rw[bM,U];exact Z
     obtain⟨k,p1,p2,ob,p3,p4⟩:=rp.at_ _ _ hqi;have hall:=J.blk_all U Z;rw[hnq]at hall;exact⟨k,by rw[φ'_g i hi];exact p1,λhE=>p2 (.inl hE),ob,p3,(p4.restrict rel_r hall).renTo rel_g⟩
    .obtain⟨k,p1,p2,ob,p3,p4⟩:=hrep.at_ n b U;have hk:k<w.heap.size:=(cJ.1 p3).1;refine ⟨k,hsub n k p1,p2,ob,?_,p4.mono λx v hr=>mv.keep hr⟩;rw[hext.blk k hk ?_]
     .exact p3
     .rintro⟨n',y',t1,t2⟩;obtain⟨i,hi,rfl,t3⟩:=xE t2;obtain⟨j,bb,e,t4,t5⟩:=jE t1;have:=kW e;subst this;have hi':i<np:=by rw[<- hnp];exact hi
      have hvi:Hv (nm (ii σ i))=af (y'.ren (Iq (ii σ))):=by
       rw[Hv_in _ (lx _ ((memS _).2 ⟨i,hi',rfl⟩)),bM,hv_at i bb ((I.at_ i bb).1 t4)];exact DB rows_hp t5
      have:=hrepv.inj _ _ _ _ k hvi Z t3 p1;exact q3 (by rw[<- this];exact (memS _).2 ⟨i,hi',rfl⟩)
  .have hall:(EA lr).all (Xs nq)=ai:=aay (by have:=tW rs lr J.lt hlr;rwa [hnq]at this);show cW φ' (tot E φ' F) w' (EA (AV.renL (Iq g) lr)) v;rw[aax];exact rel_g _ _ (rel_r _ _ hall rv')
 have hrsg:cU h2 (kG g rs)=af (AV.renL (Iq g) lr):=qP rows_hq rs lr hlr;refine ⟨⟨_,hOpT,λz hz=>?_,?_,λn hn=>?_,λn hn=>?_,λn hn=>?_⟩,rows2,inv2,by omega,λhs=>by cases hs⟩
 .rw[Xl hrsg]at hz;cases hz;rfl
 .funext n;unfold eZ;split
  .rfl
  .rename_i hn;refine (kS hinv rows2 λi e=>?_).symm;subst e;rw[h2_ne i (λk hk e=>hn ((memW _).2 (.inl ⟨k,hk,by rw[e]⟩))),jf,ay];intro hb;exact hn ((memW _).2 (.inr (lJ.2 hb)))
 .rw[bu];rcases bV.1 hn with hs|hs
  .obtain⟨i,hi,rfl⟩:=(memS n).1 hs;rw[ec,(sig _).2 ⟨i,hi,rfl⟩];rfl
  .obtain⟨i,rfl,hi⟩:=oa.1 hs;rw[ec,hi];simp
 .rw[bu,bu];rcases bV.1 hn with hs|hs
  .rcases bV.1 hs with hs|hs
   .obtain⟨i,hi,rfl⟩:=(memS n).1 hs;rw[ec,(sig _).2 ⟨i,hi,rfl⟩];rfl
   .obtain⟨i,rfl,hi⟩:=oa.1 hs;rw[ec,hi];simp
  .obtain⟨t,ht,rfl⟩:=(memN n).1 hs;rw[ec,afp.2 ⟨by omega,by omega⟩];simp
 .obtain⟨t,ht,rfl⟩:=(memN n).1 hn;rw[ec];omega
mutual
def FV.fl:FV->Bool
 |.raw _=>ai
 |.agg l=>FV.flL l
 |.sl _ _=>aj
 |.ptr _ _=>aj
def FV.flL:List FV->Bool
 |[]=>ai
 |x::r=>x.fl&&FV.flL r
end
theorem XU:∀{l:List FV},FV.flL l=ai->∀x∈l,x.fl=ai
 |[],_,x,I=>by cases I
 |y::l,h,x,I=>by
  simp only[FV.flL,av]at h;rcases bm.1 I with rfl|I
  .exact h.1
  .exact XU h.2 x I
theorem acv:∀{l:List FV},(∀x∈l,x.fl=ai)->FV.flL l=ai
 |[],_=>rfl
 |y::l,h=>by simp only[FV.flL,av];exact⟨h y (by simp),acv λx I=>h x (by simp[I])⟩
theorem nF.flat {O O':Nat->Prop} {w w':World} {x:FV} {v:Value} (h:nF O w x v):x.fl=ai->nF O' w' x v:=by
 induction h with
 |raw v=>intro _;exact .raw v
 |nil a c hc=>intro h;cases h
 |sl cells n c b off us hn hc hO hb hcl hu hr I=>intro h;cases h
 |ptr cells o b off us hO hb hcl hu hr I=>intro h;cases h
 |agg cells vs hl hcl hr I=>intro h;exact .agg cells vs hl hcl λj x v J hv=>I j x v J hv (XU h x (ba J))
mutual
def AV.fl:AV->Bool
 |.f x=>x.fl
 |.emp=>ai
 |.anyb=>ai
 |.agg l=>AV.flL l
 |.tup l=>AV.flL l
 |.ptr _ _=>aj
 |.sl _ _ _=>aj
 |.row _ _ _=>aj
 |.mp _=>aj
 |.clo _ _=>aj
def AV.flL:List AV->Bool
 |[]=>ai
 |x::r=>x.fl&&AV.flL r
end
theorem Lm:∀{l:List AV},AV.flL l=ai->∀x∈l,x.fl=ai
 |[],_,x,I=>by cases I
 |y::l,h,x,I=>by
  simp only[AV.flL,av]at h;rcases bm.1 I with rfl|I
  .exact h.1
  .exact Lm h.2 x I
theorem Yl:∀{l:List AV},(∀x∈l,x.fl=ai)->AV.flL l=ai
 |[],_=>rfl
 |y::l,h=>by simp only[AV.flL,av];exact⟨h y (by simp),Yl λx I=>h x (by simp[I])⟩
theorem cW.flat {φ φ':PM} {O O':Nat->Prop} {w w':World} {x:AV} {v:Value} (h:cW φ O w x v):x.fl=ai->cW φ' O' w' x v:=by
 induction h with
 |f h=>intro hf;exact .f (h.flat hf)
 |ptr h=>intro hf;cases hf
 |sl h hn hc=>intro hf;cases hf
 |row h hn hc hsh=>intro hf;cases hf
 |emp=>intro _;exact .emp
 |anyb=>intro _;exact .anyb
 |mp h=>intro hf;cases hf
 |agg hl hcl hr J=>intro hf;exact .agg hl hcl λj x v I hv=>J j x v I hv (Lm hf x (ba I))
 |tup hl hr J=>intro hf;exact .tup hl λj x v I hv=>J j x v I hv (Lm hf x (ba I))
 |clo hl hr J=>intro hf;cases hf
mutual
theorem ak6 (γ:Nat->Nat):∀x:AV,x.fl=ai->x.ren γ=x
 |.f x,_=>rfl
 |.emp,_=>rfl
 |.anyb,_=>rfl
 |.agg l,h=>by simp only[AV.ren];rw[Is γ l h]
 |.tup l,h=>by simp only[AV.ren];rw[Is γ l h]
 |.ptr _ _,h=>by cases h
 |.sl _ _ _,h=>by cases h
 |.row _ _ _,h=>by cases h
 |.mp _,h=>by cases h
 |.clo _ _,h=>by cases h
theorem Is (γ:Nat->Nat):∀l:List AV,AV.flL l=ai->AV.renL γ l=l
 |[],_=>rfl
 |x::r,h=>by
  simp only[AV.flL,av]at h;rw[AV.renL,ak6 γ x h.1,Is γ r h.2]
end
theorem AE:∀(T:Ty),T.flat=ai->∀x:T.den,∀y∈bS T x,y.fl=ai
 |.int _,_,x,y,I=>by simp only[bS,aL]at I;subst I;rfl
 |.bool,_,x,y,I=>by simp only[bS,aL]at I;subst I;rfl
 |.str,_,x,y,I=>by simp only[bS,aL]at I;subst I;rfl
 |.sl _,h,x,y,I=>by cases h
 |.st t,h,x,y,I=>AE t h x y I
 |.pr a b,h,x,y,I=>by
  simp only[Ty.flat,av]at h;simp only[bS,bV]at I;exact I.elim (AE a h.1 x.1 y) (AE b h.2 x.2 y)
 |.un,_,x,y,I=>by simp[bS]at I
 |.ex,h,_,_,_=>by cases h
 |.sm,h,_,_,_=>by cases h
theorem age (T:Ty) (h:T.flat=ai) (x:T.den):(gK T x).fl=ai:=by
 cases I:T.one with
 |true=>
  have:=AE T h x (gK T x) (by rw[(DF T x I).1];simp);exact this
 |false=>rw[qQ T x I];exact acv (AE T h x)
theorem QZ (a b:Ty):(spr a b).flat=(a.flat&&b.flat):=by
 cases a<;>cases b<;>simp[spr,Hp,Ty.flat]
theorem Ji {n:Nat}:∀{a b:List TV},rO n (a++b)=ai->rO n a=ai/\rO n b=ai
 |[],b,h=>⟨rfl,h⟩
 |x::r,b,h=>by
  simp only[gr,rO,av]at h ⊢;obtain⟨h1,h2⟩:=Ji h.2;exact⟨⟨h.1,h1⟩,h2⟩
mutual
theorem afe {g:Nat->Nat} {h:bi}:∀(p:PV) (x:p.ty.den) (cs:List TV) (l:List AV),p.ty.flat=ai->qi g p x=af cs->rO 0 cs=ai->cU h cs=af l->∀y∈l,y.fl=ai
 |.d T,x,cs,l,hf,hp,_,hl,y,hy=>by
  have:=(lV h 40 T x cs hp).1;rw[hl]at this;cases this;obtain⟨q,hq,rfl⟩:=c_.1 hy;exact AE T hf x q hq
 |.ptr i q,x,cs,l,hf,hp,hlt,hl,y,hy=>by
  simp only[qi,ak]at hp;subst hp;simp[rO,LZ]at hlt
 |.csl i q z,x,cs,l,hf,hp,hlt,hl,y,hy=>by
  simp only[qi,ak]at hp;subst hp;simp[rO,LZ]at hlt
 |.clo q i z,x,cs,l,hf,hp,hlt,hl,y,hy=>by
  simp only[qi,ak]at hp;subst hp;simp[rO,LZ]at hlt
 |.row i,x,cs,l,hf,hp,hlt,hl,y,hy=>by
  simp only[qi,ak]at hp;subst hp;simp[rO,LZ]at hlt
 |.mp i,x,cs,l,hf,hp,hlt,hl,y,hy=>by
  simp only[qi,ak]at hp;subst hp;simp[rO,LZ]at hlt
 |.nil,x,cs,l,hf,hp,hlt,hl,y,hy=>by
  simp only[qi,ak]at hp;subst hp;simp only[cU,cz,ak]at hl;subst hl;simp only[aL]at hy;subst hy;rfl
 |.emp,x,cs,l,hf,hp,hlt,hl,y,hy=>by
  simp only[qi,ak]at hp;subst hp;simp only[cU,cz,ak]at hl;subst hl;simp only[aL]at hy;subst hy;rfl
 |.agg ps,x,cs,l,hf,hp,hlt,hl,y,hy=>IZ ps x cs l hf hp hlt hl y hy
theorem IZ {g:Nat->Nat} {h:bi}:∀(ps:List PV) (x:(PV.tyL ps).den) (cs:List TV) (l:List AV),(PV.tyL ps).flat=ai->rk g ps x=af cs->rO 0 cs=ai->cU h cs=af l->∀y∈l,y.fl=ai
 |[],x,cs,l,hf,hp,hlt,hl,y,hy=>by
  simp only[rk,ak]at hp;subst hp;simp only[cU,ak]at hl;subst hl;cases hy
 |p::ps,x,cs,l,hf,hp,hlt,hl,y,hy=>by
  simp only[PV.tyL]at hf;rw[QZ,av]at hf;simp only[rk]at hp;split at hp
  .rename_i a ha;split at hp
   .rename_i b hb;simp only[ak]at hp;subst hp;obtain⟨a',b',rfl,e1,e2⟩:=Co hl;have hsp:=Ji hlt;rcases bV.1 hy with hy|hy
    .exact afe p _ a a' hf.1 ha hsp.1 e1 y hy
    .exact IZ ps _ b b' hf.2 hb hsp.2 e2 y hy
   .cases hp
  .cases hp
end
theorem afc {g:Nat->Nat} {h:bi} {p:PV} {x:p.ty.den} {u:TV} {y:AV} (hf:p.ty.flat=ai) (hp:tP g p x=af u) (hlt:LZ 0 u=ai) (I:cz h u=af y):y.fl=ai:=by
 cases p with
 |d T=>
  simp only[tP,ak]at hp;subst hp;simp only[cz,ak]at I;subst I;exact age T hf x
 |agg ps=>
  simp only[tP]at hp;split at hp
  .rename_i l hl;simp only[ak]at hp;subst hp;simp only[cz]at I;split at I
   .rename_i M J;simp only[ak]at I;subst I;exact Yl (IZ ps _ l M hf hl hlt J)
   .cases I
  .cases hp
 |ptr i q=>simp only[tP,ak]at hp;subst hp;simp[LZ]at hlt
 |csl i q z=>simp only[tP,ak]at hp;subst hp;simp[LZ]at hlt
 |row i=>simp only[tP,ak]at hp;subst hp;simp[LZ]at hlt
 |clo q i z=>simp only[tP,ak]at hp;subst hp;simp[LZ,rO]at hlt
 |mp i=>simp only[tP,ak]at hp;subst hp;simp[LZ]at hlt
 |nil=>simp only[tP,ak]at hp;subst hp;simp only[cz,ak]at I;subst I;rfl
 |emp=>simp only[tP,ak]at hp;subst hp;simp only[cz,ak]at I;subst I;rfl
theorem Rg {g:Nat->Nat} {h:bi}:∀(ps:List PV) (x:(PV.tyL ps).den) (us:List TV) (l:List AV),(PV.tyL ps).flat=ai->qp g ps x=af us->rO 0 us=ai->cU h us=af l->AV.flL l=ai
 |[],x,us,l,hf,hp,hlt,hl=>by
  simp only[qp,ak]at hp;subst hp;simp only[cU,ak]at hl;subst hl;rfl
 |p::ps,x,us,l,hf,hp,hlt,hl=>by
  simp only[PV.tyL]at hf;rw[QZ,av]at hf;simp only[qp]at hp;split at hp
  .rename_i a I;split at hp
   .rename_i b hb;simp only[ak]at hp;subst hp;obtain⟨y,l2,rfl,e1,e2⟩:=c7 hl;simp only[rO,av]at hlt;simp only[AV.flL,av];exact⟨afc hf.1 I hlt.1 e1,Rg ps _ b l2 hf.2 hb hlt.2 e2⟩
   .cases hp
  .cases hp
theorem af5:∀{l:List AV},AV.flL l=ai->(EA l).fl=ai
 |[],_=>rfl
 |[x],h=>by simp only[AV.flL,av]at h;exact h.1
 |x::y::r,h=>h
theorem agt {P:Program} {o:Oper} {e:iU} {h:bi} {nx:Nat} {f:FuncId} {c:cq} {l:List TV} (hinv:mj h nx) (sp:qf P f c) {x:c.pre.ty.den} {m:Nat} {σ:PT Nat} {sm:Nat} (M:Iy 0 c.pre l h x m σ sm) {vs:List TV} {hp:bi} {l1:List (Option iw)} (I:qX c.pre x vs hp l1) {y:c.post.ty.den} (hm:c.m x=af y) {rs:List TV} {hq:bi} {l2:List (Option iw)} (J:qX c.post y rs hq l2) (hp0:c.pre.bs.length=0) (hq0:c.post.bs.length=0) (hfl:(PV.tyL c.post.vs).flat=ai)
 (g:Nat->Nat) {la:List AV} (hla:cU h l=af la)
 (hexec:∀(φ:PM) (E:Nat->Prop) (h':HF) (w:World) (a:Act),(∀t,.tmp t∈o.op.operands->∀y,fY e h t=af y->cW φ (tot E φ h') w y (a.tmps.getD t undef))->rq φ E h' w->∃us:ξ,(execOp a.eval o).run P w= .ok (.enter f us.toArray) w/\j9 φ (tot E φ h') w la us):
 js P o aj e h nx (Ra (kG g rs)) m 0 h nx:=by
 obtain⟨x1,m1,x2,m2,hx,hmm,gv,gb⟩:=M.ex;have hmr:dU h m:=by rw[hmm];exact (In _ _ _ _ gv).or (Ip _ _ _ _ gb)
 have pvg:qp (ii σ) c.pre.vs x1=af (kG (ii σ) vs):=by
  have U:=ud (ii σ) c.pre.vs x1;have h4:=I.pv;rw[hx,t7]at h4;rw[U,h4];rfl
 obtain⟨lr,hlr⟩:=fE hq rs J.ok;obtain⟨lp,hlp⟩:=fE hp vs I.ok;have hfl':AV.flL lr=ai:=Rg c.post.vs _ rs lr hfl J.pv (by rw[<- hq0];exact J.lt) hlr;have hpe:∀i,hp.get i=ah:=λi=>by
  cases hb:hp.get i with
  |none=>rfl
  |some b=>have:=I.lt_len hb;omega
 have hqe:∀i,hq.get i=ah:=λi=>by
  cases hb:hq.get i with
  |none=>rfl
  |some b=>have:=J.lt_len hb;omega
 have rows_hp:∀i r,eH hp i=af r->eH (eJ m h) (ii σ i)=af r:=λi r hr=>by rw[bU,hpe]at hr;cases hr
 have rows_hq:∀i r,eH hq i=af r->eH h (g i)=af r:=λi r hr=>by rw[bU,hqe]at hr;cases hr
 have rows_in:yq (eJ m h) h:=λj r hr=>by
  rw[bU]at hr ⊢;rw[jf]at hr;split at hr
  .rename_i ht;obtain⟨ty,p,T,xs,hb⟩:=hmr j ht;rw[hb]at hr ⊢;exact hr
  .exact hr
 have hOpT:gQ P o (fY e h) (bC h) ⟨EA lr,Gb m,[],λ_=>ah,[]⟩:=by
  intro φ E h' w a hrd hwr hops hrep hN;obtain⟨us,hrun,hrel⟩:=hexec φ E h' w a hops hrep
  let Hv:HF:=λn=>if n∈Gb m then ah else h' n
  have Hv_in:∀n,n∈Gb m->Hv n=ah:=λn hn=>by simp only[Hv,hn,bG]
  have Hv_out:∀n,n∉Gb m->Hv n=h' n:=λn hn=>by simp only[Hv,hn,ef]
  have hd:vU h' Hv:=λn b hb=>by
   by_cases hn:n∈Gb m
   .rw[Hv_in n hn]at hb;cases hb
   .rw[Hv_out n hn]at hb;exact⟨b,hb⟩
  have gvv:Ey h h' Hv m:=λi hi=>⟨hrd _ (lJ.2 hi),Hv_in _ (lJ.2 hi)⟩
  have V:Ln h' Hv:=⟨hd,λn b b' hb Y=>by
   by_cases hn:n∈Gb m
   .rw[Hv_in n hn]at Y;cases Y
   .rw[Hv_out n hn,hb]at Y;cases Y;exact j_.refl hd b⟩
  have hrepv:=V.rep hrep;have hlpg:cU (eJ m h) (kG (ii σ) vs)=af (AV.renL (Iq (ii σ)) lp):=qP rows_hp vs lp hlp;have hrel1:j9 φ (tot E φ Hv) w (AV.renL (Iq (ii σ)) lp) us:=
   j9.le hrep (Dw hd rows_in c.pre.vs l x1 m1 _ la _ gv pvg hla hlpg (λi hi=>gvv i (by rw[hmm,bu,hi];rfl))) hrel
  let E':Nat->Prop:=λk=>E k\/∃n b,Hv n=af b/\φ n=af k
  have T:ah9 c.pre x vs hp (ii σ) φ E E' Hv w:=by
   refine rq.toId I (λa b ha=>by omega) hrepv (λi b yb hb=>by rw[hpe]at hb;cases hb) ?_ (λi k b hi=>by omega) ?_
   .rintro k (hE|⟨n,b,h1,U⟩)
    .exact .inl hE
    .exact .inr ⟨n,b,h1,U⟩
   .rintro k (hE|⟨n,b,h1,U⟩)
    .exact hrepv.el k hE
    .obtain⟨k',Z,_,ob,q3,_⟩:=hrepv.at_ n b h1;rw[U]at Z;cases Z;exact (cJ.1 q3).1
  have hcalls:=sp.calls x y hm vs hp l1 rs hq l2 lp lr I J hlp hlr (φ1 c.pre.bs.length (ii σ) φ) E' w us T.rep (j9.toId T.val (tW vs lp I.lt hlp) hrel1) (λn k hk=>by
   obtain⟨i,hi,rfl,_⟩:=xE hk;rw[ec];exact hi)
  unfold H7;rw[hrun];refine Calls.mono hcalls ?_;rintro en w' ⟨v,φc',rfl,hext,hown,hnm,rp,rv'⟩;have hno:∀k,¬own (φ1 c.pre.bs.length (ii σ) φ) (bC hp) k:=by
   rintro k ⟨n,b,h1,_⟩;obtain⟨i,bb,_,U,_⟩:=jE h1;rw[hpe]at U;cases U
  have mv:jg φ φ h' h' w w':=⟨λ_ _ h=>h,hext.mono λk hk=>cY hk (hno k),λ_ _ h=>h⟩
  refine ⟨v,φ,rfl,?_,λ_ _ h=>.inl h,?_,?_⟩
  .rw[uo];exact mv
  .rw[uo];refine hrep.moved mv λk hk=>?_
   obtain⟨n,b,h1,U⟩:=hk;obtain⟨k',Z,_,ob,q3,_⟩:=hrep.at_ n b h1;rw[U]at Z;cases Z;exact hext.blk k (cJ.1 q3).1 (hno k)
  .exact rv'.flat (af5 hfl')
 have hrsg:cU h (kG g rs)=af (AV.renL (Iq g) lr):=qP rows_hq rs lr hlr;refine ⟨⟨_,hOpT,λz hz=>?_,?_,λn hn=>?_,by simp,by simp⟩,λ_ _ h=>h,hinv,bX _,λhs=>by cases hs⟩
 .rw[Xl hrsg,Is _ lr hfl']at hz;cases hz;rfl
 .exact uo _ _
 .obtain⟨i,rfl,hi⟩:=oa.1 hn;rw[ec];exact hi
def cq.full (c:cq):cq:=⟨c.pre,⟨c.post.vs,c.pre.bs⟩,λx=>obind (c.m x) λy=>af (U2 (PV.tyL c.post.vs) (PB.tyL c.pre.bs) (Pt _ _ y) (LP _ _ x))⟩
def aI (P:Program) (f:FuncId) (c:cq):Prop:=if eO c.pre.bs.length c.post.bs.length=ai then qf P f c else qf P f c.full
theorem qf.toC {P:Program} {f:FuncId} {c:cq} (h:qf P f c) (hb:eO c.pre.bs.length c.post.bs.length=ai):aI P f c:=by
 unfold aI;rw[aD hb];exact h
theorem aI.holds {P:Program} {f:FuncId} {c:cq} (h:aI P f c) (hb:eO c.pre.bs.length c.post.bs.length=ai):qf P f c:=by
 unfold aI at h;rw[aD hb]at h;exact h
theorem afs (a b:Ty) (z:(spr a b).den):U2 a b (Pt a b z) (LP a b z)=z:=by cases a<;>cases b<;>rfl
open Classical in
def roM {pre:Tm} {vs:List PV} (m:pre.ty.den->Option (Tm.ty ⟨vs,pre.bs⟩).den) (x:pre.ty.den):Option (Tm.ty ⟨vs,[]⟩).den:=
 obind (m x) λy=>if LP (PV.tyL vs) (PB.tyL pre.bs) y=LP _ _ x then af (U2 (PV.tyL vs) (PB.tyL []) (Pt (PV.tyL vs) (PB.tyL pre.bs) y) ()) else ah
theorem aI.ro {P:Program} {f:FuncId} {pre:Tm} {vs:List PV} {m:pre.ty.den->Option (Tm.ty ⟨vs,pre.bs⟩).den} {m':pre.ty.den->Option (Tm.ty ⟨vs,[]⟩).den} (h:qf P f ⟨pre,⟨vs,pre.bs⟩,m⟩) (hb:eO pre.bs.length 0=aj) (hs:∀x y,m' x=af y->roM m x=af y):aI P f ⟨pre,⟨vs,[]⟩,m'⟩:=by
 unfold aI;rw[ay (by show ¬eO pre.bs.length 0=ai;rw[hb];exact Bool.false_ne_true)];refine ⟨h.callable,λx y hxy=>?_⟩;refine h.calls x y ?_;have hxy:obind (m' x) (λy=>af (U2 (PV.tyL vs) (PB.tyL pre.bs) (Pt (PV.tyL vs) (PB.tyL []) y) (LP _ _ x)))=af y:=hxy;obtain⟨z,M,hzy⟩:=dM hxy;have h1:=hs x z M;unfold roM at h1;obtain⟨y0,J,h2⟩:=dM h1;split at h2
 .rename_i heq;have h2:=jZ h2;have hzy:=jZ hzy;subst h2;have I:U2 (PV.tyL vs) (PB.tyL pre.bs) (Pt (PV.tyL vs) (PB.tyL pre.bs) y0) (LP (PV.tyL pre.vs) (PB.tyL pre.bs) x)=y:=(gM (λq=>U2 (PV.tyL vs) (PB.tyL pre.bs) q (LP (PV.tyL pre.vs) (PB.tyL pre.bs) x)) (t7 (PV.tyL vs) (PB.tyL []) _ ()).symm).trans hzy;rw[<- heq]at I;have:=(afs (PV.tyL vs) (PB.tyL pre.bs) y0).symm.trans I;exact J.trans (gM af this)
 .cases h2
theorem js.drop {P:Program} {o:Oper} {e:iU} {h h':bi} {nx nx':Nat} {v:TV} {rd wr W wr':Nat} (t:js P o aj e h nx v rd wr h' nx') (hW:∀i,aN W i=ai->bC h' (nm i)=bC h (nm i)/\aN rd i=ai) (M:∀i,aN wr i=ai->aN W i=ai\/aN wr' i=ai):js P o aj e h nx v rd wr' h' nx':=by
 obtain⟨⟨f,h1,h2,J,h4,h5,Z⟩,r,i,g,st⟩:=t;have hs:∀n,aN W (ow n)=ai->bC h' n=bC h n:=λn hn=>by
  by_cases I:∃i,n=nm i
  .obtain⟨i,rfl⟩:=I;rw[ec]at hn;exact (hW i hn).1
  .rw[wX h I,wX h' I]
 have hup:∀H:HF,(∀n∈f.wr,H n=bC h n)->eZ H (f.wr.filter λn=> !(aN W (ow n))) f.nw=eZ H f.wr f.nw:=λH Y=>by
  funext n;unfold eZ;by_cases hn:n∈f.wr
  .by_cases hb:aN W (ow n)=ai
   .rw[ay (by simp[hb]),aD hn];have:=congrFun J n;unfold eZ at this;rw[aD hn,hs n hb]at this;rw[this,Y n hn]
   .rw[aD (by simp[hn,hb]),aD hn]
  .rw[ay (by simp[hn]),ay hn]
 refine ⟨⟨⟨f.val,f.rd++(f.wr.filter λn=>aN W (ow n)),f.wr.filter λn=> !(aN W (ow n)),f.nw,f.N⟩,?_,h2,?_,λn hn=>?_,λn hn=>?_,Z⟩,r,i,g,λhs=>by cases hs⟩
 .intro φ E H w a hrd hwr hops hrep U;have k1:∀i∈f.rd,H i=bC h i:=λi hi=>hrd i (lx _ hi)
  have k2:∀i∈f.wr,H i=bC h i:=λi hi=>by
   cases hb:aN W (ow i) with
   |true=>exact hrd i (nN _ (by simp[hi,hb]))
   |false=>exact hwr i (by simp[hi,hb])
  have:=h1 φ E H w a k1 k2 hops hrep U;simp only[hup H k2];exact this
 .simp only[hup (bC h) (λ_ _=>rfl)];exact J
 .rcases bV.1 hn with hn|hn
  .exact h4 n hn
  .simp only[xC]at hn;exact (hW _ hn.2).2
 .simp only[xC,eC]at hn;rcases M _ (h5 n hn.1) with hh|hh
  .rw[hn.2]at hh;cases hh
  .exact hh
mutual
theorem aby {n n':Nat} (hle:n<=n'):∀(v:TV),LZ n v=ai->LZ n' v=ai
 |.row id,h=>by simp only[LZ,Nat.blt_eq]at h ⊢;omega
 |.rtl id _,h=>by simp only[LZ,Nat.blt_eq]at h ⊢;omega
 |.pel id _ _ _,h=>by simp only[LZ,Nat.blt_eq]at h ⊢;omega
 |.ptr id _,h=>by simp only[LZ,Nat.blt_eq]at h ⊢;omega
 |.csl id _ _,h=>by simp only[LZ,Nat.blt_eq]at h ⊢;omega
 |.mp id,h=>by simp only[LZ,Nat.blt_eq]at h ⊢;omega
 |.agg l,h=>wS hle l h
 |.tup l,h=>wS hle l h
 |.clo _ l,h=>wS hle l h
 |.f _ _,_=>rfl
 |.fel _ _ _ _ _,_=>rfl
 |.emp,_=>rfl
 |.nil,_=>rfl
 |.undef,_=>rfl
 |.np,_=>rfl
 |.anyb,_=>rfl
theorem wS {n n':Nat} (hle:n<=n'):∀(l:List TV),rO n l=ai->rO n' l=ai
 |[],_=>rfl
 |x::r,h=>by
  simp only[rO,av]at h ⊢;exact⟨aby hle x h.1,wS hle r h.2⟩
end
theorem Np {g g':Nat->Nat} {h:bi}:∀(bs:List PB) (i:Nat) (x:(PB.tyL bs).den) (m:Nat),Ix bs=ai->Bk g h i bs=af (x,m)->∃l,oM g' bs x=af l/\l.length=bs.length/\∀j,j<bs.length->∃ty p T xs,l[j]? =af (af (.rows ty p T xs))/\h.get (g (i+j))=af (.rows ty p T xs)
 |[],i,x,m,_,hg=>⟨[],rfl,rfl,λj hj=>by simp at hj⟩
 |.rows ty p T::r,i,x,m,I,hg=>by
  simp only[Bk]at hg;split at hg
  .rename_i M m1 h1;split at hg
   .rename_i J m2 h2;simp only[ak,aE]at hg;obtain⟨rfl,rfl⟩:=hg;obtain⟨l,q1,Z,q3⟩:=Np (g:=g) (g':=g') (h:=h) r (i+1) J m2 I h2;simp only[Fm]at h1;split at h1
    .rename_i ty' p' S xs hb;split at h1
     .rename_i hc;simp only[av,c5]at hc;obtain⟨rfl,rfl⟩:=hc;split at h1
      .rename_i z hz;simp only[ak]at h1;obtain⟨rfl,_⟩:=h1;obtain⟨es,ez⟩:=jr hz;cases es;subst ez;refine ⟨af (.rows ty p T M)::l,?_,by simp[Z],λj hj=>?_⟩
       .simp only[oM];rw[t7,vB,q1];rfl
       .cases j with
        |zero=>exact⟨ty,p,T,_,rfl,hb⟩
        |succ j=>
         obtain⟨a,b,c,d,Y,U⟩:=q3 j (by simpa using hj);exact⟨a,b,c,d,by simpa using Y,by rw[show i+(j+1)=i+1+j from by omega];exact U⟩
      .cases h1
     .cases h1
    .cases h1
   .cases hg
  .cases hg
 |.rowsP _ _::r,i,x,m,I,hg=>by cases I
 |.cells _ _::r,i,x,m,I,hg=>by cases I
 |.mp _ _::r,i,x,m,I,hg=>by cases I
 |.gone::r,i,x,m,I,hg=>by cases I
theorem Ga:∀{bs:List PB},Ix bs=ai->B5 bs=ai
 |[],_=>rfl
 |.rows _ _ _::r,h=>Ga (bs:=r) h
 |.rowsP _ _::r,h=>by cases h
 |.cells _ _::r,h=>by cases h
 |.mp _ _::r,h=>by cases h
 |.gone::r,h=>by cases h
theorem F7 {h h2:bi} {g:Nat->Nat}:∀(n:Nat),(∀i,i<n->h2.get (g i)=h.get (g i))->ur h h2 g n=ai
 |0,_=>rfl
 |n+1,hs=>by
  simp only[ur,av];refine ⟨?_,F7 n λi hi=>hs i (by omega)⟩;have:eH h2 (g n)=eH h (g n):=by rw[bU,bU,hs n (by omega)]
  rw[this];cases eH h (g n) with
  |none=>rfl
  |some q=>obtain⟨p,s,k⟩:=q;simp
def LC (P:Program) (con:FuncId->Option cq):Prop:=∀f c,con f=af c->aI P f c
theorem Yc {R:Type} {P:Program} {con:FuncId->Option cq} (hcon:LC P con) {o:Oper} {e:iU} {h:bi} {nx:Nat} {f:FuncId} {l:List TV} {K:KO R} {r:R} (hinv:mj h nx) (hk:Yd con f l h nx K=af r) {la:List AV} (hla:cU h l=af la)
 (hexec:∀(φ:PM) (E:Nat->Prop) (h':HF) (w:World) (a:Act),Et P f->(∀t,.tmp t∈o.op.operands->∀y,fY e h t=af y->cW φ (tot E φ h') w y (a.tmps.getD t undef))->rq φ E h' w->∃us:ξ,(execOp a.eval o).run P w= .ok (.enter f us.toArray) w/\j9 φ (tot E φ h') w la us):kU P o aj e h nx K r:=by
 unfold Yd at hk;split at hk
 .rename_i c hc;have spc:=hcon f c hc;split at hk
  .rename_i x m σ sm hM;split at hk
   .rename_i q hq;obtain⟨vs,hp⟩:=q;obtain⟨l1,I⟩:=wT hq;obtain⟨y,hy,hk⟩:=dM hk;split at hk
    .rename_i q2 hq2;obtain⟨rs1,Z⟩:=q2;obtain⟨l2,J⟩:=wT hq2;split at hk
     .rename_i hcond;simp only[av]at hcond;have hle:=a8 hcond.1;have sp:=spc.holds hcond.1;simp only at hk;split at hk
      .rename_i rs hrs;have hrs':=hrs;rw[ud,J.pv]at hrs';simp only[co,ak]at hrs';split at hk
       .rename_i hb;simp only[av]at hb;have hq0:=aw hb.1.2;refine ⟨_,_,_,_,_,hk,?_⟩;rw[<- hrs'];exact agt hinv sp (wP hM) I hy J (by omega) hq0 hb.2 _ hla λφ E h' w a=>hexec φ E h' w a sp.callable
       .split at hk
        .rename_i h2 U;obtain⟨hsr,hk⟩:=dY hk;refine ⟨_,_,_,_,_,hk,?_⟩;rw[<- hrs'];unfold M9 at U;rw[wF,J.pb]at U;simp only[co,ak]at U;exact ade hinv sp (wP hM) I hcond.2 hy J hle (λi hi=>by
          have:gm i c.pre.bs.length=ai:=bE hi;simp only[this,bG]) (λi hi=>by
          have:gm i c.pre.bs.length=aj:=by
           cases hb:gm i c.pre.bs.length with
           |false=>rfl
           |true=>have:=a8 hb;omega
          simp only[this];rfl) U.symm hsr hla λφ E h' w a=>hexec φ E h' w a sp.callable
        .cases hk
      .cases hk
     .rename_i hcond;split at hk
      .rename_i hro;simp only[av]at hro;have hq0:=aw hro.1;have hng:=Ga hro.2;have sp:qf P f c.full:=by
        unfold aI at spc
        rwa [ay (λhb=>hcond (by rw[hb,hng];rfl))]at spc
       simp only at hk;split at hk
       .rename_i rs hrs;split at hk
        .rename_i h2 U;have hrs':=hrs;rw[ud,J.pv]at hrs';simp only[co,ak]at hrs';refine ⟨_,_,_,_,_,hk,?_⟩;rw[<- hrs'];have M:=wP hM;unfold M9 at U;rw[wF,I.pb]at U;simp only[co,ak]at U;have hqe:∀i,Z.get i=ah:=λi=>by
          cases hb:Z.get i with
          |none=>rfl
          |some b=>have:=J.lt_len hb;omega
         have J':qX c.full.post (U2 (PV.tyL c.post.vs) (PB.tyL c.pre.bs) (Pt _ _ y) (LP _ _ x)) rs1 hp l1:=
          ⟨by show qp Ik c.post.vs (Pt (PV.tyL c.post.vs) (PB.tyL c.pre.bs) _)=_;rw[t7];exact J.pv,by show oM Ik c.pre.bs (LP (PV.tyL c.post.vs) (PB.tyL c.pre.bs) _)=_;rw[vB];exact I.pb,I.len,I.at_,ja (λi r hr=>by rw[bU,hqe]at hr;cases hr) _ J.ok,wS (by omega) _ J.lt,I.cells⟩
         obtain⟨x1,m1,x2,m2,hx,hmm,gv,gb⟩:=M.ex;obtain⟨l,q1,q2,q3⟩:=Np (g':=Ik) c.pre.bs 0 x2 m2 hro.2 gb;have hl1:l1=l:=by
          have:=I.pb;rw[hx,vB,q1]at this;cases this;rfl
         subst hl1;have hgi:∀i,i<c.pre.bs.length->(if gm i c.pre.bs.length then ii σ i else nx+(i-c.pre.bs.length))=ii σ i:=λi hi=>by
          have:gm i c.pre.bs.length=ai:=bE hi;simp only[this,bG]
         have hsame:∀i,i<c.pre.bs.length->h2.get (ii σ i)=h.get (ii σ i):=λi hi=>by
          obtain⟨ty,p,T,xs,w1,Y⟩:=q3 i hi;rw[bQ]at Y;have:=vF (λi=>if gm i c.pre.bs.length then ii σ i else nx+(i-c.pre.bs.length)) (l1.map (l8 (l_ (λi=>if gm i c.pre.bs.length then ii σ i else nx+(i-c.pre.bs.length))))) 0 (eJ m h) (λa b ha hb e=>by
           simp only[bY,q2]at ha hb;rw[bQ,bQ,hgi a ha,hgi b hb]at e;exact M.inj a b ha hb e) i (af (.rows ty p T xs)) (by rw[bc,w1];rfl)
          rw[bQ,hgi i hi]at this;rw[<- U,this,Y]
         have t:=ade (o:=o) (e:=e) hinv sp M I hng (y:=U2 (PV.tyL c.post.vs) (PB.tyL c.pre.bs) (Pt _ _ y) (LP _ _ x)) (by show obind (c.m x) _=_;rw[hy];rfl) J' (bX _) (g:=λi=>if gm i c.pre.bs.length then ii σ i else nx+(i-c.pre.bs.length)) hgi (λi hi=>by
          have:gm i c.pre.bs.length=aj:=by
           cases hb:gm i c.pre.bs.length with
           |false=>rfl
           |true=>have:=a8 hb;have hi:c.pre.bs.length<=i:=hi;omega
          simp only[this];rfl) U.symm (F7 _ λi hi=>by rw[hgi i hi];exact hsame i hi) hla λφ E h' w a=>hexec φ E h' w a sp.callable
         have t':js P o aj e h nx (Ra (kG (λi=>if gm i c.pre.bs.length then ii σ i else nx+(i-c.pre.bs.length)) rs1)) (sm|||m) (sm|||m|||(((1<<<(c.pre.bs.length-c.pre.bs.length))-1)<<<nx)) h2 (nx+(c.pre.bs.length-c.pre.bs.length)):=t;rw[vw,dx]at t';refine t'.drop (W:=sm) (λi hi=>?_) (λi hi=>?_)
         .refine ⟨?_,by rw[bu,hi];rfl⟩;obtain⟨k,hk,rfl⟩:=(M.sig i).1 hi;obtain⟨ty,p,T,xs,_,Y⟩:=q3 k hk;rw[bQ]at Y;rw[bM,bM,hsame k hk,Y];rfl
         .simp only[Nat.shiftLeft_zero,vw,Nat.zero_shiftLeft,Nat.or_zero,bu,i_]at hi;exact hi
        .cases hk
       .cases hk
      .cases hk
    .cases hk
   .cases hk
  .cases hk
 .cases hk
theorem ajm {R:Type} {P:Program} {con:FuncId->Option cq} (hcon:LC P con) {b7:TypeId->Option Ty} {o:Oper} {e:iU} {h:bi} {nx:Nat} {i:SI} {K:KO R} {r:R} (hinv:mj h nx) (hi:ub e h) (hc:yV P o.op=i) (hk:dW con b7 i e h nx K=af r):kU P o i.still e h nx K r:=by
 have callOps:∀(c:Call),o.op= .call c->∀x,x∈c.operands->x∈o.op.operands:=λc I x J=>by rw[I];exact J
 cases i with
 |call f args=>
  simp only[dW]at hk;split at hk
  .rename_i l hl;have I:∃c:Call,o.op= .call c/\c.callee= .value (.func f)/\c.args.toList=args:=by
    unfold yV at hc;split at hc
    .rename_i i hi;subst hc;unfold Qg at hi;split at hi
     .rename_i c I;split at hi
      .rename_i g hg;simp only[ak,SI.call.injEq]at hi;exact⟨c,I,by rw[hg,hi.1],hi.2⟩
      .simp at hi
      .cases hi
     .cases hi
    .split at hc<;>cases hc
   obtain⟨c,I,h1,h2⟩:=I;obtain⟨la,Z,Y⟩:=zn hi hl;refine Yc hcon hinv hk Y λφ E h' w a hcb hops hrep=>?_
   have hp:WR φ E h' w a (J4 e h) o:=λx y J U=>t8 hrep (by rw[vM];exact hops) J U
   refine ⟨args.map a.eval,?_,PC hp args la (λx J=>callOps c I x (by simp[eY,h1,<-h2]at J ⊢;exact .inr J)) Z⟩;unfold execOp;rw[I];have hm:c.args.map a.eval=(args.map a.eval).toArray:=by rw[<- h2];apply LI;simp
   simp[resolve,h1,Act.eval,Deferred.ofValue,invoke,hm,xH hcb]
  .cases hk
 |callv x args=>
  simp only[dW]at hk;split at hk
  .rename_i f cap l J hl;have I:∃c:Call,o.op= .call c/\c.callee= .value x/\c.args.toList=args:=by
    unfold yV at hc;split at hc
    .rename_i i hi;subst hc;unfold Qg at hi;split at hi
     .rename_i c I;split at hi
      .simp at hi
      .rename_i g hg;simp only[ak,SI.callv.injEq]at hi;exact⟨c,I,by rw[hg,hi.1],hi.2⟩
      .cases hi
     .cases hi
    .split at hc<;>cases hc
   obtain⟨c,I,h1,h2⟩:=I;obtain⟨la,Z,Y⟩:=zn hi hl;obtain⟨yx,g3,M⟩:=bO hi J;simp only[cz]at M;split at M
   .rename_i lc hlc;simp only[ak]at M;subst M;refine Yc hcon hinv hk (nC Y hlc) λφ E h' w a hcb hops hrep=>?_
    have hp:WR φ E h' w a (J4 e h) o:=λx y J U=>t8 hrep (by rw[vM];exact hops) J U
    have hxv:=hp x _ (callOps c I x (by simp[eY,h1])) g3;have hlv:=PC hp args la (λx J=>callOps c I x (by simp[eY,h1,<-h2]at J ⊢;exact .inr J)) Z;generalize hz:a.eval x=z at hxv;cases hxv with
    |@clo _ _ vs hvl hvr=>
     refine ⟨args.map a.eval++vs,?_,hlv.append (j9.of hvl hvr)⟩;unfold execOp;rw[I];have hm:c.args.map a.eval=(args.map a.eval).toArray:=by rw[<- h2];apply LI;simp
     simp[resolve,h1,hz,Deferred.ofValue,invoke,hm,xH hcb]
   .cases M
  .cases hk
 |op s=>
  have hc:s= .bad\/dt P o.op=af s:=by
   unfold yV at hc;split at hc
   .rename_i i hi;subst hc;unfold Qg at hi;split at hi
    .split at hi<;>simp at hi
    .cases hi
   .split at hc
    .rename_i q hq;simp only[SI.op.injEq]at hc;subst hc;exact .inr hq
    .simp only[SI.op.injEq]at hc;exact .inl hc.symm
  rcases hc with rfl|hc
  .simp[dW]at hk
  .exact K_op hinv hi hc hk
def gx (am:Nat) (e e':iU):Prop:=∀k,aN am k=aj->∀I,e'.get k=af I->∃v,e.get k=af v/\(uJ v=ai->I=v)
theorem gx.refl (am:Nat) (e:iU):gx am e e:=λ_ _ I h=>⟨I,h,λ_=>rfl⟩
theorem gx.trans {am:Nat} {a b c:iU} (h1:gx am a b) (h2:gx am b c):gx am a c:=λk hk J hv=>by
 obtain⟨I,Z,Y⟩:=h2 k hk J hv;obtain⟨v,U,M⟩:=h1 k hk I Z;refine ⟨v,U,λhf=>?_⟩;have:=M hf;subst this;exact Y hf
theorem gx.mono {am am':Nat} {a b:iU} (h:gx am a b) (hm:∀k,aN am k=ai->aN am' k=ai):gx am' a b:=λk hk=>h k (by
 cases I:aN am k with
 |false=>rfl
 |true=>rw[hm k I]at hk;cases hk)
structure ae0 (P:Program) (ops:Array Oper) (rest:List Oper) (sl:List sW) (am:Nat) (s s':TS) (fs:List FPm) (l:List (Oper×BO)):Prop where
 ops_:l.map (·.1)=rest
 chain:An P ops l (fY s.e s.h) (bC s.h) (fY s'.e s'.h) (bC s'.h)
 fsl:fs.length=l.length
 sll:sl.length=l.length
 fp:∀(j:Nat) o f q,l[j]? =af (o,f)->fs[j]? =af q->(∀n∈f.rd,aN q.rd (ow n)=ai)/\∀n∈f.wr,aN q.wr (ow n)=ai
 still:∀(j:Nat) o f so,l[j]? =af (o,f)->sl[j]? =af so->so.op.still=ai->f.rd=[]/\f.wr=[]
 names:∀(j:Nat) o f,l[j]? =af (o,f)->∀n∈f.N,s.nx<=ow n/\ow n<s'.nx
 apart_:∀(i j:Nat) oi fi oj fj,i<j->l[i]? =af (oi,fi)->l[j]? =af (oj,fj)->∀n∈fi.N,n∉fj.N
 grows:s.nx<=s'.nx
 invH:mj s'.h s'.nx
 invE:ub s'.e s'.h
 keeps:gx am s.e s'.e
theorem afd {e:iU} {h h':bi} (hi:ub e h) (hr:cu h h') (d:Option Nat) {v:TV} {y:AV} (hv:cz h' v=af y):C4 (fY e h) d y=fY (EJ e d v) h':=by
 funext t;have old:(e.get t).bind (cz h)=(e.get t).bind (cz h'):=by
  cases ht:e.get t with
  |none=>rfl
  |some x=>
   obtain⟨z,I⟩:=qu h x (hi t x ht);simp only[aH,I,gG hr x z I]
 cases d with
 |none=>simp only[C4,EJ,fY];rw[ay (by simp)];exact old
 |some d=>
  simp only[C4,EJ,fY,PT.get_set,ak];by_cases hd:d=t
  .subst hd;simp[hv]
  .rw[ay hd,ay (λe=>hd e.symm)];exact old
theorem ub.put {e:iU} {h h':bi} (hi:ub e h) (hr:cu h h') (d:Option Nat) {v:TV} (hv:LX h' v=ai):ub (EJ e d v) h':=λt x I=>by
 cases d with
 |none=>exact oN hr x (hi t x I)
 |some d=>
  simp only[EJ,PT.get_set]at I;split at I
  .cases I;exact hv
  .exact oN hr x (hi t x I)
theorem Sh {e:iU} {h:bi} {t:Nat} {v:TV} (ht:e.get t=af v):fY (e.set t (af v)) h=fY e h:=by
 funext k;simp only[fY,PT.get_set];by_cases hk:k=t
 .subst hk;simp[ht]
 .rw[ay hk]
theorem ub.set {e:iU} {h:bi} {t:Nat} {v:TV} (hi:ub e h) (ht:e.get t=af v):ub (e.set t (af v)) h:=λk x I=>by
 rw[PT.get_set]at I;split at I
 .rename_i hk;subst hk;cases I;exact hi _ _ ht
 .exact hi k x I
theorem Uz {R:Type} {e:iU} {g:Option (Nat×Bool)} {K:Bool->iU->Option R} {r:R} (h:aas e g K=af r):
 (g=ah/\K ai e=af r)\/(∃t want b,g=af (t,want)/\e.get t=af (.f .bool b)/\K (b==want) (e.set t (af (.f .bool b)))=af r)\/∃t want,g=af (t,want)/\e.get t=af .undef/\K aj e=af r:=by
 unfold aas at h;split at h
 .exact .inl ⟨rfl,h⟩
 .rename_i t want;split at h
  .rename_i b hb;refine .inr (.inl ⟨t,want,b,rfl,hb,?_⟩);cases want with
   |true=>rcases pN h with ⟨rfl,h⟩|⟨rfl,h⟩<;>exact h
   |false=>rcases pN h with ⟨rfl,h⟩|⟨rfl,h⟩<;>exact h
  .rename_i hb;exact .inr (.inr ⟨t,want,rfl,hb,h⟩)
  .cases h
theorem I2 {R:Type} {P:Program} {con:FuncId->Option cq} (hcon:LC P con) {b7:TypeId->Option Ty} {ops:Array Oper} {am:Nat} (ham:∀(j:Nat) (o:Oper) (d:Nat),ops[j]? =af o->o.dst=af d->aN am d=ai):
 ∀(rest:List Oper) (sl:List sW) (s:TS) (fs:List FPm) (K:TS->List FPm->Option R) (r:R),(∀o∈rest,∃j:Nat,ops[j]? =af o)->sq P ops rest=af sl->LU con b7 sl s fs K=af r->mj s.h s.nx->ub s.e s.h->∃s' fs' l,K s' (fs.reverse++fs')=af r/\ae0 P ops rest sl am s s' fs' l
 |[],sl,s,fs,K,r,hin,hc,hk,hH,M=>by
  simp only[sq,ak]at hc;subst hc;simp only[LU]at hk;exact⟨s,[],[],by simpa using hk,rfl,.nil _ _,rfl,rfl,by simp,by simp,by simp,by simp,bX _,hH,M,gx.refl _ _⟩
 |o::rest,sl,s,fs,K,r,hin,hc,hk,hH,M=>by
  simp only[sq]at hc;split at hc
  .rename_i sl' hsl';have hso:∃g,sl=⟨o.dst,yV P o.op,g⟩::sl'/\((g=ah/\o.guard=ah)\/∃j want t,g=af (t,want)/\o.guard=af (j,want)/\(ops[j]?).bind (·.dst)=af t):=by
    split at hc
    .rename_i hg;simp only[ak]at hc;exact⟨ah,hc.symm,.inl ⟨rfl,hg⟩⟩
    .rename_i j want hg;split at hc
     .rename_i t ht;simp only[ak]at hc;exact⟨af (t,want),hc.symm,.inr ⟨j,want,t,rfl,hg,ht⟩⟩
     .cases hc
   obtain⟨g,rfl,hg⟩:=hso;simp only[LU]at hk;have hdst:∀d,o.dst=af d->aN am d=ai:=λd hd=>by
    obtain⟨j,hj⟩:=hin o (dh ..);exact ham j o d hj hd
   have hgs:∀t want,g=af (t,want)->aN am t=ai:=λt want hgt=>by
    rcases hg with ⟨h1,_⟩|⟨j,want',t',h1,_,I⟩
    .rw[h1]at hgt;cases hgt
    .rw[h1]at hgt;cases hgt;cases hj:ops[j]? with
     |none=>rw[hj]at I;cases I
     |some oj=>rw[hj]at I;exact ham j oj t hj I
   have kput:∀(e:iU) (v:TV),gx am s.e e->gx am s.e (EJ e o.dst v):=λe v hke k hk v' hv=>by
    cases hd:o.dst with
    |none=>rw[hd]at hv;exact hke k hk v' hv
    |some d=>
     rw[hd]at hv;simp only[EJ,PT.get_set]at hv;split at hv
     .rename_i e2;rw[e2,hdst d hd]at hk;cases hk
     .exact hke k hk v' hv
   have done:∀(f:BO) (v:TV) (h':bi) (nx' rd wr:Nat) (e:iU),fY e s.h=fY s.e s.h->ub e s.h->gx am s.e e->Lo P ops o f (fY s.e s.h) (bC s.h)->(∃y,cz h' v=af y/\f.val=y)->eZ (bC s.h) f.wr f.nw=bC h'->(∀n∈f.rd,aN rd (ow n)=ai)->(∀n∈f.wr,aN wr (ow n)=ai)->(∀n∈f.N,s.nx<=ow n/\ow n<nx')->cu s.h h'->mj h' nx'->s.nx<=nx'->((yV P o.op).still=ai->f.rd=[]/\f.wr=[])->
    LU con b7 sl' ⟨EJ e o.dst v,h',nx'⟩ (⟨rd,wr⟩::fs) K=af r->∃s' fs' l,K s' (fs.reverse++fs')=af r/\ae0 P ops (o::rest) (⟨o.dst,yV P o.op,g⟩::sl') am s s' fs' l:=by
    intro f v h' nx' rd wr e hee hiE hke hst hval hheap hrd hwr hN hrows hinv' hgr hstill hrun;obtain⟨y,U,hy2⟩:=hval;obtain⟨s',fs',l,J,L⟩:=I2 hcon ham rest sl' _ _ K r (λo' ho'=>hin o' (cM _ ho')) hsl' hrun hinv' (hiE.put hrows o.dst (Fs _ _ _ U));have hg2:nx'<=s'.nx:=L.grows;refine ⟨s',⟨rd,wr⟩::fs',(o,f)::l,by simpa using J,by simp[L.ops_],.cons hst ?_,by simp[L.fsl],by simp[L.sll],?_,?_,?_,?_,dg hgr hg2,L.invH,L.invE,(kput e v hke).trans L.keeps⟩
    .have e1:C4 (fY s.e s.h) o.dst f.val=fY (EJ e o.dst v) h':=by rw[<- hee,hy2];exact afd hiE hrows o.dst U
     rw[e1,hheap];exact L.chain
    .intro j o' f' q' h1 h2;cases j with
     |zero=>simp at h1 h2;obtain⟨rfl,rfl⟩:=h1;subst h2;exact⟨hrd,hwr⟩
     |succ j=>exact L.fp j o' f' q' (by simpa using h1) (by simpa using h2)
    .intro j o' f' so h1 h2 I;cases j with
     |zero=>simp at h1 h2;obtain⟨rfl,rfl⟩:=h1;subst h2;exact hstill I
     |succ j=>exact L.still j o' f' so (by simpa using h1) (by simpa using h2) I
    .intro j o' f' h1 n hn;cases j with
     |zero=>
      simp at h1;obtain⟨rfl,rfl⟩:=h1;have:=hN n hn;exact⟨this.1,by omega⟩
     |succ j=>
      have:=L.names j o' f' (by simpa using h1) n hn;exact⟨dg hgr this.1,this.2⟩
    .intro i j oi fi oj fj hij h1 h2 n hn Y;cases j with
     |zero=>omega
     |succ j=>
      have hj:=L.names j oj fj (by simpa using h2) n Y;cases i with
      |zero=>
       simp at h1;obtain⟨rfl,rfl⟩:=h1;have I:=(hN n hn).2;have Z:nx'<=ow n:=hj.1;omega
      |succ i=>exact L.apart_ i j oi fi oj fj (by omega) (by simpa using h1) (by simpa using h2) n hn Y
   have runs:∀(e:iU),fY e s.h=fY s.e s.h->ub e s.h->gx am s.e e->(∀f,gQ P o (fY s.e s.h) (bC s.h) f->Lo P ops o f (fY s.e s.h) (bC s.h))->dW con b7 (yV P o.op) e s.h s.nx (λv rd wr h nx=>if LX h v then LU con b7 sl' ⟨EJ e o.dst v,h,nx⟩ (⟨rd,wr⟩::fs) K else ah)=af r->∃s' fs' l,K s' (fs.reverse++fs')=af r/\ae0 P ops (o::rest) (⟨o.dst,yV P o.op,g⟩::sl') am s s' fs' l:=by
    intro e hee hiE hke hstep hk;obtain⟨v,rd,wr,h',nx',J,T⟩:=ajm hcon hH hiE rfl hk;simp only[]at J;split at J
    .rename_i hok;obtain⟨f,t1,t2,t3,t4,t5,t6⟩:=T.ex;rw[hee]at t1;obtain⟨y,hy⟩:=qu h' v hok;refine done f v h' nx' rd wr e hee hiE hke (hstep f t1) ⟨y,hy,t2 y hy⟩ t3 t4 t5 t6 T.rows T.inv T.grows (λhs=>?_) J;obtain⟨r0,w0⟩:=T.st hs;subst r0;subst w0;constructor
     .cases hl:f.rd with
      |nil=>rfl
      |cons n q=>have:=t4 n (by rw[hl];simp);simp at this
     .cases hl:f.wr with
      |nil=>rfl
      |cons n q=>have:=t5 n (by rw[hl];simp);simp at this
    .cases J
   have skips:∀(e:iU),fY e s.h=fY s.e s.h->ub e s.h->gx am s.e e->Lo P ops o r9 (fY s.e s.h) (bC s.h)->LU con b7 sl' ⟨EJ e o.dst .undef,s.h,s.nx⟩ (⟨0,0⟩::fs) K=af r->∃s' fs' l,K s' (fs.reverse++fs')=af r/\ae0 P ops (o::rest) (⟨o.dst,yV P o.op,g⟩::sl') am s s' fs' l:=by
    intro e hee hiE hke hstep hk;exact done r9 .undef s.h s.nx 0 0 e hee hiE hke hstep ⟨_,rfl,rfl⟩ (by funext i;simp[eZ,r9]) (by simp[r9]) (by simp[r9]) (by simp[r9]) (cu.refl _) hH (bX _) (λ_=>⟨rfl,rfl⟩) hk
   rcases Uz hk with ⟨h1,hk⟩|⟨t,want,b,h1,hb,hk⟩|⟨t,want,h1,hb,hk⟩
   .refine runs s.e rfl M (gx.refl _ _) (λf hf=>?_) hk;rcases hg with ⟨_,hg⟩|⟨j,want,t,h2,_,_⟩
    .exact .run hg hf
    .rw[h1]at h2;cases h2
   .rcases hg with ⟨h2,_⟩|⟨j,want',t',h2,I,Z⟩
    .rw[h1]at h2;cases h2
    .rw[h1]at h2;cases h2;have hgt:=hgs t want h1;have heb:fY s.e s.h t=af (.f (.raw (.bool b))):=by simp only[fY,hb,aH,cz];rfl
     have hke:gx am s.e (s.e.set t (af (.f .bool b))):=λk hk v' hv=>by
      rw[PT.get_set]at hv;split at hv
      .rename_i ek;rw[ek,hgt]at hk;cases hk
      .exact⟨v',hv,λ_=>rfl⟩
     cases hbw:(b==want) with
     |true=>
      rw[hbw]at hk;have:b=want:=by simpa using hbw
      subst this;exact runs _ (Sh hb) (M.set hb) hke (λf hf=>.runG j t b I Z heb hf) hk
     |false=>
      rw[hbw]at hk;refine skips _ (Sh hb) (M.set hb) hke (.skip j t want I Z (.bool b) heb ?_ rfl) hk;intro hv;cases hv;simp at hbw
   .rcases hg with ⟨h2,_⟩|⟨j,want',t',h2,I,Z⟩
    .rw[h1]at h2;cases h2
    .rw[h1]at h2;cases h2;exact skips _ rfl M (gx.refl _ _) (.skip j t want I Z undef (by simp only[fY,hb,aH,cz]) (by unfold undef;simp) rfl) hk
  .cases hc
theorem afo {P:Program} {ops:Array Oper} {sl:List sW} {am:Nat} {s s':TS} {fs:List FPm} {l:List (Oper×BO)} {prs:List (Nat×Nat)} (hl:ae0 P ops ops.toList sl am s s' fs l) (hp:M_ ops sl=af prs) (hok:F9 fs prs=ai):NIP ops l:=by
 unfold M_ at hp;simp only[]at hp;split at hp
 .rename_i hall;simp only[gu,jU,av]at hall;simp only[ak]at hp;have hop:∀(j:Nat) o f,l[j]? =af (o,f)->ops[j]? =af o:=λj o f hj=>by
   have h1:(l.map (·.1))[j]? =af o:=by rw[bc,hj];rfl
   rw[hl.ops_]at h1;simpa using h1
  have hsize:∀(j:Nat) o,ops[j]? =af o->j<ops.size:=λj o h=>(cJ.1 h).1
  have hprs:∀i j,(i,j)∈prs->∃a b,fs[i]? =af a/\fs[j]? =af b/\D5 a.wr b.rd=ai/\D5 a.wr b.wr=ai/\D5 b.wr a.rd=ai:=by
   clear hp hall;induction prs with
   |nil=>intro i j h;cases h
   |cons p prs ih=>
    obtain⟨i0,j0⟩:=p;simp only[F9,av,XR]at hok;intro i j hm;rcases bm.1 hm with h|h
    .cases h;have h1:=hok.1;split at h1
     .rename_i a b Z hb;simp only[av]at h1;exact⟨a,b,Z,hb,h1.1.1,h1.1.2,h1.2⟩
     .cases h1
    .exact ih hok.2 i j h
  refine ⟨λj o ho e he hb=>?_,λi j oi fi oj fj hij hi hj=>?_,hl.apart_⟩
  .have:=(hall j (hsize j o ho)).1;rw[ho]at this;simp only[Option.all_some,gu]at this;have:=this e (by simpa using he);simp[hb]at this;exact this
  .have h1:=hop i oi fi hi;have h2:=hop j oj fj hj;have hcase:=(hall j (hsize j oj h2)).2 i hij;rw[h1,h2]at hcase;simp only[i_]at hcase;by_cases M:aN ((Ld ops.toList []).getD j 0) i=ai
   .left;rw[aA]at M;cases I:(Ld ops.toList [])[j]? with
    |none=>rw[I]at M;simp at M
    |some B=>
     rw[I]at M;exact N8 (ops:=ops) ops.toList [] (λj o hj=>by simpa using hj) (λj B hj=>by simp at hj) j B I i (by simpa using M)
   .right;have hap:=hcase.resolve_left M;refine ⟨hap,?_⟩;have hil:i<l.length:=(bl.1 hi).1;have hjl:j<l.length:=(bl.1 hj).1;have hsi:=aB (show i<sl.length by rw[hl.sll];exact hil);have hsj:=aB (show j<sl.length by rw[hl.sll];exact hjl);by_cases hst:(sl[i]'(by rw[hl.sll];exact hil)).op.still=ai
    .obtain⟨Y,U⟩:=hl.still i oi fi _ hi hsi hst;rw[Y,U];exact⟨(λx I=>by cases I),(λx _ I=>by cases I)⟩
    .by_cases hst2:(sl[j]'(by rw[hl.sll];exact hjl)).op.still=ai
     .obtain⟨Y,U⟩:=hl.still j oj fj _ hj hsj hst2;rw[Y,U];exact⟨(λx I=>⟨(by simp),(by simp)⟩),(λx I=>by cases I)⟩
     .have hmem:(i,j)∈prs:=by
       rw[<- hp,vx];refine ⟨j,jU.2 (hsize j oj h2),?_⟩;rw[List.mem_filterMap];refine ⟨i,jU.2 hij,?_⟩;rw[ay];rw[hsi,hsj];simp only[i_,not_or];exact⟨M,hst,hst2⟩
      obtain⟨a,b,Z,hb,d1,d2,d3⟩:=hprs i j hmem;obtain⟨f1,f2⟩:=hl.fp i oi fi a hi Z;obtain⟨g1,g2⟩:=hl.fp j oj fj b hj hb;refine ⟨λx I=>⟨λJ=>?_,λJ=>?_⟩,λx I J=>?_⟩
      .have:=yl d1 (ow x) (f2 x I);rw[g1 x J]at this;cases this
      .have:=yl d2 (ow x) (f2 x I);rw[g2 x J]at this;cases this
      .have:=yl d3 (ow x) (g2 x I);rw[f1 x J]at this;cases this
 .cases hp
structure o6 (P:Program) (E:Nat->Prop) (nt np:Nat) (φ:PM) (s:TS) (a:Act) (w:World):Prop where
 rep:rq φ E (bC s.h) w
 env:Od φ (tot E φ (bC s.h)) w (fY s.e s.h) a
 dom:∀n k,φ n=af k->ow n<s.nx
 low:np<=s.nx
 invH:mj s.h s.nx
 invE:ub s.e s.h
 inert:∀d∈a.defers,aej P d
 size:a.tmps.size=nt
structure CH (np:Nat) (φ φ':PM) (H H':HF) (w w':World):Prop where
 ext:LA (own φ H) w w'
 own_:∀k,k<w.heap.size->own φ' H' k->own φ H k
 par:∀i,i<np->φ' (nm i)=φ (nm i)
theorem CH.refl (np:Nat) (φ:PM) (H:HF) (w:World):CH np φ φ H H w w:=⟨LA.refl _ _,λ_ _ h=>h,λ_ _=>rfl⟩
theorem CH.trans {np:Nat} {φ φ' φ'':PM} {H H' H'':HF} {w w' w'':World} (a:CH np φ φ' H H' w w') (b:CH np φ' φ'' H' H'' w' w''):CH np φ φ'' H H'' w w'' where
 ext:=⟨b.ext.os.trans a.ext.os,b.ext.tape.trans a.ext.tape,b.ext.output.trans a.ext.output,dg a.ext.size b.ext.size,
  λk hk I=>(b.ext.blk k (dE hk a.ext.size) (λh=>I (a.own_ k hk h))).trans (a.ext.blk k hk I),
  λk hk=>(b.ext.shp k (dE hk a.ext.size)).trans (a.ext.shp k hk)⟩
 own_:=λk hk h=>a.own_ k hk (b.own_ k (dE hk a.ext.size) h)
 par:=λi hi=>(b.par i hi).trans (a.par i hi)
theorem abc {R:Type} {P:Program} {E:Nat->Prop} {nt np:Nat} {φ:PM} {s:TS} {a:Act} {w:World} {con:FuncId->Option cq} {b7:TypeId->Option Ty} (hm:P.follows .mixedOrders=ai) (hcon:LC P con) (c:o6 P E nt np φ s a w) {id:Nat} {ops:Array Oper} {draw:Bool} {sl:List sW} {prs:List (Nat×Nat)} {am:Nat} (ham:∀(j:Nat) (o:Oper) (d:Nat),ops[j]? =af o->o.dst=af d->aN am d=ai)
 (hd:(ops.toList.all λo=>match o.dst with|some d=>decide (d<nt)|none=>ai)=ai) (hc:sq P ops ops.toList=af sl) (hp:M_ ops sl=af prs) {K:TS->Option R} {r:R} (hr:LU con b7 sl s [] (λs' fs=>if F9 fs prs then K s' else ah)=af r) {Q:Exit->Act->World->Prop}
 (hQ:∀a' w' s' φ',K s'=af r->o6 P E nt np φ' s' a' w'->CH np φ φ' (bC s.h) (bC s'.h) w w'->gx am s.e s'.e->Q .normal a' w'):(Code.region id ops draw).wp P Q a w:=by
 obtain⟨s',fs',l,J,L⟩:=I2 hcon ham ops.toList sl s [] _ r (λo U=>by
  obtain⟨j,hj⟩:=fm U;exact⟨j,by simpa using hj⟩) hc hr c.invH c.invE
 have J:(if F9 fs' prs then K s' else ah)=af r:=J;by_cases hok:F9 fs' prs=ai
 .rw[aD hok]at J;refine Rc (φ0:=φ) (E:=E) hm L.ops_ L.chain (afo L hp hok) ?_ ?_ c.rep c.env ?_
  .intro n hn;obtain⟨p,I,hn⟩:=vx.1 hn;obtain⟨j,hj⟩:=fm I;have:=L.names j p.1 p.2 hj n hn;cases M:φ n with
   |none=>rfl
   |some k=>have:=c.dom n k M;omega
  .intro j o U d Y;have:=gu.1 hd o (by have:=Array.mem_of_getElem? U;simpa using this);rw[Y]at this;rw[c.size];simpa using this
  .rintro a' w' ⟨φ',m',d',Z,en',df',sz'⟩;have hnm:∀n k,φ' n=af k->φ n=af k\/(s.nx<=ow n/\ow n<s'.nx):=λn k hik=>by
    rcases d' n k hik with h|h
    .exact .inl h
    .obtain⟨p,I,hn⟩:=vx.1 h;obtain⟨j,hj⟩:=fm I;exact .inr (L.names j p.1 p.2 hj n hn)
   have hg:=L.grows;have hlow:=c.low;refine hQ a' w' s' φ' J ⟨Z,en',λn k hik=>?_,by omega,L.invH,L.invE,by rw[df'];exact c.inert,by rw[sz'];exact c.size⟩ ⟨m'.ext,m'.own_,λi hi=>?_⟩ L.keeps
   .rcases hnm n k hik with h|h
    .have:=c.dom n k h;omega
    .exact h.2
   .cases M:φ (nm i) with
    |some k=>exact m'.sub _ _ M
    |none=>
     cases hy:φ' (nm i) with
     |none=>rfl
     |some k=>
      rcases hnm (nm i) k hy with h|h
      .rw[M]at h;cases h
      .rw[ec]at h;omega
 .rw[ay hok]at J;cases J
theorem Aj:∀(l:List sW) (acc:Nat),Qj l acc=acc|||Qj l 0
 |[],acc=>by simp[Qj]
 |o::r,acc=>by
  simp only[Qj];cases o.dst with
  |none=>exact Aj r acc
  |some d=>simp only[];rw[Aj r (acc|||kT d),Aj r (0|||kT d),yX,kL]
theorem Ax:∀(l:ι) (acc:Nat),L1 l acc=acc|||L1 l 0
 |[],acc=>by simp[L1]
 |k::r,acc=>by simp only[L1];rw[Ax r (acc|||kT k),Ax r (0|||kT k),yX,kL]
theorem mi:∀(l:List Adj) (acc:Nat),oI l acc=acc|||oI l 0
 |[],acc=>by simp[oI]
 |.nil k _ _::r,acc=>by simp only[oI];rw[mi r (acc|||kT k),mi r (0|||kT k),yX,kL]
 |.cel _ _ _ _::r,acc=>by simp only[oI];exact mi r acc
 |.mpt _ _ _::r,acc=>by simp only[oI];exact mi r acc
 |.ren k _::r,acc=>by simp only[oI];rw[mi r (acc|||kT k),mi r (0|||kT k),yX,kL]
 |.pk _ _ _::r,acc=>by simp only[oI];exact mi r acc
theorem iH:∀(c:TC) (acc:Nat),c.asg acc=acc|||c.asg 0
 |.reg ops _,acc=>Aj ops acc
 |.seq a b,acc=>by simp only[TC.asg];rw[iH b (a.asg acc),iH b (a.asg 0),iH a acc,kL]
 |.jseq A a b,acc=>by simp only[TC.asg];rw[iH b (a.asg _),iH b (a.asg (L1 A.ks 0)),iH a (L1 A.ks acc),iH a (L1 A.ks 0),Ax A.ks acc,kL,kL,kL]
 |.cond _ a b,acc=>by simp only[TC.asg];rw[iH b (a.asg acc),iH b (a.asg 0),iH a acc,kL]
 |.block _ b,acc=>iH b acc
 |.jblock A _ b,acc=>by simp only[TC.asg];rw[iH b (L1 A.ks acc),iH b (L1 A.ks 0),Ax A.ks acc,kL]
 |.loop A b,acc=>by simp only[TC.asg];rw[iH b (L1 A.ks acc),iH b (L1 A.ks 0),Ax A.ks acc,kL]
 |.defer _ _ t,acc=>by simp[TC.asg]
 |.adj l c,acc=>by simp only[TC.asg];rw[iH c (oI l acc),iH c (oI l 0),mi l acc,kL]
 |.split _ _ _ _ c,acc=>iH c acc
 |.unl _ b,acc=>iH b acc
 |.skip,acc=>by simp[TC.asg]
 |.exit _,acc=>by simp[TC.asg]
 |.ret,acc=>by simp[TC.asg]
 |.bad,acc=>by simp[TC.asg]
theorem vT {c:TC} {acc k:Nat} (h:aN (c.asg 0) k=ai):aN (c.asg acc) k=ai:=by rw[iH,bu,h];simp
theorem kx {c:TC} {acc k:Nat} (h:aN acc k=ai):aN (c.asg acc) k=ai:=by rw[iH,bu,h];rfl
theorem XF:∀{l:ι} {acc k:Nat},k∈l->aN (L1 l acc) k=ai
 |[],_,_,h=>by cases h
 |x::r,acc,k,h=>by
  simp only[L1];rcases bm.1 h with rfl|h
  .rw[Ax,bu,bu,b9.2 rfl];simp
  .exact XF h
theorem TI:∀{l:List sW} {acc:Nat} {o:sW} {d:Nat},o∈l->o.dst=af d->aN (Qj l acc) d=ai
 |[],_,_,_,h,_=>by cases h
 |x::r,acc,o,d,h,hd=>by
  simp only[Qj];rcases bm.1 h with rfl|h
  .rw[hd];simp only[];rw[Aj,bu,bu,b9.2 rfl];simp
  .exact TI h hd
theorem XO:∀{e:iU} {ks:ι} {vs:List TV},ol e ks=af vs->vs.length=ks.length/\∀(j k:Nat),ks[j]? =af k->∃v,vs[j]? =af v/\e.get k=af v
 |e,[],vs,h=>by simp only[ol,ak]at h;subst h;exact⟨rfl,by simp⟩
 |e,k::r,vs,h=>by
  simp only[ol]at h;split at h
  .rename_i v hv;split at h
   .rename_i l hl;simp only[ak]at h;subst h;obtain⟨h1,h2⟩:=XO hl;refine ⟨by simp[h1],λj k' hj=>?_⟩;cases j with
    |zero=>simp at hj;subst hj;exact⟨v,rfl,hv⟩
    |succ j=>simpa using h2 j k' (by simpa using hj)
   .cases h
  .cases h
theorem I5 {e:iU} {h:bi} (hi:ub e h):∀{ks:ι} {vs:List TV},ol e ks=af vs->kV h vs=ai
 |[],vs,hg=>by simp only[ol,ak]at hg;subst hg;rfl
 |k::r,vs,hg=>by
  simp only[ol]at hg;split at hg
  .rename_i v hv;split at hg
   .rename_i l hl;simp only[ak]at hg;subst hg;simp only[kV,av];exact⟨hi k v hv,I5 hi hl⟩
   .cases hg
  .cases hg
theorem CU:∀{e:iU} {ks:ι} {vs:List TV},vs.length=ks.length->∀t v,(YB e ks vs).get t=af v->(∃j:Nat,ks[j]? =af t/\vs[j]? =af v)\/(t∉ks/\e.get t=af v)
 |e,[],[],_,t,v,h=>.inr ⟨by simp,h⟩
 |e,[],_::_,hl,t,v,h=>by simp at hl
 |e,_::_,[],hl,t,v,h=>by simp at hl
 |e,k::r,u::l,hl,t,v,h=>by
  simp only[YB,PT.get_set]at h;split at h
  .rename_i I;subst I;cases h;exact .inl ⟨0,rfl,rfl⟩
  .rename_i I;rcases CU (by simpa using hl) t v h with ⟨j,h1,h2⟩|⟨h1,h2⟩
   .exact .inl ⟨j+1,by simpa using h1,by simpa using h2⟩
   .exact .inr ⟨by simp[I,h1],h2⟩
theorem ui {am:Nat} {e:iU}:∀{ks:ι} {k:Nat} {v:TV},(Dh am e ks).get k=af v->k∈ks/\e.get k=af v/\uJ v=ai/\aN am k=aj
 |[],k,v,h=>by simp[Dh,PT.get]at h
 |x::r,k,v,h=>by
  simp only[Dh]at h;split at h
  .rename_i u hu;split at h
   .rename_i hc;simp only[av,eC]at hc;rw[PT.get_set]at h;split at h
    .rename_i I;subst I;cases h;exact⟨by simp,hu,hc.1,hc.2⟩
    .obtain⟨h1,h2⟩:=ui h;exact⟨by simp[h1],h2⟩
   .obtain⟨h1,h2⟩:=ui h;exact⟨by simp[h1],h2⟩
  .obtain⟨h1,h2⟩:=ui h;exact⟨by simp[h1],h2⟩
theorem Jn {am:Nat} {e0 e:iU}:∀{ks:ι},Ij am e0 e ks=ai->∀k v,k∈ks->e0.get k=af v->uJ v=ai->aN am k=aj->∃J,e.get k=af J
 |[],_,k,v,h,_,_,_=>by cases h
 |x::r,hc,k,v,h,hv,hf,I=>by
  simp only[Ij,av]at hc;rcases bm.1 h with rfl|h
  .have h1:=hc.1;rw[hv]at h1;simp only[hf,I,Bool.not_true,Bool.false_or]at h1;cases M:e.get k with
   |none=>rw[M]at h1;cases h1
   |some u=>exact⟨u,rfl⟩
  .exact Jn hc.2 k v h hv hf I
section walk
variable {P:Program} {E:Nat->Prop} {nt np:Nat}
theorem Sf {h:bi} {v:TV} {y:AV} (hn:afw v=ai) (I:cz h v=af y):Le y .emp:=by
 cases v with
 |nil=>simp only[cz,ak]at I;subst I;exact Le.nilEmp
 |emp=>simp only[cz,ak]at I;subst I;exact Le.refl _
 |_=>cases hn
theorem Ym {φ:PM} {s:TS} {a:Act} {w:World} (c:o6 P E nt np φ s a w) (ty:TypeId) (T:Ty):o6 P E nt np φ ⟨s.e,s.h.set s.nx (af (.rows ty ai T [])),s.nx+1⟩ a w/\bC (s.h.set s.nx (af (.rows ty ai T [])))=bC s.h/\cu s.h (s.h.set s.nx (af (.rows ty ai T []))):=by
 have hfr:=c.invH.fresh;have hr:cu s.h (s.h.set s.nx (af (.rows ty ai T []))):=cu.set λr hr=>by rw[bU,hfr]at hr;cases hr
 have J:bC (s.h.set s.nx (af (.rows ty ai T [])))=bC s.h:=by
  funext n;by_cases hn:n=nm s.nx
  .subst hn;rw[bM,bM,PT.get_set,aD rfl,hfr];rfl
  .refine kS c.invH hr λi e=>?_
   subst e;rw[PT.get_set,ay (λe=>hn (by rw[e]))]
 refine ⟨⟨by rw[J];exact c.rep,?_,λn k hk=>Ap (c.dom n k hk),iB c.low,c.invH.set hr (q_ _) (Nat.le_succ _) (λ_ _ he=>by cases he),?_,c.inert,c.size⟩,J,hr⟩
 .intro t x I;rw[J];simp only[fY]at I;cases he:s.e.get t with
  |none=>rw[he]at I;cases I
  |some q=>
   rw[he]at I;obtain⟨z,M⟩:=qu s.h q (c.invE t q he);simp only[aH,gG hr q z M,ak]at I;subst I;exact c.env t _ (by simp only[fY,he,aH,M])
 .intro t x I;exact oN hr x (c.invE t x I)
theorem zq {h:bi}:∀{a b:List TV},kV h a=ai->kV h b=ai->kV h (a++b)=ai
 |[],_,_,hb=>hb
 |x::r,b,I,hb=>by
  simp only[kV,av]at I;simp only[gr,kV,av];exact⟨I.1,zq I.2 hb⟩
theorem Na {h:bi}:∀{a:List TV} (n:Nat),kV h a=ai->kV h (a.take n)=ai
 |[],n,_=>by simp[kV]
 |x::r,0,_=>rfl
 |x::r,n+1,I=>by
  simp only[kV,av]at I;simp only[wy,kV,av];exact⟨I.1,Na n I.2⟩
theorem Nb {h:bi}:∀{a:List TV} (n:Nat),kV h a=ai->kV h (a.drop n)=ai
 |[],n,_=>by simp[kV]
 |x::r,0,I=>I
 |x::r,n+1,I=>by
  simp only[kV,av]at I;simp only[wz];exact Nb n I.2
theorem zj {α:Type} {l:List α} {j:Nat} {x:α} (h:l[j]? =af x):splice l j [x]=l:=by
 have hl:j<l.length:=by
  rcases cf j l.length with h'|h'
  .exact h'
  .rw[bR h']at h;cases h
 rw[aB hl,ak]at h;unfold splice;subst h;simp
theorem adr {φ:PM} {s:TS} {a:Act} {w:World} (c:o6 P E nt np φ s a w) {id cty j:Nat} {l:List TV} {v u:TV} (hb:s.h.get id=af (.cells cty l)) (hv:l[j]? =af v) (hn:afw v=ai) (hu:cz s.h u=af .emp) (huo:LX s.h u=ai):
 o6 P E nt np φ ⟨s.e,s.h.set id (af (.cells cty (splice l j [u]))),s.nx⟩ a w/\CH np φ φ (bC s.h) (bC (s.h.set id (af (.cells cty (splice l j [u]))))) w w:=by
 have hr:cu s.h (s.h.set id (af (.cells cty (splice l j [u])))):=cu.set λr hr=>by rw[bU,hb]at hr;cases hr
 have hlo:=c.invH.cells id cty l hb;obtain⟨J,M⟩:=fE s.h l hlo;have hsp:cU s.h (splice l j [u])=af (splice J j [.emp]):=sR j M (by simp only[cU,hu]);have hsp':cU (s.h.set id (af (.cells cty (splice l j [u])))) (splice l j [u])=af (splice J j [.emp]):=g_ hr _ _ hsp;obtain⟨y,hy,hey⟩:=mg M j v hv;have hold:bC s.h (nm id)=af ⟨cty,.mx J⟩:=by rw[bM,hb];simp only[aH,kH,M]
 have hnew:bC (s.h.set id (af (.cells cty (splice l j [u])))) (nm id)=af ⟨cty,.mx (splice J j [.emp])⟩:=by
  rw[bM,PT.get_set,aD rfl];simp only[aH,kH,hsp']
 have hoth:∀n,n≠nm id->bC (s.h.set id (af (.cells cty (splice l j [u])))) n=bC s.h n:=λn Y=>by
  refine kS c.invH hr λi e=>?_
  subst e;rw[PT.get_set,ay (λe=>Y (by rw[e]))]
 have hdom:vU (bC s.h) (bC (s.h.set id (af (.cells cty (splice l j [u]))))):=λn b U=>by
  by_cases e:n=nm id
  .subst e;exact⟨_,hold⟩
  .rw[hoth n e]at U;exact⟨b,U⟩
 have hcell:∀x∈J,x.isCell=ai:=λx I=>by
  obtain⟨k,hk⟩:=fm I;obtain⟨q,_,_,hat⟩:=c.rep.at_ _ _ hold;unfold Yv at hat;obtain⟨ob,_,hob⟩:=hat;rw[pU rfl]at hob;obtain⟨arr,_,hca⟩:=hob;exact (hca.2 k x hk).1
 have hV:Ln (bC s.h) (bC (s.h.set id (af (.cells cty (splice l j [u]))))):=⟨hdom,λn b b' h1 h2=>by
  by_cases e:n=nm id
  .subst e;rw[hold]at h1;cases h1;rw[hnew]at h2;cases h2;refine j_.cells rfl rfl ?_ λx I=>?_
   .show ij _ _ J (splice J j [.emp]);have:=ij.splice j (ij.refl hdom J) (b:=[y]) (b':=[.emp]) ⟨(Sf hn hey).toH hdom,trivial⟩;rw[zj hy]at this;exact this
   .have I:x∈splice J j [.emp]:=I;unfold splice at I;rw[bV,bV,aL]at I;rcases I with (I|I)|I
    .exact hcell x (fZ I)
    .subst I;rfl
    .exact hcell x (List.mem_of_mem_drop I)
  .rw[hoth n e,h1]at h2;cases h2;exact j_.refl hdom b⟩
 refine ⟨⟨hV.rep c.rep,?_,c.dom,c.low,c.invH.set hr (c.invH.low id _ hb) (bX _) (λty l2 he=>?_),?_,c.inert,c.size⟩,⟨LA.refl _ _,λk _ ho=>hdom.own ho,λ_ _=>rfl⟩⟩
 .intro t x I;simp only[fY]at I;cases he:s.e.get t with
  |none=>rw[he]at I;cases I
  |some q=>
   rw[he]at I;obtain⟨z,Z⟩:=qu s.h q (c.invE t q he);simp only[aH,gG hr q z Z,ak]at I;subst I;exact (c.env t _ (by simp only[fY,he,aH,Z])).dom hdom
 .simp only[iw.cells.injEq]at he;obtain⟨_,rfl⟩:=he;refine ja hr _ ?_;unfold splice;exact zq (zq (Na _ hlo) (by simp only[kV,huo,iQ])) (Nb _ hlo)
 .intro t x I;exact oN hr x (c.invE t x I)
theorem o6.congr {φ:PM} {s s':TS} {a:Act} {w:World} (c:o6 P E nt np φ s a w) (he:∀t,s'.e.get t=s.e.get t) (hh:∀i,s'.h.get i=s.h.get i) (hn:s'.nx=s.nx):o6 P E nt np φ s' a w/\bC s'.h=bC s.h:=by
 have hr:cu s.h s'.h:=λi r hi=>by rw[bU]at hi ⊢;rw[hh];exact hi
 have J:bC s'.h=bC s.h:=by funext n;exact kS c.invH hr λi _=>hh i
 refine ⟨⟨by rw[J];exact c.rep,?_,by rw[hn];exact c.dom,by rw[hn];exact c.low,⟨λi ty l hg=>?_,λi b hg=>?_⟩,λt v hv=>?_,c.inert,c.size⟩,J⟩
 .intro t x I;rw[J];simp only[fY,he]at I;cases hg:s.e.get t with
  |none=>rw[hg]at I;cases I
  |some v=>
   rw[hg]at I;obtain⟨z,M⟩:=qu s.h v (c.invE t v hg);simp only[aH,gG hr v z M,ak]at I;subst I;exact c.env t _ (by simp only[fY,hg,aH,M])
 .rw[hh]at hg;exact ja hr l (c.invH.cells i ty l hg)
 .rw[hh]at hg;rw[hn];exact c.invH.low i b hg
 .rw[he]at hv;exact oN hr v (c.invE t v hv)
theorem Q1 {R:Type} {v:Int} {f:Nat->Option R} {r:R}:∀{m i:Nat},spl v f i m=af r->∃j,v=aO j/\f j=af r
 |0,i,h=>by cases h
 |m+1,i,h=>by
  simp only[spl]at h;rcases pN h with ⟨h1,h2⟩|⟨_,h2⟩
  .exact⟨i,bw h1,h2⟩
  .exact Q1 h2
theorem ab8 {φ:PM} {s s':TS} {a:Act} {w:World} (c:o6 P E nt np φ s a w) {k off:Nat} {kd:IntKind} {v:Int} (h1:ac6 s k off=af (kd,v)) (h2:UK s k off kd v=af s'):o6 P E nt np φ s' a w/\bC s'.h=bC s.h/\∀t,s'.e.get t=s.e.get t:=by
 unfold ac6 at h1;unfold UK at h2;cases hk:s.e.get k with
 |none=>rw[hk]at h1;cases h1
 |some x=>
  rw[hk]at h1 h2;cases x with
  |f T q=>
   cases T with
   |int kd'=>
    simp only[ak,aE]at h1;obtain⟨rfl,rfl⟩:=h1;simp only[ak]at h2;subst h2;have he:∀t,(s.e.set k (af (.f (.int kd') q))).get t=s.e.get t:=λt=>by
     rw[PT.get_set];split
     .rename_i e;subst e;exact hk.symm
     .rfl
    obtain⟨J,I⟩:=c.congr (s':=⟨s.e.set k (af (.f (.int kd') q)),s.h,s.nx⟩) he (λ_=>rfl) rfl;exact⟨J,I,he⟩
   |_=>cases h1
  |ptr a0 o0=>
   simp only[]at h1 h2;cases hb:s.h.get a0 with
   |none=>rw[hb]at h1;cases h1
   |some b=>
    rw[hb]at h1 h2;cases b with
    |cells ty l=>
     simp only[]at h1 h2;cases hl:l[o0+off]? with
     |none=>rw[hl]at h1;cases h1
     |some y=>
      rw[hl]at h1;cases y with
      |f T q=>
       cases T with
       |int kd'=>
        simp only[ak,aE]at h1;obtain⟨rfl,rfl⟩:=h1;simp only[ak]at h2;subst h2;have hh:∀i,(s.h.set a0 (af (.cells ty (splice l (o0+off) [.f (.int kd') q])))).get i=s.h.get i:=λi=>by
         rw[PT.get_set];split
         .rename_i e;subst e;rw[hb,zj hl]
         .rfl
        obtain⟨J,I⟩:=c.congr (s':=⟨s.e,s.h.set a0 (af (.cells ty (splice l (o0+off) [.f (.int kd') q]))),s.nx⟩) (λ_=>rfl) hh rfl;exact⟨J,I,λ_=>rfl⟩
       |_=>cases h1
      |_=>cases h1
    |_=>cases h1
  |_=>cases h1
mutual
theorem M3 (id sz n:Nat):∀v:TV,uJ v=ai->LO id sz n v=v
 |.f _ _,_=>rfl
 |.fel _ _ _ _ _,_=>rfl
 |.emp,_=>rfl
 |.nil,_=>rfl
 |.undef,_=>rfl
 |.np,_=>rfl
 |.anyb,_=>rfl
 |.agg l,h=>by simp only[LO];rw[BU id sz n l h]
 |.tup l,h=>by simp only[LO];rw[BU id sz n l h]
 |.pel _ _ _ _,h=>by cases h
 |.ptr _ _,h=>by cases h
 |.csl _ _ _,h=>by cases h
 |.row _,h=>by cases h
 |.rtl _ _,h=>by cases h
 |.mp _,h=>by cases h
 |.clo _ _,h=>by cases h
theorem BU (id sz n:Nat):∀l:List TV,qK l=ai->CQ id sz n l=l
 |[],_=>rfl
 |x::r,h=>by
  simp only[qK,av]at h;simp only[CQ];rw[M3 id sz n x h.1,BU id sz n r h.2]
end
section subs
variable {id sz n:Nat} {h h':bi}
mutual
theorem Oz (hr:cu h h') (hid:eH h' id=af (aj,sz,n)):∀(v:TV) (y:AV),cz h v=af y->cz h' (LO id sz n v)=af y
 |.csl i s m,y,he=>by
  simp only[cz,ak]at he;subst he;simp only[LO];split
  .rename_i hq;simp only[av]at hq;have e1:=aw hq.1.1;have e2:=aw hq.1.2;have e3:=aw hq.2;subst e1;subst e2;subst e3;simp only[cz,hid,fG,nI,cE,ef]
  .rfl
 |.agg l,y,he=>by
  simp only[cz]at he;cases hl:cU h l with
  |none=>rw[hl]at he;cases he
  |some l'=>rw[hl]at he;simp only[LO,cz,wD hr hid l l' hl];exact he
 |.tup l,y,he=>by
  simp only[cz]at he;cases hl:cU h l with
  |none=>rw[hl]at he;cases he
  |some l'=>rw[hl]at he;simp only[LO,cz,wD hr hid l l' hl];exact he
 |.clo g l,y,he=>by
  simp only[cz]at he;cases hl:cU h l with
  |none=>rw[hl]at he;cases he
  |some l'=>rw[hl]at he;simp only[LO,cz,wD hr hid l l' hl];exact he
 |.f T v,y,he=>gG hr _ _ he
 |.fel T xs j hj off,y,he=>gG hr _ _ he
 |.pel _ _ _ _,y,he=>gG hr _ _ he
 |.ptr _ _,y,he=>gG hr _ _ he
 |.row _,y,he=>gG hr _ _ he
 |.rtl _ _,y,he=>gG hr _ _ he
 |.emp,y,he=>gG hr _ _ he
 |.nil,y,he=>gG hr _ _ he
 |.mp _,y,he=>gG hr _ _ he
 |.undef,y,he=>gG hr _ _ he
 |.np,y,he=>gG hr _ _ he
 |.anyb,y,he=>gG hr _ _ he
theorem wD (hr:cu h h') (hid:eH h' id=af (aj,sz,n)):∀(l:List TV) (l':List AV),cU h l=af l'->cU h' (CQ id sz n l)=af l'
 |[],l',he=>by simp only[cU,ak]at he;subst he;rfl
 |x::r,l',he=>by
  obtain⟨y,l2,rfl,h1,h2⟩:=c7 he;simp only[CQ];exact pi (Oz hr hid x y h1) (wD hr hid r l2 h2)
end
end subs
theorem an8 {φ:PM} {s:TS} {a:Act} {w:World} (c:o6 P E nt np φ s a w) {T:Ty} {id sz n:Nat} {s':TS} (hp:pkS s T id sz n=af s'):o6 P E nt np φ s' a w/\CH np φ φ (bC s.h) (bC s'.h) w w/\gx 0 s.e s'.e:=by
 unfold pkS at hp;split at hp
 .rename_i ty l hb;split at hp
  .rename_i hs;have hs:=aw hs;subst hs;split at hp
   .rename_i xs m hpk;split at hp
    .cases hp
    .rename_i hmid;simp only[ak]at hp;subst hp;have hm:dU s.h m:=OK n l xs m hpk;obtain⟨l',hl⟩:=fE s.h l (c.invH.cells id ty l hb);have hidlt:=c.invH.low id _ hb;have ol:∀i,((PT.updI (λ_ b=>Yz id T.size n b) 1 0 (eJ m s.h)).set id (af (.rows ty aj T xs))).get i=if i=id then af (.rows ty aj T xs) else if aN m i then (s.h.get i).map vG else (s.h.get i).map (Yz id T.size n):=λi=>by
      rw[PT.get_set];by_cases e:i=id
      .rw[aD e,aD e]
      .rw[ay e,ay e,PT.get_updI,jf];split
       .cases hg:s.h.get i with
        |none=>rfl
        |some b=>cases b<;>rfl
       .rfl
     generalize hH2:((PT.updI (λ_ b=>Yz id T.size n b) 1 0 (eJ m s.h)).set id (af (.rows ty aj T xs)))=h2 at ol ⊢;have hr:cu s.h h2:=λi r hi=>by
      rw[bU]at hi ⊢;rw[ol];by_cases e:i=id
      .subst e;rw[hb]at hi;cases hi
      .rw[ay e];cases hg:s.h.get i with
       |none=>rw[hg]at hi;cases hi
       |some b=>
        rw[hg]at hi;split
        .exact M7 hi
        .cases b<;>first|exact hi|cases hi
     have hnone:∀i,aN m i=ai->bC h2 (nm i)=ah:=λi hi=>by
      have e:i≠id:=λe=>by subst e;exact hmid hi
      obtain⟨ty',p',T',xs',J⟩:=hm i hi;rw[bM,ol,ay e,aD hi,J];rfl
     have hdom:vU (bC s.h) (bC h2):=λq b hq=>by
      obtain⟨i,cc,rfl,I,h4⟩:=jE hq;rw[bM];rw[ol]at I;by_cases e:i=id
      .subst e;rw[hb];simp only[aH,kH,hl];exact⟨_,rfl⟩
      .rw[ay e]at I;cases hg:s.h.get i with
       |none=>rw[hg]at I;split at I<;>cases I
       |some b0=>
        rw[hg]at I;split at I
        .simp only[co,ak]at I;subst I;cases b0<;>simp[vG,kH]at h4
        .simp only[co,ak]at I;subst I;simp only[aH];cases b0 with
         |cells ty0 l0=>
          obtain⟨l0',U⟩:=fE s.h l0 (c.invH.cells i ty0 l0 hg);exact⟨⟨ty0,.mx l0'⟩,by simp only[kH,U]⟩
         |rows=>exact⟨_,h4⟩
         |dead=>exact⟨_,h4⟩
         |mp=>exact⟨_,h4⟩
     have giv:Ey s.h (bC s.h) (bC h2) m:=λi hi=>⟨rfl,hnone i hi⟩
     obtain⟨hle,hlen⟩:=C7 hdom n l xs m l' hpk hl giv;have hrow:eH h2 id=af (aj,T.size,n):=by rw[bU,ol,aD rfl,<-hlen];rfl
     have hV:Ln (bC s.h) (bC h2):=⟨hdom,λq b b' I h4=>by
      obtain⟨i,cc,rfl,Z,h6⟩:=jE h4;rw[bM]at I;rw[ol]at Z;by_cases e:i=id
      .subst e;rw[aD rfl]at Z;cases Z;rw[hb]at I;simp only[aH,kH,hl,ak]at I;subst I;simp only[kH,nI,cE,ef,ak]at h6;subst h6;refine j_.cells rfl rfl hle λx J=>?_
       simp only[BC.toMx]at J;obtain⟨q,hq,rfl⟩:=c_.1 J;exact rT T _ q hq
      .rw[ay e]at Z;cases hg:s.h.get i with
       |none=>rw[hg]at Z;split at Z<;>cases Z
       |some b0=>
        rw[hg]at Z I;split at Z
        .simp only[co,ak]at Z;subst Z;cases b0<;>simp[vG,kH]at h6
        .simp only[co,ak]at Z;subst Z;have:b=b':=by
          simp only[aH]at I;cases b0 with
          |cells ty0 l0=>
           obtain⟨l0',U⟩:=fE s.h l0 (c.invH.cells i ty0 l0 hg);simp only[kH,U,ak]at I;simp only[Yz,kH,wD hr hrow l0 l0' U,ak]at h6;rw[<- I,<-h6]
          |rows ty1 p1 T1 xs1=>
           have h3':kH h2 (.rows ty1 p1 T1 xs1)=af b:=I;exact jZ (h3'.symm.trans h6)
          |dead p1 s1 n1=>
           have h3':kH h2 (.dead p1 s1 n1)=af b:=I;exact jZ (h3'.symm.trans h6)
          |mp K1 V1 es1=>
           have h3':kH h2 (.mp K1 V1 es1)=af b:=I;exact jZ (h3'.symm.trans h6)
         subst this;exact j_.refl hdom b⟩
     refine ⟨⟨hV.rep c.rep,?_,c.dom,c.low,⟨λi ty' l2 hg=>?_,λi b hg=>?_⟩,?_,c.inert,c.size⟩,⟨LA.refl _ _,λk _ hk=>hdom.own hk,λ_ _=>rfl⟩,?_⟩
     .intro t x J;simp only[fY,PT.get_updI]at J;cases he:s.e.get t with
      |none=>rw[he]at J;cases J
      |some v=>
       rw[he]at J;obtain⟨z,hz⟩:=qu s.h v (c.invE t v he);simp only[co,aH,Oz hr hrow v z hz,ak]at J;subst J;exact (c.env t _ (by simp only[fY,he,aH,hz])).dom hdom
     .rw[ol]at hg;by_cases e:i=id
      .rw[aD e]at hg;cases hg
      .rw[ay e]at hg;cases Y:s.h.get i with
       |none=>rw[Y]at hg;split at hg<;>cases hg
       |some b0=>
        rw[Y]at hg;split at hg
        .simp only[co,ak]at hg;cases b0<;>simp[vG]at hg
        .simp only[co,ak]at hg;cases b0 with
         |cells ty0 l0=>
          simp only[Yz,iw.cells.injEq]at hg;obtain⟨_,rfl⟩:=hg;obtain⟨l0',U⟩:=fE s.h l0 (c.invH.cells i ty0 l0 Y);exact kR _ _ _ (wD hr hrow l0 l0' U)
         |_=>cases hg
     .rw[ol]at hg;by_cases e:i=id
      .subst e;exact hidlt
      .rw[ay e]at hg;cases Y:s.h.get i with
       |none=>rw[Y]at hg;split at hg<;>cases hg
       |some b0=>exact c.invH.low i b0 Y
     .intro t x J;simp only[PT.get_updI]at J;cases he:s.e.get t with
      |none=>rw[he]at J;cases J
      |some v=>
       rw[he]at J;simp only[co,ak]at J;subst J;obtain⟨z,hz⟩:=qu s.h v (c.invE t v he);exact Fs _ _ _ (Oz hr hrow v z hz)
     .intro k _ v' M;simp only[PT.get_updI]at M;cases he:s.e.get k with
      |none=>rw[he]at M;cases M
      |some v=>
       rw[he]at M;simp only[co,ak]at M;subst M;exact⟨v,rfl,λhf=>M3 _ _ _ v hf⟩
   .cases hp
  .cases hp
 .cases hp
theorem an3 {φ:PM} {s:TS} {a:Act} {w:World} (c:o6 P E nt np φ s a w) {k off:Nat} {s':TS} (h:Qn s (.ren k off)=af s'):∃φ',o6 P E nt np φ' s' a w/\CH np φ φ' (bC s.h) (bC s'.h) w w/\gx (oI [.ren k off] 0) s.e s'.e:=by
 simp only[Qn]at h;split at h
 .rename_i b o hk;split at h
  .rename_i cty l hb;split at h
   .rename_i id hv;split at h
    .rename_i ty p T xs J;simp only[ak]at h;subst h;have hfr:=c.invH.fresh;have hidlt:=c.invH.low id _ J;have hblt:=c.invH.low b _ hb;have hbid:b≠id:=λe=>by rw[e,J]at hb;cases hb
     have hbn:b≠s.nx:=by omega
     have hin:id≠s.nx:=by omega
     generalize hh2:(((s.h.set id (af (.dead p T.size xs.length))).set s.nx (af (.rows ty p T xs))).set b (af (.cells cty (splice l (o+off) [.row s.nx]))))=h2;have ol:∀i,h2.get i=if i=b then af (.cells cty (splice l (o+off) [.row s.nx])) else if i=s.nx then af (.rows ty p T xs) else if i=id then af (.dead p T.size xs.length) else s.h.get i:=λi=>by
      rw[<- hh2,PT.get_set,PT.get_set,PT.get_set]
     have hr:cu s.h h2:=λi r hi=>by
      rw[bU]at hi ⊢;rw[ol];by_cases e1:i=b
      .subst e1;rw[hb]at hi;cases hi
      .rw[ay e1];by_cases e2:i=s.nx
       .subst e2;rw[hfr]at hi;cases hi
       .rw[ay e2];by_cases e3:i=id
        .subst e3;rw[aD rfl];rw[J]at hi;exact hi
        .rw[ay e3];exact hi
     have hlo:=c.invH.cells b cty l hb;obtain⟨Z,hl'⟩:=fE s.h l hlo;have hrow:cz h2 (.row s.nx)=af (fG p s.nx T.size xs.length):=by
      simp only[cz,bU,ol];rw[ay hbn.symm];simp only[bG,aH,mR]
     have hsp:cU h2 (splice l (o+off) [.row s.nx])=af (splice Z (o+off) [fG p s.nx T.size xs.length]):=sR _ (g_ hr _ _ hl') (by simp only[cU,hrow]);obtain⟨y,hy,hey⟩:=mg hl' _ _ hv;have hy0:y=fG p id T.size xs.length:=by
      simp only[cz,bU,J,aH,mR,ak]at hey;exact hey.symm
     subst hy0;have hold:bC s.h (nm b)=af ⟨cty,.mx Z⟩:=by rw[bM,hb];simp only[aH,kH,hl']
     have hnew:bC h2 (nm b)=af ⟨cty,.mx (splice Z (o+off) [fG p s.nx T.size xs.length])⟩:=by
      rw[bM,ol,aD rfl];simp only[aH,kH,hsp]
     have hdead:bC h2 (nm id)=ah:=by rw[bM,ol,ay hbid.symm,ay hin,aD rfl];rfl
     have hnx2:bC h2 (nm s.nx)=if p&&xs.length==0 then ah else af ⟨ty,.fz (xs.flatMap (bS T))⟩:=by rw[bM,ol,ay hbn.symm,aD rfl];rfl
     have hid0:bC s.h (nm id)=if p&&xs.length==0 then ah else af ⟨ty,.fz (xs.flatMap (bS T))⟩:=by rw[bM,J];rfl
     have hoth:∀n,n≠nm b->n≠nm s.nx->n≠nm id->bC h2 n=bC s.h n:=λn e1 e2 e3=>kS c.invH hr λi e=>by
      subst e;rw[ol,ay (λe=>e1 (by rw[e])),ay (λe=>e2 (by rw[e])),ay (λe=>e3 (by rw[e]))]
     have hnb:nm b≠nm s.nx:=λe=>hbn (kW e)
     have hbi:nm b≠nm id:=λe=>hbid (kW e)
     have hni:nm s.nx≠nm id:=λe=>hin (kW e).symm
     have hinv:mj h2 (s.nx+1):=by
      refine ⟨λi ty2 l2 hil=>?_,λi q hiq=>?_⟩
      .rw[ol]at hil;split at hil
       .simp only[ak,iw.cells.injEq]at hil;obtain⟨_,rfl⟩:=hil;exact kR _ _ _ hsp
       .split at hil
        .cases hil
        .split at hil
         .cases hil
         .exact ja hr l2 (c.invH.cells i ty2 l2 hil)
      .rw[ol]at hiq;split at hiq
       .omega
       .split at hiq
        .omega
        .split at hiq
         .omega
         .have:=c.invH.low i q hiq;omega
     have hE:∀t x,fY s.e h2 t=af x->fY s.e s.h t=af x:=λt x I=>by
      simp only[fY]at I ⊢;cases he:s.e.get t with
      |none=>rw[he]at I;cases I
      |some q=>
       rw[he]at I;obtain⟨z,hz⟩:=qu s.h q (c.invE t q he);simp only[aH,gG hr q z hz,ak]at I;subst I;simp only[aH,hz]
     by_cases hp:(p&&xs.length==0)=ai
     ·
      have Y:bC h2=bC s.h:=by
       funext n;by_cases e1:n=nm b
       .subst e1;rw[hold,hnew];have:fG p s.nx T.size xs.length=fG p id T.size xs.length:=by unfold fG;rw[aD hp,aD hp]
        rw[this,zj hy]
       .by_cases e2:n=nm s.nx
        .subst e2;rw[hnx2,aD hp,bM,hfr];rfl
        .by_cases e3:n=nm id
         .subst e3;rw[hdead,hid0,aD hp]
         .exact hoth n e1 e2 e3
      refine ⟨φ,⟨by rw[Y];exact c.rep,λt x I=>by rw[Y];exact c.env t x (hE t x I),λn q hq=>Ap (c.dom n q hq),iB c.low,hinv,λt x I=>oN hr x (c.invE t x I),c.inert,c.size⟩,by rw[Y];exact CH.refl _ _ _ _,gx.refl _ _⟩
     .have hid1:bC s.h (nm id)=af ⟨ty,.fz (xs.flatMap (bS T))⟩:=by rw[hid0,ay hp]
      obtain⟨kk,k1,k2,ob,k3,k4⟩:=c.rep.at_ _ _ hid1;have hφn:φ (nm s.nx)=ah:=by
       cases hq:φ (nm s.nx) with
       |none=>rfl
       |some q=>have:=c.dom _ q hq;rw[ec]at this;omega
      let nw:HF:=λn=>if n=nm s.nx then af ⟨ty,.fz (xs.flatMap (bS T))⟩ else ah
      have hsh:FR w w kk ob:=⟨rfl,rfl,rfl,rfl,k3,λ_ _=>rfl,λ_=>rfl⟩
      obtain⟨φ',p1,p2,p3,p4⟩:=c.rep.wren hid1 k1 hφn hsh k4 nw (by simp[nw]) (by simp only[nw];rw[ay hni.symm]);have hb1:eZ (bC s.h) [nm s.nx,nm id] nw (nm b)=af ⟨cty,.mx Z⟩:=by
       unfold eZ;rw[ay (by simp[hnb,hbi]),hold]
      obtain⟨kb,b1,b2,ob2,b3,b4⟩:=p4.at_ _ _ hb1;have hlt:o+off<Z.length:=by
       rcases cf (o+off) Z.length with h'|h'
       .exact h'
       .rw[bR h']at hy;cases hy
      have hob:jC φ' (tot E φ' (eZ (bC s.h) [nm s.nx,nm id] nw)) w ⟨cty,.mx (splice Z (o+off) [fG p s.nx T.size xs.length])⟩ ob2:=by
       rw[pU rfl]at b4 ⊢;obtain⟨arr,a1,a2⟩:=b4;refine ⟨arr,a1,?_⟩;unfold vV at a2 ⊢;refine ⟨by simp only[BC.len]at a2 ⊢;rw[oK (by simp;omega)];exact a2.1,λj x I=>?_⟩;simp only[BC.get]at I a2;rw[mQ (by simp;omega)]at I;split at I
       .exact a2.2 j x I
       .split at I
        .rename_i h3 M;simp only[dS]at M;have hj:j=o+off:=by omega
         subst hj;simp only[vw,re,ak]at I;subst I;obtain⟨_,v,a3,a4⟩:=a2.2 _ _ hy;unfold fG at a4 ⊢;rw[ay hp]at a4 ⊢;refine ⟨rfl,v,a3,?_⟩;cases a4 with
         |@row _ _ _ cc q hφq hn hc hs2=>
          have:=p2.sub _ _ k1;rw[this,ak]at hφq;subst hφq;exact .row p1 hn hc hs2
        .exact a2.2 j x I
      obtain⟨q1,q2⟩:=p4.wset hb1 b1 (⟨rfl,rfl,rfl,rfl,b3,λ_ _=>rfl,λ_=>rfl⟩:FR w w kb ob2) hob (λn=>if n=nm b then af ⟨cty,.mx (splice Z (o+off) [fG p s.nx T.size xs.length])⟩ else ah) (by simp);have Y:eZ (eZ (bC s.h) [nm s.nx,nm id] nw) [nm b] (λn=>if n=nm b then af ⟨cty,.mx (splice Z (o+off) [fG p s.nx T.size xs.length])⟩ else ah)=bC h2:=by
       funext n;by_cases e1:n=nm b
       .subst e1;rw[hnew];simp[eZ]
       .by_cases e2:n=nm s.nx
        .subst e2;rw[hnx2,ay hp];simp[eZ,nw,hnb.symm]
        .by_cases e3:n=nm id
         .subst e3;rw[hdead];simp[eZ,nw,hbi.symm,hni.symm]
         .rw[hoth n e1 e2 e3];simp[eZ,e1,e2,e3]
      rw[Y]at q1 q2;have m:=p2.trans q1;refine ⟨φ',⟨q2,λt x I=>m.keep (c.env t x (hE t x I)),λn q hq=>?_,iB c.low,hinv,λt x I=>oN hr x (c.invE t x I),c.inert,c.size⟩,⟨LA.refl _ _,m.own_,λi hi=>?_⟩,gx.refl _ _⟩
      .rcases p3 n q hq with M|M
       .exact Ap (c.dom n q M)
       .simp only[aL]at M;subst M;rw[ec];exact q_ _
      .cases hq:φ' (nm i) with
       |none=>
        cases hq2:φ (nm i) with
        |none=>rfl
        |some z=>rw[p2.sub _ _ hq2]at hq;cases hq
       |some z=>
        rcases p3 _ _ hq with M|M
        .exact M.symm
        .simp only[aL]at M;have:=kW M;have:=c.low;omega
    .cases h
   .cases h
  .cases h
 .rename_i id hk;split at h
  .rename_i ty p T xs J;simp only[ak]at h;subst h;have hfr:=c.invH.fresh;have hidlt:=c.invH.low id _ J;have hin:id≠s.nx:=by omega
   generalize hh2:((s.h.set id (af (.dead p T.size xs.length))).set s.nx (af (.rows ty p T xs)))=h2;have ol:∀i,h2.get i=if i=s.nx then af (.rows ty p T xs) else if i=id then af (.dead p T.size xs.length) else s.h.get i:=λi=>by
    rw[<- hh2,PT.get_set,PT.get_set]
   have hr:cu s.h h2:=λi r hi=>by
    rw[bU]at hi ⊢;rw[ol];by_cases e2:i=s.nx
    .subst e2;rw[hfr]at hi;cases hi
    .rw[ay e2];by_cases e3:i=id
     .subst e3;rw[aD rfl];rw[J]at hi;exact hi
     .rw[ay e3];exact hi
   have hrow:cz h2 (.row s.nx)=af (fG p s.nx T.size xs.length):=by
    simp only[cz,bU,ol,bG,aH,mR]
   have hrow0:cz s.h (.row id)=af (fG p id T.size xs.length):=by
    simp only[cz,bU,J,aH,mR]
   have hdead:bC h2 (nm id)=ah:=by rw[bM,ol,ay hin,aD rfl];rfl
   have hnx2:bC h2 (nm s.nx)=if p&&xs.length==0 then ah else af ⟨ty,.fz (xs.flatMap (bS T))⟩:=by rw[bM,ol,aD rfl];rfl
   have hid0:bC s.h (nm id)=if p&&xs.length==0 then ah else af ⟨ty,.fz (xs.flatMap (bS T))⟩:=by rw[bM,J];rfl
   have hoth:∀n,n≠nm s.nx->n≠nm id->bC h2 n=bC s.h n:=λn e2 e3=>kS c.invH hr λi e=>by
    subst e;rw[ol,ay (λe=>e2 (by rw[e])),ay (λe=>e3 (by rw[e]))]
   have hni:nm s.nx≠nm id:=λe=>hin (kW e).symm
   have hinv:mj h2 (s.nx+1):=by
    refine ⟨λi ty2 l2 hil=>?_,λi q hiq=>?_⟩
    .rw[ol]at hil;split at hil
     .cases hil
     .split at hil
      .cases hil
      .exact ja hr l2 (c.invH.cells i ty2 l2 hil)
    .rw[ol]at hiq;split at hiq
     .omega
     .split at hiq
      .omega
      .have:=c.invH.low i q hiq;omega
   have hE:∀t x,t≠k->fY (s.e.set k (af (.row s.nx))) h2 t=af x->fY s.e s.h t=af x:=λt x ht I=>by
    simp only[fY,PT.get_set]at I ⊢;rw[ay ht]at I;cases he:s.e.get t with
    |none=>rw[he]at I;cases I
    |some q=>
     rw[he]at I;obtain⟨z,hz⟩:=qu s.h q (c.invE t q he);simp only[aH,gG hr q z hz,ak]at I;subst I;simp only[aH,hz]
   have hIE:ub (s.e.set k (af (.row s.nx))) h2:=λt x I=>by
    simp only[PT.get_set]at I;split at I
    .cases I;exact Fs _ _ _ hrow
    .exact oN hr x (c.invE t x I)
   have hKp:gx (oI [.ren k off] 0) s.e (s.e.set k (af (.row s.nx))):=λt ht v' hv'=>by
    simp only[PT.get_set]at hv';split at hv'
    .rename_i et;subst et;simp only[oI]at ht;rw[bu,b9.2 rfl]at ht;simp at ht
    .exact⟨v',hv',λ_=>rfl⟩
   have U:=c.env k (fG p id T.size xs.length) (by simp only[fY,hk,aH,hrow0]);by_cases hp:(p&&xs.length==0)=ai
   .have Y:bC h2=bC s.h:=by
     funext n;by_cases e2:n=nm s.nx
     .subst e2;rw[hnx2,aD hp,bM,hfr];rfl
     .by_cases e3:n=nm id
      .subst e3;rw[hdead,hid0,aD hp]
      .exact hoth n e2 e3
    have hsame:fG p s.nx T.size xs.length=fG p id T.size xs.length:=by unfold fG;rw[aD hp,aD hp]
    refine ⟨φ,⟨by rw[Y];exact c.rep,λt x I=>?_,λn q hq=>Ap (c.dom n q hq),iB c.low,hinv,hIE,c.inert,c.size⟩,by rw[Y];exact CH.refl _ _ _ _,hKp⟩;rw[Y];by_cases ht:t=k
    .subst ht;simp only[fY,PT.get_set,bG,aH,hrow,ak]at I;subst I;rw[hsame];exact U
    .exact c.env t x (hE t x ht I)
   .have hid1:bC s.h (nm id)=af ⟨ty,.fz (xs.flatMap (bS T))⟩:=by rw[hid0,ay hp]
    obtain⟨kk,k1,k2,ob,k3,k4⟩:=c.rep.at_ _ _ hid1;have hφn:φ (nm s.nx)=ah:=by
     cases hq:φ (nm s.nx) with
     |none=>rfl
     |some q=>have:=c.dom _ q hq;rw[ec]at this;omega
    let nw:HF:=λn=>if n=nm s.nx then af ⟨ty,.fz (xs.flatMap (bS T))⟩ else ah
    have hsh:FR w w kk ob:=⟨rfl,rfl,rfl,rfl,k3,λ_ _=>rfl,λ_=>rfl⟩
    obtain⟨φ',p1,p2,p3,p4⟩:=c.rep.wren hid1 k1 hφn hsh k4 nw (by simp[nw]) (by simp only[nw];rw[ay hni.symm]);have Y:eZ (bC s.h) [nm s.nx,nm id] nw=bC h2:=by
     funext n;by_cases e2:n=nm s.nx
     .subst e2;rw[hnx2,ay hp];simp[eZ,nw]
     .by_cases e3:n=nm id
      .subst e3;rw[hdead];simp[eZ,nw,hni.symm]
      .rw[hoth n e2 e3];simp[eZ,e2,e3]
    rw[Y]at p2 p4;refine ⟨φ',⟨p4,λt x I=>?_,λn q hq=>?_,iB c.low,hinv,hIE,c.inert,c.size⟩,⟨LA.refl _ _,p2.own_,λi hi=>?_⟩,hKp⟩
    .by_cases ht:t=k
     .subst ht;simp only[fY,PT.get_set,bG,aH,hrow,ak]at I;subst I;unfold fG at U ⊢;rw[ay hp]at U ⊢;generalize a.tmps.getD t undef=z at U;cases U with
      |@row _ _ _ cc q hφq hn hc hs2=>
       rw[k1,ak]at hφq;subst hφq;exact .row p1 hn hc hs2
     .exact p2.keep (c.env t x (hE t x ht I))
    .rcases p3 n q hq with M|M
     .exact Ap (c.dom n q M)
     .simp only[aL]at M;subst M;rw[ec];exact q_ _
    .cases hq:φ' (nm i) with
     |none=>
      cases hq2:φ (nm i) with
      |none=>rfl
      |some z=>rw[p2.sub _ _ hq2]at hq;cases hq
     |some z=>
      rcases p3 _ _ hq with M|M
      .exact M.symm
      .simp only[aL]at M;have:=kW M;have:=c.low;omega
  .cases h
 .cases h
theorem akn {φ:PM} {s:TS} {a:Act} {w:World} (c:o6 P E nt np φ s a w) {Z:Adj} {s':TS} (h:Qn s Z=af s') (hnr:∀k off,Z≠ .ren k off):o6 P E nt np φ s' a w/\CH np φ φ (bC s.h) (bC s'.h) w w/\gx (oI [Z] 0) s.e s'.e:=by
 cases Z with
 |ren k off=>exact cY rfl (hnr k off)
 |nil k ty T=>
  simp only[Qn]at h;split at h
  .rename_i v hv;split at h
   .rename_i hn;simp only[ak]at h;subst h;obtain⟨J,M,hr⟩:=Ym c ty T;refine ⟨⟨J.rep,?_,J.dom,J.low,J.invH,?_,J.inert,J.size⟩,by rw[M];exact CH.refl _ _ _ _,?_⟩
    .intro t x I;simp only[fY,PT.get_set]at I;split at I
     .rename_i et;subst et;simp only[aH,cz,bU,PT.get_set,bG,mR,fG,j6,c4,iQ,ak]at I;subst I;obtain⟨z,Y⟩:=qu s.h v (c.invE _ v hv);rw[M];exact Sf hn Y _ _ _ _ (c.env _ _ (by simp only[fY,hv,aH,Y]))
     .exact J.env t x I
    .intro t x I;simp only[PT.get_set]at I;split at I
     .cases I;simp only[LX,bU,PT.get_set,bG];rfl
     .exact J.invE t x I
    .intro t ht v' U;simp only[PT.get_set]at U;split at U
     .rename_i et;subst et;simp only[oI]at ht;rw[bu,b9.2 rfl]at ht;simp at ht
     .exact⟨v',U,λ_=>rfl⟩
   .simp only[ak]at h;subst h;exact⟨c,CH.refl _ _ _ _,gx.refl _ _⟩
  .cases h
 |cel k off ty T=>
  simp only[Qn]at h;split at h
  .rename_i id o hk;split at h
   .rename_i cty l hb;split at h
    .rename_i v hv;split at h
     .rename_i hn;simp only[ak]at h;subst h;obtain⟨J,M,hr⟩:=Ym c ty T;have hid:id≠s.nx:=λe=>by have:=c.invH.low id _ hb;omega
      obtain⟨c2,t2⟩:=adr J (id:=id) (cty:=cty) (l:=l) (v:=v) (u:=.row s.nx) (by show (s.h.set s.nx _).get id=_;rw[PT.get_set,ay hid];exact hb) hv hn (by simp only[cz,bU,PT.get_set,bG,aH,mR,fG,j6,c4,iQ]) (by simp only[LX,bU,PT.get_set,bG];rfl);exact⟨c2,by rw[<- M];exact t2,gx.refl _ _⟩
     .simp only[ak]at h;subst h;exact⟨c,CH.refl _ _ _ _,gx.refl _ _⟩
    .cases h
   .cases h
  .cases h
 |mpt k K V=>
  simp only[Qn]at h;split at h
  .rename_i id hk;split at h
   .rename_i K' V' es hb;split at h
    .rename_i hE;simp only[ak]at h;subst h;have hr:cu s.h (s.h.set id (af (.mp K V []))):=cu.set λr hr=>by rw[bU,hb]at hr;cases hr
     have M:bC (s.h.set id (af (.mp K V [])))=bC s.h:=by
      funext n;by_cases hn:n=nm id
      .subst hn;rw[bM,bM,PT.get_set,aD rfl,hb];simp only[aH,kH,Ca (ajw (pd.1 hE).1),Ca (pd.1 hE).2,U1 (pd.1 hE).1,List.map_nil]
      .refine kS c.invH hr λi e=>?_
       subst e;rw[PT.get_set,ay (λe=>hn (by rw[e]))]
     refine ⟨⟨by rw[M];exact c.rep,?_,c.dom,c.low,c.invH.set hr (c.invH.low id _ hb) (bX _) (λ_ _ he=>by cases he),λt x I=>oN hr x (c.invE t x I),c.inert,c.size⟩,by rw[M];exact CH.refl _ _ _ _,gx.refl _ _⟩;intro t x I;rw[M];simp only[fY]at I;cases he:s.e.get t with
     |none=>rw[he]at I;cases I
     |some q=>
      rw[he]at I;obtain⟨z,Y⟩:=qu s.h q (c.invE t q he);simp only[aH,gG hr q z Y,ak]at I;subst I;exact c.env t _ (by simp only[fY,he,aH,Y])
    .simp only[ak]at h;subst h;exact⟨c,CH.refl _ _ _ _,gx.refl _ _⟩
   .cases h
  .cases h
 |pk k off T=>
  simp only[Qn]at h;split at h
  .obtain⟨h1,h2,h3⟩:=an8 c h;exact⟨h1,h2,h3.mono λk hk=>by simp at hk⟩
  .cases h
theorem akm {φ:PM} {s:TS} {a:Act} {w:World} (c:o6 P E nt np φ s a w) {I:Adj} {s':TS} (h:Qn s I=af s'):∃φ',o6 P E nt np φ' s' a w/\CH np φ φ' (bC s.h) (bC s'.h) w w/\gx (oI [I] 0) s.e s'.e:=by
 by_cases hn:∃k off,I= .ren k off
 .obtain⟨k,off,rfl⟩:=hn;exact an3 c h
 .exact⟨φ,akn c h λk off e=>hn ⟨k,off,e⟩⟩
theorem WH {φ:PM} {a:Act} {w:World}:∀{l:List Adj} {s s':TS},o6 P E nt np φ s a w->ZO s l=af s'->∃φ',o6 P E nt np φ' s' a w/\CH np φ φ' (bC s.h) (bC s'.h) w w/\gx (oI l 0) s.e s'.e
 |[],s,s',c,h=>by simp only[ZO,ak]at h;subst h;exact⟨φ,c,CH.refl _ _ _ _,gx.refl _ _⟩
 |I::r,s,s',c,h=>by
  simp only[ZO]at h;split at h
  .rename_i s1 h1;obtain⟨φ1,U,t1,k1⟩:=akm c h1;obtain⟨φ2,M,J,k2⟩:=WH U h;refine ⟨φ2,M,t1.trans J,(k1.mono ?_).trans (k2.mono ?_)⟩
   .intro k hk;cases I with
    |nil q ty T=>simp only[oI]at hk ⊢;rw[mi,bu,hk];rfl
    |cel q off ty T=>simp[oI]at hk
    |mpt q K V=>simp[oI]at hk
    |pk q off T=>simp[oI]at hk
    |ren q off=>simp only[oI]at hk ⊢;rw[mi,bu,hk];rfl
   .intro k hk;cases I with
    |nil q ty T=>simp only[oI];rw[mi,bu,hk];simp
    |cel q off ty T=>simp only[oI];exact hk
    |mpt q K V=>simp only[oI];exact hk
    |pk q off T=>simp only[oI];exact hk
    |ren q off=>simp only[oI];rw[mi,bu,hk];simp
  .cases h
mutual
theorem R8 {h:bi}:∀(v:TV) (y:AV),uJ v=ai->cz h v=af y->y.all (λ_=>aj)=ai
 |.f _ _,y,_,he=>by simp only[cz,ak]at he;subst he;rfl
 |.fel _ _ _ _ _,y,_,he=>by simp only[cz,ak]at he;subst he;rfl
 |.emp,y,_,he=>by simp only[cz,ak]at he;subst he;rfl
 |.nil,y,_,he=>by simp only[cz,ak]at he;subst he;rfl
 |.undef,y,_,he=>by simp only[cz,ak]at he;subst he;rfl
 |.np,y,_,he=>by simp only[cz,ak]at he;subst he;rfl
 |.anyb,y,_,he=>by simp only[cz,ak]at he;subst he;rfl
 |.agg l,y,hl,he=>by
  simp only[cz]at he;split at he
  .rename_i l' hl';simp only[ak]at he;subst he;exact Fo l l' hl hl'
  .cases he
 |.tup l,y,hl,he=>by
  simp only[cz]at he;split at he
  .rename_i l' hl';simp only[ak]at he;subst he;exact Fo l l' hl hl'
  .cases he
 |.pel _ _ _ _,_,h,_=>by cases h
 |.ptr _ _,_,h,_=>by cases h
 |.csl _ _ _,_,h,_=>by cases h
 |.row _,_,h,_=>by cases h
 |.rtl _ _,_,h,_=>by cases h
 |.mp _,_,h,_=>by cases h
 |.clo _ _,_,h,_=>by cases h
theorem Fo {h:bi}:∀(l:List TV) (l':List AV),qK l=ai->cU h l=af l'->AV.allL (λ_=>aj) l'=ai
 |[],l',_,he=>by simp only[cU,ak]at he;subst he;rfl
 |x::r,l',hl,he=>by
  obtain⟨y,l2,rfl,e1,e2⟩:=c7 he;simp only[qK,av]at hl;simp only[AV.allL,av];exact⟨R8 x y hl.1 e1,Fo r l2 hl.2 e2⟩
end
mutual
theorem XQ (h:bi):∀(v:TV),uJ v=ai->LX h v=ai
 |.f _ _,_=>rfl
 |.fel _ _ _ _ _,_=>rfl
 |.emp,_=>rfl
 |.nil,_=>rfl
 |.undef,_=>rfl
 |.np,_=>rfl
 |.anyb,_=>rfl
 |.agg l,hl=>JV h l hl
 |.tup l,hl=>JV h l hl
 |.pel _ _ _ _,h=>by cases h
 |.ptr _ _,h=>by cases h
 |.csl _ _ _,h=>by cases h
 |.row _,h=>by cases h
 |.rtl _ _,h=>by cases h
 |.mp _,h=>by cases h
 |.clo _ _,h=>by cases h
theorem JV (h:bi):∀(l:List TV),qK l=ai->kV h l=ai
 |[],_=>rfl
 |x::r,hl=>by
  simp only[qK,av]at hl;simp only[kV,av];exact⟨XQ h x hl.1,JV h r hl.2⟩
end
structure Seen (np:Nat) (t:Tm) (x:t.ty.den) (us:List TV) (h1:bi) (φ φ':PM) (H:HF) (E:Nat->Prop) (w:World) (la lu:List AV):Prop where
 rep:rq φ' E (bC h1) w
 val:∀(j:Nat) y v,lu[j]? =af y->∃z,la[j]? =af z/\(cW φ (tot E φ H) w z v->cW φ' (tot E φ' (bC h1)) w y v)
 len:lu.length=la.length
 tot_:∀k,tot E φ' (bC h1) k->tot E φ H k
 own_:∀k,own φ' (bC h1) k->own φ H k
 dom:∀n k,φ' n=af k->ow n<t.bs.length
 par:∀i,i<np->i<t.bs.length->φ' (nm i)=φ (nm i)
theorem LR {t:Tm} {x:t.ty.den} {us:List TV} {h1:bi} {l1:List (Option iw)} (I:qX t x us h1 l1) {h:bi} {nx:Nat} (hinv:mj h nx) {vs:List TV} {m:Nat} {σ:PT Nat} {sm:Nat} (M:Iy np t vs h x m σ sm) {la:List AV} (hla:cU h vs=af la) {φ:PM} {w:World} (r:rq φ E (bC h) w):∃φ' lu,cU h1 us=af lu/\Seen np t x us h1 φ φ' (bC h) E w la lu:=by
 obtain⟨x1,m1,x2,m2,hx,hmm,gv,gb⟩:=M.ex;have hmr:dU h m:=by rw[hmm];exact (In _ _ _ _ gv).or (Ip _ _ _ _ gb)
 have pvg:qp (ii σ) t.vs x1=af (kG (ii σ) us):=by
  have U:=ud (ii σ) t.vs x1;have J:=I.pv;rw[hx,t7]at J;rw[U,J];rfl
 have pbg:oM (ii σ) t.bs x2=af (l1.map (l8 (l_ (ii σ)))):=by
  have U:=wF (ii σ) t.bs x2;have J:=I.pb;rw[hx,vB]at J;rw[U,J];rfl
 have hbm:∀i b,l1[i]? =af (af b)->∃b0,h.get (ii σ i)=af b0/\BM (ii σ) h m b0 (l_ (ii σ) b):=λi b hb=>by
  obtain⟨b0,Y,Z⟩:=JS t.bs 0 x2 m2 _ gb pbg i (l_ (ii σ) b) (by rw[bc,hb];rfl);rw[bQ]at Y;exact⟨b0,Y,Z.mono λj hj=>by rw[hmm,bu,hj];simp⟩
 let hv:bi:=AW (ii σ) 0 (l1.map (l8 (l_ (ii σ)))) PT.leaf
 have hv_at:∀i b,l1[i]? =af (af b)->hv.get (ii σ i)=af (l_ (ii σ) b):=λi b hb=>by
  have:=vF (ii σ) (l1.map (l8 (l_ (ii σ)))) 0 PT.leaf (λa b ha hb=>by
   simp only[bY,I.len]at ha hb;simp only[bQ];exact M.inj a b ha hb) i (af (l_ (ii σ) b)) (by rw[bc,hb];rfl)
  rw[bQ]at this;exact this
 have hv_ex:∀j c,hv.get j=af c->∃i b,l1[i]? =af (af b)/\j=ii σ i/\c=l_ (ii σ) b:=λj c hj=>by
  by_cases hex:∃i,i<l1.length/\j=ii σ i
  .obtain⟨i,hi,rfl⟩:=hex;have hcc:=aB hi;cases hcv:l1[i] with
   |some b=>rw[hcv]at hcc;rw[hv_at i b hcc]at hj;cases hj;exact⟨i,b,hcc,rfl,rfl⟩
   |none=>
    rw[hcv]at hcc;have:=vF (ii σ) (l1.map (l8 (l_ (ii σ)))) 0 PT.leaf (λa b ha hb=>by
     simp only[bY,I.len]at ha hb;simp only[bQ];exact M.inj a b ha hb) i ah (by rw[bc,hcc];rfl)
    rw[bQ]at this;have hj':(AW (ii σ) 0 (l1.map (l8 (l_ (ii σ)))) PT.leaf).get (ii σ i)=af c:=hj;rw[this]at hj';simp[PT.get]at hj'
  .have:hv.get j=(PT.leaf:bi).get j:=vE (ii σ) _ 0 _ j λk hk=>by
    simp only[bY]at hk;rw[bQ];exact λe=>hex ⟨k,hk,e⟩
   rw[this]at hj;simp[PT.get]at hj
 have rows_in:yq hv h:=λj q hq=>by
  rw[bU]at hq ⊢;cases hc:hv.get j with
  |none=>rw[hc]at hq;cases hq
  |some c=>
   rw[hc]at hq;obtain⟨i,b,Y,rfl,rfl⟩:=hv_ex j c hc;obtain⟨b0,Z,q3⟩:=hbm i b Y;rw[Z];simp only[aH]at hq ⊢;rw[<- q3.row];exact hq
 have rows_h1:∀i q,eH h1 i=af q->eH hv (ii σ i)=af q:=λi q hq=>by
  rw[bU]at hq ⊢;cases hb:h1.get i with
  |none=>rw[hb]at hq;cases hq
  |some b=>
   rw[hb]at hq;rw[hv_at i b ((I.at_ i b).1 hb)];simp only[aH,IR]at hq ⊢;exact hq
 have hd:vU (bC h) (bC hv):=λn y hy=>by
  obtain⟨j,c,rfl,U,J⟩:=jE hy;obtain⟨i,b,Y,rfl,rfl⟩:=hv_ex j c U;obtain⟨b0,Z,q3⟩:=hbm i b Y;obtain⟨y0,hy0⟩:=BM.erB_some hinv Z q3 J;exact⟨y0,by rw[bM,Z];exact hy0⟩
 have gvv:Ey h (bC h) (bC hv) m:=λi hi=>⟨rfl,by
  cases hc:bC hv (nm i) with
  |none=>rfl
  |some y=>
   obtain⟨j,c,e,U,J⟩:=jE hc;have:=kW e;subst this;obtain⟨k,b,Y,rfl,rfl⟩:=hv_ex i c U;have hk:k<t.bs.length:=by rw[<- I.len];exact (bl.1 Y).1
   have h5:=M.disj _ hi;rw[(M.sig _).2 ⟨k,hk,rfl⟩]at h5;cases h5⟩
 have V:Ln (bC h) (bC hv):=⟨hd,λn b b' hb hb'=>by
  obtain⟨j,c,rfl,U,J⟩:=jE hb';obtain⟨i,bb,Y,rfl,rfl⟩:=hv_ex j c U;obtain⟨b0,Z,q3⟩:=hbm i bb Y;rw[bM,Z]at hb;exact BM.view hd gvv rows_in q3 hb J⟩
 have rv:=V.rep r;have T:ah9 t x us h1 (ii σ) φ E E (bC hv) w:=by
  refine rq.toId I M.inj rv (λi b yb hb hyb=>?_) (λk hk=>.inl hk) (λi k b hi U J hE=>?_) rv.el
  .rw[bM,hv_at i b ((I.at_ i b).1 hb)];exact DB rows_h1 hyb
  .obtain⟨k',p1,p2,_⟩:=rv.at_ _ _ U;rw[J]at p1;cases p1;exact p2 hE
 obtain⟨lu,hlu⟩:=fE h1 us I.ok;have hlug:cU hv (kG (ii σ) us)=af (AV.renL (Iq (ii σ)) lu):=qP rows_h1 us lu hlu;have hle:=Dw hd rows_in t.vs vs x1 m1 _ la _ gv pvg hla hlug (λi hi=>gvv i (by rw[hmm,bu,hi];rfl));have hall:=tW us lu I.lt hlu;refine ⟨_,lu,hlu,T.rep,λj y v hy=>?_,?_,λk hk=>hd.tot (T.tot_ k hk),λk hk=>hd.own (T.own_ k hk),λn k hk=>?_,λi hi hb=>?_⟩
 .rw[oL]at hle;obtain⟨z,hz,hlz⟩:=hle.get j (y.ren (Iq (ii σ))) (by rw[bc,hy];rfl);exact⟨z,hz,λhr=>T.val y v (mh hall y (ba hy)) (hlz _ _ _ _ r hr)⟩
 .have:=hle.length;rw[oL,bY]at this;exact this
 .obtain⟨i,hi,rfl,_⟩:=xE hk;rw[ec];exact hi
 .rw[aan hb,M.fix i hi]
theorem O0 {φ:PM} {s':TS} {a:Act} {w:World} (c:o6 P E nt np φ s' a w) {A:Ann} {am:Nat} {s0 s1:TS} {x:A.D} (J:Mp np A am s0 s'=af x) (hs:Hq A am s0 x=af s1)
 (hk:∀k,k∈A.keep->k∉A.ks->∀v,s0.e.get k=af v->uJ v=ai->aN am k=aj->∀Z,s'.e.get k=af Z->Z=v):∃φ',o6 P E nt np φ' s1 a w/\CH np φ φ' (bC s'.h) (bC s1.h) w w:=by
 unfold Mp at J;split at J
 .rename_i hc;simp only[av]at hc;have hnp:=a8 hc.1;split at J
  .rename_i s2 h2;obtain⟨φ2,c2,t2,_⟩:=WH c h2;split at J
   .rename_i vs hvs;split at J
    .rename_i z m σ sm hM;simp only[ak]at J;subst J;have M:=wP hM;unfold Hq at hs;split at hs
     .rename_i us h1 hi;obtain⟨l1,I⟩:=wT hi;split at hs
      .rename_i hlen;have hlen:=aw hlen;simp only[ak]at hs;subst hs;obtain⟨g1,g2⟩:=XO hvs;have hvok:kV s2.h vs=ai:=I5 c2.invE hvs;obtain⟨la,hla⟩:=fE s2.h vs hvok;obtain⟨φ',lu,hlu,S⟩:=LR (E:=E) I c2.invH M hla c2.rep;refine ⟨φ',⟨S.rep,?_,S.dom,hnp,⟨λi ty l hl=>(I.cells i ty l hl).1,λi b hb=>I.lt_len hb⟩,?_,c.inert,c.size⟩,t2.trans ⟨LA.refl _ _,λk _ h=>S.own_ k h,λi hi=>S.par i hi (by omega)⟩⟩
       .intro t y U;simp only[fY]at U;cases ht:(YB (Dh am s0.e A.keep) A.ks us).get t with
        |none=>rw[ht]at U;cases U
        |some v=>
         rw[ht]at U;simp only[aH]at U;rcases CU hlen t v ht with ⟨j,q1,Y⟩|⟨q1,Y⟩
         .obtain⟨y',p1,p2⟩:=mg hlu j v Y;rw[U]at p2;cases p2;obtain⟨z,p3,p4⟩:=S.val j y (a.tmps.getD t undef) p1;refine p4 ?_;obtain⟨v0,p5,p6⟩:=g2 j t q1;obtain⟨z',p7,p8⟩:=mg hla j v0 p5;rw[p3]at p7;cases p7;exact c2.env t _ (by simp only[fY,p6,aH,p8])
         .obtain⟨k1,k2,k3,k4⟩:=ui Y;obtain⟨Z,k5⟩:=Jn hc.2 t v k1 k2 k3 k4;have:=hk t k1 q1 v k2 k3 k4 Z k5;subst this;have h3:=c.env t y (by simp only[fY,k5,aH];rw[Sg s'.h h1 Z k3];exact U);exact h3.restrict (p:=λ_=>aj) (λi k hi _=>by cases hi) (λk hk=>by
           have h4:=S.tot_ k hk;rcases h4 with h4|h4
           .exact .inl h4
           .exact .inr (by
             have hkl:k<w.heap.size:=by
              obtain⟨n,b,e1,e2⟩:=h4;obtain⟨k',p1,_,ob,p3,_⟩:=c2.rep.at_ n b e1;rw[e2]at p1;cases p1;exact (cJ.1 p3).1
             exact t2.own_ k hkl h4)) (R8 Z y k3 U)
       .intro t v hv;rcases CU hlen t v hv with ⟨j,q1,Y⟩|⟨q1,Y⟩
        .obtain⟨y',_,p2⟩:=mg hlu j v Y;exact Fs _ _ _ p2
        .exact XQ _ v (ui Y).2.2.1
      .cases hs
     .cases hs
    .cases J
   .cases J
  .cases J
 .cases J
theorem EH {A:Ann} {am:Nat} {I s1:TS} {x:A.D} (hs:Hq A am I x=af s1):gx (L1 A.ks 0) I.e s1.e/\∀k,k∉A.ks->∀v,s1.e.get k=af v->I.e.get k=af v:=by
 unfold Hq at hs;split at hs
 .rename_i us h1 hi;split at hs
  .rename_i hlen;have hlen:=aw hlen;simp only[ak]at hs;subst hs;have key:∀k,k∉A.ks->∀v,(YB (Dh am I.e A.keep) A.ks us).get k=af v->I.e.get k=af v:=λk hk v hv=>by
    rcases CU hlen k v hv with ⟨j,U,_⟩|⟨_,M⟩
    .exact cY (ba U) hk
    .exact (ui M).2.1
   refine ⟨λk hk J hv=>?_,key⟩;have hnk:k∉A.ks:=λhm=>by rw[XF hm]at hk;cases hk
   exact⟨J,key k hnk J hv,λ_=>rfl⟩
  .cases hs
 .cases hs
end walk
inductive Er:TC->SC->Prop
 |skip:Er .skip .skip
 |reg (ops:List sW) (prs:List (Nat×Nat)):Er (.reg ops prs) (.reg ops prs)
 |seq {a b:TC} {a' b':SC}:Er a a'->Er b b'->Er (.seq a b) (.seq a' b')
 |jseq (A:Ann) {a b:TC} {a' b':SC}:Er a a'->Er b b'->Er (.jseq A a b) (.seq a' b')
 |cond (c:Nat) {a b:TC} {a' b':SC}:Er a a'->Er b b'->Er (.cond c a b) (.cond c a' b')
 |block (id:Nat) {b:TC} {b':SC}:Er b b'->Er (.block id b) (.block id b')
 |jblock (A:Ann) (id:Nat) {b:TC} {b':SC}:Er b b'->Er (.jblock A id b) (.block id b')
 |loop (A:Ann) {b:TC} {b':SC}:Er b b'->Er (.loop A b) (.loop b')
 |exit (id:Nat):Er (.exit id) (.exit id)
 |ret:Er .ret .ret
 |defer (f:FuncId) (c:List Operand) (t:Nat):Er (.defer f c t) (.defer f c t)
 |adj (l:List Adj) {c:TC} {c':SC}:Er c c'->Er (.adj l c) c'
 |split (k off lo n:Nat) {c:TC} {c':SC}:Er c c'->Er (.split k off lo n c) c'
 |unl (n:Nat) {b:TC} {b':SC}:Er b b'->Er (.unl n b) (.loop b')
 |bad (c:SC):Er .bad c
theorem CJ {H:PT aek} {n:Nat} {c:TC} {c':SC} (h:Er c c'):Er (ID H n c) c':=by
 unfold ID;split
 .exact .adj _ h
 .exact .split _ _ _ _ h
 .exact h
theorem ym (H:PT aek):∀(c:SC) (n:Nat),Er (D7 H c n).1 c
 |.skip,n=>CJ .skip
 |.reg o p,n=>CJ (.reg o p)
 |.seq a b,n=>by
  have h1:=ym H a (n+1);have h2:=ym H b (D7 H a (n+1)).2;simp only[D7];split
  .exact .jseq _ h1 h2
  .exact .seq h1 h2
 |.cond c a b,n=>by
  have h1:=ym H a (n+1);have h2:=ym H b (D7 H a (n+1)).2;simp only[D7];exact CJ (.cond c h1 h2)
 |.block id b,n=>by
  have h1:=ym H b (n+1);simp only[D7];split
  .exact .jblock _ id h1
  .exact .block id h1
 |.loop b,n=>by
  have h1:=ym H b (n+1);simp only[D7];split
  .exact .loop _ h1
  .exact .unl _ h1
  .exact .bad _
 |.exit id,n=>CJ (.exit id)
 |.ret,n=>CJ .ret
 |.defer f c t,n=>.defer f c t
 |.bad,n=>.bad _
theorem YP {σ R:Type} {step:σ->Option (σ⊕R)} {x:σ} {r:R} (h:iter step x=af r):∃n,iterN step n x=af r:=by
 unfold iter at h;split at h
 .exact⟨_,h⟩
 .cases h
theorem XH {α R:Type} {o:Option (R⊕α)} {k:α->Option R} {r:R} (h:jn o k=af r):(∃x,o=af (.inr x)/\k x=af r)\/o=af (.inl r):=by
 unfold jn at h;split at h
 .exact .inl ⟨_,rfl,h⟩
 .cases h;exact .inr rfl
 .cases h
section inv
variable {P:Program} {nt:Nat}
theorem Ad (id:Nat) (ops:Array Oper) (I:Bool):cA P nt (.region id ops I)= .bad\/
 ((ops.toList.all λo=>match o.dst with|some d=>decide (d<nt)|none=>ai)=ai/\
   ((∃f caps t,D6 ops I=af (f,caps,t)/\cA P nt (.region id ops I)= .defer f caps t)\/
    ∃l prs,sq P ops ops.toList=af l/\M_ ops l=af prs/\cA P nt (.region id ops I)= .reg l prs)):=by
 simp only[cA];split
 .rename_i hd;split
  .rename_i f caps t h;exact .inr ⟨hd,.inl ⟨f,caps,t,h,rfl⟩⟩
  .split
   .rename_i l hl;split
    .rename_i prs hp;exact .inr ⟨hd,.inr ⟨l,prs,hl,hp,rfl⟩⟩
    .exact .inl rfl
   .exact .inl rfl
 .exact .inl rfl
def EQ:Code->Bool
 |.cond (.const (.bool _)) _ _=>aj
 |_=>ai
theorem kh (P:Program) (nt:Nat) (c:Code):∃c',EQ c'=ai/\cA P nt c'=cA P nt c/\∀Q a w,c'.wp P Q a w->c.wp P Q a w:=by
 have self:∀c:Code,EQ c=ai->∃c',EQ c'=ai/\cA P nt c'=cA P nt c/\∀Q a w,c'.wp P Q a w->c.wp P Q a w:=λc h=>⟨c,h,rfl,λ_ _ _ h=>h⟩
 induction c with
 |cond o x y ihx ihy=>
  cases o with
  |const v=>
   cases v with
   |bool b=>
    cases b with
    |true=>
     obtain⟨c',h1,h2,I⟩:=ihx;exact⟨c',h1,h2,λQ a w h=>wp_cond_true rfl (I Q a w h)⟩
    |false=>
     obtain⟨c',h1,h2,I⟩:=ihy;exact⟨c',h1,h2,λQ a w h=>wp_cond_false rfl (I Q a w h)⟩
   |_=>exact self _ rfl
  |_=>exact self _ rfl
 |_=>exact self _ rfl
theorem Gf {α:Prop} {o:Operand} {x y:Code} {sc:SC} (hn:EQ (.cond o x y)=ai) (h:cA P nt (.cond o x y)=sc) (h1:sc≠ .bad) (h2:∀t a b,sc≠ .cond t a b):α:=by
 cases o with
 |tmp q=>exact (h2 _ _ _ h.symm).elim
 |const v=>cases v<;>first|exact (h1 h.symm).elim|cases hn
 |global g=>exact (h1 h.symm).elim
 |func f=>exact (h1 h.symm).elim
theorem afy {c:Code} {sl:List sW} {prs:List (Nat×Nat)} (hn:EQ c=ai) (h:cA P nt c= .reg sl prs):∃id ops I,c= .region id ops I/\(ops.toList.all λo=>match o.dst with|some d=>decide (d<nt)|none=>ai)=ai/\sq P ops ops.toList=af sl/\M_ ops sl=af prs:=by
 cases c with
 |region id ops I=>
  rcases Ad (P:=P) (nt:=nt) id ops I with h1|⟨hd,⟨f,caps,t,_,h1⟩|⟨l,p,h2,J,h1⟩⟩
  .rw[h1]at h;cases h
  .rw[h1]at h;cases h
  .rw[h1]at h;cases h;exact⟨id,ops,I,rfl,hd,h2,J⟩
 |cond o x y=>exact Gf hn h (by simp) (by simp)
 |_=>simp[cA]at h
theorem YQ {c:Code} {f:FuncId} {caps:List Operand} {t:Nat} (hn:EQ c=ai) (h:cA P nt c= .defer f caps t):∃id ops I,c= .region id ops I/\(ops.toList.all λo=>match o.dst with|some d=>decide (d<nt)|none=>ai)=ai/\D6 ops I=af (f,caps,t):=by
 cases c with
 |region id ops I=>
  rcases Ad (P:=P) (nt:=nt) id ops I with h1|⟨hd,⟨f',caps',t',h2,h1⟩|⟨l,p,h2,J,h1⟩⟩
  .rw[h1]at h;cases h
  .rw[h1]at h;cases h;exact⟨id,ops,I,rfl,hd,h2⟩
  .rw[h1]at h;cases h
 |cond o x y=>exact Gf hn h (by simp) (by simp)
 |_=>simp[cA]at h
theorem px {c:Code} {sc:SC} (h:cA P nt c=sc) (h1:sc≠ .bad) (h2:∀a b,sc≠ .reg a b) (M:∀a b t,sc≠ .defer a b t):∀id ops J,c≠ .region id ops J:=by
 rintro id ops J rfl;rcases Ad (P:=P) (nt:=nt) id ops J with I|⟨_,⟨f,caps,t,_,I⟩|⟨l,p,_,_,I⟩⟩<;>rw[I]at h
 .exact h1 h.symm
 .exact M _ _ _ h.symm
 .exact h2 _ _ h.symm
theorem ac3 {c:Code} (hn:EQ c=ai) (h:cA P nt c= .skip):c= .skip:=by
 have I:=px h (by simp) (by simp) (by simp);cases c with
 |skip=>rfl
 |region id ops J=>exact cY rfl (I id ops J)
 |cond o x y=>exact Gf hn h (by simp) (by simp)
 |_=>simp[cA]at h
theorem afx {c:Code} (hn:EQ c=ai) (h:cA P nt c= .ret):c= .ret:=by
 have I:=px h (by simp) (by simp) (by simp);cases c with
 |ret=>rfl
 |region id ops J=>exact cY rfl (I id ops J)
 |cond o x y=>exact Gf hn h (by simp) (by simp)
 |_=>simp[cA]at h
theorem ac4 {c:Code} {i:Nat} (hn:EQ c=ai) (h:cA P nt c= .exit i):c= .exit i:=by
 have I:=px h (by simp) (by simp) (by simp);cases c with
 |exit id=>simp[cA]at h;rw[h]
 |region id ops J=>exact cY rfl (I id ops J)
 |cond o x y=>exact Gf hn h (by simp) (by simp)
 |_=>simp[cA]at h
theorem XJ {c:Code} {a b:SC} (hn:EQ c=ai) (h:cA P nt c= .seq a b):∃x y,c= .seq x y/\cA P nt x=a/\cA P nt y=b:=by
 have I:=px h (by simp) (by simp) (by simp);cases c with
 |seq x y=>simp[cA]at h;exact⟨x,y,rfl,h.1,h.2⟩
 |region id ops J=>exact cY rfl (I id ops J)
 |cond o x y=>exact Gf hn h (by simp) (by simp)
 |_=>simp[cA]at h
theorem ac5 {c:Code} {t:Nat} {a b:SC} (hn:EQ c=ai) (h:cA P nt c= .cond t a b):∃x y,c= .cond (.tmp t) x y/\cA P nt x=a/\cA P nt y=b:=by
 have I:=px h (by simp) (by simp) (by simp);cases c with
 |cond o x y=>
  cases o with
  |tmp q=>simp[cA]at h;obtain⟨rfl,h1,h2⟩:=h;exact⟨x,y,rfl,h1,h2⟩
  |const v=>cases v<;>first|(simp [cA]at h;done)|cases hn
  |_=>simp[cA]at h
 |region id ops J=>exact cY rfl (I id ops J)
 |_=>simp[cA]at h
theorem Nj {c:Code} {id:Nat} {b:SC} (hn:EQ c=ai) (h:cA P nt c= .block id b):∃y,c= .block id y/\cA P nt y=b:=by
 have I:=px h (by simp) (by simp) (by simp);cases c with
 |block i y=>simp[cA]at h;obtain⟨rfl,h1⟩:=h;exact⟨y,rfl,h1⟩
 |region id ops J=>exact cY rfl (I id ops J)
 |cond o x y=>exact Gf hn h (by simp) (by simp)
 |_=>simp[cA]at h
theorem Ru {c:Code} {b:SC} (hn:EQ c=ai) (h:cA P nt c= .loop b):∃y,c= .loop y/\cA P nt y=b:=by
 have I:=px h (by simp) (by simp) (by simp);cases c with
 |loop y=>simp[cA]at h;exact⟨y,rfl,h⟩
 |region id ops J=>exact cY rfl (I id ops J)
 |cond o x y=>exact Gf hn h (by simp) (by simp)
 |_=>simp[cA]at h
end inv
def aj6 {R:Type} (P:Program) (E:Nat->Prop) (nt np:Nat) (φ:PM) (s:TS) (w:World) (am:Nat) (K:Ex->TS->Option R) (r:R):Exit->Act->World->Prop:=
 λe a' w'=>∃ex s' φ',e=ex.to/\K ex s'=af r/\o6 P E nt np φ' s' a' w'/\CH np φ φ' (bC s.h) (bC s'.h) w w'/\gx am s.e s'.e
theorem o6.bool {P:Program} {E:Nat->Prop} {nt np:Nat} {φ:PM} {s:TS} {a:Act} {w:World} (c:o6 P E nt np φ s a w) {t:Nat} {b:Bool} (ht:s.e.get t=af (.f .bool b)):a.eval (.tmp t)= .bool b:=
 fH (c.env t _ (by simp only[fY,ht,aH,cz];rfl))
theorem o6.anyb {P:Program} {E:Nat->Prop} {nt np:Nat} {φ:PM} {s:TS} {a:Act} {w:World} (c:o6 P E nt np φ s a w) {t:Nat} (ht:s.e.get t=af .anyb):∃b,a.eval (.tmp t)= .bool b:=by
 have:=c.env t .anyb (by simp only[fY,ht,aH,cz]);show ∃b,a.tmps.getD t undef= .bool b;generalize a.tmps.getD t undef=z at this;cases this with
 |anyb=>exact⟨_,rfl⟩
theorem ZM {R:Type} {a b:Option R} {r:R} (h:FL a b=af r):a=af r/\b=af r:=by
 unfold FL at h;split at h
 .rename_i e;exact⟨h,by rw[<- e];exact h⟩
 .cases h
theorem ajl {P:Program} {E:Nat->Prop} {nt np:Nat} {con:FuncId->Option cq} {b7:TypeId->Option Ty} {inert:FuncId->Bool} (hm:P.follows .mixedOrders=ai) (hcon:LC P con) (hin:Ly P inert):
 ∀{tc:TC} {sc:SC},Er tc sc->∀(c:Code),cA P nt c=sc->∀(R:Type) (s:TS) (K:Ex->TS->Option R) (r:R),pn np con b7 inert tc s K=af r->∀(φ:PM) (a:Act) (w:World),o6 P E nt np φ s a w->c.wp P (aj6 P E nt np φ s w (tc.asg 0) K r) a w:=by
 intro tc sc hE;induction hE with
 |skip=>
  intro c hc R s K r h φ a w g;obtain⟨c',hn,I,hsim⟩:=kh P nt c;refine hsim _ _ _ ?_;rw[<- I]at hc;rw[ac3 hn hc];exact wp_skip ⟨.normal,s,φ,rfl,h,g,CH.refl _ _ _ _,gx.refl _ _⟩
 |reg ops prs=>
  intro c hc R s K r h φ a w g;obtain⟨c',hn,I,hsim⟩:=kh P nt c;refine hsim _ _ _ ?_;rw[<- I]at hc;obtain⟨id,os,dr,rfl,h1,h2,h3⟩:=afy hn hc;simp only[pn]at h;refine abc (K:=λs'=>K .normal s') hm hcon g (am:=Qj ops 0) (λj o d ho hd=>?_) h1 h2 h3 h λa' w' s' φ' Z J q3 q4=>⟨.normal,s',φ',rfl,Z,J,q3,q4⟩
  have hmem:o∈os.toList:=by have:=Array.mem_of_getElem? ho;simpa using this
  have key:∀(rest:List Oper) (sl:List sW),sq P os rest=af sl->∀o∈rest,∃so∈sl,so.dst=o.dst:=by
   intro rest;induction rest with
   |nil=>intro sl _ o ho;cases ho
   |cons x rest ih=>
    intro sl hsl o ho;simp only[sq]at hsl;split at hsl
    .rename_i l hl;have:∃so,sl=so::l/\so.dst=x.dst:=by
      split at hsl
      .simp only[ak]at hsl;exact⟨_,hsl.symm,rfl⟩
      .split at hsl
       .simp only[ak]at hsl;exact⟨_,hsl.symm,rfl⟩
       .cases hsl
     obtain⟨so,rfl,hso⟩:=this;rcases bm.1 ho with rfl|ho
     .exact⟨so,by simp,hso⟩
     .obtain⟨q,hq,hq2⟩:=ih l hl o ho;exact⟨q,by simp[hq],hq2⟩
    .cases hsl
  obtain⟨so,hso,hd2⟩:=key os.toList ops h2 o hmem;exact TI hso (by rw[hd2];exact hd)
 |@seq x y x' y' _ _ ihx ihy=>
  intro c hc R s K r h φ a w g;obtain⟨c',hn,I,hsim⟩:=kh P nt c;refine hsim _ _ _ ?_;rw[<- I]at hc;obtain⟨cx,cy,rfl,h1,h2⟩:=XJ hn hc;simp only[pn]at h;refine wp_seq (wp_mono (ihx cx h1 R s _ r h φ a w g) ?_);rintro e a' w' ⟨ex,s',φ',rfl,hk,g',st,M⟩;have kp':gx ((TC.seq x y).asg 0) s.e s'.e:=M.mono λk hk=>by simp only[TC.asg];exact kx hk
  cases ex with
  |normal=>
   refine wp_mono (ihy cy h2 R s' K r hk φ' a' w' g') ?_;rintro e2 a2 w2 ⟨ex2,s2,φ2,rfl,hk2,g2,st2,kp2⟩;exact⟨ex2,s2,φ2,rfl,hk2,g2,st.trans st2,kp'.trans (kp2.mono λk hk=>by simp only[TC.asg];exact vT hk)⟩
  |exit id=>exact⟨.exit id,s',φ',rfl,hk,g',st,kp'⟩
  |ret=>exact⟨.ret,s',φ',rfl,hk,g',st,kp'⟩
 |@jseq A x y x' y' _ _ ihx ihy=>
  intro c hc R s K r h φ a w g;obtain⟨c',hn,I,hsim⟩:=kh P nt c;refine hsim _ _ _ ?_;rw[<- I]at hc;obtain⟨cx,cy,rfl,h1,h2⟩:=XJ hn hc;simp only[pn]at h;have sub1:∀k,aN (x.asg 0) k=ai->aN ((TC.jseq A x y).asg 0) k=ai:=λk hk=>by simp only[TC.asg];exact kx (vT hk)
  have sub2:∀k,aN (y.asg 0) k=ai->aN ((TC.jseq A x y).asg 0) k=ai:=λk hk=>by simp only[TC.asg];exact vT hk
  have sub3:∀k,aN (L1 A.ks 0) k=ai->aN ((TC.jseq A x y).asg 0) k=ai:=λk hk=>by simp only[TC.asg];exact kx (kx hk)
  rcases XH h with ⟨d,h3,h4⟩|h3
  .refine wp_seq (wp_mono (ihx cx h1 _ s _ _ h3 φ a w g) ?_);rintro e a' w' ⟨ex,s',φ',rfl,hk,g',st,M⟩;cases ex with
   |normal=>
    simp only[]at hk;obtain⟨d',Z,J⟩:=dM hk;simp only[ak,Sum.inr.injEq]at J;subst J;split at h4
    .rename_i s1 Y;obtain⟨φ1,g1,IK⟩:=O0 g' Z Y λk _ _ v hv hf ha v' U=>by
      obtain⟨v0,e1,e2⟩:=M k ha v' U;rw[hv]at e1;cases e1;exact e2 hf
     refine wp_mono (ihy cy h2 R s1 K r h4 φ1 a' w' g1) ?_;rintro e2 a2 w2 ⟨ex2,s2,φ2,rfl,hk2,g2,st2,kp2⟩;exact⟨ex2,s2,φ2,rfl,hk2,g2,(st.trans IK).trans st2,((EH Y).1.mono sub3).trans (kp2.mono sub2)⟩
    .cases h4
   |exit id=>simp only[]at hk;obtain⟨_,_,J⟩:=dM hk;simp at J
   |ret=>simp only[]at hk;obtain⟨_,_,J⟩:=dM hk;simp at J
  .refine wp_seq (wp_mono (ihx cx h1 _ s _ _ h3 φ a w g) ?_);rintro e a' w' ⟨ex,s',φ',rfl,hk,g',st,M⟩;cases ex with
   |normal=>simp only[]at hk;obtain⟨_,_,J⟩:=dM hk;simp at J
   |exit id=>
    simp only[]at hk;obtain⟨r',Z,J⟩:=dM hk;simp only[ak,Sum.inl.injEq]at J;subst J;exact⟨.exit id,s',φ',rfl,Z,g',st,M.mono sub1⟩
   |ret=>
    simp only[]at hk;obtain⟨r',Z,J⟩:=dM hk;simp only[ak,Sum.inl.injEq]at J;subst J;exact⟨.ret,s',φ',rfl,Z,g',st,M.mono sub1⟩
 |@cond t x y x' y' _ _ ihx ihy=>
  intro c hc R s K r h φ a w g;obtain⟨c',hn,I,hsim⟩:=kh P nt c;refine hsim _ _ _ ?_;rw[<- I]at hc;obtain⟨cx,cy,rfl,h1,h2⟩:=ac5 hn hc;simp only[pn]at h;split at h
  .rename_i b hb;rcases pN h with ⟨rfl,h⟩|⟨rfl,h⟩
   .refine wp_cond_true (g.bool hb) (wp_mono (ihx cx h1 R s K r h φ a w g) ?_);rintro e a' w' ⟨ex,s',φ',rfl,hk,g',st,M⟩;exact⟨ex,s',φ',rfl,hk,g',st,M.mono λk hk=>by simp only[TC.asg];exact kx hk⟩
   .refine wp_cond_false (g.bool hb) (wp_mono (ihy cy h2 R s K r h φ a w g) ?_);rintro e a' w' ⟨ex,s',φ',rfl,hk,g',st,M⟩;exact⟨ex,s',φ',rfl,hk,g',st,M.mono λk hk=>by simp only[TC.asg];exact vT hk⟩
  .rename_i hb;obtain⟨ha,hbb⟩:=ZM h;obtain⟨bv,hbv⟩:=g.anyb hb;cases bv with
   |true=>
    refine wp_cond_true hbv (wp_mono (ihx cx h1 R s K r ha φ a w g) ?_);rintro e a' w' ⟨ex,s',φ',rfl,hk,g',st,M⟩;exact⟨ex,s',φ',rfl,hk,g',st,M.mono λk hk=>by simp only[TC.asg];exact kx hk⟩
   |false=>
    refine wp_cond_false hbv (wp_mono (ihy cy h2 R s K r hbb φ a w g) ?_);rintro e a' w' ⟨ex,s',φ',rfl,hk,g',st,M⟩;exact⟨ex,s',φ',rfl,hk,g',st,M.mono λk hk=>by simp only[TC.asg];exact vT hk⟩
  .cases h
 |@block id b b' _ ih=>
  intro c hc R s K r h φ a w g;obtain⟨c',hn,I,hsim⟩:=kh P nt c;refine hsim _ _ _ ?_;rw[<- I]at hc;obtain⟨cb,rfl,h1⟩:=Nj hn hc;simp only[pn]at h;refine wp_block (wp_mono (ih cb h1 R s _ r h φ a w g) ?_);rintro e a' w' ⟨ex,s',φ',rfl,hk,g',st,M⟩;cases ex with
  |normal=>exact⟨.normal,s',φ',rfl,hk,g',st,M⟩
  |ret=>exact⟨.ret,s',φ',rfl,hk,g',st,M⟩
  |exit i=>
   simp only[Ex.to,Exit.inBlock];simp only[]at hk;split at hk
   .rename_i hb;rw[aD (aw hb)];exact⟨.normal,s',φ',rfl,hk,g',st,M⟩
   .rename_i hb;rw[ay (λe=>hb (by rw[e];exact r7 id))];exact⟨.exit i,s',φ',rfl,hk,g',st,M⟩
 |@jblock A id b b' _ ih=>
  intro c hc R s K r h φ a w g;obtain⟨c',hn,I,hsim⟩:=kh P nt c;refine hsim _ _ _ ?_;rw[<- I]at hc;obtain⟨cb,rfl,h1⟩:=Nj hn hc;simp only[pn]at h;have sub1:∀k,aN (b.asg 0) k=ai->aN ((TC.jblock A id b).asg 0) k=ai:=λk hk=>by simp only[TC.asg];exact vT hk
  have sub3:∀k,aN (L1 A.ks 0) k=ai->aN ((TC.jblock A id b).asg 0) k=ai:=λk hk=>by simp only[TC.asg];exact kx hk
  rcases XH h with ⟨d,h3,h4⟩|h3
  .refine wp_block (wp_mono (ih cb h1 _ s _ _ h3 φ a w g) ?_);rintro e a' w' ⟨ex,s',φ',rfl,hk,g',st,M⟩;have fin:obind (Mp np A (b.asg 0) s s') (λx=>af (bP (α:=R) x))=af (bP d)->aj6 P E nt np φ s w ((TC.jblock A id b).asg 0) K r .normal a' w':=by
    intro hk;obtain⟨d',Z,J⟩:=dM hk;simp only[ak,Sum.inr.injEq]at J;subst J;split at h4
    .rename_i s1 Y;obtain⟨φ1,g1,IK⟩:=O0 g' Z Y λk _ _ v hv hf ha v' U=>by
      obtain⟨v0,e1,e2⟩:=M k ha v' U;rw[hv]at e1;cases e1;exact e2 hf
     exact⟨.normal,s1,φ1,rfl,h4,g1,st.trans IK,(EH Y).1.mono sub3⟩
    .cases h4
   cases ex with
   |normal=>exact fin hk
   |ret=>simp only[]at hk;obtain⟨_,_,J⟩:=dM hk;simp at J
   |exit i=>
    simp only[Ex.to,Exit.inBlock];simp only[]at hk;split at hk
    .rename_i hb;rw[aD (aw hb)];exact fin hk
    .obtain⟨_,_,J⟩:=dM hk;simp at J
  .refine wp_block (wp_mono (ih cb h1 _ s _ _ h3 φ a w g) ?_);rintro e a' w' ⟨ex,s',φ',rfl,hk,g',st,M⟩;cases ex with
   |normal=>simp only[]at hk;obtain⟨_,_,J⟩:=dM hk;simp at J
   |ret=>
    simp only[]at hk;obtain⟨r',Z,J⟩:=dM hk;simp only[ak,Sum.inl.injEq]at J;subst J;exact⟨.ret,s',φ',rfl,Z,g',st,M.mono sub1⟩
   |exit i=>
    simp only[Ex.to,Exit.inBlock];simp only[]at hk;split at hk
    .obtain⟨_,_,J⟩:=dM hk;simp at J
    .rename_i hb;rw[ay (λe=>hb (by rw[e];exact r7 id))];obtain⟨r',Z,J⟩:=dM hk;simp only[ak,Sum.inl.injEq]at J;subst J;exact⟨.exit i,s',φ',rfl,Z,g',st,M.mono sub1⟩
 |@loop A b b' _ ih=>
  intro c hc R s K r h φ a w g;obtain⟨c',hn,I,hsim⟩:=kh P nt c;refine hsim _ _ _ ?_;rw[<- I]at hc;obtain⟨cb,rfl,h1⟩:=Ru hn hc;simp only[pn]at h;obtain⟨x0,hx0,h⟩:=dM h;obtain⟨n,hn⟩:=YP h;have sub1:∀k,aN (b.asg 0) k=ai->aN ((TC.loop A b).asg 0) k=ai:=λk hk=>by simp only[TC.asg];exact vT hk
  have sub3:∀k,aN (L1 A.ks 0) k=ai->aN ((TC.loop A b).asg 0) k=ai:=λk hk=>by simp only[TC.asg];exact kx hk
  obtain⟨step,hstep⟩:∃step:A.D->Option (A.D⊕R),step=λx=>(match Hq A (b.asg 0) s x with
   |some s'=>pn np con b7 inert b s' λex s'=>(match ex with
    |.normal=>obind (Mp np A (b.asg 0) s s') λy=>af (lD y)
    |ex=>obind (K ex s') λr=>af (bP r))
   |none=>ah):=⟨_,rfl⟩
  have hn:iterN step n x0=af r:=by rw[hstep];exact hn
  have stepEq:∀x,step x=(match Hq A (b.asg 0) s x with
   |some s'=>pn np con b7 inert b s' λex s'=>(match ex with
    |.normal=>obind (Mp np A (b.asg 0) s s') λy=>af (lD y)
    |ex=>obind (K ex s') λr=>af (bP r))
   |none=>ah):=λx=>by rw[hstep]
  let Inv:Nat->Act->World->Prop:=λn a w'=>∃x s1 φ1,iterN step n x=af r/\Hq A (b.asg 0) s x=af s1/\o6 P E nt np φ1 s1 a w'/\CH np φ φ1 (bC s.h) (bC s1.h) w w'
  have head:∀(n:Nat) (x:A.D),iterN step n x=af r->∃s1,Hq A (b.asg 0) s x=af s1:=by
   intro n x hn;cases n with
   |zero=>cases hn
   |succ n=>
    simp only[iterN]at hn;cases hr:Hq A (b.asg 0) s x with
    |some s1=>exact⟨s1,rfl⟩
    |none=>rw[stepEq,hr]at hn;cases hn
  refine CK Inv ?_ (n:=n) ?_
  .rintro n a1 w1 ⟨x,s1,φ1,hi,hr,g1,IK⟩;cases n with
   |zero=>cases hi
   |succ n=>
    simp only[iterN]at hi;have hse:=stepEq x;rw[hr]at hse;simp only[]at hse;obtain⟨kp1,kp1'⟩:=EH hr;split at hi
    .rename_i y hy;rw[hy]at hse;refine wp_mono (ih cb h1 _ s1 _ _ hse.symm φ1 a1 w1 g1) ?_;rintro e a' w' ⟨ex,s',φ',rfl,hk,g',st,M⟩;cases ex with
     |normal=>
      simp only[]at hk;obtain⟨d',Z,J⟩:=dM hk;simp only[ak,Sum.inl.injEq]at J;subst J;obtain⟨s2,hs2⟩:=head n d' hi;obtain⟨φ2,g2,st2⟩:=O0 g' Z hs2 λk hkk hks v hv hf ha v' U=>by
       obtain⟨v0,e1,e2⟩:=M k ha v' U;have:=kp1' k hks v0 e1;rw[hv]at this;cases this;exact e2 hf
      exact⟨n,by omega,d',s2,φ2,hi,hs2,g2,(IK.trans st).trans st2⟩
     |exit id=>simp only[]at hk;obtain⟨_,_,J⟩:=dM hk;simp at J
     |ret=>simp only[]at hk;obtain⟨_,_,J⟩:=dM hk;simp at J
    .rename_i r' hy;cases hi;rw[hy]at hse;refine wp_mono (ih cb h1 _ s1 _ _ hse.symm φ1 a1 w1 g1) ?_;rintro e a' w' ⟨ex,s',φ',rfl,hk,g',st,M⟩;cases ex with
     |normal=>simp only[]at hk;obtain⟨_,_,J⟩:=dM hk;simp at J
     |exit id=>
      simp only[]at hk;obtain⟨r',Z,J⟩:=dM hk;simp only[ak,Sum.inr.injEq]at J;subst J;exact⟨.exit id,s',φ',rfl,Z,g',IK.trans st,(kp1.mono sub3).trans (M.mono sub1)⟩
     |ret=>
      simp only[]at hk;obtain⟨r',Z,J⟩:=dM hk;simp only[ak,Sum.inr.injEq]at J;subst J;exact⟨.ret,s',φ',rfl,Z,g',IK.trans st,(kp1.mono sub3).trans (M.mono sub1)⟩
    .cases hi
  .obtain⟨s1,Y⟩:=head n x0 hn;obtain⟨φ1,g1,IK⟩:=O0 g hx0 Y λk _ _ v hv _ _ v' U=>by rw[hv]at U;cases U;rfl
   exact⟨x0,s1,φ1,hn,Y,g1,IK⟩
 |exit id=>
  intro c hc R s K r h φ a w g;obtain⟨c',hn,I,hsim⟩:=kh P nt c;refine hsim _ _ _ ?_;rw[<- I]at hc;rw[ac4 hn hc];exact wp_exit ⟨.exit id,s,φ,rfl,h,g,CH.refl _ _ _ _,gx.refl _ _⟩
 |ret=>
  intro c hc R s K r h φ a w g;obtain⟨c',hn,I,hsim⟩:=kh P nt c;refine hsim _ _ _ ?_;rw[<- I]at hc;rw[afx hn hc];exact wp_ret ⟨.ret,s,φ,rfl,h,g,CH.refl _ _ _ _,gx.refl _ _⟩
 |defer f caps t=>
  intro c hc R s K r h φ a w g;obtain⟨c',hn,I,hsim⟩:=kh P nt c;refine hsim _ _ _ ?_;rw[<- I]at hc;obtain⟨id,ops,dr,rfl,h1,h2⟩:=YQ hn hc;simp only[pn]at h;split at h
  .rename_i l hl;split at h
   .rename_i hi;obtain⟨l',e1,e2⟩:=zn g.invE hl;obtain⟨H,hH⟩:=jS s.h;have lowN:∀n k,φ n=af k->n<2*s.nx+2:=λn k hk=>by have:=g.dom n k hk;unfold ow at this;omega
    have cfg:Cfg P ⟨2*s.nx+2,φ,E,bC s.h,w⟩ nt ⟨J4 s.e s.h,H,2*s.nx+2,0⟩ a w:=by
     refine ⟨⟨φ,?_,?_,?_,lowN,λi k hk=>.inl hk⟩,bX _,g.inert,g.size⟩
     .rw[hH];exact jg.refl _ _ _
     .rw[hH];exact g.rep
     .rw[hH,vM];exact g.env
    refine Sw hin cfg h1 h2 e1 hi λa' w' c'=>?_
    obtain⟨φ',m',r',en',dm',d0'⟩:=c'.ex;have hφ:φ'=φ:=by
     funext n;cases hx:φ n with
     |some k=>exact m'.sub n k hx
     |none=>
      cases hy:φ' n with
      |none=>rfl
      |some k=>
       rcases d0' n k hy with h3|h3
       .have h3:φ n=af k:=h3;rw[hx]at h3;cases h3
       .have h4:n<2*s.nx+2:=dm' n k hy;have h5:2*s.nx+2<=n:=h3;omega
    subst hφ;simp only[hH]at m' r' en';refine ⟨.normal,_,φ',rfl,h,⟨r',?_,g.dom,g.low,g.invH,?_,c'.inert,c'.size⟩,⟨m'.ext,m'.own_,λ_ _=>rfl⟩,?_⟩
    .intro u x hx;refine en' u x ?_;simp only[fY,PT.get_set]at hx;simp only[Am.put,PT.get_set];split at hx
     .rename_i eu;rw[aD eu];simp only[aH,cz,e2,ak]at hx;rw[hx]
     .rename_i eu;rw[ay eu,vM];exact hx
    .intro u x hx;simp only[PT.get_set]at hx;split at hx
     .cases hx;simp only[LX];exact kR _ _ _ e2
     .exact g.invE u x hx
    .intro k hk v' U;simp only[PT.get_set]at U;split at U
     .rename_i ek;subst ek;simp only[TC.asg]at hk;rw[bu,b9.2 rfl]at hk;simp at hk
     .exact⟨v',U,λ_=>rfl⟩
   .cases h
  .cases h
 |@adj l tc' sc' _ ih=>
  intro c hc R s K r h φ a w g;obtain⟨c',hn,I,hsim⟩:=kh P nt c;refine hsim _ _ _ ?_;rw[<- I]at hc;simp only[pn]at h;split at h
  .rename_i s1 Y;obtain⟨φ1,g1,IK,kp1⟩:=WH g Y;refine wp_mono (ih c' hc R s1 K r h φ1 a w g1) ?_;rintro e a' w' ⟨ex,s',φ',rfl,hk,g',st,M⟩;exact⟨ex,s',φ',rfl,hk,g',IK.trans st,(kp1.mono λk hk=>by simp only[TC.asg];exact kx hk).trans (M.mono λk hk=>by simp only[TC.asg];exact vT hk)⟩
  .cases h
 |@split k off lo n tc' sc' _ ih=>
  intro c hc R s K r h φ a w g;obtain⟨c',hn,I,hsim⟩:=kh P nt c;refine hsim _ _ _ ?_;rw[<- I]at hc;simp only[pn]at h;split at h
  .rename_i kd v hv;obtain⟨j,hj,h2⟩:=Q1 h;subst hj;split at h2
   .rename_i s1 Y;obtain⟨g1,hH,he⟩:=ab8 g hv Y;refine wp_mono (ih c' hc R s1 K r h2 φ a w g1) ?_;rintro e a' w' ⟨ex,s',φ',rfl,hk,g',st,M⟩;exact⟨ex,s',φ',rfl,hk,g',by rw[<- hH];exact st,λk hk v' U=>by
     obtain⟨v,Z,J⟩:=M k hk v' U;exact⟨v,by rw[<- he];exact Z,J⟩⟩
   .cases h2
  .cases h
 |@unl n b b' _ ih=>
  intro c hc R s K r h φ a w g;obtain⟨c',hn,I,hsim⟩:=kh P nt c;refine hsim _ _ _ ?_;rw[<- I]at hc;obtain⟨cb,rfl,h1⟩:=Ru hn hc;simp only[pn]at h
  let Inv:Nat->Act->World->Prop:=λm a w'=>∃s1 φ1,af4 (λs K=>pn np con b7 inert b s K) m s1 K=af r/\o6 P E nt np φ1 s1 a w'/\CH np φ φ1 (bC s.h) (bC s1.h) w w'/\gx (b.asg 0) s.e s1.e
  refine CK Inv ?_ (n:=n) ⟨s,φ,h,g,CH.refl _ _ _ _,gx.refl _ _⟩;rintro m a1 w1 ⟨s1,φ1,hi,g1,IK,kp1⟩;cases m with
  |zero=>cases hi
  |succ m=>
   simp only[af4]at hi;refine wp_mono (ih cb h1 R s1 _ r hi φ1 a1 w1 g1) ?_;rintro e a' w' ⟨ex,s',φ',rfl,hk,g',st,M⟩;cases ex with
   |normal=>exact⟨m,q_ m,s',φ',hk,g',IK.trans st,kp1.trans M⟩
   |exit id=>exact⟨.exit id,s',φ',rfl,hk,g',IK.trans st,kp1.trans M⟩
   |ret=>exact⟨.ret,s',φ',rfl,hk,g',IK.trans st,kp1.trans M⟩
 |bad sc'=>
  intro c hc R s K r h;simp[pn]at h
theorem OG {P:Program} {φ:PM} {E:Nat->Prop} {s:TS} {a:Act} {w:World} (hinv:mj s.h s.nx) (hiE:ub s.e s.h) (r:rq φ E (bC s.h) w) (en:Od φ (tot E φ (bC s.h)) w (fY s.e s.h) a):∀(rs:List ResultVar) (rvs:List RV) (l:List TV),vS P rs=af rvs->UM s rvs=af l->
 ∃la vs,cU s.h l=af la/\(rs.mapM (YD a.tmps)).run P w= .ok vs w/\j9 φ (tot E φ (bC s.h)) w la vs
 |[],rvs,l,hc,hr=>by
  simp only[vS,ak]at hc;subst hc;simp only[UM,ak]at hr;subst hr;exact⟨[],[],rfl,by simp,trivial⟩
 |.tmp t::rs,rvs,l,hc,hr=>by
  simp only[vS]at hc;split at hc
  .rename_i rvs' hrs;simp only[ak]at hc;subst hc;simp only[UM]at hr;split at hr
   .rename_i v hv;split at hr
    .rename_i M I;simp only[ak]at hr;subst hr;obtain⟨la,vs,h0,h1,h2⟩:=OG hinv hiE r en rs rvs' M hrs I;simp only[rvT]at hv;obtain⟨y,Y⟩:=qu s.h v (hiE t v hv);refine ⟨y::la,a.tmps.getD t undef::vs,pi Y h0,?_,en t y (by simp only[fY,hv,aH,Y]),h2⟩;simp only[List.mapM_cons,eM,YD,o8,cQ];show ((rs.mapM (YD a.tmps)).run P w).andThen _=_;rw[h1];rfl
    .cases hr
   .cases hr
  .cases hc
 |.cell ad t::rs,rvs,l,hc,hr=>by
  simp only[vS]at hc;split at hc
  .rename_i rvs' sz ag hrs hsz hag;simp only[ak]at hc;subst hc;simp only[UM]at hr;split at hr
   .rename_i v hv;split at hr
    .rename_i M I;simp only[ak]at hr;subst hr;obtain⟨la,vs,h0,h1,h2⟩:=OG hinv hiE r en rs rvs' M hrs I;simp only[rvT]at hv;split at hv
     .rename_i id off hp;split at hv
      .rename_i ty q hb;obtain⟨q',J⟩:=fE s.h q (hinv.cells id ty q hb);obtain⟨y,e1,e2⟩:=Xd J hv;obtain⟨H,Z⟩:=jS s.h;have hR:Eh H sz ag (.ptr (nm id) off)=af ⟨y,[nm id],[],[],[]⟩:=by
        have hg:H.get (nm id)=af ⟨ty,.mx q'⟩:=by rw[Z,bM,hb];simp only[aH,kH,J]
        simp only[Eh,hg,e2]
       obtain⟨_,_,_,h3⟩:=TO (P:=P) hsz hag hR;obtain⟨qq,U,h4,h5,h6⟩:=h3 φ E (bC s.h) w _ (λi _=>by rw[Z]) r (en ad _ (by simp only[fY,hp,aH,cz]));refine ⟨y::la,U::vs,pi e1 h0,?_,h6,h2⟩;have hone:(YD a.tmps (.cell ad t)).run P w= .ok U w:=by
        simp only[YD,eM,h4,asAddr,o8,cQ,h5]
       rw[List.mapM_cons];simp only[eM,hone,cQ,h1,o8]
      .cases hv
     .cases hv
    .cases hr
   .cases hr
  .cases hc
theorem FN:∀(args:List TV) (k t:Nat) (x:TV),(Lj k args).get t=af x->k<=t/\args[t-k]? =af x
 |[],k,t,x,h=>by simp[Lj,PT.get]at h
 |y::args,k,t,x,h=>by
  rw[Lj,PT.get_set]at h;split at h
  .rename_i hk;subst hk;cases h;exact⟨bX _,by simp⟩
  .obtain⟨h1,h2⟩:=FN args (k+1) t x h;refine ⟨by omega,?_⟩;rw[show t-k=t-(k+1)+1 from by omega];simpa using h2
theorem abo {h:bi} {l:List TV} (J:kV h l=ai) {j:Nat} {v:TV} (hj:l[j]? =af v):LX h v=ai:=by
 obtain⟨M,hl⟩:=fE h l J;obtain⟨y,_,I⟩:=mg hl j v hj;exact Fs _ _ _ I
theorem UD {P:Program} {con:FuncId->Option cq} {b7:TypeId->Option Ty} {inert:FuncId->Bool} (hm:P.follows .mixedOrders=ai) (hcon:LC P con) (hin:Ly P inert) {f:FuncId} {sf:SF} (hf:Ae P f=af sf) (D:FT) (m:D.pre.ty.den->Option D.post.ty.den) (hmod:∀x y,m x=af y->ab1 con b7 inert (af sf) D x=af y):qf P f ⟨D.pre,D.post,m⟩:=by
 obtain⟨fn,c,hfn,hb,hnm,hcode,hres,hnt⟩:=Tt hf;refine ⟨⟨fn,hfn,by rw[hb];rfl,hnm⟩,λx y hxy vs hp l1 rs hq l2 la lr I J hla hlr φ E w us hrep hrel hdom=>?_⟩;have ht:=hmod x y hxy;unfold ab1 at ht;simp only[]at ht;split at ht
 .rename_i args h hins;obtain⟨l1',I'⟩:=wT hins;have e1:args=vs:=by have h1:=I.pv;have h2:=I'.pv;rw[h1]at h2;cases h2;rfl
  have e2:l1'=l1:=by have h1:=I.pb;have h2:=I'.pb;rw[h1]at h2;cases h2;rfl
  subst e1;subst e2;have hget:∀i,h.get i=hp.get i:=λi=>by
   cases h3:hp.get i with
   |some b=>exact (I'.at_ i b).2 ((I.at_ i b).1 h3)
   |none=>
    cases h4:h.get i with
    |none=>rfl
    |some b=>have:=(I.at_ i b).2 ((I'.at_ i b).1 h4);rw[h3]at this;cases this
  have hrow:∀i,eH h i=eH hp i:=λi=>by rw[bU,bU,hget]
  have herH:bC h=bC hp:=by
   funext n;by_cases hn:∃i,n=nm i
   .obtain⟨i,rfl⟩:=hn;rw[bM,bM,hget];cases h3:hp.get i with
    |none=>rfl
    |some b=>
     simp only[aH];refine J5 (λi r hr=>by rw[hrow];exact hr) λty l e=>?_
     exact (I.cells i ty l (by rw[h3,e])).1
   .rw[wX _ hn,wX _ hn]
  have hla':cU h args=af la:=g_ (λi r hr=>by rw[hrow];exact hr) args la hla;split at ht
  .rename_i hle;simp only[av]at hle;have hle2:=a8 hle.2;have hle:=a8 hle.1;have hlen:=hrel.length;have hargl:args.length=la.length:=(ia hla).symm;refine calls_of_wp_defers hfn hb ?_;have hcfg:o6 P E fn.ntmps D.pre.bs.length φ ⟨Lj 0 args,h,D.pre.bs.length⟩ {tmps:=us.toArray++oJ (fn.ntmps-us.toArray.size) undef,defers:=[]} w:=by
    refine ⟨by rw[herH];exact hrep,?_,hdom,bX _,⟨λi ty l hl=>(I'.cells i ty l hl).1,λi b hbb=>I'.lt_len hbb⟩,?_,by simp,by simp;omega⟩
    .intro t z U;simp only[fY]at U;cases Z:(Lj 0 args).get t with
     |none=>rw[Z]at U;cases U
     |some v0=>
      rw[Z]at U;obtain⟨_,h2⟩:=FN args 0 t v0 Z;rw[Nat.sub_zero]at h2;obtain⟨y0,q1,Y⟩:=mg hla' t v0 h2;simp only[aH]at U;rw[U]at Y;cases Y;obtain⟨v,h3,h4⟩:=hrel.get t z q1;have hlt:t<us.length:=(bl.1 h3).1;have:(us.toArray++oJ (fn.ntmps-us.toArray.size) undef).getD t undef=v:=by
       rw[gI,Array.getElem?_append];simp only[tL,hlt,bG,ky,h3,vu]
      show cW φ _ w z ((us.toArray++oJ (fn.ntmps-us.toArray.size) undef).getD t undef);rw[this,herH];exact h4
    .intro t v0 hv0;obtain⟨_,h2⟩:=FN args 0 t v0 hv0;exact abo I'.ok h2
   refine wp_mono (ajl (E:=E) hm hcon hin (ym D.hints sf.code 0) c hcode.symm _ _ _ _ ht φ _ w hcfg) ?_;rintro e a' w' ⟨ex,s',φ',rfl,hk,g',st,_⟩;have fin:(match UM s' sf.res with
    |some l=>(match EW D.pre.bs.length D.post l s'.h with
     |some ⟨y,_,_,_⟩=>(match Dj D.post y with|some _=>af y|none=>ah)
     |none=>ah)
    |none=>ah)=af y->Leaves P fn a'.tmps (λen w'=>∃v φ',en= .returned v/\LA (own φ (bC hp)) w w'/\(∀k,k<w.heap.size->own φ' (bC hq) k->own φ (bC hp) k)/\(∀i,i<D.pre.bs.length->φ' (nm i)=φ (nm i))/\rq φ' E (bC hq) w'/\cW φ' (tot E φ' (bC hq)) w' (EA lr) v) a'.defers .returning w':=by
    intro hk;split at hk
    .rename_i l hl;split at hk
     .rename_i y' m' σ sm hM;split at hk
      .simp only[ak]at hk;subst hk;obtain⟨lo,rvs,q0,q1,Y⟩:=OG g'.invH g'.invE g'.rep g'.env fn.results.toList sf.res l hres hl;have M:=wP hM;obtain⟨φ2,lu,hlu,S⟩:=LR (np:=D.pre.bs.length) (E:=E) J g'.invH M q0 g'.rep;rw[hlr]at hlu;cases hlu;have hresults:(results fn a'.tmps).run P w'= .ok (if h:rvs.toArray.size=1 then rvs.toArray[0] else .tuple rvs.toArray) w':=by
        rw[UO,Array.mapM_eq_mapM_toList];simp only[eM,Sem.run_map,q1,cQ,o8]
       have hrl:j9 φ2 (tot E φ2 (bC hq)) w' lr rvs:=by
        refine j9.of (by rw[Y.length,S.len]) λj z v U hv=>?_
        obtain⟨z0,p1,p2⟩:=S.val j z v U;obtain⟨v',p3,p4⟩:=Y.get j z0 p1;rw[hv]at p3;cases p3;exact p2 p4
       have hval:cW φ2 (tot E φ2 (bC hq)) w' (EA lr) (if h:rvs.toArray.size=1 then rvs.toArray[0] else .tuple rvs.toArray):=by
        have hll:=hrl.length;clear hlr S;cases lr with
        |nil=>
         cases rvs with
         |nil=>exact cW.tup (vs:=[]) rfl (by intro j x v Z;simp at Z)
         |cons _ _=>exact hrl.elim
        |cons z lr=>
         cases rvs with
         |nil=>exact hrl.elim
         |cons v rvs=>
          cases lr with
          |nil=>
           cases rvs with
           |nil=>exact hrl.1
           |cons _ _=>exact hrl.2.elim
          |cons y l=>
           cases rvs with
           |nil=>exact hrl.2.elim
           |cons u rvs=>
            rw[dif_neg (by simp)];refine cW.tup (vs:=v::u::rvs) (by simpa using hll) λj x' v' Z hv=>?_
            obtain⟨v'',q1,Y⟩:=hrl.get j x' Z;rw[hv]at q1;cases q1;exact Y
       have st':CH D.pre.bs.length φ φ' (bC hp) (bC s'.h) w w':=by rw[<- herH];exact st
       refine Dc hresults ⟨_,φ2,rfl,st'.ext,λk hk ho=>st'.own_ k hk (S.own_ k ho),λi hi=>?_,S.rep,hval⟩ a'.defers g'.inert;rw[S.par i hi (dE hi hle2),st'.par i hi]
      .cases hk
     .cases hk
    .cases hk
   cases ex with
   |normal=>exact fin hk
   |ret=>exact fin hk
   |exit id=>cases hk
  .cases ht
 .cases ht
def Wm:List (FuncId×cq)->FuncId->Option cq
 |[],_=>ah
 |(g,c)::r,f=>if aC g f then af c else Wm r f
def Ut (P:Program):List (FuncId×cq)->Prop
 |[]=>True
 |p::r=>aI P p.1 p.2/\Ut P r
theorem X9 {P:Program}:∀{l:List (FuncId×cq)},Ut P l->LC P (Wm l)
 |[],_,f,c,h=>by simp[Wm]at h
 |(g,d)::r,I,f,c,h=>by
  simp only[Wm]at h;split at h
  .rename_i hb;have:=aw hb;subst this;cases h;exact I.1
  .exact X9 I.2 f c h
theorem R3 {P:Program} {inert:FuncId->Bool} (hm:P.follows .mixedOrders=ai) (hin:Ly P inert) {l:List (FuncId×cq)} (I:Ut P l) {b7:TypeId->Option Ty} {f:FuncId} {D:FT} {m:D.pre.ty.den->Option D.post.ty.den} (hs:(Ae P f).isSome=ai) (he:∀x,ab1 (Wm l) b7 inert (Ae P f) D x=m x):qf P f ⟨D.pre,D.post,m⟩:=by
 obtain⟨J,hf⟩:=iP.1 hs;exact UD hm (X9 I) hin hf D m λx y hxy=>by rw[<- hf,he];exact hxy
theorem qf.sub {P:Program} {f:FuncId} {pre post:Tm} {m m':pre.ty.den->Option post.ty.den} (h:qf P f ⟨pre,post,m⟩) (hs:∀x y,m' x=af y->m x=af y):qf P f ⟨pre,post,m'⟩:=
 ⟨h.callable,λx y hxy=>h.calls x y (hs x y hxy)⟩
theorem aI.sub {P:Program} {f:FuncId} {pre post:Tm} {m m':pre.ty.den->Option post.ty.den} (h:aI P f ⟨pre,post,m⟩) (hb:eO pre.bs.length post.bs.length=ai) (hs:∀x y,m' x=af y->m x=af y):aI P f ⟨pre,post,m'⟩:=
 ((h.holds hb).sub hs).toC hb
theorem rW {α:Type} {b:Nat}:∀(x y:List α),chk (a_ (al x) b) (λ_=>af x)=af y->bcase (aC (al x) 0) (FL (af ([]:List α)) (chk (a_ (al ([]:List α)+al x) b) λ_=>(af (([]:List α)++x)))) (chk (a_ (al ([]:List α)+al x) b) λ_=>(af (([]:List α)++x)))=af y:=by
 intro x y h;rw[l9,j6,bQ,h];cases x with
 |nil=>
  obtain⟨_,h⟩:=dY h;cases h;show FL (af []) (af [])=_;unfold FL;rw[aD rfl]
 |cons a r=>rfl
theorem Vx {P:Program} {f:FuncId} {pre post:Tm} (hs:(Ae P f).isSome=ai):qf P f ⟨pre,post,λ_=>ah⟩:=by
 obtain⟨I,hf⟩:=iP.1 hs;obtain⟨fn,c,hfn,hb,hnm,_⟩:=Tt hf;exact⟨⟨fn,hfn,by rw[hb];rfl,hnm⟩,λx y h=>by cases h⟩
theorem qf.orElse {P:Program} {f:FuncId} {pre post:Tm} {m m':pre.ty.den->Option post.ty.den} (h:qf P f ⟨pre,post,m⟩) (h':qf P f ⟨pre,post,m'⟩):qf P f ⟨pre,post,λx=>match m x with|some y=>af y|none=>m' x⟩:=
 ⟨h.callable,λx y hxy=>by
   cases hm:m x with
   |some z=>rw[show (cq.m ⟨pre,post,λx=>match m x with|some y=>af y|none=>m' x⟩ x)=af z by show (match m x with|some y=>af y|none=>m' x)=af z;rw[hm]]at hxy;cases hxy;exact h.calls x _ hm
   |none=>rw[show (cq.m ⟨pre,post,λx=>match m x with|some y=>af y|none=>m' x⟩ x)=m' x by show (match m x with|some y=>af y|none=>m' x)=m' x;rw[hm]]at hxy;exact h'.calls x y hxy⟩
theorem aI.orE {P:Program} {f:FuncId} {pre post:Tm} {m m':pre.ty.den->Option post.ty.den} (hb:eO pre.bs.length post.bs.length=ai) (h:aI P f ⟨pre,post,m⟩) (h':aI P f ⟨pre,post,m'⟩):aI P f ⟨pre,post,λx=>AI.orE (m x) (m' x)⟩:=by
 have e:(λx=>AI.orE (m x) (m' x))=λx=>match m x with|some y=>af y|none=>m' x:=by funext x;cases m x<;>rfl
 rw[e];exact ((h.holds hb).orElse (h'.holds hb)).toC hb
def aaw (P:Program) (f:Ty->TypeId->Bool):List Field->Nat->Ty->Bool
 |[],_,.un=>ai
 |[x],off,T=>aC x.offset off&&f T x.type&&aC (P.cellsOf x.type) T.size
 |x::y::r,off,.pr a b=>aC x.offset off&&f a x.type&&aC (P.cellsOf x.type) a.size&&aaw P f (y::r) (off+a.size) b
 |_,_,_=>aj
def UC (P:Program) (f:Ty->TypeId->Bool) (e:TypeId):Nat->Ty->Bool
 |1,T=>f T e&&aC (P.cellsOf e) T.size
 |m+2,.pr a b=>f a e&&aC (P.cellsOf e) a.size&&UC P f e (m+1) b
 |_,_=>aj
def BS (P:Program):Nat->Ty->TypeId->Bool
 |0,_,_=>aj
 |n+1,T,t=>match T,P.underlying t with
  |.int k,af (.int k')=>k==k'
  |.bool,af .bool=>ai
  |.str,af .string=>ai
  |.sl U,af (.slice e)=>BS P n U e&&aC (P.cellsOf e) U.size&&gm 0 U.size
  |.st U,af (.struct fs)=>aaw P (BS P n) fs.toList 0 U&&aC (P.cellsOf t) U.size
  |.st U,af (.array m e)=>UC P (BS P n) e m U&&aC (P.cellsOf t) U.size
  |_,_=>aj
def W_:(T:Ty)->T.den->Prop
 |.int k,n=>(Lit.int k n).wf=ai
 |.str,s=>al s<=maxLen
 |.sl U,xs=>al xs<=maxLen/\∀x∈(xs:List U.den),W_ U x
 |.st t,v=>W_ t v
 |.pr a b,v=>W_ a v.1/\W_ b v.2
 |_,_=>True
def Lt (W:World) (T:Ty) (x:T.den) (cs:ξ):Prop:=cs.length=T.size/\∀(j:Nat) y v,(bS T x)[j]? =af y->cs[j]? =af v->nF (λ_=>False) W y v
theorem K7 {α:Type} (z:α) (P:Nat->α->Prop):∀n:Nat,(∀i,i<n->∃a,P i a)->∃l:List α,l.length=n/\∀i x,l[i]? =af x->P i x
 |0,_=>⟨[],rfl,λi x h=>by simp at h⟩
 |n+1,h=>by
  obtain⟨l,hl,hp⟩:=K7 z P n (λi hi=>h i (by omega));obtain⟨a,J⟩:=h n (by omega);refine ⟨l++[a],by simp[hl],λi x I=>?_⟩;by_cases hi:i<l.length
  .rw[bK hi]at I;exact hp i x I
  .rw[bW (by omega)]at I;by_cases h0:i-l.length=0
   .rw[h0]at I;simp at I;subst I;rw[show i=n from by omega];exact J
   .rw[bR (by simp;omega)]at I;cases I
theorem Addr.add_plain {a:Addr} (h:a.spot=ah) (n:Nat):a.add n=⟨a.block,a.off+n,ah⟩:=by
 unfold Addr.add;split
 .rename_i h0;subst h0;cases a;simp at h;subst h;rfl
 .rfl
theorem ZI {w:World} {a:Addr} {v:Value} (h:w.cell? a=af v):a.spot=ah:=by
 unfold Oh at h;split at h
 .split at h
  .cases h
  .rename_i hs;cases hh:a.spot with
   |none=>rfl
   |some _=>simp[hh]at hs
 .cases h
theorem Lt.sub {W:World} {T:Ty} {x:T.den} {cs:ξ} {off n:Nat} (h:Lt W T x ((cs.drop off).take n)) (hn:n=T.size) (hl:off+n<=cs.length):∀(j:Nat) y v,(bS T x)[j]? =af y->cs[off+j]? =af v->nF (λ_=>False) W y v:=λj y v I hv=>by
 refine h.2 j y v I ?_;have hj:j<T.size:=by have:=(bl.1 I).1;rwa [bD]at this
 rw[cZ,aD (by omega),gY];exact hv
section
variable {H:Type} {enc:TypeId×Value->H} {P:Program} {W:World} {base:Nat} {sp:Nat->Bool} {hd:Bool}
theorem Xu {f:Ty->TypeId->Bool} {m:Nat} (M:∀(T:Ty) (t:TypeId) (cs:ξ) x,f T t=ai->DataW.trod enc P W base sp hd m t cs=af x->∃v,Lt W T v cs/\W_ T v) (cs:ξ) (ts:List (DataW H×List MemPlace)):
 ∀(fs:List Field) (off k:Nat) (T:Ty),aaw P f fs off T=ai->off+T.size<=cs.length->(∀(i:Nat) (fl:Field),fs[i]? =af fl->∃z,DataW.trod enc P W base sp hd m fl.type ((cs.drop fl.offset).take (P.cellsOf fl.type))=af z)->
 ∃v,(∀(j:Nat) y u,(bS T v)[j]? =af y->cs[off+j]? =af u->nF (λ_=>False) W y u)/\W_ T v
 |[],off,k,.un,_,_,_=>⟨(),λj y u I=>by simp[bS]at I,trivial⟩
 |[x],off,k,T,h,hl,hg=>by
  simp only[aaw,av]at h;obtain⟨⟨h1,h2⟩,J⟩:=h;have h1:=aw h1;have J:=aw J;obtain⟨z,U⟩:=hg 0 x rfl;obtain⟨v,hv,Z⟩:=M T _ _ _ h2 U;rw[h1]at hv;exact⟨v,hv.sub J (by omega),Z⟩
 |x::x'::r,off,k,.pr a b,h,hl,hg=>by
  simp only[aaw,av]at h;obtain⟨⟨⟨h1,h2⟩,J⟩,h4⟩:=h;have h1:=aw h1;have J:=aw J;simp only[Ty.size]at hl;obtain⟨z,U⟩:=hg 0 x rfl;obtain⟨v,hv,Z⟩:=M a _ _ _ h2 U;rw[h1]at hv;have hv:=hv.sub J (by omega);obtain⟨v',hv',Y⟩:=Xu M cs ts (x'::r) (off+a.size) (k+1) b h4 (by omega) (λi fl hi=>hg (i+1) fl (by simpa using hi));refine ⟨(v,v'),λj y u I hu=>?_,Z,Y⟩;simp only[bS]at I;by_cases hj:j<a.size
  .rw[bK (by rw[bD];exact hj)]at I;exact hv j y u I hu
  .rw[bW (by rw[bD];omega),bD]at I;exact hv' _ y u I (by rw[show off+a.size+(j-a.size)=off+j from by omega];exact hu)
theorem Xv {f:Ty->TypeId->Bool} {m:Nat} {e:TypeId} (J:∀(T:Ty) (t:TypeId) (cs:ξ) x,f T t=ai->DataW.trod enc P W base sp hd m t cs=af x->∃v,Lt W T v cs/\W_ T v) (cs:ξ):
 ∀(n i:Nat) (T:Ty),UC P f e n T=ai->i*P.cellsOf e+T.size<=cs.length->(∀j,j<n->∃z,DataW.trod enc P W base sp hd m e ((cs.drop ((i+j)*P.cellsOf e)).take (P.cellsOf e))=af z)->
 ∃v,(∀(j:Nat) y u,(bS T v)[j]? =af y->cs[i*P.cellsOf e+j]? =af u->nF (λ_=>False) W y u)/\W_ T v
 |0,i,T,h,_,_=>by unfold UC at h;cases h
 |1,i,T,h,hl,hg=>by
  simp only[UC,av]at h;have h3:=aw h.2;obtain⟨z,M⟩:=hg 0 (by omega);obtain⟨v,hv,Y⟩:=J T _ _ _ h.1 M;rw[dx]at hv;exact⟨v,hv.sub h3 (by omega),Y⟩
 |n+2,i,T,h,hl,hg=>by
  cases T with
  |pr a b=>
   simp only[UC,av]at h;obtain⟨⟨h1,h2⟩,h4⟩:=h;have h3:=aw h2;simp only[Ty.size]at hl;obtain⟨z,M⟩:=hg 0 (by omega);obtain⟨v,hv,Y⟩:=J a _ _ _ h1 M;rw[dx]at hv;have hv:=hv.sub h3 (by omega);obtain⟨v',Z,U⟩:=Xv J cs (n+1) (i+1) b h4 (by rw[Ol,Nat.one_mul];omega) (λj hj=>by have:=hg (j+1) (by omega);rwa [show i+(j+1)=i+1+j from by omega]at this);refine ⟨(v,v'),λj y u I hu=>?_,Y,U⟩;simp only[bS]at I;by_cases hj:j<a.size
   .rw[bK (by rw[bD];exact hj)]at I;exact hv j y u I hu
   .rw[bW (by rw[bD];omega),bD]at I;exact Z _ y u I (by rw[Ol,Nat.one_mul,show i*P.cellsOf e+P.cellsOf e+(j-a.size)=i*P.cellsOf e+j from by omega];exact hu)
  |_=>unfold UC at h;cases h
theorem If:∀(n:Nat) (T:Ty) (t:TypeId) (fuel:Nat) (cs:ξ) x,BS P n T t=ai->(∀b,sp b=ai)->DataW.trod enc P W base sp hd fuel t cs=af x->∃v,Lt W T v cs/\W_ T v
 |0,_,_,_,_,_,h,_,_=>by unfold BS at h;cases h
 |n+1,T,t,fuel,cs,x,h,hsp,ht=>by
  unfold BS at h;split at h
  .rename_i k k' hu;have hk:=eq_of_beq h;subst hk;obtain⟨m,rfl,_,J⟩:=DataW.trod_int hu ht;refine ⟨m,⟨rfl,λj y v I hv=>?_⟩,J⟩;cases j with
   |zero=>simp[bS]at I hv;subst I hv;exact .raw _
   |succ j=>simp[bS]at I
  .rename_i hu;obtain⟨b,rfl,_⟩:=DataW.trod_bool hu ht;refine ⟨b,⟨rfl,λj y v I hv=>?_⟩,trivial⟩;cases j with
   |zero=>simp[bS]at I hv;subst I hv;exact .raw _
   |succ j=>simp[bS]at I
  .rename_i hu;obtain⟨s,rfl,_,hs⟩:=DataW.trod_string hu ht;refine ⟨s.data.toList,⟨rfl,λj y v I hv=>?_⟩,by simpa[W_] using hs⟩;cases j with
   |zero=>simp[bS]at I hv;subst I hv;exact .raw _
   |succ j=>simp[bS]at I
  .rename_i U e hu;simp only[av]at h;obtain⟨⟨h1,h2⟩,h3⟩:=h;have h2:=aw h2;have h3:0<U.size:=a8 h3;rcases Go.Deep.open_slice hu ht with ⟨rfl,_⟩|⟨a,len,cap,m,k,D,Pl,rfl,hb,hl,hm,hmm,_,hi⟩
   .refine ⟨[],⟨rfl,λj y v I hv=>?_⟩,by simp[W_]⟩;cases j with
    |zero=>simp[bS]at I hv;subst I hv;exact .nil _ _ (by unfold maxLen;omega)
    |succ j=>simp[bS]at I
   .rw[hsp,aD rfl]at hmm;rw[h2]at hi;obtain⟨xs,hx1,Y⟩:=K7 U.zero (λi (v:U.den)=>∃cs',W.cells? base (a.add (i*U.size)) U.size=af cs'/\Lt W U v cs'/\W_ U v) len (λi hil=>by
     obtain⟨cs',hc,htt⟩:=hi i (by omega);obtain⟨v,hv,J⟩:=If n U e k cs' _ h1 hsp htt;exact⟨v,cs',hc,hv,J⟩)
    refine ⟨xs,⟨rfl,λj y v I hv=>?_⟩,by show al xs<=maxLen;omega,λy I=>?_⟩
    .cases j with
     |succ j=>simp[bS]at I
     |zero=>
      simp[bS]at I hv;subst I hv;by_cases h0:len=0
      .have:xs=[]:=gL.1 (by omega);subst this;subst h0;exact .nil _ _ hm
      .obtain⟨x0,hx0⟩:∃x0,xs[0]? =af x0:=⟨xs[0]'(by omega),aB (by omega)⟩
       obtain⟨cs0,hc0,_⟩:=Y 0 x0 hx0;obtain⟨_,hcl0,hat0⟩:=World.cells?_some hc0;have hca:=hat0 0 h3;rw[aB (by omega)]at hca;have hspot:a.spot=ah:=by
        have:=ZI hca;simpa[Addr.add] using this
       have hblk:=World.block_lt_of_cell? W _ hca;rw[Nat.zero_mul,Addr.add_plain hspot,Addr.add_plain rfl]at hca hblk;have hcell:∀(i j:Nat) x,xs[i]? =af x->j<U.size->∃cs',W.cell? ⟨a.block,a.off+(i*U.size+j),ah⟩=cs'[j]? /\j<cs'.length/\Lt W U x cs':=λi j x Z hj=>by
        obtain⟨cs',hc,hr,_⟩:=Y i x Z;obtain⟨_,hcl,hat⟩:=World.cells?_some hc;have:=hat j hj;rw[Addr.add_plain hspot,Addr.add_plain rfl,pO]at this;exact⟨cs',this,by omega,hr⟩
       have hflat:∀j,j<xs.length*U.size->∃x,xs[j/U.size]? =af x/\j%U.size<U.size/\j=j/U.size*U.size+j%U.size:=λj hj=>by
        have h5:j/U.size<xs.length:=Nat.div_lt_of_lt_mul (by rw[H8];exact hj);exact⟨xs[j/U.size],aB h5,Nat.mod_lt _ h3,by rw[H8];exact (Nat.div_add_mod j U.size).symm⟩
       have hlen:(List.flatMap (bS U) xs).length=xs.length*U.size:=fM (bD U) xs;obtain⟨ab,ao,az⟩:=a;cases hspot;rw[<- hx1];refine .sl (List.flatMap (bS U) xs) xs.length cap ab ao (λj=>(W.cell? ⟨ab,ao+j,ah⟩).getD undef) (by omega) hm (λh=>h) hblk (rT U xs) (λj hj=>?_) (λj y I=>?_)
       .obtain⟨x,Z,hjs,hje⟩:=hflat j (by omega);obtain⟨cs',g1,g2,_⟩:=hcell _ _ x Z hjs;rw[<- hje]at g1;simp only[g1,aB g2,vu]
       .have hj:j<xs.length*U.size:=by rw[<- hlen];exact (bl.1 I).1
        obtain⟨x,Z,hjs,hje⟩:=hflat j hj;obtain⟨cs',g1,g2,g3⟩:=hcell _ _ x Z hjs;rw[<- hje]at g1;simp only[g1];rw[aB g2];refine g3.2 (j%U.size) y _ ?_ (aB g2);obtain⟨r,hr⟩:=Fq (bD U) xs (j/U.size) x Z;have:((List.flatMap (bS U) xs).drop (j/U.size*U.size))[j%U.size]? =af y:=by rw[gY,<-hje];exact I
        rw[hr,bK (by rw[bD];exact hjs)]at this;exact this
    .obtain⟨i,M⟩:=fm I;obtain⟨_,_,_,J⟩:=Y i y M;exact J
  .rename_i U fs hu;simp only[av]at h;have h2:=aw h.2;obtain⟨xs,m,rfl,_,hl,hxl,hg⟩:=DataW.trod_struct hu ht;obtain⟨v,hv,J⟩:=Xu (f:=BS P n) (m:=m) (λT t cs x h1 h2=>If n T t m cs x h1 hsp h2) cs xs fs.toList 0 0 U h.1 (by omega) (λi fl hi=>by
    have M:fs[i]? =af fl:=by simpa using hi
    have:=hg i fl M;have hlt:i<xs.length:=by rw[hxl];exact (cJ.1 M).1
    rw[aB hlt]at this;exact⟨_,this⟩)
   exact⟨v,⟨by rw[hl,h2];rfl,λj y u I hu=>hv j y u I (by rw[bQ];exact hu)⟩,J⟩
  .rename_i U m e hu;simp only[av]at h;have h2:=aw h.2;obtain⟨xs,q,rfl,_,hl,hxl,hg⟩:=DataW.trod_array hu ht;obtain⟨v,hv,J⟩:=Xv (f:=BS P n) (m:=q) (λT t cs x h1 h2=>If n T t q cs x h1 hsp h2) cs m 0 U h.1 (by omega) (λj hj=>by
    have:=hg j hj;rw[aB (by omega)]at this;rw[bQ];exact⟨_,this⟩)
   exact⟨v,⟨by rw[hl,h2];rfl,λj y u I hu=>hv j y u I (by rw[Nat.zero_mul,bQ];exact hu)⟩,J⟩
  .cases h
theorem Rn {n:Nat} {T:Ty} {t:TypeId} {v:Value} {r:Reach} {bs:Nat} (I:BS P n T t=ai) (h1:T.one=ai) (h:H5 P W r bs t v):v.cells.toList=[v]:=by
 cases n with
 |zero=>unfold BS at I;cases I
 |succ n=>
  unfold BS at I;unfold H5 at h;cases v with
  |agg cs=>
   exfalso;split at I<;>rename_i hu<;>first|(rw [hu]at h;simp only[]at h;unfold Cell.okWide at h;rw[hu]at h;unfold Cell.ok at h;rw[hu]at h;simp at h)|cases h1|cases I
  |_=>rfl
theorem UU {n:Nat} {T:Ty} {t:TypeId} {v:Value} {r:Reach} {bs:Nat} (I:BS P n T t=ai) (h1:T.one=aj) (h:H5 P W r bs t v):∃cs,v= .agg cs:=by
 cases n with
 |zero=>unfold BS at I;cases I
 |succ n=>
  unfold BS at I;unfold H5 at h;split at I<;>rename_i hu<;>first|(rw [hu]at h;obtain⟨cs,h,_⟩:=h;exact⟨cs,h⟩)|cases h1|cases I
theorem open_arg {n:Nat} {T:Ty} {t:TypeId} {v:Value} {d:DataW H} {ps:List MemPlace} {r:Reach} {bs:Nat} (J:BS P n T t=ai) (hsp:∀b,sp b=ai) (hok:H5 P W r bs t v) (h:DataW.Trod enc P W base sp hd t v d ps):∃x,nF (λ_=>False) W (gK T x) v/\W_ T x:=by
 obtain⟨fuel,hf⟩:=h;obtain⟨x,I,U⟩:=If n T t fuel _ _ J hsp hf;refine ⟨x,?_,U⟩;by_cases h1:T.one=ai
 .obtain⟨e1,e2⟩:=DF T x h1;exact I.2 0 _ v (by rw[e1];rfl) (by rw[Rn J h1 hok];rfl)
 .obtain⟨cs,rfl⟩:=UU J (by simpa using h1) hok;rw[qQ T x (by simpa using h1)];have hl:cs.toList.length=(bS T x).length:=by rw[bD];exact I.1
  have:=nF.agg (O:=λ_=>False) (w:=W) (bS T x) cs.toList hl (om T x) (λj y u M hu=>I.2 j y u M hu);simpa using this
end
theorem Ye {z:Int} (h:(Lit.int .u8 z).wf=ai):0<=z/\z<=255:=⟨bw (pd.1 h).1,bw (pd.1 h).2⟩
theorem Ls {l:List ET} (hl:l.length<=400) {cl:Nat->η} (h:∀i,i<l.length->En ((i:Int)+1) (cl i)):jv ((bt l.length).map cl,(bt l.length).map cl)=af ai:=by
 refine Qp _ ⟨by simp[tK];omega,λc hc=>?_⟩;obtain⟨k,hk,rfl⟩:=c_.1 hc;exact (h k (jU.1 hk)).lb
theorem HY (a b c:η) (M:a.length<=9223372036854775807) (I:∀z∈a,0<=z/\z<=255) (hc:c.length<=9223372036854775807) (J:∀z∈c,0<=z/\z<=255):Ok (li (a,b,c)) λy=>y=ai:=by
 unfold li bd aF;refine ax (P:=TR) (Qq a b c 40 (by omega) (by omega) M I hc J) ?_;rintro⟨w,l⟩ tr;have hl:=tr.len;dsimp only at hl;refine aU (Q4 tr) (aU (ae4 tr) (aZ (λx=>x=ai) ?_ λx I=>ar I));exact M' (aU (Ls hl λi hi=>adb tr (ai1 w l) hi) (M' (aU (Ls hl λi hi=>K6 tr (ai1 w l) hi) (M' (aU (x:=ai) ah3 (ar rfl))))))
theorem ShbClocks_law (x:η×η×η) (w:W_ (.st (.pr (.sl (.int .u8)) (.pr (.sl (.int .u8)) (.sl (.int .u8))))) x):li x=af ai:=by
 obtain⟨a,b,c⟩:=x;obtain⟨⟨l0,w0⟩,_,⟨l2,J⟩⟩:=w;obtain⟨y,h,rfl⟩:=HY a b c l0 (λz I=>Ye (w0 z I)) l2 (λz I=>Ye (J z I));exact h
def inert (f:FuncId):Bool:=aC f 51
theorem Rw:∃I,Tryz.prog.underlying 20=af (.interface I):=⟨#[],by kernel_rfl⟩
theorem ac8 (w:World):(Op.equal 20 .nilIface .nilIface).run Tryz.prog w= .ok ai w:=by
 obtain⟨I,hu⟩:=Rw;have key:∀d,(Op.equalIn (d+1) 20 .nilIface .nilIface).run Tryz.prog w= .ok ai w:=λd=>by simp[Op.equalIn,run_underlying hu]
 exact key 9999
theorem abm {P:Program} {ops:Array Oper} {Q:Exit->Act->List Frame->World->Prop} {i:Nat} {rest:ι} {a:Act} {cs:List Frame} {w w':World} {o:Oper} (J:ops[i]? =af o) (I:o.guard=ah) (hr:(execOp a.eval o).run P w= .ok .recover w') (hn:recoverD cs=ah) (h:wpOpsS P ops Q rest (a.put o.dst .nilIface) cs w'):wpOpsS P ops Q (i::rest) a cs w:=by
 have I:iO o (yielded ops a.tmps)=ai:=by unfold iO;rw[I]
 simp only[wpOpsS,J,I,bG,hr,hn];exact h
theorem abl {P:Program} {ops:Array Oper} {Q:Exit->Act->List Frame->World->Prop} {i:Nat} {rest:ι} {a:Act} {cs:List Frame} {w w':World} {o:Oper} {v:Value} (J:ops[i]? =af o) (I:o.guard=ah) (hr:(execOp a.eval o).run P w= .ok (.value v) w') (h:wpOpsS P ops Q rest (a.put o.dst v) cs w'):wpOpsS P ops Q (i::rest) a cs w:=by
 have I:iO o (yielded ops a.tmps)=ai:=by unfold iO;rw[I]
 simp only[wpOpsS,J,I,bG,hr];exact h
theorem Rv:Ly Tryz.prog inert:=by
 intro f hf;have hf:f=51:=aw hf;subst hf;refine ⟨⟨Tryz.f51,Tryz.func51,by kernel_rfl,by kernel_rfl⟩,λargs w=>?_⟩;refine callsD_of_wpS Tryz.func51 rfl λc₀ cs hu=>?_
 refine wpS_seq (wpS_region ?_);generalize ht:(args++oJ (Tryz.f51.ntmps-args.size) undef)=T;have hs:5<=T.size:=by
  rw[<- ht];simp only[Array.size_append,Array.size_replicate];have:Tryz.f51.ntmps=5:=rfl;omega
 have hr:recoverD (c₀::cs)=ah:=by simp[recoverD,hu]
 refine abm (i:=0) (rest:=[1]) rfl rfl (w':=w) ?_ hr ?_
 .simp[execOp,resolve,invoke,builtin]
 refine abl (v:=.bool aj) rfl rfl (w':=w) ?_ ?_
 .have hv:Act.eval (Om {tmps:=T,defers:=[]} (af 2) .nilIface) (.tmp 2)= .nilIface:=by
   simp[Act.eval,Om,show 2<T.size by omega]
  have h2:=ac8 w;have hcst:Act.eval (Om {tmps:=T,defers:=[]} (af 2) .nilIface) (.const .nilIface)= .nilIface:=rfl;show (execOp (Act.eval (Om {tmps:=T,defers:=[]} (af 2) .nilIface)) _).run _ w=_;simp[execOp,hv,hcst,eqGuard,binOp,h2]
 show Exit.thenS _ _ .normal _ _ _;refine wpS_cond (t:=aj) ?_ ?_
 .simp[Act.eval,Om,show 3<T.size by omega]
 refine wpS_of_wp (wp_skip ?_);have hres:Tryz.f51.results=#[]:=rfl;exact⟨rfl,c₀.mode,rfl,.tuple #[],by simp[results,hres],⟨_,rfl⟩,hu,rfl⟩
def dJ {α:Type}:List (Nat×α)->PT α
 |[]=>.leaf
 |p::r=>(dJ r).set p.1 (af p.2)
noncomputable abbrev Pg:Program:=Tryz.prog
def cn (D:FT) (m:D.pre.ty.den->Option D.post.ty.den):cq:=⟨D.pre,D.post,m⟩
theorem anh:Pg.follows .mixedOrders=ai:=by kernel_rfl
theorem ac {f:FuncId} {c:cq} {l:List (FuncId×cq)} (h:aI Pg f c) (t:Ut Pg l):Ut Pg ((f,c)::l):=⟨h,t⟩
theorem an:Ut Pg []:=trivial
inductive OI {R:Type}:Option R->Option R->Prop where
 |rfl {a:Option R}:OI a a
 |chk {b:Bool} {k k':Option R} (h:kJ k k'):OI (chk b λ_=>k) (chk b λ_=>k')
 |bcase {b:Bool} {t f t' f':Option R} (h1:kJ t t') (h2:kJ f f'):OI (bcase b t f) (bcase b t' f')
 |lt {α:Type} {x:α} {k k':α->Option R} (h:∀y,kJ (k y) (k' y)):OI (lt x k) (lt x k')
 |jn {α:Type} {o o':Option (R⊕α)} {k k':α->Option R} (h:kJ o o') (hk:∀x,kJ (k x) (k' x)):OI (jn o k) (jn o' k')
 |obind {α:Type} {o o':Option α} {k k':α->Option R} (h:kJ o o') (hk:∀x,kJ (k x) (k' x)):OI (obind o k) (obind o' k')
 |iter {σ:Type} {f g:σ->Option (σ⊕R)} {x:σ} (h:∀x,kJ (f x) (g x)):OI (fK f x) (iter g x)
theorem OI.o {R:Type} {a b:Option R} (h:OI a b):kJ a b:=by
 cases h with
 |rfl=>exact kJ.rfl
 |chk h=>exact kJ.chk h
 |bcase h g=>exact kJ.bcase h g
 |lt h=>exact kJ.lt h
 |jn h g=>exact kJ.jn h g
 |obind h g=>exact kJ.obind h g
 |iter h=>exact kJ.iter h
theorem mk {f:FuncId} (D:FT) (m:D.pre.ty.den->Option D.post.ty.den) {l:List (FuncId×cq)} (J:Ut Pg l) (I:TypeId->Option Ty) (he:∀x,ab1 (Wm l) I inert (Ae Pg f) D x=m x:=by intro x;kernel_rfl) (hs:(Ae Pg f).isSome=ai:=by kernel_rfl) (hb:eO D.pre.bs.length D.post.bs.length=ai:=by kernel_rfl):aI Pg f (cn D m):=(R3 anh Rv J hs he).toC hb
theorem xx {f:FuncId} (D:FT) (m n:D.pre.ty.den->Option D.post.ty.den) (J:∀x,kJ (m x) (n x)) {l:List (FuncId×cq)} (M:Ut Pg l) (I:TypeId->Option Ty) (he:∀x,ab1 (Wm l) I inert (Ae Pg f) D x=n x:=by intro x;kernel_rfl) (hs:(Ae Pg f).isSome=ai:=by kernel_rfl) (hb:eO D.pre.bs.length D.post.bs.length=ai:=by kernel_rfl):aI Pg f (cn D m):=((R3 anh Rv M hs he).sub J).toC hb
theorem Rr {f:FuncId} (D:FT) (hs:(Ae Pg f).isSome=ai:=by kernel_rfl) (hb:eO D.pre.bs.length D.post.bs.length=ai:=by kernel_rfl):aI Pg f (cn D λ_=>ah):=(Vx hs).toC hb
abbrev vp:List PV:=[.d aM,.d aM,.d aM,.d aM,.d aM,.nil,.nil]
abbrev wv:List PV:=[.nil,.d aM,.nil,.nil,.nil,.nil,.nil]
abbrev ajb:List PV:=[.ptr 1 0,.d aM,.d aM,.d .bool,.d .bool,.d .bool,.d .bool,.row 4]
abbrev ajf:List PV:=[.d aM,.d aM,.d .str,.d .str,.nil,.d aM,.d aM,.d .str,.nil,.nil,.nil]
abbrev La2:List PB:=[.cells 205 ajb,.cells 89 [.d ze],.gone,.cells 211 ajf,.rowsP 9 .str]
abbrev Ob:List PV:=[.ptr 0 0,.ptr 1 0,.ptr 2 0,.ptr 3 0,.ptr 4 0,.ptr 5 0,.ptr 6 0,.ptr 7 0,.d .bool]
abbrev La4:List PB:=[.cells 197 [.d (.sl kE),.d (.sl rY),.d (.sl lZ),.d (.sl .str),.d (.sl .str),.d (.sl o7),.d (.sl .str),.row 2,.d aM,.d aM],.gone,.rows 201 ai rf]
abbrev La5:List PB:=[.cells 197 [.d (.sl kE),.d (.sl rY),.d (.sl lZ),.d (.sl .str),.d (.sl .str),.d (.sl o7),.d (.sl .str),.row 1,.d aM,.d aM],.rows 201 ai rf]
abbrev La6:List PV:=[.d aM,.row 11,.row 12,.d aM]
abbrev La7:List PB:=[.cells 151 [.nil,.nil],.cells 205 [.ptr 5 0,.d aM,.d aM,.d .bool,.d .bool,.d .bool,.d .bool,.row 6],.cells 151 [.d (.sl Hm),.row 7],.rows 9 aj .str,.cells 195 [.d .str,.d aM,.row 8,.row 9],.cells 89 [.d ze],.rowsP 9 .str,.rows 195 ai tm,.rows 9 aj .str,.rows 211 ai .sm]
abbrev La8:List PB:=[.cells 236 [.d (.sl Hm),.d (.sl tm),.d aM,.row 1,.row 6,.row 7],.rowsP 211 .sm,.gone,.gone,.cells 211 [.d .sm],.cells 151 [.d Oc],.rows 9 ai .str,.rows 9 ai .str]
abbrev La9:List PV:=[.d (.sl dZ),.d aM,.d ql,.d (.sl ib),.row 8,.row 9,.csl 10 4 4]
abbrev ahq:List PB:=[.cells 105 [.d (.sl dZ),.d aM,.d ql,.d (.sl ib),.row 6,.row 7,.csl 8 4 4],.cells 154 [.d iN],.cells 105 wv,.cells 52 vp,.cells 52 [.d gA],.cells 188 [.d e_],.rows 2 ai aM,.rows 2 ai aM,.cells 188 [.d e_,.d e_,.d e_,.d e_]]
abbrev ajc:List PV:=[.ptr 1 0,.d aM,.d aM,.d .bool,.d .bool,.d .bool,.d .bool,.row 2]
abbrev Qv:List PV:=[.d Em,.d aM]
abbrev WY:List PB:=[.cells 205 ajc,.cells 89 Qv,.rowsP 9 .str]
abbrev MX:List PV:=[.ptr 0 0,.ptr 1 0,.ptr 2 0,.ptr 3 0,.ptr 4 0,.ptr 5 0,.ptr 6 0,.ptr 7 0,.d aM]
abbrev alj:List PV:=[.d (.sl dZ),.d aM,.d ql,.d (.sl ib),.row 8,.row 9,.csl 10 4 3]
abbrev am4:List PB:=[.cells 110 [.d uZ],.cells 105 alj,.cells 154 [.d iN],.cells 105 wv,.cells 52 vp,.cells 52 [.d gA],.cells 188 La6,.cells 201 [.d rf],.rows 2 ai aM,.rows 2 ai aM,.cells 188 [.d aM,.row 11,.row 12,.d aM,.d e_,.d e_],.rows 2 ai aM,.rows 50 ai (.sl aM)]
abbrev am3:List PB:=[.cells 110 [.d uZ],.cells 105 alj,.cells 154 [.d iN],.cells 105 wv,.cells 52 vp,.cells 52 [.d gA],.cells 188 La6,.cells 201 [.d rf],.rows 2 ai aM,.rows 2 ai aM,.cells 188 [.d e_,.d aM,.row 11,.row 12,.d aM,.d e_],.rows 2 ai aM,.rows 50 ai (.sl aM)]
abbrev am2:List PB:=[.cells 110 [.d uZ],.cells 105 alj,.cells 154 [.d iN],.cells 105 wv,.cells 52 vp,.cells 52 [.d gA],.cells 188 La6,.cells 201 [.d rf],.rows 2 ai aM,.rows 2 ai aM,.cells 188 [.d e_,.d e_,.d aM,.row 11,.row 12,.d aM],.rows 2 ai aM,.rows 50 ai (.sl aM)]
abbrev aje:List PV:=[.d (.sl dZ),.d aM,.d ql,.d (.sl ib),.row 8,.row 9,.csl 10 4 2]
abbrev am1:List PB:=[.cells 110 [.d uZ],.cells 105 aje,.cells 154 [.d iN],.cells 105 wv,.cells 52 vp,.cells 52 [.d gA],.cells 188 La6,.cells 201 [.d rf],.rows 2 ai aM,.rows 2 ai aM,.cells 188 [.d aM,.row 11,.row 12,.d aM,.d e_],.rows 2 ai aM,.rows 50 ai (.sl aM)]
abbrev am0:List PB:=[.cells 110 [.d uZ],.cells 105 aje,.cells 154 [.d iN],.cells 105 wv,.cells 52 vp,.cells 52 [.d gA],.cells 188 La6,.cells 201 [.d rf],.rows 2 ai aM,.rows 2 ai aM,.cells 188 [.d e_,.d aM,.row 11,.row 12,.d aM],.rows 2 ai aM,.rows 50 ai (.sl aM)]
abbrev aa1:List PB:=[.cells 236 [.d (.sl Hm),.d (.sl tm),.d aM,.row 1,.row 4,.row 5],.rowsP 211 .sm,.gone,.gone,.rows 9 ai .str,.rows 9 ai .str]
abbrev MW:List PV:=[.ptr 0 0,.ptr 1 0,.ptr 2 0,.ptr 3 0,.ptr 4 0,.ptr 5 0,.ptr 6 0,.d .bool]
abbrev hP:List PV:=[.ptr 0 0,.d .bool]
abbrev aa0:List PB:=[.cells 236 [.d (.sl Hm),.d (.sl tm),.d aM,.row 1,.row 2,.row 3],.rowsP 211 .sm,.rows 9 ai .str,.rows 9 ai .str]
abbrev alz:List PB:=[.cells 110 [.d uZ],.cells 105 [.d (.sl dZ),.d aM,.d ql,.d (.sl ib),.row 8,.row 9,.csl 10 4 1],.cells 154 [.d iN],.cells 105 wv,.cells 52 vp,.cells 52 [.d gA],.cells 188 La6,.cells 201 [.d rf],.rows 2 ai aM,.rows 2 ai aM,.cells 188 La6,.rows 2 ai aM,.rows 50 ai (.sl aM)]
abbrev MV:List PV:=[.ptr 0 0,.ptr 1 0,.ptr 2 0,.ptr 3 0,.ptr 4 0,.ptr 5 0,.ptr 6 0]
abbrev aly:List PB:=[.cells 110 [.d uZ],.cells 105 La9,.cells 154 [.d iN],.cells 105 wv,.cells 52 vp,.cells 52 [.d gA],.cells 188 La6,.cells 201 [.d rf],.rows 2 ai aM,.rows 2 ai aM,.cells 188 [.d aM,.row 11,.row 12,.d aM,.d e_,.d e_,.d e_],.rows 2 ai aM,.rows 50 ai (.sl aM)]
abbrev alx:List PB:=[.cells 110 [.d uZ],.cells 105 La9,.cells 154 [.d iN],.cells 105 wv,.cells 52 vp,.cells 52 [.d gA],.cells 188 La6,.cells 201 [.d rf],.rows 2 ai aM,.rows 2 ai aM,.cells 188 [.d e_,.d aM,.row 11,.row 12,.d aM,.d e_,.d e_],.rows 2 ai aM,.rows 50 ai (.sl aM)]
abbrev alw:List PB:=[.cells 110 [.d uZ],.cells 105 La9,.cells 154 [.d iN],.cells 105 wv,.cells 52 vp,.cells 52 [.d gA],.cells 188 La6,.cells 201 [.d rf],.rows 2 ai aM,.rows 2 ai aM,.cells 188 [.d e_,.d e_,.d aM,.row 11,.row 12,.d aM,.d e_],.rows 2 ai aM,.rows 50 ai (.sl aM)]
abbrev alv:List PB:=[.cells 110 [.d uZ],.cells 105 La9,.cells 154 [.d iN],.cells 105 wv,.cells 52 vp,.cells 52 [.d gA],.cells 188 La6,.cells 201 [.d rf],.rows 2 ai aM,.rows 2 ai aM,.cells 188 [.d e_,.d e_,.d e_,.d aM,.row 11,.row 12,.d aM],.rows 2 ai aM,.rows 50 ai (.sl aM)]
abbrev Lx:List PB:=[.cells 31 [.d l7],.cells 97 [.d iV],.cells 52 [.d gA],.cells 97 wv]
abbrev MU:List PV:=[.ptr 0 0,.ptr 1 0,.ptr 2 0,.ptr 3 0,.ptr 4 0,.ptr 5 0]
abbrev alu:List PB:=[.cells 105 [.d (.sl dZ),.d aM,.d ql,.d (.sl ib),.row 6,.row 7,.csl 8 4 3],.cells 154 [.d iN],.cells 105 wv,.cells 52 vp,.cells 52 [.d gA],.cells 188 [.d e_],.rows 2 ai aM,.rows 2 ai aM,.cells 188 [.d e_,.d e_,.d e_]]
abbrev Ua:List PV:=[.d (.sl dZ),.d aM,.d ql,.d (.sl ib),.row 7,.row 8,.csl 9 4 4]
abbrev ri:List PV:=[.ptr 0 0,.ptr 1 0,.d .bool]
abbrev Al:List PV:=[.ptr 0 0,.ptr 1 0,.ptr 2 0,.ptr 3 0,.d .bool]
abbrev ahi:List PV:=[.nil,.nil,.nil,.nil,.nil,.nil]
abbrev alt:List PB:=[.cells 151 [.d Oc],.cells 31 ahi,.cells 31 [.row 4,.row 5,.row 6,.row 7,.nil,.nil],.cells 239 [.d Hm],.rows 123 ai kE,.rows 125 ai rY,.rows 116 ai lZ,.rows 9 ai .str]
abbrev aea:List PV:=[.nil,.nil,.nil,.nil,.nil,.nil,.nil]
abbrev aox:List PV:=[.d (.sl kE),.d (.sl rY),.d (.sl lZ),.d (.sl .str),.d (.sl .str),.d (.sl o7),.row 5]
abbrev ap9:List PB:=[.cells 151 [.d Oc],.cells 110 aea,.cells 110 aox,.cells 197 [.d (.sl kE),.d (.sl rY),.d (.sl lZ),.d (.sl .str),.d (.sl .str),.d (.sl o7),.d (.sl .str),.row 6,.d aM,.d aM],.cells 184 [.d aM,.row 6],.rows 184 ai xq,.rows 201 ai rf]
abbrev H0:List PV:=[.row 0,.d aM,.row 1,.row 2]
abbrev als:List PB:=[.cells 89 [.d ze],.cells 97 [.d iV],.cells 31 [.d l7],.rows 52 ai gA,.cells 50 [.row 5,.row 6,.row 7,.row 8],.rows 3 ai aM,.rows 3 ai aM,.rows 3 ai aM,.rows 3 ai aM]
abbrev FY:List PV:=[.ptr 0 0,.ptr 1 0,.ptr 2 0,.d aM]
abbrev Lw:List PV:=[.d aM,.d (.sl aM),.d jY,.d aM]
abbrev Z':List PV:=[.d (.sl dZ),.d aM,.d ql,.d (.sl ib),.row 7,.row 8,.csl 9 4 3]
abbrev alr:List PB:=[.cells 89 [.d ze],.cells 97 [.d iV],.cells 31 [.d l7],.cells 50 [.row 4,.row 5,.row 6,.row 7],.rows 3 ai aM,.rows 3 ai aM,.rows 3 ai aM,.rows 3 ai aM]
abbrev FX:List PV:=[.ptr 0 0,.ptr 1 0,.ptr 2 0,.d .bool]
abbrev wu:List PV:=[.ptr 0 0,.ptr 1 0,.d aM]
abbrev Lv:List PV:=[.d aM,.row 10,.row 11,.d aM]
abbrev ahh:List PV:=[.d aM,.row 0,.row 1,.d aM]
abbrev Ys:List PV:=[.d aM,.nil,.nil,.d aM]
abbrev alq:List PB:=[.rows 2 ai aM,.rows 50 ai (.sl aM),.cells 201 [.d rf],.cells 188 ahh,.cells 188 Ys]
abbrev alp:List PB:=[.cells 236 [.d (.sl Hm),.d (.sl tm),.d aM,.row 4,.row 5,.row 6],.gone,.gone,.gone,.rowsP 211 .sm,.rows 9 ai .str,.rows 9 ai .str]
abbrev CD:List PV:=[.nil,.d aM,.nil,.nil]
abbrev alo:List PB:=[.cells 94 [.row 2,.d aM,.row 3,.row 4],.cells 94 CD,.rows 167 ai dZ,.rows 4 ai .bool,.rows 169 ai ib]
abbrev Lu:List PV:=[.ptr 0 0,.ptr 3 0,.d .bool]
abbrev ap8:List PB:=[.cells 105 [.d (.sl dZ),.d aM,.d ql,.d (.sl ib),.row 6,.row 7,.csl 8 4 2],.cells 154 [.d iN],.cells 105 wv,.cells 52 vp,.cells 52 [.d gA],.cells 188 [.d e_],.rows 2 ai aM,.rows 2 ai aM,.cells 188 [.d e_,.d e_]]
abbrev ap7:List PB:=[.cells 34 aea,.cells 89 [.d ze],.cells 34 aox,.cells 97 [.d iV],.rows 52 aj gA,.rows 52 ai gA]
abbrev qj:List PB:=[.cells 31 [.d l7]]
abbrev ap6:List PB:=[.cells 89 [.d ze],.cells 97 [.d iV],.cells 31 [.d l7],.rows 52 ai gA,.cells 50 [.row 7,.row 8,.row 9,.row 10],.cells 52 [.d gA],.cells 97 [.d iV],.rows 3 ai aM,.rows 3 ai aM,.rows 3 ai aM,.rows 3 ai aM]
abbrev ahp:List PB:=[.cells 31 ahi,.cells 31 [.row 2,.row 3,.row 4,.row 5,.row 6,.row 7],.rows 123 aj kE,.rows 125 aj rY,.rows 116 aj lZ,.rows 9 aj .str,.rows 9 aj .str,.rows 127 ai o7]
abbrev xp:List PV:=[.ptr 0 0,.d aM]
abbrev ae9:List PV:=[.row 2,.row 3,.row 4,.row 5]
abbrev ap5:List PB:=[.cells 89 [.d ze],.cells 50 ae9,.rows 3 ai aM,.rows 3 ai aM,.rows 3 ai aM,.rows 3 ai aM,.cells 52 vp,.cells 52 [.d aM,.d aM,.d aM,.d aM,.d aM,.d (.sl aM),.nil]]
abbrev aho:List PV:=[.d (.sl dZ),.d aM,.d ql,.d (.sl ib),.row 7,.row 8,.csl 9 4 2]
abbrev MT:List PV:=[.d ww,.d gA,.d .bool]
abbrev ap4:List PB:=[.cells 89 [.d ze],.cells 50 ae9,.rows 3 ai aM,.rows 3 ai aM,.rows 3 ai aM,.rows 3 ai aM,.cells 97 [.d iV],.cells 31 [.d l7],.cells 52 vp,.cells 52 vp]
abbrev ap3:List PB:=[.cells 151 [.d Oc],.cells 31 ahi,.cells 31 [.row 3,.row 4,.row 5,.row 6,.nil,.nil],.rows 123 ai kE,.rows 125 ai rY,.rows 116 ai lZ,.rows 9 ai .str]
abbrev aln:List PV:=[.d (.sl dZ),.d aM,.d ql,.d (.sl ib),.row 3,.row 4,.row 5]
abbrev MS:List PV:=[.d uZ,.d ww,.d iN]
abbrev alm:List PB:=[.rows 167 ai dZ,.rows 4 ai .bool,.rows 169 ai ib,.cells 94 H0,.rows 3 ai aM]
abbrev aed:List PV:=[.row 3,.d aM,.row 4,.row 5]
abbrev ap2:List PB:=[.cells 31 [.d l7],.cells 94 aed,.cells 94 CD,.rows 167 ai dZ,.rows 4 ai .bool,.rows 169 ai ib]
abbrev wq:List PV:=[.d aM,.d aM]
abbrev alk:List PB:=[.rows 52 ai gA,.cells 110 [.d uZ],.cells 105 [.d ww],.cells 105 wv]
abbrev ap1:List PB:=[.cells 184 [.d xq],.cells 188 [.d aM,.row 3,.row 4,.d aM],.cells 188 Ys,.rows 2 ai aM,.rows 50 ai (.sl aM)]
abbrev ap0:List PB:=[.cells 205 ajb,.cells 89 [.d ze],.gone,.rows 211 ai .sm,.rowsP 9 .str]
abbrev ali:List PV:=[.ptr 1 0,.d aM,.d aM,.d .bool,.d .bool,.d .bool,.d .bool,.row 3]
abbrev aoz:List PB:=[.cells 52 vp,.cells 188 [.d e_],.cells 201 [.d rf],.cells 52 [.d aM,.d aM,.d aM,.d aM,.d aM,.row 4,.nil],.rows 3 ai aM]
abbrev Qu:List PB:=[.cells 211 [.d .sm]]
abbrev ahn:List PV:=[.agg [.agg H0,.row 3,.row 4,.csl 5 4 4]]
abbrev T_:List PB:=[.cells 151 [.d Oc]]
abbrev alh:List PB:=[.cells 31 [.d l7],.cells 184 [.d xq],.cells 201 [.d rf]]
abbrev ahm:List PB:=[.cells 151 [.d Oc],.cells 195 [.d tm]]
abbrev ahl:List PB:=[.cells 151 [.d Oc],.cells 209 [.d .ex]]
abbrev alg:List PB:=[.cells 31 [.d l7],.rows 9 ai .str,.cells 123 [.d kE]]
abbrev alf:List PB:=[.rows 167 ai dZ,.rows 4 ai .bool,.rows 169 ai ib]
abbrev ahk:List PB:=[.cells 31 [.d l7],.cells 201 [.d rf]]
abbrev ahj:List PV:=[.ptr 0 0,.ptr 4 0,.ptr 5 0,.d .bool]
abbrev ale:List PV:=[.ptr 0 0,.ptr 1 0,.ptr 2 0,.ptr 3 0,.ptr 4 0,.d aM]
abbrev WV:List PB:=[.cells 31 [.d l7],.cells 94 [.d H3]]
abbrev ald:List PB:=[.cells 89 [.d ze],.rows 3 ai aM,.rows 3 ai aM]
abbrev Z_:List PB:=[.cells 31 [.d l7],.rows 9 ai .str]
abbrev alc:List PB:=[.cells 52 [.d gA],.cells 97 wv,.cells 97 aln,.rows 2 ai aM,.rows 2 ai aM,.rows 3 ai aM]
abbrev aoy:List PB:=[.cells 89 Qv,.cells 50 ae9,.rows 3 ai aM,.rows 3 ai aM,.rows 3 ai aM,.rows 3 ai aM]
abbrev HZ:List PV:=[.d (.sl aM),.d aM]
abbrev T9:List PV:=[.ptr 0 0,.row 1,.d aM]
abbrev Z9:List PB:=[.cells 239 [.d Hm]]
abbrev Z8:List PB:=[.cells 89 [.d ze]]
abbrev alb:List PV:=[.agg [.agg H0,.row 3,.row 4,.csl 5 4 3]]
abbrev T8:List PB:=[.cells 89 Qv]
abbrev aei:List PB:=[.rows 2 ai aM,.rows 50 ai (.sl aM)]
abbrev aeh:List PB:=[.cells 110 [.d uZ],.cells 105 [.d ww]]
abbrev aeg:List PB:=[.cells 31 [.d l7],.cells 184 [.d xq]]
abbrev mM:List PV:=[.d (.sl aM)]
abbrev aef:List PV:=[.ptr 0 0,.ptr 1 0,.ptr 2 0,.ptr 3 0]
abbrev ajd:List PV:=[.d (.sl dZ),.d aM,.d ql,.d (.sl ib),.row 7,.row 8,.csl 9 4 1]
abbrev aee:List PB:=[.cells 94 [.d H3],.rows 3 ai aM]
abbrev Ub:List PV:=[.ptr 0 0,.d aM,.d aM]
def tyT:PT Ty:=dJ [(2,aM),(3,aM),(4,.bool),(9,.str),(50,(.sl aM)),(52,gA),(57,iN),(77,iN),(91,ql),(116,lZ),(123,kE),(125,rY),(127,o7),(154,iN),(167,dZ),(169,ib),(184,xq),(188,e_),(195,tm),(201,rf),(209,.ex),(211,.sm),(239,Hm)]
def b7 (t:TypeId):Option Ty:=tyT.get t
def Bx:FT:=⟨⟨[],[]⟩,⟨[.d (.sl .str)],[]⟩,.leaf⟩
def MD:cq:=cn Bx kA
def zV:FT:=⟨⟨[.d .str],[]⟩,⟨[.d .bool],[]⟩,dJ [(8,(.j ⟨[0,3],[4],⟨[.d aM],[]⟩,[]⟩))]⟩
def KX:cq:=cn zV jL
def Ha:FT:=⟨⟨[.d (.int .u8)],[]⟩,⟨[.d .bool],[]⟩,dJ [(2,(.j ⟨[],[2],⟨[.d .bool],[]⟩,[]⟩))]⟩
def Tr:cq:=cn Ha lB
def Kz:FT:=⟨⟨[.d (.int .u8)],[]⟩,⟨[.d .bool],[]⟩,dJ [(2,(.j ⟨[],[2],⟨[.d .bool],[]⟩,[]⟩))]⟩
def Wk:cq:=cn Kz rI
def Ky:FT:=⟨⟨[.d (.int .u8)],[]⟩,⟨[.d .bool],[]⟩,dJ [(2,(.j ⟨[],[2],⟨[.d .bool],[]⟩,[]⟩))]⟩
def Wj:cq:=cn Ky pE
def Hb:FT:=⟨⟨[.d .str],[]⟩,⟨[.d .bool],[]⟩,dJ [(3,(.j ⟨[0],[21],⟨[.d .bool],[]⟩,[]⟩)),(14,(.j ⟨[0],[3],⟨[.d aM],[]⟩,[]⟩))]⟩
def Ts:cq:=cn Hb fw
def Kt:FT:=⟨⟨[.d .bool],[]⟩,⟨[.d aM],[]⟩,.leaf⟩
def Wb:cq:=cn Kt f_
def Ku:FT:=⟨⟨wq,[]⟩,⟨[.d aM,.d .bool],[]⟩,.leaf⟩
def Wc:cq:=cn Ku uG
def G8:FT:=⟨⟨[.d aM,.d aM,.d aM],[]⟩,⟨[.d aM,.d .bool],[]⟩,dJ [(91,(.j ⟨[],[6,7],⟨[.d aM,.d .bool],[]⟩,[]⟩)),(97,(.j ⟨[],[6,7],⟨[.d aM,.d .bool],[]⟩,[]⟩))]⟩
def Tn:cq:=cn G8 sF
def Kv:FT:=⟨⟨wq,[]⟩,⟨[.d aM],[]⟩,dJ [(12,(.j ⟨[],[5],⟨[.d aM],[]⟩,[]⟩))]⟩
def Wd:cq:=cn Kv rG
def Bw:FT:=⟨⟨[.d aM],[]⟩,⟨[.d aM],[]⟩,dJ [(4,(.j ⟨[0],[3],⟨[.d .bool],[]⟩,[]⟩)),(10,(.j ⟨[0],[10],⟨[.d .bool],[]⟩,[]⟩)),(16,(.j ⟨[],[17],⟨[.d .bool],[]⟩,[]⟩))]⟩
def MC:cq:=cn Bw mz
def pl:FT:=⟨⟨[.d .ex],[]⟩,⟨[.d .bool],[]⟩,dJ [(2,(.j ⟨[],[1,3],⟨hP,[.cells 209 [.d .ex]]⟩,[]⟩)),(5,(.j ⟨[],[1,50],⟨hP,[.cells 209 [.d .ex]]⟩,[]⟩)),(16,(.j ⟨[],[1,4],⟨xp,[.cells 209 [.d .ex]]⟩,[]⟩))]⟩
def HM:cq:=cn pl jh
def Hx (n:Nat):cq:=cn pl (h_ n)
def Kx:FT:=⟨⟨[.d .ex],[]⟩,⟨[.d .bool],[]⟩,dJ [(2,(.j ⟨[],[2],⟨[.d .bool],[]⟩,[]⟩))]⟩
def Wi:cq:=cn Kx pD
def tj:FT:=⟨⟨[.d .sm],[]⟩,⟨[.d .bool],[]⟩,dJ [(3,(.j ⟨[],[1,13],⟨hP,Qu⟩,[]⟩)),(10,(.j ⟨[],[1,3],⟨hP,Qu⟩,[]⟩)),(13,(.j ⟨[],[1,47],⟨hP,Qu⟩,[]⟩)),(21,(.j ⟨[],[1,66],⟨hP,Qu⟩,[]⟩)),(29,(.j ⟨[],[1,95],⟨hP,Qu⟩,[]⟩)),(36,(.j ⟨[],[1,4],⟨hP,Qu⟩,[]⟩)),(39,(.j ⟨[],[1,130],⟨hP,Qu⟩,[]⟩)),(46,(.j ⟨[],[1,5],⟨hP,Qu⟩,[]⟩)),(49,(.j ⟨[],[1,157],⟨hP,Qu⟩,[]⟩)),(56,(.j ⟨[],[2],⟨[.d .bool],[]⟩,[]⟩))]⟩
def Hw (n:Nat):cq:=cn tj (eD n)
def oo:FT:=⟨⟨[.d (.sl .sm)],[]⟩,⟨[.d .bool],[]⟩,dJ [(6,(.j ⟨[0],[3],⟨[.d aM],[]⟩,[]⟩))]⟩
def FE:cq:=cn oo nW
def E0 (n:Nat):cq:=cn oo (dI n)
def yN:FT:=⟨⟨[.d Hm],[]⟩,⟨[.d .bool],[]⟩,dJ [(3,(.j ⟨[],[1,31],⟨hP,Z9⟩,[]⟩)),(11,(.j ⟨[],[1,50],⟨hP,Z9⟩,[]⟩)),(18,(.j ⟨[],[2],⟨[.d .bool],[]⟩,[]⟩))]⟩
def HL:cq:=cn yN ka
def G':FT:=⟨⟨[.d Oc],[]⟩,⟨[.d .bool],[]⟩,dJ [(6,(.j ⟨[],[1,3],⟨xp,T_⟩,[]⟩)),(27,(.j ⟨[],[1,4],⟨xp,T_⟩,[]⟩)),(42,(.j ⟨[4],[1,5,6],⟨wu,ahm⟩,[]⟩)),(59,(.j ⟨[4],[1,56],⟨hP,T_⟩,[]⟩))]⟩
def Tq:cq:=cn G' pZ
def X6:FT:=⟨⟨[.d (.sl .str),.d .str],[]⟩,⟨[.d aM],[]⟩,dJ [(6,(.j ⟨[0,1],[5],⟨[.d aM],[]⟩,[]⟩))]⟩
def agq:cq:=cn X6 jd
def G_:FT:=⟨⟨[.d (.sl Hm),.d .str],[]⟩,⟨[.d aM],[]⟩,dJ [(6,(.j ⟨[0,1],[5],⟨[.d aM],[]⟩,[]⟩))]⟩
def Tp:cq:=cn G_ hZ
def Bv:FT:=⟨⟨[.d (.sl tm),.d .str],[]⟩,⟨[.d aM],[]⟩,dJ [(6,(.j ⟨[0,1],[5],⟨[.d aM],[]⟩,[]⟩))]⟩
def MB:cq:=cn Bv gR
def G9:FT:=⟨⟨[.d Oc,.d aM,.d .str],[]⟩,⟨[.d aM],[]⟩,dJ [(3,(.j ⟨[2],[3,27],⟨hP,T_⟩,[]⟩)),(52,(.j ⟨[7],[3,56],⟨hP,T_⟩,[]⟩))]⟩
def To:cq:=cn G9 pY
def NP:FT:=⟨⟨[.d Oc,.d aM,.d .str,.d aM,.d aM],[]⟩,⟨[.d aM],[]⟩,dJ [(13,(.j ⟨[],[25],⟨[.d .bool],[]⟩,[]⟩))]⟩
def Zy:cq:=cn NP gF
def yi:FT:=⟨⟨[.d .ex],[]⟩,⟨wq,[]⟩,dJ [(8,(.j ⟨[],[1,4,5,6],⟨[.ptr 0 0,.d aM,.d aM,.d aM],[.cells 209 [.d .ex]]⟩,[]⟩))]⟩
def Wg:cq:=cn yi B_
def U6 (n:Nat):cq:=cn yi (nA n)
def yh:FT:=⟨⟨[.d Oc,.d aM,.d .ex],[]⟩,⟨[.d aM],[]⟩,dJ [(7,(.j ⟨[1],[3,5,7],⟨wu,ahl⟩,[]⟩)),(21,(.j ⟨[1],[3,5,7,8],⟨[.ptr 0 0,.ptr 1 0,.d aM,.d aM],ahl⟩,[]⟩)),(23,(.j ⟨[1,7,8],[3,5,33],⟨ri,ahl⟩,[]⟩))]⟩
def We:cq:=cn yh B9
def U5 (n:Nat):cq:=cn yh (nz n)
def NQ:FT:=⟨⟨[.d Oc,.d aM,.d .ex],[]⟩,⟨[.d aM],[]⟩,dJ [(13,(.j ⟨[1],[3,5,22],⟨ri,ahl⟩,[]⟩))]⟩
def Zz:cq:=cn NQ my
def DW:FT:=⟨⟨[.d .bool],[]⟩,⟨[.d aM],[]⟩,.leaf⟩
def P1:cq:=cn DW c8
def X5:FT:=⟨⟨wq,[]⟩,⟨[.d aM],[]⟩,.leaf⟩
def agp:cq:=cn X5 jb
def xf:FT:=⟨⟨[.ptr 0 0,.d aM,.d aM,.d .str],aa0⟩,⟨[.d .bool],aa0⟩,dJ [(6,(.j ⟨[1,2,3],[0,9],⟨xp,aa0⟩,[]⟩)),(17,(.j ⟨[1,2,3,9],[0,46],⟨hP,aa0⟩,[]⟩))]⟩
def FD:cq:=cn xf dV
def Bu:FT:=⟨⟨[.ptr 0 0,.d .sm],aa0⟩,⟨[.d aM],aa1⟩,dJ [(1,(.a [.ren 0 4,.ren 0 5])),(28,(.j ⟨[6,7,8,9,30],[0,3,5,67],⟨ahj,La8⟩,[]⟩)),(41,(.j ⟨[],[4],⟨[.d aM],aa1⟩,[]⟩)),(44,(.j ⟨[6,7,8,9,30],[0,3,5,91],⟨ahj,La8⟩,[]⟩)),(51,(.j ⟨[],[4],⟨[.d aM],aa1⟩,[]⟩)),(63,(.j ⟨[],[4],⟨[.d aM],aa1⟩,[]⟩)),(66,(.j ⟨[6,7,8,9,30],[0,3,5,119],⟨ahj,La8⟩,[]⟩)),(89,(.j ⟨[],[4],⟨[.d aM],aa1⟩,[]⟩)),(108,(.j ⟨[],[0,3,187],⟨[.ptr 0 0,.ptr 4 0,.d .bool],[.cells 236 [.d (.sl Hm),.d (.sl tm),.d aM,.row 1,.row 5,.row 6],.rowsP 211 .sm,.gone,.gone,.cells 211 [.d .sm],.rows 9 ai .str,.rows 9 ai .str]⟩,[]⟩)),(131,(.j ⟨[],[4],⟨[.d aM],aa1⟩,[]⟩)),(137,(.j ⟨[6],[0,3,5,14],⟨[.ptr 0 0,.ptr 4 0,.ptr 5 0,.d aM],La8⟩,[]⟩)),(139,(.j ⟨[6],[0,3,5,14],⟨[.ptr 0 0,.ptr 4 0,.ptr 5 0,.d aM],La8⟩,[]⟩)),(140,(.j ⟨[6,14],[0,3,5,253],⟨ahj,La8⟩,[]⟩))]⟩
def Mz:cq:=cn Bu mw
def sk:FT:=⟨⟨[.ptr 0 0,.d (.sl .sm)],aa0⟩,⟨wq,alp⟩,dJ [(1,(.a [.ren 0 3,.ren 0 4,.ren 0 5])),(6,(.j ⟨[1],[0,6],⟨xp,alp⟩,[]⟩)),(19,(.j ⟨[1,6],[0,7,8],⟨[.ptr 0 0,.ptr 4 0,.d aM],[.cells 236 [.d (.sl Hm),.d (.sl tm),.d aM,.row 5,.row 6,.row 7],.gone,.gone,.gone,.cells 211 [.d .sm],.rowsP 211 .sm,.rows 9 ai .str,.rows 9 ai .str]⟩,[]⟩)),(37,(.j ⟨[1,6],[0,8,9],⟨Ub,alp⟩,[]⟩))]⟩
def MA:cq:=cn sk v8
def L3 (n:Nat):cq:=cn sk (iG n)
def yk:FT:=⟨⟨[.d (.sl .sm)],[]⟩,⟨[.d aM],[]⟩,dJ [(8,(.j ⟨[0],[3,4],⟨wq,[]⟩,[]⟩))]⟩
def Wh:cq:=cn yk B'
def U7 (n:Nat):cq:=cn yk (nB n)
def Kw:FT:=⟨⟨[.d (.sl Hm)],[]⟩,⟨wq,[]⟩,dJ [(8,(.j ⟨[0],[4,5,6,7,8],⟨[.d aM,.d aM,.d aM,.d aM,.d aM],[]⟩,[]⟩)),(16,(.j ⟨[0,8],[4,5,6,7],⟨[.d aM,.d aM,.d aM,.d aM],[]⟩,[]⟩)),(38,(.j ⟨[0,8],[4,5,6,7,9],⟨[.d aM,.d aM,.d aM,.d aM,.ptr 0 0],Z9⟩,[]⟩)),(39,(.j ⟨[0,4,5,6,7,8,36],[9,39],⟨hP,Z9⟩,[]⟩)),(47,(.j ⟨[0,4,5,6,7,8,36],[9,47],⟨hP,Z9⟩,[]⟩)),(61,(.j ⟨[0,4,5,6,7,8],[9,69],⟨hP,Z9⟩,[]⟩))]⟩
def Wf:cq:=cn Kw rH
def DV:FT:=⟨⟨[.d Oc],[]⟩,⟨wq,[]⟩,dJ [(6,(.j ⟨[],[1,4],⟨xp,T_⟩,[]⟩)),(17,(.j ⟨[4],[1,5,37],⟨ri,ahm⟩,[]⟩)),(29,(.j ⟨[],[1,6],⟨xp,T_⟩,[]⟩)),(51,(.j ⟨[6],[1,7,8],⟨wu,ahm⟩,[]⟩)),(62,(.j ⟨[6,8],[1,7,90],⟨ri,ahm⟩,[]⟩))]⟩
def P0:cq:=cn DV nV
def DX:FT:=⟨⟨[.d Oc],[]⟩,⟨wq,[]⟩,dJ [(44,(.j ⟨[],[1,8,9],⟨Ub,T_⟩,[]⟩)),(67,(.a [.cel 10 3 211 .sm,.cel 10 4 9 .str,.cel 10 5 9 .str])),(69,(.j ⟨[],[1,10,11],⟨wu,[.cells 151 [.d Oc],.cells 236 [.d (.sl Hm),.d (.sl tm),.d aM,.row 2,.row 3,.row 4],.rowsP 211 .sm,.rows 9 ai .str,.rows 9 ai .str]⟩,[]⟩))]⟩
def P3:cq:=cn DX fy
def yg:FT:=⟨⟨[.row 0,.d aM,.d aM,.d (.sl .sm)],[.rows 127 ai o7]⟩,⟨[.row 1,.d aM],[.gone,.rows 127 ai o7]⟩,dJ [(1,(.a [.ren 0 0])),(6,(.j ⟨[1,3],[0,2,10],⟨[.row 1,.d aM,.d aM],[.gone,.rows 127 ai o7]⟩,[]⟩)),(25,(.a [.nil 8 127 o7]))]⟩
def V6:cq:=cn yg Ja
def U4 (n:Nat):cq:=cn yg (pM n)
def G5:FT:=⟨⟨[.d (.sl rY),.d .str],[]⟩,⟨[.d aM],[]⟩,dJ [(6,(.j ⟨[0,1],[5],⟨[.d aM],[]⟩,[]⟩))]⟩
def Tj:cq:=cn G5 ko
def G7:FT:=⟨⟨[.d l7,.d .str],[]⟩,⟨[.d aM],[]⟩,dJ [(6,(.j ⟨[1],[2,5],⟨xp,qj⟩,[]⟩))]⟩
def Tl:cq:=cn G7 lA
def Kr:FT:=⟨⟨[.d Oc],[]⟩,⟨[.d l7],[]⟩,dJ [(18,(.j ⟨[],[1,2,3,6],⟨FY,ap3⟩,[.cel 3 0 123 kE,.cel 3 1 125 rY,.cel 3 2 116 lZ,.cel 3 3 9 .str]⟩)),(31,(.j ⟨[6],[1,2,3],⟨[.ptr 0 0,.ptr 1 0,.ptr 2 0],ap3⟩,[]⟩)),(32,(.j ⟨[6,31],[1,2,3,7,39],⟨Al,alt⟩,[]⟩)),(42,(.j ⟨[6],[1,2,3,7,8],⟨[.ptr 0 0,.ptr 1 0,.ptr 2 0,.ptr 3 0,.d aM],alt⟩,[]⟩)),(53,(.j ⟨[6,31],[1,2,3,7,65],⟨Al,alt⟩,[]⟩)),(69,(.a [.cel 3 5 127 o7])),(71,(.j ⟨[],[1,2,3,9],⟨FY,[.cells 151 [.d Oc],.cells 31 ahi,.cells 31 [.row 3,.row 4,.row 5,.row 6,.row 7,.row 8],.rows 123 ai kE,.rows 125 ai rY,.rows 116 ai lZ,.rows 9 ai .str,.rows 9 ai .str,.rows 127 ai o7]⟩,[.cel 3 4 9 .str]⟩))]⟩
def V_:cq:=cn Kr uF
def Ko:FT:=⟨⟨[.d l7],[]⟩,⟨[.d (.sl .str),.d .bool],[]⟩,dJ [(8,(.j ⟨[],[1,4,5],⟨T9,Z_⟩,[.nil 4 9 .str]⟩)),(15,(.j ⟨[],[1,4,5],⟨T9,Z_⟩,[]⟩)),(37,(.j ⟨[5],[1,4,6,51],⟨[.ptr 0 0,.row 1,.ptr 2 0,.d .bool],alg⟩,[]⟩)),(48,(.j ⟨[5],[1,4,6,7],⟨[.ptr 0 0,.row 1,.ptr 2 0,.d aM],alg⟩,[]⟩)),(59,(.j ⟨[5,7],[1,4,6,93],⟨[.ptr 0 0,.row 1,.ptr 2 0,.d .bool],alg⟩,[]⟩)),(72,(.j ⟨[],[1,4,9],⟨T9,Z_⟩,[]⟩)),(87,(.j ⟨[],[1,4,10],⟨T9,Z_⟩,[]⟩))]⟩
def V7:cq:=cn Ko pA
def yM:FT:=⟨⟨[.d l7],[]⟩,⟨[.d .bool],[]⟩,dJ [(3,(.j ⟨[],[1,49],⟨hP,qj⟩,[]⟩)),(24,(.j ⟨[3],[1,5],⟨xp,qj⟩,[]⟩)),(33,(.j ⟨[3,5],[1,79],⟨hP,qj⟩,[]⟩)),(45,(.j ⟨[],[1,6],⟨xp,qj⟩,[]⟩)),(56,(.j ⟨[6],[1,109],⟨hP,qj⟩,[]⟩)),(68,(.j ⟨[],[1,8],⟨xp,qj⟩,[]⟩)),(76,(.j ⟨[8],[1],⟨[.ptr 0 0],qj⟩,[]⟩)),(80,(.j ⟨[8],[1,9,132],⟨ri,[.cells 31 [.d l7],.cells 127 [.d o7]]⟩,[]⟩)),(87,(.j ⟨[8],[1,9,146],⟨ri,[.cells 31 [.d l7],.cells 127 [.d o7]]⟩,[]⟩)),(90,(.j ⟨[8],[1,165],⟨hP,qj⟩,[]⟩))]⟩
def HK:cq:=cn yM hY
def zU:FT:=⟨⟨[.d rf],[]⟩,⟨mM,[]⟩,dJ [(6,(.j ⟨[4],[1,5],⟨hP,[.cells 201 [.d rf]]⟩,[]⟩)),(24,(.j ⟨[4],[1,13],⟨hP,[.cells 201 [.d rf]]⟩,[]⟩)),(46,(.j ⟨[4],[1,37],⟨hP,[.cells 201 [.d rf]]⟩,[]⟩))]⟩
def KW:cq:=cn zU jK
def G6:FT:=⟨⟨[.d aM],[]⟩,⟨[.d .bool],[]⟩,dJ [(2,(.j ⟨[],[2],⟨[.d .bool],[]⟩,[]⟩))]⟩
def Tk:cq:=cn G6 pW
def Kp:FT:=⟨⟨[.d (.sl rf),.d aM],[]⟩,⟨[.d .bool],[]⟩,dJ [(6,(.j ⟨[0],[1,5],⟨wq,[]⟩,[]⟩)),(14,(.j ⟨[0,5],[1],⟨[.d aM],[]⟩,[]⟩)),(16,(.j ⟨[0,1,5],[19],⟨[.d .bool],[]⟩,[]⟩))]⟩
def V8:cq:=cn Kp pB
def X4:FT:=⟨⟨wq,[]⟩,⟨[.d .bool],[]⟩,dJ [(2,(.j ⟨[],[4],⟨[.d .bool],[]⟩,[]⟩))]⟩
def ago:cq:=cn X4 jw
def Kq:FT:=⟨⟨[.d l7,.d aM,.d aM],[]⟩,⟨[.d .bool],[]⟩,dJ [(2,(.j ⟨[],[6],⟨[.d .bool],[]⟩,[]⟩))]⟩
def V9:cq:=cn Kq nk
def DR:FT:=⟨⟨[.d l7,.d rf],[]⟩,⟨[.d .bool],[]⟩,dJ [(9,(.j ⟨[],[4],⟨[.d .bool],[]⟩,[]⟩)),(15,(.j ⟨[],[4],⟨[.d .bool],[]⟩,[]⟩)),(30,(.j ⟨[6],[2,3,59],⟨ri,ahk⟩,[]⟩)),(37,(.j ⟨[],[4],⟨[.d .bool],[]⟩,[]⟩)),(40,(.j ⟨[6],[2,3,78],⟨ri,ahk⟩,[]⟩)),(55,(.j ⟨[],[4],⟨[.d .bool],[]⟩,[]⟩)),(58,(.j ⟨[6],[2,3,98],⟨ri,ahk⟩,[]⟩)),(72,(.j ⟨[6],[2,3,108],⟨ri,ahk⟩,[]⟩)),(97,(.j ⟨[],[4],⟨[.d .bool],[]⟩,[]⟩)),(103,(.j ⟨[],[4],⟨[.d .bool],[]⟩,[]⟩))]⟩
def PW:cq:=cn DR lK
def xd:FT:=⟨⟨[.d l7,.d aM,.d xq],[]⟩,⟨[.d .bool],[]⟩,dJ [(5,(.j ⟨[1,7],[3,5,26],⟨ri,aeg⟩,[]⟩)),(16,(.j ⟨[1,7],[3,5,8],⟨wu,aeg⟩,[]⟩)),(28,(.j ⟨[1,7,8],[3,5,9,67],⟨FX,alh⟩,[]⟩)),(36,(.j ⟨[1,7,8],[3,5,9,100],⟨FX,alh⟩,[]⟩)),(44,(.j ⟨[1,7,8],[3,5,9,122],⟨FX,alh⟩,[]⟩)),(56,(.j ⟨[1,7,8,10],[3,5,11],⟨wu,aeg⟩,[]⟩))]⟩
def FC:cq:=cn xd io
def Ks:FT:=⟨⟨[.d uZ],[]⟩,⟨[.d .bool],[]⟩,dJ [(3,(.j ⟨[],[1,17],⟨hP,[.cells 110 [.d uZ]]⟩,[]⟩)),(14,(.j ⟨[],[1,3],⟨xp,[.cells 110 [.d uZ]]⟩,[]⟩))]⟩
def Wa:cq:=cn Ks jJ
def DS:FT:=⟨⟨[.ptr 0 0,.d rf],La5⟩,⟨[],La4⟩,.leaf⟩
def PY:cq:=cn DS cH
def qS:FT:=⟨⟨[.ptr 0 0,.d .ex,.d aM],La5⟩,⟨[],La4⟩,dJ [(2,(.j ⟨[],[],⟨[],La4⟩,[]⟩))]⟩
def KU:cq:=cn qS iJ
def Jk (n:Nat):cq:=cn qS (iL n)
def yL:FT:=⟨⟨[.ptr 0 0,.d .sm],La5⟩,⟨[],La4⟩,.leaf⟩
def HJ:cq:=cn yL mb
def Bt:FT:=⟨⟨[.ptr 0 0,.d .str],La5⟩,⟨[.d aM],La5⟩,dJ [(6,(.j ⟨[1],[0,5],⟨xp,La5⟩,[]⟩))]⟩
def My:cq:=cn Bt jA
def qT:FT:=⟨⟨[.ptr 0 0,.d (.sl .sm)],La5⟩,⟨[],La4⟩,dJ [(1,(.a [.ren 0 7])),(3,(.j ⟨[1],[0,4],⟨xp,La4⟩,[]⟩))]⟩
def KV:cq:=cn qT uE
def Jl (n:Nat):cq:=cn qT (dO n)
def wj:FT:=⟨⟨[.ptr 0 0,.d .sm],La5⟩,⟨[],La4⟩,dJ [(1,(.a [.ren 0 7])),(10,(.j ⟨[],[],⟨[],La4⟩,[]⟩)),(15,(.j ⟨[4,25],[0,3,31],⟨[.ptr 0 0,.ptr 2 0,.d .bool],[.cells 197 [.d (.sl kE),.d (.sl rY),.d (.sl lZ),.d (.sl .str),.d (.sl .str),.d (.sl o7),.d (.sl .str),.row 3,.d aM,.d aM],.gone,.cells 211 [.d .sm],.rows 201 ai rf]⟩,[]⟩))]⟩
def L2 (n:Nat):cq:=cn wj (eT n)
def qU:FT:=⟨⟨[.ptr 0 0,.d .sm],La5⟩,⟨[],La4⟩,.leaf⟩
def De (n:Nat):cq:=cn qU (db n)
def tf:FT:=⟨⟨[.ptr 0 0,.d .sm,.d aM,.d aM,.d aM],La5⟩,⟨[],La4⟩,.leaf⟩
def Hu (n:Nat):cq:=cn tf (dK n)
def DU:FT:=⟨⟨[.d Oc],[]⟩,⟨[.d uZ,.d aM,.d aM],[]⟩,dJ [(20,(.j ⟨[],[1,2,7,8,9],⟨[.ptr 0 0,.ptr 1 0,.ptr 2 0,.d aM,.d aM],[.cells 151 [.d Oc],.cells 110 aea,.cells 110 [.d (.sl kE),.d (.sl rY),.d (.sl lZ),.d (.sl .str),.d (.sl .str),.d (.sl o7),.row 3],.rows 184 ai xq]⟩,[.cel 7 6 184 xq]⟩)),(32,(.a [.cel 10 7 201 rf])),(45,(.j ⟨[8,9],[1,2,7,10,11,12],⟨ale,ap9⟩,[]⟩)),(59,(.j ⟨[8,9,12,13],[1,2,7,10,11,14],⟨ale,ap9⟩,[]⟩))]⟩
def PZ:cq:=cn DU qF
def Ss:FT:=⟨⟨HZ,[]⟩,⟨[.d .bool],[]⟩,dJ [(6,(.j ⟨[0,1],[5],⟨[.d aM],[]⟩,[]⟩))]⟩
def ad1:cq:=cn Ss qE
def Sr:FT:=⟨⟨HZ,[]⟩,⟨mM,[]⟩,dJ [(6,(.j ⟨[0,1],[5],⟨[.d aM],[]⟩,[]⟩)),(8,(.j ⟨[0,1,5],[18],⟨[.d .bool],[]⟩,[]⟩)),(16,(.j ⟨[0,1,5],[32],⟨[.d .bool],[]⟩,[]⟩))]⟩
def ad0:cq:=cn Sr wN
def Kn:FT:=⟨⟨[.d (.sl aM),.d (.sl aM)],[]⟩,⟨mM,[]⟩,dJ [(8,(.j ⟨[0,1],[5,6],⟨HZ,[]⟩,[]⟩)),(23,(.j ⟨[1],[5,7],⟨HZ,[]⟩,[]⟩))]⟩
def V5:cq:=cn Kn rF
def Bs:FT:=⟨⟨[.d aM],[]⟩,⟨[.d aM],[]⟩,dJ [(3,(.j ⟨[0],[8],⟨[.d .bool],[]⟩,[]⟩))]⟩
def Mx:cq:=cn Bs mr
def NL:FT:=⟨⟨[.d e_],[]⟩,⟨[.agg ahh],aei⟩,dJ [(8,(.j ⟨[],[1,2,3,4],⟨FY,[.cells 188 [.d e_],.cells 188 Ys,.cells 188 [.d aM,.row 3,.row 4,.d aM],.rows 2 ai aM,.rows 50 ai (.sl aM)]⟩,[.cel 3 2 50 (.sl aM)]⟩))]⟩
def Zx:cq:=cn NL ct
def NK:FT:=⟨⟨[.d rf,.agg ahh],aei⟩,⟨[.agg ahh,.d .bool],aei⟩,dJ [(8,(.j ⟨[6],[2,3,4,7],⟨[.ptr 2 0,.ptr 3 0,.ptr 4 0,.d aM],alq⟩,[]⟩)),(17,(.j ⟨[6,7],[2,3,4,33],⟨[.ptr 2 0,.ptr 3 0,.ptr 4 0,.d .bool],alq⟩,[]⟩)),(32,(.j ⟨[],[2,3,4,8,9,10],⟨[.ptr 2 0,.ptr 3 0,.ptr 4 0,.d aM,.d .bool,.d (.sl aM)],alq⟩,[]⟩))]⟩
def Zw:cq:=cn NK wM
def G4:FT:=⟨⟨[.d xq,.d e_],[]⟩,⟨[.d e_,.d .bool],[]⟩,dJ [(3,(.j ⟨[],[2,3,4,23],⟨FX,[.cells 184 [.d xq],.cells 188 [.d e_],.cells 188 Ys]⟩,[]⟩)),(16,(.j ⟨[],[2,3,4,6],⟨FY,ap1⟩,[]⟩)),(26,(.j ⟨[6],[2,3,4,44],⟨FX,ap1⟩,[]⟩))]⟩
def Ti:cq:=cn G4 nj
def Kl:FT:=⟨⟨[.d l7],[]⟩,⟨[.d H3],[]⟩,dJ [(8,(.j ⟨[],[1,2,3,4],⟨FY,[.cells 31 [.d l7],.cells 94 CD,.cells 94 [.row 3,.d aM,.nil,.nil],.rows 167 ai dZ]⟩,[.cel 3 0 167 dZ]⟩)),(23,(.j ⟨[],[1,2,3,5],⟨FY,[.cells 31 [.d l7],.cells 94 CD,.cells 94 [.row 3,.d aM,.row 4,.nil],.rows 167 ai dZ,.rows 4 ai .bool]⟩,[.cel 3 2 4 .bool]⟩)),(38,(.j ⟨[],[1,2,3,6],⟨FY,[.cells 31 [.d l7],.cells 94 CD,.cells 94 aed,.rows 167 ai dZ,.rows 4 ai .bool,.rows 169 ai ib]⟩,[.cel 3 3 169 ib]⟩)),(49,(.j ⟨[6],[1,2,3,7],⟨aef,[.cells 31 [.d l7],.cells 94 CD,.cells 94 [.row 4,.d aM,.row 5,.row 6],.cells 169 [.d ib],.rows 167 ai dZ,.rows 4 ai .bool,.rows 169 ai ib]⟩,[]⟩))]⟩
def V3:cq:=cn Kl rD
def NI:FT:=⟨⟨[.d l7,.d H3],[]⟩,⟨[.d .bool],[]⟩,dJ [(6,(.j ⟨[],[2,3,5],⟨wu,WV⟩,[]⟩)),(15,(.j ⟨[5],[2,3,31],⟨ri,WV⟩,[]⟩)),(23,(.j ⟨[],[4],⟨[.d .bool],[]⟩,[]⟩))]⟩
def Zu:cq:=cn NI rE
def X3:FT:=⟨⟨wq,[]⟩,⟨[.d .bool],[]⟩,dJ [(2,(.j ⟨[],[4],⟨[.d .bool],[]⟩,[]⟩))]⟩
def agn:cq:=cn X3 qD
def Kk:FT:=⟨⟨[.d l7,.d aM,.d aM],[]⟩,⟨[.d .bool],[]⟩,dJ [(6,(.j ⟨[2,7],[3,8],⟨hP,qj⟩,[]⟩)),(36,(.j ⟨[2,7],[3,18],⟨hP,qj⟩,[]⟩)),(46,(.j ⟨[2,7],[3,26],⟨hP,qj⟩,[]⟩)),(53,(.j ⟨[],[6],⟨[.d .bool],[]⟩,[]⟩)),(56,(.j ⟨[2,7],[3,43],⟨hP,qj⟩,[]⟩)),(71,(.j ⟨[],[6],⟨[.d .bool],[]⟩,[]⟩)),(74,(.j ⟨[2,7],[3,61],⟨hP,qj⟩,[]⟩)),(92,(.j ⟨[2,7],[3,71],⟨hP,qj⟩,[]⟩)),(102,(.j ⟨[2],[3,79],⟨hP,qj⟩,[]⟩))]⟩
def V2:cq:=cn Kk uD
def DQ:FT:=⟨⟨[.d l7,.d H3,.d aM,.d aM,.d aM],[]⟩,⟨[.d .bool],[]⟩,dJ [(3,(.j ⟨[2,3,4],[5,6,30],⟨ri,WV⟩,[]⟩)),(25,(.j ⟨[],[10],⟨[.d .bool],[]⟩,[]⟩)),(50,(.j ⟨[],[10],⟨[.d .bool],[]⟩,[]⟩)),(56,(.j ⟨[],[10],⟨[.d .bool],[]⟩,[]⟩)),(59,(.j ⟨[2,4,70],[5,6,11,119],⟨FX,[.cells 31 [.d l7],.cells 94 [.d H3],.cells 169 [.d ib]]⟩,[]⟩)),(99,(.j ⟨[2,4,70],[5,6,160],⟨ri,WV⟩,[]⟩)),(116,(.j ⟨[],[10],⟨[.d .bool],[]⟩,[]⟩)),(122,(.j ⟨[],[10],⟨[.d .bool],[]⟩,[]⟩))]⟩
def PU:cq:=cn DQ kn
def DP:FT:=⟨⟨[.d H3,.d aM],[]⟩,⟨mM,[]⟩,dJ [(8,(.j ⟨[1],[2,5,6],⟨T9,aee⟩,[.nil 5 3 aM]⟩)),(16,(.j ⟨[1,6],[2,5],⟨[.ptr 0 0,.row 1],aee⟩,[]⟩)),(17,(.j ⟨[1,6],[2,5,30],⟨[.ptr 0 0,.row 1,.d .bool],aee⟩,[]⟩))]⟩
def PR:cq:=cn DP nU
def DO:FT:=⟨⟨HZ,[]⟩,⟨mM,[]⟩,dJ [(8,(.j ⟨[0,1],[5,6],⟨[.row 0,.d aM],[.rows 3 ai aM]⟩,[.nil 5 3 aM]⟩)),(16,(.j ⟨[0,1,6],[5],⟨[.row 0],[.rows 3 ai aM]⟩,[]⟩))]⟩
def PQ:cq:=cn DO qC
def NJ:FT:=⟨⟨[.d H3],[]⟩,⟨[.agg H0],alf⟩,dJ [(8,(.j ⟨[],[1,2,3,4],⟨FY,[.cells 94 [.d H3],.cells 94 CD,.cells 94 aed,.rows 167 ai dZ,.rows 4 ai .bool,.rows 169 ai ib]⟩,[.cel 3 0 167 dZ]⟩))]⟩
def Zv:cq:=cn NJ im
def mC:FT:=⟨⟨[.agg H0,.d aM],alf⟩,⟨mM,alf⟩,dJ [(8,(.j ⟨[1],[2,5,6],⟨[.ptr 3 0,.row 4,.d aM],alm⟩,[.nil 5 3 aM]⟩)),(16,(.j ⟨[1,6],[2,5],⟨[.ptr 3 0,.row 4],alm⟩,[]⟩)),(17,(.j ⟨[1,6],[2,5,30],⟨[.ptr 3 0,.row 4,.d .bool],alm⟩,[]⟩))]⟩
def Mw:cq:=cn mC mq
def KQ:cq:=⟨mC.pre,⟨mC.post.vs,[]⟩,jI⟩
def Km:FT:=⟨⟨[.d l7,.d H3,.d aM,.d aM,.d aM,.d aM],[]⟩,⟨[.d H3,.d aM,.d .bool],[]⟩,dJ [(17,(.j ⟨[],[7,12,15],⟨wu,alo⟩,[]⟩)),(26,(.j ⟨[2,4,5,15,30],[6,7,12,45],⟨FX,ap2⟩,[]⟩)),(34,(.j ⟨[2,4,5,15,30],[6,7,12,54],⟨FX,ap2⟩,[]⟩)),(90,(.j ⟨[],[7,12,17],⟨wu,alo⟩,[]⟩)),(109,(.j ⟨[18],[7,12,19],⟨wu,alo⟩,[]⟩))]⟩
def V4:cq:=cn Km py
def Kj:FT:=⟨⟨[.d uZ],[]⟩,⟨[.d ww],[]⟩,dJ [(16,(.j ⟨[],[1,2,3,4],⟨FY,[.cells 110 [.d uZ],.cells 105 wv,.cells 105 [.d (.sl dZ),.d aM,.d ql,.d (.sl ib),.row 3,.nil,.nil],.rows 2 ai aM]⟩,[.cel 3 4 2 aM]⟩)),(31,(.j ⟨[],[1,2,3,5],⟨FY,[.cells 110 [.d uZ],.cells 105 wv,.cells 105 [.d (.sl dZ),.d aM,.d ql,.d (.sl ib),.row 3,.row 4,.nil],.rows 2 ai aM,.rows 2 ai aM]⟩,[.cel 3 5 2 aM]⟩)),(46,(.j ⟨[],[1,2,3,6],⟨FY,[.cells 110 [.d uZ],.cells 105 wv,.cells 105 aln,.rows 2 ai aM,.rows 2 ai aM,.rows 188 ai e_]⟩,[.cel 3 6 188 e_]⟩))]⟩
def V0:cq:=cn Kj uC
def NH:FT:=⟨⟨[.d uZ,.d ww],[]⟩,⟨[.d .bool],[]⟩,dJ [(3,(.j ⟨[],[2,3,46],⟨ri,aeh⟩,[]⟩)),(14,(.j ⟨[],[2,3,5],⟨wu,aeh⟩,[]⟩)),(25,(.j ⟨[5],[2,3,97],⟨ri,aeh⟩,[]⟩))]⟩
def Zs:cq:=cn NH wL
def NF:FT:=⟨⟨[.d aM],[]⟩,⟨[.d aM],[]⟩,dJ [(5,(.j ⟨[0],[3,10],⟨[.row 0,.d .bool],[.rows 3 aj aM]⟩,[]⟩))]⟩
def Zq:cq:=cn NF wJ
def Gx:FT:=⟨⟨[.d rf,.d e_],[]⟩,⟨[.d aM],[]⟩,dJ [(6,(.j ⟨[6],[2,3,7],⟨ri,[.cells 201 [.d rf],.cells 188 [.d e_]]⟩,[]⟩)),(28,(.j ⟨[],[2,40],⟨hP,[.cells 201 [.d rf]]⟩,[]⟩))]⟩
def SM:cq:=cn Gx sD
def DN:FT:=⟨⟨[.d uZ,.d ww,.d aM],[]⟩,⟨[.d gA,.d .bool],[]⟩,dJ [(3,(.j ⟨[2],[3,4,6,25],⟨FX,[.cells 110 [.d uZ],.cells 105 [.d ww],.cells 52 vp]⟩,[]⟩)),(54,(.j ⟨[],[6,8,9,10],⟨aef,aoz⟩,[.cel 10 5 3 aM]⟩)),(59,(.j ⟨[],[6,8,9,10,98],⟨Al,[.cells 52 vp,.cells 188 [.d e_],.cells 201 [.d rf],.cells 52 vp]⟩,[]⟩)),(68,(.j ⟨[],[6,10],⟨[.ptr 0 0,.ptr 1 0],[.cells 52 vp,.cells 52 [.d aM,.d aM,.d aM,.d aM,.d aM,.row 2,.row 3],.rows 3 ai aM,.rows 3 ai aM]⟩,[.cel 10 6 3 aM]⟩)),(69,(.j ⟨[],[6,8,9,10,123],⟨Al,aoz⟩,[]⟩))]⟩
def PP:cq:=cn DN nS
def Kh:FT:=⟨⟨[.d l7],[]⟩,⟨[.d iV],[]⟩,dJ [(8,(.j ⟨[],[1,2,3,4],⟨FY,[.cells 31 [.d l7],.cells 97 wv,.cells 97 aln,.rows 2 ai aM,.rows 2 aj aM,.rows 3 aj aM]⟩,[.cel 3 4 2 aM]⟩))]⟩
def VY:cq:=cn Kh mU
def ND:FT:=⟨⟨[.d l7,.d iV],[]⟩,⟨[.d .bool],[]⟩,dJ [(2,(.j ⟨[],[4],⟨[.d .bool],[]⟩,[]⟩))]⟩
def Zp:cq:=cn ND wI
def X2:FT:=⟨⟨wq,[]⟩,⟨[.d .bool],[]⟩,dJ [(2,(.j ⟨[],[4],⟨[.d .bool],[]⟩,[]⟩))]⟩
def agm:cq:=cn X2 C'
def DM:FT:=⟨⟨HZ,[]⟩,⟨[.d .bool],[]⟩,dJ [(6,(.j ⟨[0,1],[5],⟨[.d aM],[]⟩,[]⟩)),(15,(.j ⟨[0,1,5],[40],⟨[.d .bool],[]⟩,[]⟩))]⟩
def PO:cq:=cn DM nR
def Kf:FT:=⟨⟨[.d iV,.d gA],[]⟩,⟨[.d .bool],[]⟩,dJ [(21,(.j ⟨[],[4],⟨[.d .bool],[]⟩,[]⟩)),(24,(.j ⟨[7],[2,3,40],⟨ri,[.cells 97 [.d iV],.cells 52 [.d gA]]⟩,[]⟩)),(47,(.j ⟨[],[4],⟨[.d .bool],[]⟩,[]⟩))]⟩
def VW:cq:=cn Kf uA
def NC:FT:=⟨⟨[.d l7,.d iV,.d gA],[]⟩,⟨[.d iV,.d .bool],[]⟩,dJ [(3,(.j ⟨[],[3,4,5,6,46],⟨Al,Lx⟩,[]⟩)),(10,(.j ⟨[],[3,4,5,6],⟨aef,Lx⟩,[]⟩)),(11,(.j ⟨[],[3,4,5,6,55],⟨Al,Lx⟩,[]⟩)),(21,(.j ⟨[],[3,4,5,6,78],⟨Al,Lx⟩,[]⟩)),(28,(.j ⟨[],[3,4,5,6,8],⟨Al,Lx⟩,[]⟩)),(31,(.j ⟨[],[3,4,5,6,110],⟨Al,Lx⟩,[]⟩)),(39,(.j ⟨[],[3,4,5,6,125],⟨Al,Lx⟩,[]⟩)),(47,(.j ⟨[],[3,4,5,6,154],⟨Al,Lx⟩,[]⟩)),(58,(.j ⟨[],[3,4,5,6,9,10],⟨ale,[.cells 31 [.d l7],.cells 97 [.d iV],.cells 52 [.d gA],.cells 97 wv,.cells 97 [.nil,.d aM,.nil,.nil,.row 5,.row 6,.row 7],.rows 2 ai aM,.rows 2 ai aM,.rows 3 ai aM]⟩,[]⟩)),(66,(.j ⟨[],[5,6,9],⟨[.ptr 0 0,.ptr 1 0,.ptr 2 0],alc⟩,[]⟩)),(72,(.j ⟨[],[5,6,9],⟨[.ptr 0 0,.ptr 1 0,.ptr 2 0],alc⟩,[]⟩))]⟩
def Zo:cq:=cn NC rC
def Kg:FT:=⟨⟨[.d (.sl gA),.d aM,.d aM,.d (.sl aM)],[]⟩,⟨[.d .bool],[]⟩,dJ [(6,(.j ⟨[0,1,2,3],[9],⟨[.d aM],[]⟩,[]⟩)),(23,(.j ⟨[0,1,2,3,9],[10,11,12],⟨[.d aM,.d .bool,.d aM],[]⟩,[]⟩)),(31,(.j ⟨[0,1,2,3,9,12],[10,11],⟨[.d aM,.d .bool],[]⟩,[]⟩)),(38,(.j ⟨[0,1,2,3,9,10,12],[11],⟨[.d .bool],[]⟩,[]⟩))]⟩
def VX:cq:=cn Kg rB
def Ki:FT:=⟨⟨[.d ou],[]⟩,⟨wq,[]⟩,dJ [(24,(.j ⟨[],[1,4,5],⟨wu,[.cells 34 [.d ou],.cells 97 [.d iV]]⟩,[]⟩)),(38,(.j ⟨[5],[1,4,7,63],⟨FX,[.cells 34 [.d ou],.cells 97 [.d iV],.cells 97 [.d iV]]⟩,[]⟩))]⟩
def VZ:cq:=cn Ki uB
def G3:FT:=⟨⟨[.d ww],[]⟩,⟨[.agg [.agg H0,.row 3,.row 4,.csl 5 4 1]],[.rows 167 ai dZ,.rows 4 ai .bool,.rows 169 ai ib,.rows 2 ai aM,.rows 2 ai aM,.cells 188 [.d aM,.row 6,.row 7,.d aM],.rows 2 ai aM,.rows 50 ai (.sl aM)]⟩,dJ [(8,(.u 2))]⟩
def Th:cq:=cn G3 nh
def GP:FT:=⟨⟨MS,[]⟩,⟨MT,[]⟩,dJ [(27,(.s 5 0 0 1)),(37,(.j ⟨[],[3,4,5,6,7,9,14,15,16],⟨MX,alz⟩,[]⟩)),(38,(.j ⟨[16,77],[3,4,5,6,7,9,14,15,78],⟨Ob,alz⟩,[]⟩)),(83,(.j ⟨[16],[3,4,5,6,7,9,14],⟨MV,[.cells 110 [.d uZ],.cells 105 ajd,.cells 154 [.d iN],.cells 105 wv,.cells 52 vp,.cells 52 [.d gA],.cells 188 Lv,.rows 2 ai aM,.rows 2 ai aM,.cells 188 Lv,.rows 2 ai aM,.rows 50 ai (.sl aM)]⟩,[]⟩)),(84,(.j ⟨[16],[3,4,5,6,7,9,14,15,154],⟨Ob,alz⟩,[]⟩)),(95,(.j ⟨[],[4,5,6,7,9,14],⟨MU,[.cells 105 [.d (.sl dZ),.d aM,.d ql,.d (.sl ib),.row 6,.row 7,.csl 8 4 1],.cells 154 [.d iN],.cells 105 wv,.cells 52 vp,.cells 52 [.d gA],.cells 188 [.d e_],.rows 2 ai aM,.rows 2 ai aM,.cells 188 [.d e_]]⟩,[]⟩)),(96,(.j ⟨[],[3,4,5,6,7,9,14,183],⟨MW,[.cells 110 [.d uZ],.cells 105 ajd,.cells 154 [.d iN],.cells 105 wv,.cells 52 vp,.cells 52 [.d gA],.cells 188 Lw,.rows 2 ai aM,.rows 2 ai aM,.cells 188 Lw]⟩,[]⟩)),(102,(.s 5 0 0 1)),(104,(.a [.pk 4 6 e_]))]⟩
def S8:cq:=cn GP gg
def G2:FT:=⟨⟨[.d ww],[]⟩,⟨[.agg [.agg H0,.row 3,.row 4,.csl 5 4 2]],[.rows 167 ai dZ,.rows 4 ai .bool,.rows 169 ai ib,.rows 2 ai aM,.rows 2 ai aM,.cells 188 [.d aM,.row 6,.row 7,.d aM,.d e_],.rows 2 ai aM,.rows 50 ai (.sl aM)]⟩,dJ [(8,(.u 3))]⟩
def Tg:cq:=cn G2 ng
def GM:FT:=⟨⟨MS,[]⟩,⟨MT,[]⟩,dJ [(27,(.s 5 0 0 1)),(37,(.j ⟨[],[3,4,5,6,7,9,14,15,16],⟨MX,am1⟩,[]⟩)),(38,(.j ⟨[16,77],[3,4,5,6,7,9,14,15,78],⟨Ob,am1⟩,[]⟩)),(83,(.j ⟨[16],[3,4,5,6,7,9,14],⟨MV,[.cells 110 [.d uZ],.cells 105 aho,.cells 154 [.d iN],.cells 105 wv,.cells 52 vp,.cells 52 [.d gA],.cells 188 Lv,.rows 2 ai aM,.rows 2 ai aM,.cells 188 [.d aM,.row 10,.row 11,.d aM,.d e_],.rows 2 ai aM,.rows 50 ai (.sl aM)]⟩,[]⟩)),(84,(.j ⟨[16],[3,4,5,6,7,9,14,15,154],⟨Ob,am1⟩,[]⟩)),(95,(.j ⟨[],[4,5,6,7,9,14],⟨MU,ap8⟩,[]⟩)),(96,(.j ⟨[],[3,4,5,6,7,9,14,183],⟨MW,[.cells 110 [.d uZ],.cells 105 aho,.cells 154 [.d iN],.cells 105 wv,.cells 52 vp,.cells 52 [.d gA],.cells 188 Lw,.rows 2 ai aM,.rows 2 ai aM,.cells 188 [.d aM,.d (.sl aM),.d jY,.d aM,.d e_]]⟩,[]⟩)),(102,(.s 5 0 0 1)),(104,(.a [.pk 4 6 e_]))]⟩
def S7:cq:=cn GM gE
def G1:FT:=⟨⟨[.d ww],[]⟩,⟨[.agg [.agg H0,.row 3,.row 4,.csl 5 4 2]],[.rows 167 ai dZ,.rows 4 ai .bool,.rows 169 ai ib,.rows 2 ai aM,.rows 2 ai aM,.cells 188 [.d e_,.d aM,.row 6,.row 7,.d aM],.rows 2 ai aM,.rows 50 ai (.sl aM)]⟩,dJ [(8,(.u 3))]⟩
def Tf:cq:=cn G1 ne
def GJ:FT:=⟨⟨MS,[]⟩,⟨MT,[]⟩,dJ [(27,(.s 5 0 1 1)),(37,(.j ⟨[],[3,4,5,6,7,9,14,15,16],⟨MX,am0⟩,[]⟩)),(38,(.j ⟨[16,77],[3,4,5,6,7,9,14,15,78],⟨Ob,am0⟩,[]⟩)),(83,(.j ⟨[16],[3,4,5,6,7,9,14],⟨MV,[.cells 110 [.d uZ],.cells 105 aho,.cells 154 [.d iN],.cells 105 wv,.cells 52 vp,.cells 52 [.d gA],.cells 188 Lv,.rows 2 ai aM,.rows 2 ai aM,.cells 188 [.d e_,.d aM,.row 10,.row 11,.d aM],.rows 2 ai aM,.rows 50 ai (.sl aM)]⟩,[]⟩)),(84,(.j ⟨[16],[3,4,5,6,7,9,14,15,154],⟨Ob,am0⟩,[]⟩)),(95,(.j ⟨[],[4,5,6,7,9,14],⟨MU,ap8⟩,[]⟩)),(96,(.j ⟨[],[3,4,5,6,7,9,14,183],⟨MW,[.cells 110 [.d uZ],.cells 105 aho,.cells 154 [.d iN],.cells 105 wv,.cells 52 vp,.cells 52 [.d gA],.cells 188 Lw,.rows 2 ai aM,.rows 2 ai aM,.cells 188 [.d e_,.d aM,.d (.sl aM),.d jY,.d aM]]⟩,[]⟩)),(102,(.s 5 0 1 1)),(104,(.a [.pk 4 6 e_]))]⟩
def S6:cq:=cn GJ gf
def G0:FT:=⟨⟨[.d ww],[]⟩,⟨alb,[.rows 167 ai dZ,.rows 4 ai .bool,.rows 169 ai ib,.rows 2 ai aM,.rows 2 ai aM,.cells 188 [.d aM,.row 6,.row 7,.d aM,.d e_,.d e_],.rows 2 ai aM,.rows 50 ai (.sl aM)]⟩,dJ [(8,(.u 4))]⟩
def Te:cq:=cn G0 m_
def GG:FT:=⟨⟨MS,[]⟩,⟨MT,[]⟩,dJ [(27,(.s 5 0 0 1)),(37,(.j ⟨[],[3,4,5,6,7,9,14,15,16],⟨MX,am4⟩,[]⟩)),(38,(.j ⟨[16,77],[3,4,5,6,7,9,14,15,78],⟨Ob,am4⟩,[]⟩)),(83,(.j ⟨[16],[3,4,5,6,7,9,14],⟨MV,[.cells 110 [.d uZ],.cells 105 Z',.cells 154 [.d iN],.cells 105 wv,.cells 52 vp,.cells 52 [.d gA],.cells 188 Lv,.rows 2 ai aM,.rows 2 ai aM,.cells 188 [.d aM,.row 10,.row 11,.d aM,.d e_,.d e_],.rows 2 ai aM,.rows 50 ai (.sl aM)]⟩,[]⟩)),(84,(.j ⟨[16],[3,4,5,6,7,9,14,15,154],⟨Ob,am4⟩,[]⟩)),(95,(.j ⟨[],[4,5,6,7,9,14],⟨MU,alu⟩,[]⟩)),(96,(.j ⟨[],[3,4,5,6,7,9,14,183],⟨MW,[.cells 110 [.d uZ],.cells 105 Z',.cells 154 [.d iN],.cells 105 wv,.cells 52 vp,.cells 52 [.d gA],.cells 188 Lw,.rows 2 ai aM,.rows 2 ai aM,.cells 188 [.d aM,.d (.sl aM),.d jY,.d aM,.d e_,.d e_]]⟩,[]⟩)),(102,(.s 5 0 0 1)),(104,(.a [.pk 4 6 e_]))]⟩
def S5:cq:=cn GG jz
def GZ:FT:=⟨⟨[.d ww],[]⟩,⟨alb,[.rows 167 ai dZ,.rows 4 ai .bool,.rows 169 ai ib,.rows 2 ai aM,.rows 2 ai aM,.cells 188 [.d e_,.d aM,.row 6,.row 7,.d aM,.d e_],.rows 2 ai aM,.rows 50 ai (.sl aM)]⟩,dJ [(8,(.u 4))]⟩
def Td:cq:=cn GZ m8
def GF:FT:=⟨⟨MS,[]⟩,⟨MT,[]⟩,dJ [(27,(.s 5 0 1 1)),(37,(.j ⟨[],[3,4,5,6,7,9,14,15,16],⟨MX,am3⟩,[]⟩)),(38,(.j ⟨[16,77],[3,4,5,6,7,9,14,15,78],⟨Ob,am3⟩,[]⟩)),(83,(.j ⟨[16],[3,4,5,6,7,9,14],⟨MV,[.cells 110 [.d uZ],.cells 105 Z',.cells 154 [.d iN],.cells 105 wv,.cells 52 vp,.cells 52 [.d gA],.cells 188 Lv,.rows 2 ai aM,.rows 2 ai aM,.cells 188 [.d e_,.d aM,.row 10,.row 11,.d aM,.d e_],.rows 2 ai aM,.rows 50 ai (.sl aM)]⟩,[]⟩)),(84,(.j ⟨[16],[3,4,5,6,7,9,14,15,154],⟨Ob,am3⟩,[]⟩)),(95,(.j ⟨[],[4,5,6,7,9,14],⟨MU,alu⟩,[]⟩)),(96,(.j ⟨[],[3,4,5,6,7,9,14,183],⟨MW,[.cells 110 [.d uZ],.cells 105 Z',.cells 154 [.d iN],.cells 105 wv,.cells 52 vp,.cells 52 [.d gA],.cells 188 Lw,.rows 2 ai aM,.rows 2 ai aM,.cells 188 [.d e_,.d aM,.d (.sl aM),.d jY,.d aM,.d e_]]⟩,[]⟩)),(102,(.s 5 0 1 1)),(104,(.a [.pk 4 6 e_]))]⟩
def S4:cq:=cn GF iI
def GY:FT:=⟨⟨[.d ww],[]⟩,⟨alb,[.rows 167 ai dZ,.rows 4 ai .bool,.rows 169 ai ib,.rows 2 ai aM,.rows 2 ai aM,.cells 188 [.d e_,.d e_,.d aM,.row 6,.row 7,.d aM],.rows 2 ai aM,.rows 50 ai (.sl aM)]⟩,dJ [(8,(.u 4))]⟩
def Tc:cq:=cn GY m7
def GD:FT:=⟨⟨MS,[]⟩,⟨MT,[]⟩,dJ [(27,(.s 5 0 2 1)),(37,(.j ⟨[],[3,4,5,6,7,9,14,15,16],⟨MX,am2⟩,[]⟩)),(38,(.j ⟨[16,77],[3,4,5,6,7,9,14,15,78],⟨Ob,am2⟩,[]⟩)),(83,(.j ⟨[16],[3,4,5,6,7,9,14],⟨MV,[.cells 110 [.d uZ],.cells 105 Z',.cells 154 [.d iN],.cells 105 wv,.cells 52 vp,.cells 52 [.d gA],.cells 188 Lv,.rows 2 ai aM,.rows 2 ai aM,.cells 188 [.d e_,.d e_,.d aM,.row 10,.row 11,.d aM],.rows 2 ai aM,.rows 50 ai (.sl aM)]⟩,[]⟩)),(84,(.j ⟨[16],[3,4,5,6,7,9,14,15,154],⟨Ob,am2⟩,[]⟩)),(95,(.j ⟨[],[4,5,6,7,9,14],⟨MU,alu⟩,[]⟩)),(96,(.j ⟨[],[3,4,5,6,7,9,14,183],⟨MW,[.cells 110 [.d uZ],.cells 105 Z',.cells 154 [.d iN],.cells 105 wv,.cells 52 vp,.cells 52 [.d gA],.cells 188 Lw,.rows 2 ai aM,.rows 2 ai aM,.cells 188 [.d e_,.d e_,.d aM,.d (.sl aM),.d jY,.d aM]]⟩,[]⟩)),(102,(.s 5 0 2 1)),(104,(.a [.pk 4 6 e_]))]⟩
def S1:cq:=cn GD hX
def GW:FT:=⟨⟨[.d ww],[]⟩,⟨ahn,[.rows 167 ai dZ,.rows 4 ai .bool,.rows 169 ai ib,.rows 2 ai aM,.rows 2 ai aM,.cells 188 [.d aM,.row 6,.row 7,.d aM,.d e_,.d e_,.d e_],.rows 2 ai aM,.rows 50 ai (.sl aM)]⟩,dJ [(8,(.u 5))]⟩
def Tb:cq:=cn GW m6
def dH:FT:=⟨⟨MS,[]⟩,⟨MT,[]⟩,dJ [(27,(.s 5 0 0 1)),(37,(.j ⟨[],[3,4,5,6,7,9,14,15,16],⟨MX,aly⟩,[]⟩)),(38,(.j ⟨[16,77],[3,4,5,6,7,9,14,15,78],⟨Ob,aly⟩,[]⟩)),(83,(.j ⟨[16],[3,4,5,6,7,9,14],⟨MV,[.cells 110 [.d uZ],.cells 105 Ua,.cells 154 [.d iN],.cells 105 wv,.cells 52 vp,.cells 52 [.d gA],.cells 188 Lv,.rows 2 ai aM,.rows 2 ai aM,.cells 188 [.d aM,.row 10,.row 11,.d aM,.d e_,.d e_,.d e_],.rows 2 ai aM,.rows 50 ai (.sl aM)]⟩,[]⟩)),(84,(.j ⟨[16],[3,4,5,6,7,9,14,15,154],⟨Ob,aly⟩,[]⟩)),(95,(.j ⟨[],[4,5,6,7,9,14],⟨MU,ahq⟩,[]⟩)),(96,(.j ⟨[],[3,4,5,6,7,9,14,183],⟨MW,[.cells 110 [.d uZ],.cells 105 Ua,.cells 154 [.d iN],.cells 105 wv,.cells 52 vp,.cells 52 [.d gA],.cells 188 Lw,.rows 2 ai aM,.rows 2 ai aM,.cells 188 [.d aM,.d (.sl aM),.d jY,.d aM,.d e_,.d e_,.d e_]]⟩,[]⟩)),(102,(.s 5 0 0 1)),(104,(.a [.pk 4 6 e_]))]⟩
def S0:cq:=cn dH mW
def GV:FT:=⟨⟨[.d ww],[]⟩,⟨ahn,[.rows 167 ai dZ,.rows 4 ai .bool,.rows 169 ai ib,.rows 2 ai aM,.rows 2 ai aM,.cells 188 [.d e_,.d aM,.row 6,.row 7,.d aM,.d e_,.d e_],.rows 2 ai aM,.rows 50 ai (.sl aM)]⟩,dJ [(8,(.u 5))]⟩
def Ta:cq:=cn GV mZ
def GA:FT:=⟨⟨MS,[]⟩,⟨MT,[]⟩,dJ [(27,(.s 5 0 1 1)),(37,(.j ⟨[],[3,4,5,6,7,9,14,15,16],⟨MX,alx⟩,[]⟩)),(38,(.j ⟨[16,77],[3,4,5,6,7,9,14,15,78],⟨Ob,alx⟩,[]⟩)),(83,(.j ⟨[16],[3,4,5,6,7,9,14],⟨MV,[.cells 110 [.d uZ],.cells 105 Ua,.cells 154 [.d iN],.cells 105 wv,.cells 52 vp,.cells 52 [.d gA],.cells 188 Lv,.rows 2 ai aM,.rows 2 ai aM,.cells 188 [.d e_,.d aM,.row 10,.row 11,.d aM,.d e_,.d e_],.rows 2 ai aM,.rows 50 ai (.sl aM)]⟩,[]⟩)),(84,(.j ⟨[16],[3,4,5,6,7,9,14,15,154],⟨Ob,alx⟩,[]⟩)),(95,(.j ⟨[],[4,5,6,7,9,14],⟨MU,ahq⟩,[]⟩)),(96,(.j ⟨[],[3,4,5,6,7,9,14,183],⟨MW,[.cells 110 [.d uZ],.cells 105 Ua,.cells 154 [.d iN],.cells 105 wv,.cells 52 vp,.cells 52 [.d gA],.cells 188 Lw,.rows 2 ai aM,.rows 2 ai aM,.cells 188 [.d e_,.d aM,.d (.sl aM),.d jY,.d aM,.d e_,.d e_]]⟩,[]⟩)),(102,(.s 5 0 1 1)),(104,(.a [.pk 4 6 e_]))]⟩
def SX:cq:=cn GA mV
def GU:FT:=⟨⟨[.d ww],[]⟩,⟨ahn,[.rows 167 ai dZ,.rows 4 ai .bool,.rows 169 ai ib,.rows 2 ai aM,.rows 2 ai aM,.cells 188 [.d e_,.d e_,.d aM,.row 6,.row 7,.d aM,.d e_],.rows 2 ai aM,.rows 50 ai (.sl aM)]⟩,dJ [(8,(.u 5))]⟩
def S_:cq:=cn GU mY
def Gz:FT:=⟨⟨MS,[]⟩,⟨MT,[]⟩,dJ [(27,(.s 5 0 2 1)),(37,(.j ⟨[],[3,4,5,6,7,9,14,15,16],⟨MX,alw⟩,[]⟩)),(38,(.j ⟨[16,77],[3,4,5,6,7,9,14,15,78],⟨Ob,alw⟩,[]⟩)),(83,(.j ⟨[16],[3,4,5,6,7,9,14],⟨MV,[.cells 110 [.d uZ],.cells 105 Ua,.cells 154 [.d iN],.cells 105 wv,.cells 52 vp,.cells 52 [.d gA],.cells 188 Lv,.rows 2 ai aM,.rows 2 ai aM,.cells 188 [.d e_,.d e_,.d aM,.row 10,.row 11,.d aM,.d e_],.rows 2 ai aM,.rows 50 ai (.sl aM)]⟩,[]⟩)),(84,(.j ⟨[16],[3,4,5,6,7,9,14,15,154],⟨Ob,alw⟩,[]⟩)),(95,(.j ⟨[],[4,5,6,7,9,14],⟨MU,ahq⟩,[]⟩)),(96,(.j ⟨[],[3,4,5,6,7,9,14,183],⟨MW,[.cells 110 [.d uZ],.cells 105 Ua,.cells 154 [.d iN],.cells 105 wv,.cells 52 vp,.cells 52 [.d gA],.cells 188 Lw,.rows 2 ai aM,.rows 2 ai aM,.cells 188 [.d e_,.d e_,.d aM,.d (.sl aM),.d jY,.d aM,.d e_]]⟩,[]⟩)),(102,(.s 5 0 2 1)),(104,(.a [.pk 4 6 e_]))]⟩
def SU:cq:=cn Gz lz
def GR:FT:=⟨⟨[.d ww],[]⟩,⟨ahn,[.rows 167 ai dZ,.rows 4 ai .bool,.rows 169 ai ib,.rows 2 ai aM,.rows 2 ai aM,.cells 188 [.d e_,.d e_,.d e_,.d aM,.row 6,.row 7,.d aM],.rows 2 ai aM,.rows 50 ai (.sl aM)]⟩,dJ [(8,(.u 5))]⟩
def S9:cq:=cn GR mX
def Gy:FT:=⟨⟨MS,[]⟩,⟨MT,[]⟩,dJ [(27,(.s 5 0 3 1)),(37,(.j ⟨[],[3,4,5,6,7,9,14,15,16],⟨MX,alv⟩,[]⟩)),(38,(.j ⟨[16,77],[3,4,5,6,7,9,14,15,78],⟨Ob,alv⟩,[]⟩)),(83,(.j ⟨[16],[3,4,5,6,7,9,14],⟨MV,[.cells 110 [.d uZ],.cells 105 Ua,.cells 154 [.d iN],.cells 105 wv,.cells 52 vp,.cells 52 [.d gA],.cells 188 Lv,.rows 2 ai aM,.rows 2 ai aM,.cells 188 [.d e_,.d e_,.d e_,.d aM,.row 10,.row 11,.d aM],.rows 2 ai aM,.rows 50 ai (.sl aM)]⟩,[]⟩)),(84,(.j ⟨[16],[3,4,5,6,7,9,14,15,154],⟨Ob,alv⟩,[]⟩)),(95,(.j ⟨[],[4,5,6,7,9,14],⟨MU,ahq⟩,[]⟩)),(96,(.j ⟨[],[3,4,5,6,7,9,14,183],⟨MW,[.cells 110 [.d uZ],.cells 105 Ua,.cells 154 [.d iN],.cells 105 wv,.cells 52 vp,.cells 52 [.d gA],.cells 188 Lw,.rows 2 ai aM,.rows 2 ai aM,.cells 188 [.d e_,.d e_,.d e_,.d aM,.d (.sl aM),.d jY,.d aM]]⟩,[]⟩)),(102,(.s 5 0 3 1)),(104,(.a [.pk 4 6 e_]))]⟩
def SS:cq:=cn Gy km
def Zt:cq:=cn dH Aw
def NG:FT:=⟨⟨[.d uZ,.d ww,.nil,.d (.sl iN)],[]⟩,⟨[.d (.sl gA),.d ww],[]⟩,dJ [(1,(.a [.nil 2 52 gA])),(6,(.j ⟨[3],[2,4,5,9,10],⟨[.row 0,.ptr 1 0,.ptr 2 0,.ptr 3 0,.d aM],alk⟩,[]⟩)),(8,(.j ⟨[3,10],[2,4,5,9,22],⟨[.row 0,.ptr 1 0,.ptr 2 0,.ptr 3 0,.d .bool],alk⟩,[]⟩)),(14,(.j ⟨[3,10],[2,4,5,9],⟨[.row 0,.ptr 1 0,.ptr 2 0,.ptr 3 0],alk⟩,[]⟩))]⟩
def Zr:cq:=cn NG wK
def Sq:FT:=⟨⟨[.d uZ,.d (.sl iN)],[]⟩,⟨[.d ou,.d ww],[]⟩,.leaf⟩
def acz:cq:=cn Sq zA
def yR:FT:=⟨⟨xp,T8⟩,⟨[.d aM],T8⟩,dJ [(3,(.j ⟨[1],[0,18],⟨hP,Z8⟩,[]⟩))]⟩
def HQ:cq:=cn yR bA
def NR:FT:=⟨⟨[.d aM],[]⟩,⟨[.d .ex],[]⟩,.leaf⟩
def ZC:cq:=cn NR rK
def KA:FT:=⟨⟨[.d .str],[]⟩,⟨[.d .ex],[]⟩,.leaf⟩
def Wo:cq:=cn KA pG
def DZ:FT:=⟨⟨[.d aM,.d .ex,.d .ex],[]⟩,⟨[.d .ex],[]⟩,.leaf⟩
def Qa:cq:=cn DZ nX
def D2:FT:=⟨⟨[.d .str,.d .ex],[]⟩,⟨[.d .sm],[]⟩,.leaf⟩
def Qb:cq:=cn D2 jx
def Hc:FT:=⟨⟨[],[]⟩,⟨[.d (.sl Hm)],[]⟩,.leaf⟩
def Tw:cq:=cn Hc sG
def BE:FT:=⟨⟨[.d Em],[]⟩,⟨[.d (.sl iN)],[]⟩,dJ [(8,(.j ⟨[0],[3,4],⟨[.row 0,.d aM],[.rows 154 ai iN]⟩,[.nil 3 154 iN]⟩))]⟩
def MM:cq:=cn BE oY
def oq:FT:=⟨⟨xp,WY⟩,⟨[.d .ex],WY⟩,dJ [(8,(.j ⟨[1,6],[0,4,5,14],⟨[.ptr 0 0,.ptr 3 0,.row 4,.d .bool],[.cells 205 ajc,.cells 89 [.d ze],.rowsP 9 .str,.cells 209 [.d aM,.d aM,.d .str,.nil],.rows 9 aj .str]⟩,[]⟩))]⟩
def FH:cq:=cn oq fo
def E4 (n:Nat):cq:=cn oq (iu n)
def vQ:FT:=⟨⟨[.ptr 0 0,.d .str],WY⟩,⟨[.d .bool],WY⟩,.leaf⟩
def Ec:cq:=cn vQ eQ
def mK:FT:=⟨⟨Ub,WY⟩,⟨[.row 4],[.cells 205 ali,.cells 89 Qv,.gone,.rowsP 9 .str,.rows 211 ai .sm]⟩,dJ [(1,(.a [.ren 0 7])),(8,(.j ⟨[1,2],[0,7,8],⟨[.ptr 0 0,.row 3,.d aM],ap0⟩,[.nil 7 211 .sm]⟩)),(10,(.j ⟨[1,2,8],[0,7,22],⟨[.ptr 0 0,.row 3,.d .bool],ap0⟩,[]⟩)),(21,(.a [.nil 6 211 .sm]))]⟩
def Eb:cq:=cn mK qG
def Df (n:Nat):cq:=cn mK (dL n)
def rU:FT:=⟨⟨xp,WY⟩,⟨[.d .sm],[.cells 205 ali,.cells 89 Qv,.gone,.rowsP 9 .str]⟩,dJ [(1,(.a [.ren 0 7])),(6,(.j ⟨[1,5],[0,4,6],⟨Lu,La2⟩,[]⟩)),(28,(.j ⟨[1,5,6],[0,4,74],⟨Lu,La2⟩,[]⟩)),(33,(.j ⟨[],[4,7],⟨[.ptr 3 0,.ptr 4 0],[.cells 205 [.ptr 1 0,.d aM,.d aM,.d .bool,.d .bool,.d .bool,.d .bool,.row 5],.cells 89 [.d ze],.gone,.cells 211 ajf,.cells 211 [.d aM,.d aM,.d .str,.d .str,.nil,.d aM,.d aM,.d .str,.d (.sl .ex),.row 6,.row 7],.rowsP 9 .str,.rows 211 ai .sm,.rows 211 ai .sm]⟩,[.cel 7 10 211 .sm]⟩)),(42,(.j ⟨[1,5,6],[0,4,100],⟨Lu,La2⟩,[]⟩)),(56,(.j ⟨[1,5,6],[0,4,133],⟨Lu,La2⟩,[]⟩)),(64,(.j ⟨[1,5,6],[0,4,165],⟨Lu,La2⟩,[]⟩)),(70,(.j ⟨[1,5,6],[0,4,188],⟨Lu,La2⟩,[]⟩)),(82,(.j ⟨[1,5,6],[0,4,210],⟨Lu,La2⟩,[]⟩)),(94,(.j ⟨[5,6],[0,4,235],⟨Lu,La2⟩,[]⟩)),(100,(.j ⟨[5],[0,4,258],⟨Lu,La2⟩,[]⟩)),(106,(.j ⟨[5],[0,4,278],⟨Lu,La2⟩,[]⟩)),(114,(.j ⟨[],[0,4,308],⟨Lu,La2⟩,[]⟩))]⟩
def E3 (n:Nat):cq:=cn rU (eK n)
def qV:FT:=⟨⟨[.ptr 0 0,.d .str,.d aM],WY⟩,⟨[.d (.sl .sm)],[.cells 205 ali,.cells 89 Qv,.gone,.rowsP 9 .str]⟩,.leaf⟩
def Dg (n:Nat):cq:=cn qV (dX n)
def BD:FT:=⟨⟨[.d Em],[]⟩,⟨[.d Oc],[]⟩,dJ [(5,(.a [.cel 3 7 9 .str])),(14,(.j ⟨[5],[2,3,4,6,7],⟨[.ptr 0 0,.ptr 1 0,.ptr 2 0,.row 3,.d aM],[.cells 151 [.nil,.nil],.cells 205 [.ptr 4 0,.d aM,.d aM,.d .bool,.d .bool,.d .bool,.d .bool,.row 5],.cells 151 [.d (.sl Hm),.row 6],.rows 9 aj .str,.cells 89 [.d ze],.rowsP 9 .str,.rows 195 ai tm]⟩,[.cel 4 1 195 tm]⟩)),(27,(.j ⟨[5,7],[2,3,4,6,8],⟨[.ptr 0 0,.ptr 1 0,.ptr 2 0,.row 3,.ptr 4 0],La7⟩,[.cel 8 3 211 .sm]⟩)),(34,(.j ⟨[5,7],[2,3,4,6,8,9],⟨[.ptr 0 0,.ptr 1 0,.ptr 2 0,.row 3,.ptr 4 0,.d aM],La7⟩,[.cel 8 3 211 .sm]⟩)),(48,(.j ⟨[5,7],[2,3,4,6,8],⟨[.ptr 0 0,.ptr 1 0,.ptr 2 0,.row 3,.ptr 4 0],La7⟩,[]⟩)),(49,(.j ⟨[5,7],[2,3,4,6,8,79],⟨[.ptr 0 0,.ptr 1 0,.ptr 2 0,.row 3,.ptr 4 0,.d .bool],La7⟩,[]⟩))]⟩
def ML:cq:=cn BD oX
def KB:FT:=⟨⟨[.d Em],[]⟩,⟨[.d uZ],[]⟩,.leaf⟩
def Wp:cq:=cn KB xQ
def Hd:FT:=⟨⟨[.d Em,.d Em],[]⟩,⟨[.d ou],[]⟩,.leaf⟩
def Tx:cq:=cn Hd sH
def DJ:FT:=⟨⟨[],[]⟩,⟨[.d l7],[]⟩,dJ [(8,(.j ⟨[21],[0,1,22],⟨wu,ahp⟩,[.cel 1 5 127 o7]⟩)),(22,(.j ⟨[2,21,22],[0,1,3],⟨wu,ahp⟩,[]⟩))]⟩
def PK:cq:=cn DJ nP
def zS:FT:=⟨⟨[.d iV],[]⟩,⟨mM,[]⟩,dJ [(8,(.j ⟨[8,9],[3,10],⟨[.row 0,.d aM],[.rows 3 ai aM]⟩,[.nil 3 3 aM]⟩)),(16,(.j ⟨[8,9,10],[3],⟨[.row 0],[.rows 3 ai aM]⟩,[]⟩))]⟩
def KM:cq:=cn zS kZ
def DH:FT:=⟨⟨[],[]⟩,⟨mM,[]⟩,.leaf⟩
def PH:cq:=cn DH tQ
def Bn:FT:=⟨⟨Ub,T8⟩,⟨[.d aM],T8⟩,dJ [(6,(.j ⟨[2,7],[0,8],⟨hP,Z8⟩,[]⟩)),(16,(.j ⟨[2,7],[0,16],⟨hP,Z8⟩,[]⟩)),(26,(.j ⟨[2,7],[0,21],⟨hP,Z8⟩,[]⟩)),(44,(.j ⟨[2,7],[0,26],⟨hP,Z8⟩,[]⟩)),(70,(.j ⟨[2],[0,33],⟨hP,Z8⟩,[]⟩))]⟩
def Mr:cq:=cn Bn oP
def DG:FT:=⟨⟨[.ptr 0 0,.d iV,.d aM,.d aM],T8⟩,⟨[.d aM],T8⟩,dJ [(18,(.j ⟨[10],[0,5,24],⟨ri,[.cells 89 [.d ze],.cells 97 [.d iV]]⟩,[]⟩))]⟩
def PF:cq:=cn DG qz
def Gu:FT:=⟨⟨[.ptr 0 0,.row 1],[.cells 89 Qv,.rows 3 ai aM]⟩,⟨mM,[.cells 89 Qv,.rows 3 ai aM]⟩,dJ [(8,(.j ⟨[9],[0,1,5,8,10],⟨[.ptr 0 0,.row 1,.row 2,.row 1,.d aM],ald⟩,[.nil 5 3 aM]⟩)),(16,(.j ⟨[9,10],[0,1,5,8],⟨[.ptr 0 0,.row 1,.row 2,.row 1],ald⟩,[]⟩)),(19,(.j ⟨[7,9,10],[0,1,5,8,24],⟨[.ptr 0 0,.row 1,.row 2,.row 1,.d .bool],ald⟩,[]⟩))]⟩
def SH:cq:=cn Gu gD
def DI:FT:=⟨⟨[.ptr 0 0,.d iV,.d l7,.csl 1 1 4],aoy⟩,⟨[.d gA],aoy⟩,dJ [(8,(.j ⟨[9],[0,3,5,6,8,11],⟨[.ptr 0 0,.csl 1 1 4,.ptr 6 0,.ptr 7 0,.ptr 8 0,.ptr 9 0],ap4⟩,[]⟩)),(9,(.j ⟨[9],[0,3,5,6,8,11,36],⟨[.ptr 0 0,.csl 1 1 4,.ptr 6 0,.ptr 7 0,.ptr 8 0,.ptr 9 0,.d .bool],ap4⟩,[]⟩)),(18,(.j ⟨[9],[0,3,8,11],⟨[.ptr 0 0,.csl 1 1 4,.ptr 6 0,.ptr 7 0],ap5⟩,[]⟩)),(19,(.j ⟨[9],[0,3,8,11,74],⟨[.ptr 0 0,.csl 1 1 4,.ptr 6 0,.ptr 7 0,.d .bool],[.cells 89 [.d ze],.cells 50 ae9,.rows 3 ai aM,.rows 3 ai aM,.rows 3 ai aM,.rows 3 ai aM,.cells 52 vp,.cells 52 vp]⟩,[]⟩)),(22,(.s 9 0 0 4)),(24,(.j ⟨[],[8,11],⟨[.ptr 6 0,.ptr 7 0],[.cells 89 [.d ze],.cells 50 ae9,.rows 3 ai aM,.rows 3 ai aM,.rows 3 ai aM,.rows 3 ai aM,.cells 52 vp,.cells 52 [.d aM,.d aM,.d aM,.d aM,.d aM,.d (.sl aM),.d (.sl aM)]]⟩,[]⟩)),(25,(.j ⟨[9],[0,3,8,11,89],⟨[.ptr 0 0,.csl 1 1 4,.ptr 6 0,.ptr 7 0,.d .bool],ap5⟩,[]⟩)),(28,(.s 9 0 0 4))]⟩
def PI:cq:=cn DI qA
def Gv:FT:=⟨⟨[.ptr 0 0,.d iV,.d l7,.d aM,.d .bool],T8⟩,⟨[.d (.sl gA)],T8⟩,dJ [(8,(.a [.cel 12 0 3 aM,.cel 12 1 3 aM,.cel 12 2 3 aM,.cel 12 3 3 aM])),(9,(.j ⟨[3,11],[0,6,7,12],⟨[.ptr 0 0,.ptr 1 0,.ptr 2 0,.csl 3 1 4],alr⟩,[]⟩)),(10,(.u 5)),(18,(.j ⟨[3,4,11,22,23],[0,6,7,12],⟨[.ptr 0 0,.ptr 1 0,.ptr 2 0,.csl 3 1 4],alr⟩,[]⟩)),(21,(.j ⟨[3,4,11,13,22,23],[0,6,7,12,39],⟨[.ptr 0 0,.ptr 1 0,.ptr 2 0,.csl 3 1 4,.d .bool],alr⟩,[]⟩)),(29,(.j ⟨[3],[0,6,7,11,12],⟨[.ptr 0 0,.ptr 1 0,.ptr 2 0,.row 3,.csl 4 1 4],als⟩,[.nil 11 52 gA]⟩)),(31,(.j ⟨[3],[0,6,7,11,12,65],⟨[.ptr 0 0,.ptr 1 0,.ptr 2 0,.row 3,.csl 4 1 4,.d .bool],als⟩,[]⟩)),(36,(.j ⟨[3],[0,6,7,11,12],⟨[.ptr 0 0,.ptr 1 0,.ptr 2 0,.row 3,.csl 4 1 4],als⟩,[]⟩)),(47,(.j ⟨[3],[0,6,7,11,12,14,15],⟨[.ptr 0 0,.ptr 1 0,.ptr 2 0,.row 3,.csl 4 1 4,.ptr 5 0,.ptr 6 0],ap6⟩,[]⟩)),(48,(.j ⟨[3],[0,6,7,11,12,14,15,87],⟨[.ptr 0 0,.ptr 1 0,.ptr 2 0,.row 3,.csl 4 1 4,.ptr 5 0,.ptr 6 0,.d .bool],ap6⟩,[]⟩)),(51,(.s 14 0 0 4))]⟩
def SJ:cq:=cn Gv sB
def DK:FT:=⟨⟨Qv,[]⟩,⟨[.d ou],[]⟩,dJ [(2,(.j ⟨[1],[0,4],⟨[.d Em,.ptr 0 0],[.cells 34 aea]⟩,[]⟩)),(22,(.j ⟨[1,9],[4,5,6,7,8,10],⟨[.ptr 0 0,.ptr 1 0,.ptr 2 0,.ptr 3 0,.row 4,.d aM],[.cells 34 aea,.cells 89 [.d ze],.cells 34 [.d (.sl kE),.d (.sl rY),.d (.sl lZ),.d (.sl .str),.d (.sl .str),.d (.sl o7),.nil],.cells 97 [.d iV],.rows 52 aj gA]⟩,[]⟩)),(37,(.j ⟨[1,48],[4,5,6,7,47,49],⟨[.ptr 0 0,.ptr 1 0,.ptr 2 0,.ptr 3 0,.row 4,.d aM],ap7⟩,[.cel 6 6 52 gA]⟩)),(45,(.j ⟨[1,48,49],[4,5,6,7,47],⟨[.ptr 0 0,.ptr 1 0,.ptr 2 0,.ptr 3 0,.row 4],ap7⟩,[]⟩))]⟩
def PL:cq:=cn DK qB
def xa:FT:=⟨⟨[.d (.st (.pr Em (.pr Em Em))),.d aM],[]⟩,⟨[.d ou],[]⟩,.leaf⟩
def FA:cq:=cn xa k9
theorem Me:aI Pg 167 MD:=mk Bx kA an b7
theorem JD:aI Pg 142 KX:=mk zV jL (ac Me an) b7
theorem Gk:aI Pg 141 Tr:=mk Ha lB an b7
theorem Vw:aI Pg 168 Wk:=mk Kz rI an b7
theorem Vv:aI Pg 143 Wj:=mk Ky pE (ac Gk (ac Vw an)) b7
theorem sO:aI Pg 113 Ts:=mk Hb fw (ac Gk (ac JD (ac Vv an))) b7
theorem JB:aI Pg 220 Wb:=mk Kt f_ an b7
theorem Vo:aI Pg 204 Wc:=mk Ku uG (ac JB an) b7
theorem RZ:aI Pg 206 Tn:=mk G8 sF (ac JB an) b7
theorem Vp:aI Pg 203 Wd:=mk Kv rG an b7
theorem Md:aI Pg 227 MC:=mk Bw mz an b7
theorem wU:∀n:Nat,aI Pg 221 (Hx n)
 |0=>Rr pl
 |n+1=>mk pl (mf (h_ n)) (ac sO (ac (wU n) (ac Md an))) b7
theorem yD:aI Pg 221 HM:=(wU fuel)
theorem Vu:aI Pg 222 Wi:=mk Kx pD an b7
theorem rQ:∀n:Nat,aI Pg 207 (Hw n)/\aI Pg 177 (E0 n)
 |0=>⟨Rr tj,Rr oo⟩
 |n+1=>⟨mk tj (kg (eD n) (dI n)) (ac sO (ac (rQ n).2 (ac yD (ac Vu an)))) b7,mk oo (jD (eD n) (dI n)) (ac (rQ n).1 an) b7⟩
theorem Ff:aI Pg 177 FE:=(rQ fuel).2
theorem HA:aI Pg 176 HL:=mk yN ka (ac sO an) b7
theorem R2:aI Pg 150 Tq:=mk G' pZ (ac sO (ac HA (ac Ff an))) b7
theorem vI:aI Pg 114 agq:=mk X6 jd an b7
theorem vH:aI Pg 178 Tp:=mk G_ hZ an b7
theorem wa:aI Pg 179 MB:=mk Bv gR an b7
theorem R1:aI Pg 223 To:=mk G9 pY (ac vI (ac vH (ac wa an))) b7
theorem Nm:aI Pg 210 Zy:=mk NP gF (ac R1 an) b7
theorem Gn:∀n:Nat,aI Pg 224 (U6 n)
 |0=>Rr yi
 |n+1=>mk yi (uO (nA n)) (ac (Gn n) an) b7
theorem Vs:aI Pg 224 Wg:=(Gn fuel)
theorem Gm:∀n:Nat,aI Pg 225 (U5 n)
 |0=>Rr yh
 |n+1=>mk yh (uN (nz n)) (ac Nm (ac (Gm n) an)) b7
theorem Vq:aI Pg 225 We:=(Gm fuel)
theorem Y3:aI Pg 211 Zz:=mk NQ my (ac yD (ac Vs (ac Vq an))) b7
theorem Pk:aI Pg 212 P1:=mk DW c8 an b7
theorem ag1:aI Pg 209 agp:=mk X5 jb an b7
theorem Fe:aI Pg 208 FD:=mk xf dV an b7
theorem Mb:aI Pg 180 Mz:=mk Bu mw (ac vI (ac vH (ac wa (ac Fe (ac ag1 (ac Nm (ac Y3 (ac Pk an)))))))) b7
theorem zH:∀n:Nat,aI Pg 154 (L3 n)
 |0=>Rr sk
 |n+1=>mk sk (mB (iG n)) (ac (zH n) (ac Mb an)) b7
theorem Mc:aI Pg 154 MA:=(zH fuel)
theorem Gp:∀n:Nat,aI Pg 153 (U7 n)
 |0=>Rr yk
 |n+1=>mk yk (uP (nB n)) (ac (Gp n) an) b7
theorem Vt:aI Pg 153 Wh:=(Gp fuel)
theorem Vr:aI Pg 151 Wf:=mk Kw rH (ac vH an) b7
theorem Pj:aI Pg 152 P0:=mk DV nV (ac vI (ac vH (ac wa an))) b7
theorem xU:aI Pg 117 P3:=mk DX fy (ac R2 (ac Vr (ac Pj (ac Vt (ac Mc an))))) b7
theorem Gl:∀n:Nat,aI Pg 156 (U4 n)
 |0=>Rr yg
 |n+1=>mk yg (xV (pM n)) (ac (Gl n) an) b7
theorem Vj:aI Pg 156 V6:=(Gl fuel)
theorem Gh:aI Pg 155 Tj:=mk G5 ko an b7
theorem Gj:aI Pg 213 Tl:=mk G7 lA an b7
theorem Vn:aI Pg 118 V_:=mk Kr uF (ac xU (ac Gh (ac Vj an))) b7
theorem Vk:aI Pg 112 V7:=mk Ko pA an b7
theorem yC:aI Pg 77 HK:=mk yM hY (ac Vk (ac sO (ac vI an))) b7
theorem uL:aI Pg 121 KW:=mk zU jK an b7
theorem Gi:aI Pg 170 Tk:=mk G6 pW an b7
theorem Vl:aI Pg 145 V8:=mk Kp pB (ac Gi an) b7
theorem Pf:aI Pg 146 ago:=mk X4 jw an b7
theorem Vm:aI Pg 169 V9:=mk Kq nk (ac Pf an) b7
theorem Pe:aI Pg 144 PW:=mk DR lK (ac Pf (ac Vm an)) b7
theorem Fd:aI Pg 115 FC:=mk xd io (ac uL (ac Pe (ac Vl (ac Pf an)))) b7
theorem Ci:aI Pg 79 Wa:=mk Ks jJ (ac yC (ac Fd an)) b7
theorem oe:aI Pg 120 PY:=mk DS cH an b7
theorem yF:∀n:Nat,aI Pg 185 (Jk n)
 |0=>Rr qS
 |n+1=>mk qS (qM (iL n)) (ac vI (ac oe (ac (yF n) (ac Gj an)))) b7
theorem uK:aI Pg 185 KU:=(yF fuel)
theorem Hz:aI Pg 181 HJ:=mk yL mb (ac vI (ac oe (ac uK (ac Gj an)))) b7
theorem Ma:aI Pg 184 My:=mk Bt jA an b7
theorem kf:∀n:Nat,aI Pg 119 (Jl n)/\aI Pg 157 (L2 n)/\aI Pg 182 (De n)/\aI Pg 183 (Hu n)
 |0=>⟨Rr qT,Rr wj,Rr qU,Rr tf⟩
 |n+1=>⟨mk qT (qN (dO n) (eT n) (db n) (dK n)) (ac (kf n).2.1 an) b7,mk wj (sh (dO n) (eT n) (db n) (dK n)) (ac vI (ac oe (ac Gh (ac Hz (ac (kf n).2.2.1 (ac (kf n).2.2.2 (ac Ma (ac uK an)))))))) b7,mk qU (mG (dO n) (eT n) (db n) (dK n)) (ac (kf n).1 (ac oe (ac uK an))) b7,mk tf (ph (dO n) (eT n) (db n) (dK n)) (ac (kf n).1 (ac oe an)) b7⟩
theorem JA:aI Pg 119 KV:=(kf fuel).1
theorem Ph:aI Pg 82 PZ:=mk DU qF (ac xU (ac Vn (ac JA (ac oe (ac uL an))))) b7
theorem Jz:aI Pg 103 ad1:=mk Ss qE an b7
theorem acg:aI Pg 139 ad0:=mk Sr wN an b7
theorem Jy:aI Pg 106 V5:=mk Kn rF (ac acg an) b7
theorem L_:aI Pg 205 Mx:=mk Bs mr an b7
theorem ll:aI Pg 174 Zx:=mk NL ct an b7
theorem Y2:aI Pg 175 Zw:=mk NK wM (ac Jy (ac uL (ac Vo (ac L_ (ac RZ an))))) b7
theorem jB:aI Pg 149 Ti:=mk G4 nj (ac Gi (ac ll (ac Y2 an))) b7
theorem Jx:aI Pg 69 V3:=mk Kl rD an b7
theorem Fc:aI Pg 100 Zu:=mk NI rE an b7
theorem XM:aI Pg 101 agn:=mk X3 qD an b7
theorem Vi:aI Pg 102 V2:=mk Kk uD (ac XM an) b7
theorem Dm:aI Pg 72 PU:=mk DQ kn (ac Fc (ac XM (ac Vi (ac Jz an)))) b7
theorem Pd:aI Pg 104 PR:=mk DP nU an b7
theorem Pc:aI Pg 107 PQ:=mk DO qC an b7
theorem lj:aI Pg 105 Zv:=mk NJ im an b7
theorem L9:aI Pg 104 Mw:=mk mC mq an b7
theorem Jw:aI Pg 104 KQ:= @aI.ro Pg 104 mC.pre mC.post.vs mq jI (L9.holds rfl) rfl (λx _ h=>by rw[show jI x=obind (mq x) λy=>same y.2 x.2 (af y.1) from rfl]at h;exact h)
theorem jN:aI Pg 75 V4:=mk Km py (ac Dm (ac Jz (ac Jw (ac lj (ac Jy (ac Pc an)))))) b7
theorem Vh:aI Pg 81 V0:=mk Kj uC (ac Jx (ac Ci an)) b7
theorem Y0:aI Pg 171 Zs:=mk NH wL (ac Ci (ac Fc an)) b7
theorem YY:aI Pg 172 Zq:=mk NF wJ an b7
theorem RA:aI Pg 173 SM:=mk Gx sD (ac Vp an) b7
theorem iF:aI Pg 147 PP:=mk DN nS (ac Y0 (ac YY (ac RA an))) b7
theorem Jv:aI Pg 43 VY:=mk Kh mU (ac Jx an) b7
theorem YX:aI Pg 70 Zp:=mk ND wI (ac Fc an) b7
theorem ag0:aI Pg 71 agm:=mk X2 C' an b7
theorem Pb:aI Pg 73 PO:=mk DM nR an b7
theorem Ve:aI Pg 74 VW:=mk Kf uA (ac Jz (ac Pd an)) b7
theorem Fb:aI Pg 45 Zo:=mk NC rC (ac YX (ac ag0 (ac Dm (ac Pb (ac Ve (ac jN an)))))) b7
theorem Vf:aI Pg 78 VX:=mk Kg rB an b7
theorem Vg:aI Pg 47 VZ:=mk Ki uB (ac Jv (ac Fb (ac yC (ac Vf an)))) b7
def M1 (t:TypeId):Option Ty:=if aC t 188 then af (.pr .un e_) else b7 t
theorem RY:aI Pg 148 Th:=mk G3 nh (ac lj (ac ll an)) M1
theorem RK:aI Pg 116 S8:=mk GP gg (ac jN (ac iF (ac RY (ac jB an)))) M1
theorem RX:aI Pg 148 Tg:=mk G2 ng (ac lj (ac ll an)) M1
theorem RJ:aI Pg 116 S7:=mk GM gE (ac jN (ac iF (ac RX (ac jB an)))) M1
theorem RW:aI Pg 148 Tf:=mk G1 ne (ac lj (ac ll an)) M1
theorem RI:aI Pg 116 S6:=mk GJ gf (ac jN (ac iF (ac RW (ac jB an)))) M1
theorem RU:aI Pg 148 Te:=mk G0 m_ (ac lj (ac ll an)) M1
theorem RH:aI Pg 116 S5:=mk GG jz (ac jN (ac iF (ac RU (ac jB an)))) M1
theorem RQ:aI Pg 148 Td:=mk GZ m8 (ac lj (ac ll an)) M1
theorem RG:aI Pg 116 S4:=mk GF iI (ac jN (ac iF (ac RQ (ac jB an)))) M1
theorem RP:aI Pg 148 Tc:=mk GY m7 (ac lj (ac ll an)) M1
theorem RF:aI Pg 116 S1:=mk GD hX (ac jN (ac iF (ac RP (ac jB an)))) M1
theorem RO:aI Pg 148 Tb:=mk GW m6 (ac lj (ac ll an)) M1
theorem RE:aI Pg 116 S0:=mk dH mW (ac jN (ac iF (ac RO (ac jB an)))) M1
theorem RN:aI Pg 148 Ta:=mk GV mZ (ac lj (ac ll an)) M1
theorem RD:aI Pg 116 SX:=mk GA mV (ac jN (ac iF (ac RN (ac jB an)))) M1
theorem RM:aI Pg 148 S_:=mk GU mY (ac lj (ac ll an)) M1
theorem RC:aI Pg 116 SU:=mk Gz lz (ac jN (ac iF (ac RM (ac jB an)))) M1
theorem RL:aI Pg 148 S9:=mk GR mX (ac lj (ac ll an)) M1
theorem RB:aI Pg 116 SS:=mk Gy km (ac jN (ac iF (ac RL (ac jB an)))) M1
theorem Y1:aI Pg 116 Zt:=(aI.orE (pre:=dH.pre) (post:=dH.post) (m:=mW) (m':=(λx=>orE (mV x) ((λx=>orE (lz x) ((λx=>orE (km x) ((λx=>orE (jz x) ((λx=>orE (iI x) ((λx=>orE (hX x) ((λx=>orE (gE x) ((λx=>orE (gf x) (gg x)) x)) x)) x)) x)) x)) x)) x))) rfl RE (aI.orE (pre:=dH.pre) (post:=dH.post) (m:=mV) (m':=(λx=>orE (lz x) ((λx=>orE (km x) ((λx=>orE (jz x) ((λx=>orE (iI x) ((λx=>orE (hX x) ((λx=>orE (gE x) ((λx=>orE (gf x) (gg x)) x)) x)) x)) x)) x)) x))) rfl RD (aI.orE (pre:=dH.pre) (post:=dH.post) (m:=lz) (m':=(λx=>orE (km x) ((λx=>orE (jz x) ((λx=>orE (iI x) ((λx=>orE (hX x) ((λx=>orE (gE x) ((λx=>orE (gf x) (gg x)) x)) x)) x)) x)) x))) rfl RC (aI.orE (pre:=dH.pre) (post:=dH.post) (m:=km) (m':=(λx=>orE (jz x) ((λx=>orE (iI x) ((λx=>orE (hX x) ((λx=>orE (gE x) ((λx=>orE (gf x) (gg x)) x)) x)) x)) x))) rfl RB (aI.orE (pre:=dH.pre) (post:=dH.post) (m:=jz) (m':=(λx=>orE (iI x) ((λx=>orE (hX x) ((λx=>orE (gE x) ((λx=>orE (gf x) (gg x)) x)) x)) x))) rfl RH (aI.orE (pre:=dH.pre) (post:=dH.post) (m:=iI) (m':=(λx=>orE (hX x) ((λx=>orE (gE x) ((λx=>orE (gf x) (gg x)) x)) x))) rfl RG (aI.orE (pre:=dH.pre) (post:=dH.post) (m:=hX) (m':=(λx=>orE (gE x) ((λx=>orE (gf x) (gg x)) x))) rfl RF (aI.orE (pre:=dH.pre) (post:=dH.post) (m:=gE) (m':=(λx=>orE (gf x) (gg x))) rfl RJ (aI.orE (pre:=dH.pre) (post:=dH.post) (m:=gf) (m':=gg) rfl RI RK)))))))))
theorem YZ:aI Pg 80 Zr:=mk NG wK (ac Y1 an) b7
theorem acf:aI Pg 48 acz:=mk Sq zA (ac Ci (ac YZ (ac Vh an))) b7
theorem fO:aI Pg 44 HQ:=mk yR bA an b7
theorem Fh:aI Pg 125 ZC:=mk NR rK an b7
theorem JJ:aI Pg 188 Wo:=mk KA pG an b7
theorem Ds:aI Pg 187 Qa:=mk DZ nX an b7
theorem Dt:aI Pg 124 Qb:=mk D2 jx an b7
theorem R4:aI Pg 122 Tw:=mk Hc sG an b7
theorem Mk:aI Pg 50 MM:=mk BE oY an b7
theorem vJ:∀n:Nat,aI Pg 186 (E4 n)
 |0=>Rr oq
 |n+1=>mk oq (oh (iu n)) (ac fO (ac Fh (ac (vJ n) (ac Ds (ac JJ an))))) b7
theorem Fi:aI Pg 186 FH:=(vJ fuel)
theorem Dr:aI Pg 189 Ec:=mk vQ eQ (ac vI an) b7
theorem jO:∀n:Nat,aI Pg 123 (Df n)/\aI Pg 158 (E3 n)/\aI Pg 190 (Dg n)
 |0=>⟨Rr mK,Rr rU,Rr qV⟩
 |n+1=>⟨mk mK (mI (dL n) (eK n) (dX n)) (ac (jO n).2.1 an) b7,mk rU (og (dL n) (eK n) (dX n)) (ac fO (ac (jO n).1 (ac Dt (ac Fh (ac Fi (ac Ds (ac JJ (ac Dr (ac (jO n).2.2 an))))))))) b7,mk qV (mJ (dL n) (eK n) (dX n)) (ac fO (ac (jO n).1 an)) b7⟩
theorem Dq:aI Pg 123 Eb:=(jO fuel).1
theorem Mj:aI Pg 83 ML:=mk BD oX (ac fO (ac xU (ac R4 (ac Dq (ac Dt (ac Fh an)))))) b7
theorem Vy:aI Pg 49 Wp:=mk KB xQ (ac Ph (ac Mj an)) b7
theorem R5:aI Pg 22 Tx:=mk Hd sH (ac acf (ac Vy (ac Mk an))) b7
theorem O7:aI Pg 32 PK:=mk DJ nP an b7
theorem Js:aI Pg 140 KM:=mk zS kZ an b7
theorem O5:aI Pg 108 PH:=mk DH tQ an b7
theorem L5:aI Pg 109 Mr:=mk Bn oP (ac fO an) b7
theorem O4:aI Pg 110 PF:=mk DG qz (ac fO (ac Js an)) b7
theorem Rx:aI Pg 111 SH:=mk Gu gD (ac fO an) b7
theorem O6:aI Pg 76 PI:=mk DI qA (ac fO (ac O5 (ac L5 (ac O4 (ac Rx an))))) b7
def tv1 (t:TypeId):Option Ty:=if aC t 50 then af (.pr .un (.pr .un (.pr .un (.pr .un (.pr .un (.sl aM)))))) else b7 t
theorem Ry:aI Pg 46 SJ:=mk Gv sB (ac fO (ac Fb (ac O6 an))) tv1
theorem O8:aI Pg 21 PL:=mk DK qB (ac O7 (ac Jv (ac fO (ac Fb (ac Ry (ac Vg an)))))) b7
theorem E_:aI Pg 8 FA:=mk xa k9 (ac O8 (ac R5 an)) b7
end
end Go.Proofs.YtgijlolllojpaaaGreatDoor.AI
