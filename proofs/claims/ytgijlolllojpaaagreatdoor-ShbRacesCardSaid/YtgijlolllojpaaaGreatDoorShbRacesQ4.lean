/-
  Texts of the proof, part 5 of 6: what is used to prove the statement. No condition.
-/
import Derived.Test.YtgijlolllojpaaaGreatDoorShbRacesQ3
import Derived.Deep.Slices
import Derived.OpenShut
import Derived.Below
import Derived.Test.YtgijlolllojpaaaGreatDoorProg
import Derived.KernelRfl
import Derived.Recover
namespace Go.Proofs.YtgijlolllojpaaaGreatDoor.AI
open Go.RowKit
set_option maxRecDepth 100000
set_option maxHeartbeats 4000000
set_option linter.unusedVariables false
set_option linter.unusedSimpArgs false
open Act renaming put→OR
open _root_.Array renaming replicate→oW
open _root_.Bool renaming true→ai,false→aj
open Call renaming operands→fc
open _root_.Int renaming ofNat→aP
open _root_.List renaming length→al,range→bx,length_singleton→c9,cons_append→gC,length_nil→j8,toArray→kR,nil_append→md,getElem?_cons_zero→rz,take_succ_cons→wG
open _root_.Nat renaming beq→aC,testBit→aN,add_zero→dD,ble→eU,blt→gz
open Oper renaming wp→In
open _root_.Option renaming some→af,none→ah,bind_some→aI,map_some→cr,map→mc,getD_some→vD
open Region renaming wanted→iU
open Result renaming andThen_ok→cR
open Sem renaming run_bind→eT,run_pure→pl
open _root_.Sum renaming inr→bO,inl→kO
open Value renaming okWide→Il
open Value.bool renaming injEq→CW
open World renaming cell?→ON
noncomputable section
theorem Vu {K V:Ty} {es:List (K.den×V.den)} (I:mpE K V es=ai):es.map (λp=>(qm K p.1,AV.f (gV V p.2)))=[]:=by
 unfold mpE at I;split at I
 .rfl
 .cases I
theorem ako {K V:Ty} {es:List (K.den×V.den)} (I:mpE K V es=ai):Vt K=ai:=by
 unfold mpE at I;split at I
 .rfl
 .cases I
theorem X_ {str:Bool} {K:Ty} (I:Zi str K=ai):Vt K=ai:=by
 cases K<;>cases str<;>first|rfl|cases I
theorem Pp {str:Bool} {K:Ty} (I:Zi str K=ai) (k k':K.den):vy .eql (qm K k) (qm K k')=af (.bool (N3 K k k'))/\zQ str (qm K k)=ai/\gV K k= .raw (qm K k):=by
 cases K<;>cases str<;>first|cases I|skip
 .exact⟨by simp only[vy,qm,N3,c7,bI,ak,CW];exact Bool.beq_eq_decide_eq _ _,rfl,rfl⟩
 .exact⟨by simp only[vy,qm,N3,Ez],rfl,rfl⟩
theorem RX {str:Bool} {K V:Ty} (I:Zi str K=ai) (k:K.den):∀es:List (K.den×V.den),ua (qm K k) (es.map λp=>(qm K p.1,AV.f (gV V p.2)))=af ((tP k es).map λv=>AV.f (gV V v))
 |[]=>rfl
 |(k',v)::r=>by
  simp only[gB,ua,(Pp I k k').1,tP];cases hb:N3 K k k' with
  |true=>rfl
  |false=>simp only[cG,ey];exact RX I k r
theorem X7 {str:Bool} {K V:Ty} (I:Zi str K=ai) (k:K.den) (v:V.den):∀es:List (K.den×V.den),zO (qm K k) (.f (gV V v)) (es.map λp=>(qm K p.1,AV.f (gV V p.2)))=af ((Jr k v es).map λp=>(qm K p.1,AV.f (gV V p.2)))
 |[]=>rfl
 |(k',J)::r=>by
  simp only[gB,zO,(Pp I k k').1,Jr];cases hb:N3 K k k' with
  |true=>rfl
  |false=>simp only[X7 I k v r,cG,ey,gB]
theorem aja {h:bl} {ok b:Bool} {v:TV} {y:AV} (hv:cB h v=af y):cB h (pkT ok v (.f .bool b))=af (pkV ok y b):=by
 cases ok with
 |false=>exact hv
 |true=>simp only[pkT,pkV,cB,cU,hv];rfl
section ops
variable {R:Type} {P:Program} {o:Oper} {e:iZ} {h:bl} {nx:Nat} {K:KO R} {r:R}
theorem Le.aggOf {l:List FV} (hc:∀x∈l,x.isCell=ai):Le (.agg (l.map .f)) (.f (.agg l)):=by
 intro φ O w v hr;cases hr with
 |@agg _ vs hl hcl hrr=>
  refine .f (.agg l vs (by simpa using hl) hc λj y u I hu=>?_);have:=hrr j (.f y) u (by rw[ba,I];rfl) hu;cases this with
  |f h=>exact h
def RI (S:Ty) (l:List TV):Option (S.den×Nat×List TV):=match l with
 |c::r=>(match iT PT.leaf S c with|some (x,m)=>af (x,m,r)|none=>ah)
 |[]=>ah
theorem NI:∀{l I:List FV},l.map AV.f=I.map AV.f->l=I
 |[],[],_=>rfl
 |[],_::_,h=>by simp at h
 |_::_,[],h=>by simp at h
 |x::r,y::r',h=>by
  simp only[gB,je,AV.f.injEq]at h;rw[h.1,NI h.2]
theorem Jh (h:bl):∀(ds:List TypeDesc) (T:Ty),rF ds=af T->∀(n:Nat) (l:List TV) (x:T.den) (m:Nat) (r:List TV),fm PT.leaf n T l=af (x,m,r)->∀J,cU h l=af J->∃l2,cU h r=af l2/\J=(bU T x).map .f++l2
 |[],T,hd,n,l,x,m,r,hp,J,hl=>by
  simp only[rF,ak]at hd;subst hd;cases n with
  |zero=>simp[fm]at hp
  |succ n=>
   simp only[fm,ak,aE]at hp;obtain⟨_,_,rfl⟩:=hp;exact⟨J,hl,rfl⟩
 |d::ds,T,hd,n,l,x,m,r,hp,J,hl=>by
  have plain:∀(S:Ty),S.one=ai->(∀t,S≠ .sl t)->∀(v:TV) (a:S.den) (m:Nat) (y:AV),iT PT.leaf S v=af (a,m)->cB h v=af y->y= .f (gV S a):=by
   intro S Y hns v a m y I hy;cases v with
   |f Q q=>
    simp only[iT]at I;split at I
    .rename_i z hz;simp only[ak,aE]at I;obtain⟨rfl,_⟩:=I;obtain⟨e,rfl⟩:=jv hz;subst e;simp only[cB,ak]at hy;exact hy.symm
    .cases I
   |emp=>
    cases S with
    |sl t=>exact cX rfl (hns t)
    |_=>simp[iT]at I
   |nil=>
    cases S with
    |sl t=>exact cX rfl (hns t)
    |_=>simp[iT]at I
   |row id=>simp[iT,PT.get]at I
   |fel T xs j hj off=>simp[iT]at I
   |pel id sz j off=>simp[iT]at I
   |ptr id off=>simp[iT]at I
   |csl id off z=>simp[iT]at I
   |mp id=>simp[iT]at I
   |rtl id jj=>simp[iT]at I
   |agg q=>simp[iT]at I
   |tup q=>simp[iT]at I
   |clo f q=>simp[iT]at I
   |undef=>simp[iT]at I
   |np=>simp[iT]at I
   |anyb=>simp[iT]at I
  have one:∀(S:Ty),S.one=ai->(∀t,S≠ .sl t)->∀(n:Nat) (l:List TV) (a:S.den) (m:Nat) (r:List TV),fm PT.leaf n S l=af (a,m,r)->∀J,cU h l=af J->∃l2,cU h r=af l2/\J=(bU S a).map .f++l2:=by
   intro S Y hns n l a m r hp J hl;cases n with
   |zero=>simp[fm]at hp
   |succ n=>
    cases l with
    |nil=>
     cases S with
     |int k=>cases hp
     |bool=>cases hp
     |str=>cases hp
     |sl t=>exact cX rfl (hns t)
     |_=>cases Y
    |cons c q=>
     have hpp:RI S (c::q)=af (a,m,r):=by
      cases S with
      |int k=>simp only[fm]at hp;simp only[RI];cases hq:iT PT.leaf (.int k) c with
       |none=>rw[hq]at hp;cases hp
       |some z=>rw[hq]at hp;exact hp
      |bool=>simp only[fm]at hp;simp only[RI];cases hq:iT PT.leaf .bool c with
       |none=>rw[hq]at hp;cases hp
       |some z=>rw[hq]at hp;exact hp
      |str=>simp only[fm]at hp;simp only[RI];cases hq:iT PT.leaf .str c with
       |none=>rw[hq]at hp;cases hp
       |some z=>rw[hq]at hp;exact hp
      |sl t=>exact cX rfl (hns t)
      |_=>cases Y
     simp only[RI]at hpp;split at hpp
     .rename_i a1 m1 h1;simp only[ak,aE]at hpp;obtain⟨rfl,rfl,rfl⟩:=hpp;obtain⟨y,l2,rfl,g1,Z⟩:=db hl;have:=plain S Y hns c a1 m1 y h1 g1;subst this;exact⟨l2,Z,by rw[(DV S a1 Y).1];rfl⟩
     .cases hpp
  have two:∀(S U:Ty),S.one=ai->(∀t,S≠ .sl t)->rF ds=af U->T= .pr S U->∃l2,cU h r=af l2/\J=(bU T x).map .f++l2:=by
   intro S U Y hns M e;subst e;cases n with
   |zero=>simp[fm]at hp
   |succ n=>
    simp only[fm]at hp;split at hp
    .rename_i x1 m1 r1 h1;split at hp
     .rename_i x2 m2 r2 h2;simp only[ak,aE]at hp;obtain⟨rfl,rfl,rfl⟩:=hp;obtain⟨l2,g1,Z⟩:=one S Y hns n l x1 m1 r1 h1 J hl;obtain⟨l3,g3,g4⟩:=Jh h ds U M n r1 x2 m2 r2 h2 l2 g1;exact⟨l3,g3,by rw[Z,g4,bU,cE,fY]⟩
     .cases hp
    .cases hp
  cases d with
  |int k=>
   simp only[rF]at hd;split at hd
   .rename_i U M;simp only[ak]at hd;exact two (.int k) U rfl (λt h=>by cases h) M hd.symm
   .cases hd
  |bool=>
   simp only[rF]at hd;split at hd
   .rename_i U M;simp only[ak]at hd;exact two .bool U rfl (λt h=>by cases h) M hd.symm
   .cases hd
  |string=>
   simp only[rF]at hd;split at hd
   .rename_i U M;simp only[ak]at hd;exact two .str U rfl (λt h=>by cases h) M hd.symm
   .cases hd
  |_=>simp[rF]at hd
theorem DS:∀(ds:List TypeDesc) (T:Ty),rF ds=af T->∀a b:T.den,py ds (bU T a) (bU T b)=af (N3 T a b)
 |[],T,hd,a,b=>by simp only[rF,ak]at hd;subst hd;rfl
 |d::ds,T,hd,a,b=>by
  cases d with
  |int k=>
   simp only[rF]at hd;split at hd
   .rename_i U M;simp only[ak]at hd;subst hd;have J:=DS ds U M a.2 b.2;simp only[bU,gC,md,py,ym,c7,bI,N3];cases he:((a.1:Int)==b.1) with
    |true=>have I:(a.1:Int)=b.1:=by simpa using he
           simp only[J,I,cS,kT]
    |false=>have I:¬(a.1:Int)=b.1:=by simpa using he
            simp only[I,cD,nV]
   .cases hd
  |bool=>
   simp only[rF]at hd;split at hd
   .rename_i U M;simp only[ak]at hd;subst hd;have J:=DS ds U M a.2 b.2;simp only[bU,gC,md,py,ym,N3];cases he:((a.1:Bool)==b.1)<;>simp[he,J]
   .cases hd
  |string=>
   simp only[rF]at hd;split at hd
   .rename_i U M;simp only[ak]at hd;subst hd;have J:=DS ds U M a.2 b.2;simp only[bU,gC,md,py,ym,N3,Ez];cases he:decide ((a.1:ζ)=b.1) with
    |true=>simp only[J,kT]
    |false=>simp only[nV]
   .cases hd
  |_=>simp[rF]at hd
theorem OC {u:TV} (hu:u.isC=aj) {lu:List TV} (hl:u.cs=af lu) {ds:List TypeDesc} {T:Ty} (hd:rF ds=af T) {a:T.den} {m:Nat} (hp:fm PT.leaf 40 T lu=af (a,m,[])) {y:AV} (I:cB h u=af y):Le y (.f (.agg (bU T a))):=by
 obtain⟨h1,_⟩:=Lb hl I;obtain⟨l2,h2,J⟩:=Jh h ds T hd 40 lu a m [] hp _ h1;simp only[cU,ak]at h2;subst h2;rw[fJ]at J;cases u with
 |agg l=>
  simp only[cB]at I;split at I
  .rename_i M _;simp only[ak]at I;subst I;have:M=(bU T a).map .f:=J;rw[this];exact Le.aggOf (oE T a)
  .cases I
 |f S x=>
  simp only[cB,ak]at I;subst I;have U:S.one=aj:=hu;rw[AZ]at J;have:bU S x=bU T a:=NI J;rw[re S x U,this];exact Le.refl _
 |tup l=>simp[TV.cs,TV.isC]at hl
 |undef=>simp[TV.cs,TV.isC]at hl
 |np=>cases hu
 |anyb=>simp[TV.cs,TV.isC]at hl
 |fel T xs j hj off=>cases hu
 |pel id sz j off=>cases hu
 |ptr id off=>cases hu
 |csl id off z=>cases hu
 |row id=>cases hu
 |emp=>cases hu
 |nil=>cases hu
 |mp id=>cases hu
 |rtl id Y=>cases hl
 |clo g l=>cases hu
variable (hinv:mr h nx) (hi:uj e h)
include hinv hi
theorem aqk {con:FuncId->Option cq} {b9:TypeId->Option Ty} {neg:Bool} {ds:List TypeDesc} {x y:Operand} {st:Bool} (hc:dA P o.op=af (.eqs neg ds x y)) (hk:d_ con b9 (.op (.eqs neg ds x y)) e h nx K=af r):k9 P o st e h nx K r:=by
 obtain⟨H,hH⟩:=jV h;simp only[d_]at hk;split at hk
 .rename_i T u v hd hu hv;split at hk
  .cases hk
  .rename_i hcc;simp only[jf,not_or,Bool.not_eq_true]at hcc;split at hk
   .rename_i lu lv hlu hlv;split at hk
    .rename_i a m1 b m2 hpa hpb;obtain⟨yu,h1,h2⟩:=bP hi hu;obtain⟨yv,h3,h4⟩:=bP hi hv;obtain⟨⟨⟨U,M⟩,hc3⟩,Z⟩:=hcc;have l1:=OC U hlu hd hpa h2;have l2:=OC M hlv hd hpb h4;have tmp:∀(z:Operand) (q:TV),fZ e z=af q->q.isC=aj->VF z=aj->∃t,z= .tmp t:=by
      intro z q I hq hg;cases z with
      |tmp t=>exact⟨t,rfl⟩
      |const c=>
       have I:cst c=af q:=by
        simp only[fZ,al1]at I;split at I
        .cases hg
        .exact I
       have:=(K_ h I).2.2;rw[hq]at this;cases this
      |func g=>simp only[fZ,ak]at I;subst I;cases hq
      |global g=>
       simp only[fZ]at I;split at I
       .cases I;cases hq
       .cases I
     obtain⟨t,rfl⟩:=tmp x u hu U hc3;obtain⟨t',rfl⟩:=tmp y v hv M Z;have same:t=t'->bU T a=bU T b:=by
      intro ht;subst ht;rw[hu]at hv;cases hv;rw[hlu]at hlv;cases hlv;rw[hpa]at hpb;cases hpb;rfl
     let J:AB:=((Km e h).set t (af (.f (.agg (bU T a))))).set t' (af (.f (.agg (bU T b))))
     have e1:mW J (.tmp t)=af (.f (.agg (bU T a))):=by
      simp only[mW,J,PT.get_set];by_cases ht:t=t'
      .rw[aD ht,same ht]
      .rw[aA ht];simp
     have e2:mW J (.tmp t')=af (.f (.agg (bU T b))):=by simp only[mW,J,PT.get_set,bI]
     have ha:eZ (.eqs neg ds (.tmp t) (.tmp t')) J H 0=af ⟨raw (.bool (N3 T a b !=neg)),[],[],[],[]⟩:=by
      simp only[eZ,e1,e2,DS ds T hd a b];rfl
     have ht:=Jj hc ha;rw[hH]at ht;have Y:gZ P o (gi e h) (bF h) _:=ht.envLe (e2:=gi e h) λs z _ I=>by
      simp only[J,PT.get_set]at I;rw[<- vW];simp only[mW]at h1 h3;split at I
      .rename_i es;subst es;cases I;exact⟨yv,h3,l2⟩
      .split at I
       .rename_i es;subst es;cases I;exact⟨yu,h1,l1⟩
       .exact⟨z,I,Le.refl _⟩
     refine ⟨_,0,0,h,nx,hk,⟨⟨_,Y,λy hy=>?_,by simp[CU.eff,ux],by simp[CU.eff],by simp[CU.eff],by simp[CU.eff]⟩,λ_ _ h=>h,hinv,bV _,λ_=>⟨rfl,rfl⟩⟩⟩;simp only[cB,ak]at hy;exact hy
    .cases hk
   .cases hk
 .cases hk
theorem aq9 {con:FuncId->Option cq} {b9:TypeId->Option Ty} (hc:dA P o.op=af .mkm) (hk:d_ con b9 (.op .mkm) e h nx K=af r):k9 P o aj e h nx K r:=by
 have _:=hi;obtain⟨H,M⟩:=jV h;refine ⟨_,_,_,_,_,hk,jw.new hinv hc M (y0:=.mp (nm nx)) (rdl:=[]) (b0:=⟨0,.mp []⟩) rfl (dY.zero h) (λ_ _ he=>by cases he) (λY U d g b' I=>?_) (λY U y d g J=>?_) (by simp)⟩
 .cases I;exact kh.refl d _
 .simp only[cB,ak]at J;subst J;exact l_.refl d _
theorem an5 {con:FuncId->Option cq} {b9:TypeId->Option Ty} {x:Operand} (hc:dA P o.op=af (.lenm x)) (hk:d_ con b9 (.op (.lenm x)) e h nx K=af r):k9 P o aj e h nx K r:=by
 obtain⟨H,J⟩:=jV h;simp only[d_]at hk;split at hk
 .rename_i id hv;split at hk
  .rename_i K' V es hb;obtain⟨y,h1,h2⟩:=bP hi hv;simp only[cB,ak]at h2;subst h2;split at hk
   case isFalse=>cases hk
   rename_i hO;have hg:H.get (nm id)=af ⟨0,.mp (es.map λp=>(qm K' p.1,.f (gV V p.2)))⟩:=by rw[J,bN,hb];show af (xE.mk 0 (mpC K' V es))=_;rw[Cu hO]
   exact⟨_,_,_,_,_,hk,jw.pure (k:=0) hinv hc J (y0:=raw (.int .i64 es.length)) (rdl:=[nm id]) (by simp only[eZ,h1,hg,bS]) (λy I=>by simp only[cB,ak]at I;subst I;exact Le.refl _) (λn hn=>by simp only[aL]at hn;subst hn;rw[eo];exact ca.2 rfl) (λh=>by cases h)⟩
  .cases hk
 .cases hk
theorem aqd {con:FuncId->Option cq} {b9:TypeId->Option Ty} {str ok:Bool} {z:Value} {x k:Operand} (hc:dA P o.op=af (.lku str ok z x k)) (hk:d_ con b9 (.op (.lku str ok z x k)) e h nx K=af r):k9 P o aj e h nx K r:=by
 obtain⟨H,Y⟩:=jV h;simp only[d_]at hk;split at hk
 .rename_i id KT kv hv U;split at hk
  .rename_i K' V es hb;split at hk
   .rename_i J;obtain⟨y,h1,h2⟩:=bP hi hv;obtain⟨y2,h3,h4⟩:=bP hi U;simp only[cB,ak]at h2 h4;subst h2;subst h4;simp only[av]at J;have hg:H.get (nm id)=af ⟨0,.mp (es.map λp=>(qm K' p.1,.f (gV V p.2)))⟩:=by rw[Y,bN,hb];show af (xE.mk 0 (mpC K' V es))=_;rw[Cu J.2]
    obtain⟨_,hok,henc⟩:=Pp J.1 kv kv;rw[henc]at h3;have hrd:∀n∈[nm id],aN (kZ id) (ow n)=ai:=λn hn=>by simp only[aL]at hn;subst hn;rw[eo];exact ca.2 rfl
    split at hk
    .rename_i hE;split at hk
     .rename_i v M;have hzz:=(K_ h M).1;exact⟨_,_,_,_,_,hk,jw.pure (k:=0) hinv hc Y (y0:=pkV ok (raw z) aj) (rdl:=[nm id]) (by simp only[eZ,h1,h3,hg,hok,bI,Vu hE,ua]) (λy I=>by rw[aja hzz]at I;cases I;exact Le.refl _) hrd (λh=>by cases h)⟩
     .cases hk
    .split at hk
     .rename_i kv' Z zv hkv M;split at hk
      .rename_i zv' hzv;obtain⟨e1,e2⟩:=jv hkv;cases e1;subst e2;obtain⟨e3,e4⟩:=jv hzv;cases e3;subst e4;have hzz:=(K_ h M).1;simp only[cB,ak]at hzz;refine ⟨_,_,_,_,_,hk,jw.pure (k:=0) hinv hc Y (y0:=pkV ok (.f (gV _ (Gt kv' es zv'))) (Pk kv' es)) (rdl:=[nm id]) ?_ (λy I=>by rw[aja (y:=.f (gV _ (Gt kv' es zv'))) rfl]at I;cases I;exact Le.refl _) hrd (λh=>by cases h)⟩;simp only[eZ,h1,h3,hg,hok,bI,RX J.1];unfold Gt Pk;cases hf:tP kv' es with
       |none=>simp only[Option.map_none];rw[hzz]
       |some v=>rfl
      .cases hk
     .cases hk
   .cases hk
  .cases hk
 .cases hk
theorem aq8 {con:FuncId->Option cq} {b9:TypeId->Option Ty} {str:Bool} {x k v:Operand} (hc:dA P o.op=af (.mup str x k v)) (hk:d_ con b9 (.op (.mup str x k v)) e h nx K=af r):k9 P o aj e h nx K r:=by
 obtain⟨H,hH⟩:=jV h;simp only[d_]at hk;split at hk
 .rename_i id KT U VT vv hv Z Y;split at hk
  .rename_i K' V es hb;split at hk
   .rename_i J;simp only[av]at J;obtain⟨y,h1,h2⟩:=bP hi hv;obtain⟨y2,h3,h4⟩:=bP hi Z;obtain⟨y3,h5,h6⟩:=bP hi Y;simp only[cB,ak]at h2 h4 h6;subst h2;subst h4;subst h6;have hg:H.get (nm id)=af ⟨0,.mp (es.map λp=>(qm K' p.1,.f (gV V p.2)))⟩:=by rw[hH,bN,hb];show af (xE.mk 0 (mpC K' V es))=_;rw[Cu J.2]
    obtain⟨_,hok,henc⟩:=Pp J.1.1 U U;rw[henc]at h3;have hrd:∀n∈[nm id],aN (kZ id) (ow n)=ai:=λn hn=>by simp only[aL]at hn;subst hn;rw[eo];exact ca.2 rfl
    split at hk
    .rename_i hE;exact⟨_,_,_,_,_,hk,jw.wrt (k:=0) (m:=0) (v:=.undef) (rd:=kZ id) hinv hc hH (y0:=raw undef) (b0:=⟨0,.mp [(qm KT U,.f (gV VT vv))]⟩) (rdl:=[nm id]) (by simp only[eZ,h1,h3,h5,hg,hok,bI,Vu hE,zO]) (B:=.mp KT VT [(U,vv)]) hb (dY.zero h) (by simp) rfl (λty' l2 he=>by cases he) (λH1 H2 d g b' I=>by simp only[kN,Cu (X_ J.1.1),ak]at I;subst I;exact kh.refl d _) (λH1 H2 y d g M=>by simp only[cB,ak]at M;subst M;exact l_.refl d _) hrd⟩
    .split at hk
     .rename_i kv' vv' hkv hvv;obtain⟨e1,e2⟩:=jv hkv;cases e1;subst e2;obtain⟨e3,e4⟩:=jv hvv;cases e3;subst e4;exact⟨_,_,_,_,_,hk,jw.wrt (k:=0) (m:=0) (v:=.undef) (rd:=kZ id) hinv hc hH (y0:=raw undef) (b0:=⟨0,.mp ((Jr kv' vv' es).map λp=>(qm _ p.1,.f (gV _ p.2)))⟩) (rdl:=[nm id]) (by simp only[eZ,h1,h3,h5,hg,hok,bI,X7 J.1.1]) (B:=.mp _ _ (Jr kv' vv' es)) hb (dY.zero h) (by simp) rfl (λty' l2 he=>by cases he) (λH1 H2 d g b' I=>by simp only[kN,Cu (X_ J.1.1),ak]at I;subst I;exact kh.refl d _) (λH1 H2 y d g M=>by simp only[cB,ak]at M;subst M;exact l_.refl d _) hrd⟩
     .cases hk
   .cases hk
  .cases hk
 .cases hk
theorem aq5 {con:FuncId->Option cq} {b9:TypeId->Option Ty} {x:Operand} (hc:dA P o.op=af (.rng x)) (hk:d_ con b9 (.op (.rng x)) e h nx K=af r):k9 P o aj e h nx K r:=by
 obtain⟨H,M⟩:=jV h;simp only[d_]at hk;split at hk
 .rename_i s hv;obtain⟨y,h1,h2⟩:=bP hi hv;simp only[cB,ak]at h2;subst h2;refine ⟨_,_,_,_,_,hk,jw.new hinv hc M (y0:=.ptr (nm nx) 0) (rdl:=[]) (b0:=⟨0,.it ⟨kR s⟩ 0⟩) (by simp only[eZ,h1];rfl) (dY.zero h) (λ_ _ he=>by cases he) (λY U d g b' I=>?_) (λY U y d g J=>?_) (by simp)⟩
  .cases I;exact kh.refl d _
  .simp only[cB,ak]at J;subst J;exact l_.refl d _
 .cases hk
theorem aq6 {con:FuncId->Option cq} {b9:TypeId->Option Ty} {x:Operand} (hc:dA P o.op=af (.nxt x)) (hk:d_ con b9 (.op (.nxt x)) e h nx K=af r):k9 P o aj e h nx K r:=by
 obtain⟨H,M⟩:=jV h;simp only[d_]at hk;split at hk
 .rename_i id hv;split at hk
  .rename_i K' V es hb;split at hk
   .rename_i s p Z;obtain⟨y,h1,h2⟩:=bP hi hv;simp only[cB,ak]at h2;subst h2;have hg:H.get (nm id)=af ⟨0,.it ⟨kR s⟩ p⟩:=by rw[M,bN,hb];show af (xE.mk 0 (mpC K' V es))=_;rw[aks Z]
    have hrd:∀n∈[nm id],aN (kZ id) (ow n)=ai:=λn hn=>by simp only[aL]at hn;subst hn;rw[eo];exact ca.2 rfl
    rcases p_ hk with ⟨hp,hk⟩|⟨hp,hk⟩
    .obtain⟨hj,hk⟩:=ef hk;have hp:=a_ hp;have e2:(⟨kR s⟩:ByteArray).data.toList[p]? =af (List.getD s p 0):=by
      show s[p]? =_;rw[ay,aB hp];rfl
     have e3:gz (List.getD s p 0).toNat 128=ai:=by
      have hj:(aP (List.getD s p 0).toNat:Int)<128:=bi hj;exact bH (Int.ofNat_lt.1 hj)
     exact⟨_,_,_,_,_,hk,jw.wrt (k:=0) (m:=0) (rd:=kZ id) hinv hc M (y0:=.tup [raw (.bool ai),raw (.int .i64 p),raw (.int .i32 (List.getD s p 0).toNat)]) (b0:=⟨0,.it ⟨kR s⟩ (p+1)⟩) (rdl:=[nm id]) (by simp only[eZ,h1,hg,e2,e3,bI]) (B:=.mp itK .un [((s,aP (p+1)),())]) hb (dY.zero h) (by simp) rfl (λty' l2 he=>by cases he) (λY U d g b' I=>by cases I;exact kh.refl d _) (λY U y d g J=>by cases J;exact l_.refl d _) hrd⟩
    .have hp:s.length<=p:=Nat.not_lt.1 λq=>by rw[show gz p s.length=ai from bH q]at hp;cases hp
     have e2:(⟨kR s⟩:ByteArray).data.toList[p]? =ah:=by
      show s[p]? =_;exact bT hp
     exact⟨_,_,_,_,_,hk,jw.wrt (k:=0) (m:=0) (rd:=kZ id) hinv hc M (y0:=.tup [raw (.bool aj)]) (b0:=⟨0,.it ⟨kR s⟩ p⟩) (rdl:=[nm id]) (by simp only[eZ,h1,hg,e2]) (B:=.mp itK .un [((s,aP p),())]) hb (dY.zero h) (by simp) rfl (λty' l2 he=>by cases he) (λY U d g b' I=>by cases I;exact kh.refl d _) (λY U y d g J=>by cases J;exact l_.refl d _) hrd⟩
   .cases hk
  .cases hk
 .cases hk
theorem K_op {con:FuncId->Option cq} {b9:TypeId->Option Ty} {s:SOp} (hc:dA P o.op=af s) (hk:d_ con b9 (.op s) e h nx K=af r):k9 P o s.still e h nx K r:=by
 cases s with
 |mv x=>exact K_mv hinv hi hc hk
 |pick c a b=>exact an0 hinv hi hc hk
 |alloc ty z=>exact aio hinv hi hc hk
 |box ty x=>exact aqo hinv hi hc hk
 |build z parts=>exact ain hinv hi hc hk
 |bsl ty sz len z parts=>exact aqn hinv hi hc hk
 |load sz ag x=>exact an3 hinv hi hc hk
 |store sz x v=>exact aik hinv hi hc hk
 |nilc x=>exact an1 hinv hi hc hk
 |bin op x y=>exact aqp hinv hi hc hk
 |eqs neg ds x y=>exact aqk hinv hi hc hk
 |eqb neg x y=>exact aql hinv hi hc hk
 |isnil neg x=>exact aim hinv hi hc hk
 |not x=>exact aq7 hinv hi hc hk
 |conv k x=>exact an8 hinv hi hc hk
 |mksl ty sz bytes z l c=>exact an2 hinv hi hc hk
 |slc sz x lo I mx=>exact aq4 hinv hi hc hk
 |fad off x=>exact aqi hinv hi hc hk
 |fld off sz ag x=>exact aqh hinv hi hc hk
 |iad sz x i=>exact aqg hinv hi hc hk
 |idx n sz ag x i=>exact aqf hinv hi hc hk
 |iada n sz x i=>exact an6 hinv hi hc hk
 |ext x i=>exact aqj hinv hi hc hk
 |len x=>exact aqe hinv hi hc hk
 |lens x=>exact an4 hinv hi hc hk
 |max x y=>exact aqc hinv hi hc hk
 |min x y=>exact aqb hinv hi hc hk
 |sidx x i=>exact amz hinv hi hc hk
 |app ty sz bytes s x=>exact aqq hinv hi hc hk
 |copy sz d x=>exact an7 hinv hi hc hk
 |clr sz z x=>exact aqm hinv hi hc hk
 |mkf f caps=>exact aqa hinv hi hc hk
 |mkm=>exact aq9 hinv hi hc hk
 |rng x=>exact aq5 hinv hi hc hk
 |nxt x=>exact aq6 hinv hi hc hk
 |lenm x=>exact an5 hinv hi hc hk
 |lku str ok z x k=>exact aqd hinv hi hc hk
 |mup str x k v=>exact aq8 hinv hi hc hk
 |_=>simp[d_]at hk
end ops
mutual
def AV.ren (g:Nat->Nat):AV->AV
 |.f x=>.f x
 |.ptr id off=>.ptr (g id) off
 |.sl id off n=>.sl (g id) off n
 |.row id sz n=>.row (g id) sz n
 |.mp id=>.mp (g id)
 |.emp=>.emp
 |.anyb=>.anyb
 |.agg l=>.agg (AV.renL g l)
 |.tup l=>.tup (AV.renL g l)
 |.clo q l=>.clo q (AV.renL g l)
def AV.renL (g:Nat->Nat):List AV->List AV
 |[]=>[]
 |x::r=>x.ren g::AV.renL g r
end
theorem oY (g:Nat->Nat):∀l,AV.renL g l=l.map (AV.ren g)
 |[]=>rfl
 |x::r=>by rw[AV.renL,oY g r];rfl
theorem Dd (g:Nat->Nat) (x:AV):(x.ren g).isCell=x.isCell:=by cases x<;>rfl
theorem cV.renTo {φ φ':PM} {g:Nat->Nat} {O:Nat->Prop} {w:World} (hk:∀i k,φ i=af k->φ' (g i)=af k) {x:AV} {v:Value} (h:cV φ O w x v):cV φ' O w (x.ren g) v:=by
 induction h with
 |f h=>exact .f h
 |ptr h=>exact .ptr (hk _ _ h)
 |sl h hn hc=>exact .sl (hk _ _ h) hn hc
 |row h hn hc hsh=>exact .row (hk _ _ h) hn hc hsh
 |emp=>exact .emp
 |anyb=>exact .anyb
 |mp h=>exact .mp (hk _ _ h)
 |agg hl hcl hr M=>
  simp only[AV.ren,oY];refine .agg (by simpa using hl) (λx I=>?_) λj x v I hv=>?_
  .obtain⟨y,J,rfl⟩:=dv.1 I;rw[Dd];exact hcl y J
  .rw[ba]at I;obtain⟨y,J,rfl⟩:=jW.1 I;exact M j y v J hv
 |tup hl hr M=>
  simp only[AV.ren,oY];refine .tup (by simpa using hl) λj x v I hv=>?_
  rw[ba]at I;obtain⟨y,J,rfl⟩:=jW.1 I;exact M j y v J hv
 |clo hl hr M=>
  simp only[AV.ren,oY];refine .clo (by simpa using hl) λj x v I hv=>?_
  rw[ba]at I;obtain⟨y,J,rfl⟩:=jW.1 I;exact M j y v J hv
theorem cV.renFrom {φ φ':PM} {g:Nat->Nat} {O:Nat->Prop} {w:World} {p:Nat->Bool} (hk:∀i k,p i=ai->φ (g i)=af k->φ' i=af k) {z:AV} {v:Value} (h:cV φ O w z v):∀x:AV,x.all p=ai->z=x.ren g->cV φ' O w x v:=by
 induction h with
 |f h=>intro x hp e;cases x<;>simp only[AV.ren,reduceCtorEq]at e;cases e;exact .f h
 |ptr h=>intro x hp e;cases x<;>simp only[AV.ren,reduceCtorEq]at e;cases e;exact .ptr (hk _ _ hp h)
 |sl h hn hc=>intro x hp e;cases x<;>simp only[AV.ren,reduceCtorEq]at e;cases e;exact .sl (hk _ _ hp h) hn hc
 |row h hn hc hsh=>intro x hp e;cases x<;>simp only[AV.ren,reduceCtorEq]at e;cases e;exact .row (hk _ _ hp h) hn hc hsh
 |emp=>intro x hp e;cases x<;>simp only[AV.ren,reduceCtorEq]at e;exact .emp
 |anyb=>intro x hp e;cases x<;>simp only[AV.ren,reduceCtorEq]at e;exact .anyb
 |mp h=>intro x hp e;cases x<;>simp only[AV.ren,reduceCtorEq]at e;cases e;exact .mp (hk _ _ hp h)
 |agg hl hcl hr J=>
  intro x hp e;cases x<;>simp only[AV.ren,reduceCtorEq]at e;rename_i l;cases e;rw[oY]at hl hcl hr J;refine .agg (by simpa using hl) (λx I=>?_) λj x v I hv=>?_
  .have:=hcl (x.ren g) (dv.2 ⟨x,I,rfl⟩);rwa [Dd]at this
  .exact J j (x.ren g) v (by rw[ba,I];rfl) hv x (mo hp x (bc I)) rfl
 |tup hl hr J=>
  intro x hp e;cases x<;>simp only[AV.ren,reduceCtorEq]at e;rename_i l;cases e;rw[oY]at hl hr J;refine .tup (by simpa using hl) λj x v I hv=>?_
  exact J j (x.ren g) v (by rw[ba,I];rfl) hv x (mo hp x (bc I)) rfl
 |clo hl hr J=>
  intro x hp e;cases x<;>simp only[AV.ren,reduceCtorEq]at e;rename_i l;cases e;rw[oY]at hl hr J;refine .clo (by simpa using hl) λj x v I hv=>?_
  exact J j (x.ren g) v (by rw[ba,I];rfl) hv x (mo hp x (bc I)) rfl
def BC.ren (g:Nat->Nat):BC->BC
 |.fz l=>.fz l
 |.mx l=>.mx (l.map (AV.ren g))
 |.mp es=>.mp (es.map λp=>(p.1,p.2.ren g))
 |.it s p=>.it s p
def xE.ren (g:Nat->Nat) (b:xE):xE:=⟨b.ty,b.c.ren g⟩
theorem jD.renTo {φ φ':PM} {g:Nat->Nat} {O O':Nat->Prop} {w:World} (hk:∀x v,cV φ O w x v->cV φ' O' w (x.ren g) v) {b:xE} {o:Obj} (h:jD φ O w b o):jD φ' O' w (b.ren g) o:=by
 obtain⟨ty,c⟩:=b;unfold jD at h ⊢;simp only[xE.ren];cases c with
 |fz l=>
  simp only[BC.ren];obtain⟨arr,h1,h2,J⟩:=h;refine ⟨arr,h1,h2,λj x I=>?_⟩;obtain⟨a,v,c,d⟩:=J j x I;simp only[BC.get]at I;obtain⟨q,_,rfl⟩:=jW.1 I;exact⟨a,v,c,hk _ _ d⟩
 |mx l=>
  simp only[BC.ren];obtain⟨arr,h1,h2,J⟩:=h;refine ⟨arr,h1,by simpa[BC.len] using h2,λj x I=>?_⟩;simp only[BC.get,ba]at I;obtain⟨q,hq,rfl⟩:=jW.1 I;obtain⟨a,v,c,d⟩:=J j q hq;exact⟨by rw[Dd];exact a,v,c,hk _ _ d⟩
 |mp es=>
  simp only[BC.ren];obtain⟨e,c,h1,h2,J⟩:=h;refine ⟨e,c,h1,by rw[h2,AF];rfl,λj x I=>?_⟩;rw[ba]at I;obtain⟨q,hq,rfl⟩:=jW.1 I;obtain⟨m,a,b⟩:=J j q hq;exact⟨m,a,hk _ _ b⟩
 |it s p=>exact h
theorem jD.renFrom {φ φ':PM} {g:Nat->Nat} {O O':Nat->Prop} {w:World} {p:Nat->Bool} (hk:∀x v,x.all p=ai->cV φ O w (x.ren g) v->cV φ' O' w x v) {b:xE} (hb:b.c.all p=ai) {o:Obj} (h:jD φ O w (b.ren g) o):jD φ' O' w b o:=by
 obtain⟨ty,c⟩:=b;unfold jD at h ⊢;simp only[xE.ren]at h;cases c with
 |fz l=>
  simp only[BC.ren]at h;obtain⟨arr,h1,h2,J⟩:=h;refine ⟨arr,h1,h2,λj x I=>?_⟩;obtain⟨a,v,c,d⟩:=J j x I;simp only[BC.get]at I;obtain⟨q,_,rfl⟩:=jW.1 I;exact⟨a,v,c,hk _ _ rfl d⟩
 |mx l=>
  simp only[BC.ren]at h;obtain⟨arr,h1,h2,J⟩:=h;refine ⟨arr,h1,by simpa[BC.len] using h2,λj x I=>?_⟩;simp only[BC.get]at I;obtain⟨a,v,c,d⟩:=J j (x.ren g) (by simp only[BC.get,ba,I];rfl);rw[Dd]at a;exact⟨a,v,c,hk _ _ (mo hb x (bc I)) d⟩
 |mp es=>
  simp only[BC.ren]at h;obtain⟨e,c,h1,h2,J⟩:=h;refine ⟨e,c,h1,by rw[h2,AF];rfl,λj x I=>?_⟩;obtain⟨m,a,b⟩:=J j (x.1,x.2.ren g) (by rw[ba,I];rfl);exact⟨m,a,hk _ _ (mo hb x.2 (dv.2 ⟨x,bc I,rfl⟩)) b⟩
 |it s p=>exact h
mutual
def Df (g:Nat->Nat):TV->TV
 |.row i=>.row (g i)
 |.rtl i j=>.rtl (g i) j
 |.agg l=>.agg (kM g l)
 |.tup l=>.tup (kM g l)
 |.clo q l=>.clo q (kM g l)
 |.f T v=>.f T v
 |.fel T xs j h off=>.fel T xs j h off
 |.pel a b c d=>.pel (g a) b c d
 |.ptr a b=>.ptr (g a) b
 |.csl a b c=>.csl (g a) b c
 |.emp=>.emp
 |.nil=>.nil
 |.mp i=>.mp (g i)
 |.undef=>.undef
 |.np=>.np
 |.anyb=>.anyb
def kM (g:Nat->Nat):List TV->List TV
 |[]=>[]
 |x::r=>Df g x::kM g r
end
theorem AJ (g:Nat->Nat):∀l,kM g l=l.map (Df g)
 |[]=>rfl
 |x::r=>by rw[kM,AJ g r];rfl
def me (g:Nat->Nat):iE->iE
 |.cells ty l=>.cells ty (kM g l)
 |.rows ty p T xs=>.rows ty p T xs
 |.dead p sz n=>.dead p sz n
 |.mp K V es=>.mp K V es
theorem I_ (g:Nat->Nat) (b:iE):mZ (me g b)=mZ b:=by cases b<;>rfl
def IH (g:Nat->Nat) (n:Nat):Nat:=nm (g (ow n))
theorem yg (g:Nat->Nat) (i:Nat):IH g (nm i)=nm (g i):=by unfold IH;rw[eo]
mutual
theorem akz {g:Nat->Nat} {h1 h2:bl} (hrow:∀i r,eL h1 i=af r->eL h2 (g i)=af r):∀(v:TV) (y:AV),cB h1 v=af y->cB h2 (Df g v)=af (y.ren (IH g))
 |.f _ _,y,he=>by simp only[cB,ak]at he;subst he;rfl
 |.fel _ _ _ _ _,y,he=>by simp only[cB,ak]at he;subst he;rfl
 |.pel _ _ _ _,y,he=>by simp only[cB,ak]at he;subst he;simp only[Df,cB,AV.ren,yg]
 |.ptr _ _,y,he=>by simp only[cB,ak]at he;subst he;simp only[Df,cB,AV.ren,yg]
 |.csl _ _ _,y,he=>by simp only[cB,ak]at he;subst he;simp only[Df,cB,AV.ren,yg]
 |.row id,y,he=>by
  simp only[cB]at he;split at he
  .rename_i p sz n hr;simp only[ak]at he;subst he;simp only[Df,cB,hrow id _ hr];unfold fK;split
   .rfl
   .simp only[AV.ren,yg]
  .cases he
 |.rtl id jj,y,he=>by
  simp only[cB]at he;split at he
  .rename_i p sz n hr;simp only[ak]at he;subst he;simp only[Df,cB,hrow id _ hr,AV.ren,yg]
  .cases he
 |.emp,y,he=>by simp only[cB,ak]at he;subst he;rfl
 |.nil,y,he=>by simp only[cB,ak]at he;subst he;rfl
 |.mp _,y,he=>by simp only[cB,ak]at he;subst he;simp only[Df,cB,AV.ren,yg]
 |.agg l,y,he=>by
  simp only[cB]at he;split at he
  .rename_i l' hl;simp only[ak]at he;subst he;simp only[Df,cB,rc hrow l l' hl,AV.ren]
  .cases he
 |.tup l,y,he=>by
  simp only[cB]at he;split at he
  .rename_i l' hl;simp only[ak]at he;subst he;simp only[Df,cB,rc hrow l l' hl,AV.ren]
  .cases he
 |.clo q l,y,he=>by
  simp only[cB]at he;split at he
  .rename_i l' hl;simp only[ak]at he;subst he;simp only[Df,cB,rc hrow l l' hl,AV.ren]
  .cases he
 |.undef,y,he=>by simp only[cB,ak]at he;subst he;rfl
 |.np,y,he=>by simp only[cB,ak]at he;subst he;rfl
 |.anyb,y,he=>by simp only[cB,ak]at he;subst he;rfl
theorem rc {g:Nat->Nat} {h1 h2:bl} (hrow:∀i r,eL h1 i=af r->eL h2 (g i)=af r):∀(l:List TV) (l':List AV),cU h1 l=af l'->cU h2 (kM g l)=af (AV.renL (IH g) l')
 |[],l',he=>by simp only[cU,ak]at he;subst he;rfl
 |x::r,l',he=>by
  obtain⟨y,l2,rfl,e1,e2⟩:=db he;exact px (akz hrow x y e1) (rc hrow r l2 e2)
end
theorem DR {g:Nat->Nat} {h1 h2:bl} (hrow:∀i r,eL h1 i=af r->eL h2 (g i)=af r) {b:iE} {y:xE} (he:kN h1 b=af y):kN h2 (me g b)=af (y.ren (IH g)):=by
 cases b with
 |rows ty p T xs=>
  simp only[kN]at he;split at he
  .cases he
  .rename_i hc;simp only[ak]at he;subst he;simp only[me,kN,aA hc];rfl
 |cells ty l=>
  simp only[kN]at he;split at he
  .rename_i I hl;simp only[ak]at he;subst he;simp only[me,kN,rc hrow l I hl,oY];rfl
  .cases he
 |dead p sz n=>cases he
 |mp K V es=>
  simp only[kN,ak]at he;subst he;simp only[me,kN,xE.ren,ak,xE.mk.injEq,B8];unfold mpC;split
  .rfl
  .simp only[BC.ren,AF];rfl
theorem De (g:Nat->Nat) (a b:List TV):kM g (a++b)=kM g a++kM g b:=by
 rw[AJ,AJ,AJ,cE]
theorem qn (g:Nat->Nat):∀(n:Nat) (T:Ty) (v:T.den) (l:List TV),cellsOf n T v=af l->kM g l=l
 |0,_,_,_,he=>by simp[cellsOf]at he
 |n+1,.st t,v,l,he=>qn g n t v l he
 |n+1,.pr a b,v,l,he=>by
  simp only[cellsOf]at he;split at he
  .rename_i x y J I;simp only[ak]at he;subst he;rw[De,qn g n a v.1 x J,qn g n b v.2 y I]
  .cases he
 |n+1,.un,v,l,he=>by simp only[cellsOf,ak]at he;subst he;rfl
 |n+1,.ex,v,l,he=>qn g n N0 (OV v) l he
 |n+1,.sm,v,l,he=>qn g n Nu (OU v) l he
 |n+1,.int k,v,l,he=>by simp only[cellsOf,ak]at he;subst he;rfl
 |n+1,.bool,v,l,he=>by simp only[cellsOf,ak]at he;subst he;rfl
 |n+1,.str,v,l,he=>by simp only[cellsOf,ak]at he;subst he;rfl
 |n+1,.sl t,v,l,he=>by simp only[cellsOf,ak]at he;subst he;rfl
abbrev IB:Nat->Nat:=λi=>i
mutual
theorem acd (g:Nat->Nat):∀(p:PV) (x:p.ty.den),qx g p x=(qx IB p x).map (kM g)
 |.d T,x=>by
  simp only[qx];cases h:cellsOf 40 T x with
  |none=>rfl
  |some l=>simp only[cr,qn g 40 T x l h]
 |.ptr i o,x=>rfl
 |.csl i o z,x=>rfl
 |.clo q i o,x=>rfl
 |.row i,x=>rfl
 |.mp i,x=>rfl
 |.nil,x=>rfl
 |.emp,x=>rfl
 |.agg ps,x=>AK g ps x
theorem AK (g:Nat->Nat):∀(ps:List PV) (x:(PV.tyL ps).den),rE g ps x=(rE IB ps x).map (kM g)
 |[],x=>rfl
 |p::r,x=>by
  simp only[rE];rw[acd g p,AK g r];cases qx IB p (P1 p.ty (PV.tyL r) x) with
  |none=>rfl
  |some a=>
   cases rE IB r (Me p.ty (PV.tyL r) x) with
   |none=>rfl
   |some b=>simp only[cr,De]
end
def ale (o:Option (List TV)):Option TV:=match o with|some l=>af (.agg l)|none=>ah
theorem aej (g:Nat->Nat) (o:Option (List TV)):ale (o.map (kM g))=(ale o).map (Df g):=by cases o<;>rfl
theorem aca (g:Nat->Nat) (p:PV) (x:p.ty.den):t7 g p x=(t7 IB p x).map (Df g):=by
 cases p with
 |agg ps=>exact (gX ale (AK g ps x)).trans (aej g _)
 |_=>rfl
theorem ul (g:Nat->Nat):∀(ps:List PV) (x:(PV.tyL ps).den),qE g ps x=(qE IB ps x).map (kM g)
 |[],x=>rfl
 |p::r,x=>by
  simp only[qE];rw[aca g p,ul g r];cases t7 IB p (P1 p.ty (PV.tyL r) x) with
  |none=>rfl
  |some a=>
   cases qE IB r (Me p.ty (PV.tyL r) x) with
   |none=>rfl
   |some b=>rfl
def Xa (ty:TypeId) (o:Option (List TV)):Option (Option iE):=match o with|some l=>af (af (.cells ty l))|none=>ah
theorem W_ (g:Nat->Nat) (ty:TypeId) (o:Option (List TV)):Xa ty (o.map (kM g))=(Xa ty o).map (mc (me g)):=by cases o<;>rfl
theorem ace (g:Nat->Nat) (b:PB) (x:b.ty.den):Dj g b x=(Dj IB b x).map (mc (me g)):=by
 cases b with
 |cells ty ps=>exact (gX (Xa ty) (AK g ps x)).trans (W_ g ty _)
 |_=>rfl
theorem wO (g:Nat->Nat):∀(bs:List PB) (x:(PB.tyL bs).den),oZ g bs x=(oZ IB bs x).map (List.map (mc (me g)))
 |[],x=>rfl
 |b::r,x=>by
  simp only[oZ];rw[ace g b,wO g r];cases Dj IB b (P1 b.ty (PB.tyL r) x) with
  |none=>rfl
  |some a=>
   cases oZ IB r (Me b.ty (PB.tyL r) x) with
   |none=>rfl
   |some l=>rfl
theorem Di (g:Nat->Nat):∀(bs:List PB) (x:(PB.tyL bs).den) (l:List (Option iE)),oZ g bs x=af l->l.length=bs.length
 |[],x,l,h=>by simp only[oZ,ak]at h;subst h;rfl
 |b::r,x,l,h=>by
  simp only[oZ]at h;split at h
  .split at h
   .rename_i q hq;simp only[ak]at h;subst h;simp[Di g r _ q hq]
   .cases h
  .cases h
theorem Ka (h:bl) (i j:Nat):(kill h i).get j=if j=i then (h.get i).map vP else h.get j:=by
 unfold kill;cases hb:h.get i with
 |none=>
  simp only[Option.map_none];split
  .rename_i e;rw[e,hb]
  .rfl
 |some b=>rw[PT.get_set];rfl
theorem vN (g:Nat->Nat):∀(l:List (Option iE)) (i:Nat) (h:bl) (j:Nat),(∀k,k<l.length->j≠g (i+k))->(Bj g i l h).get j=h.get j
 |[],i,h,j,_=>rfl
 |some c::r,i,h,j,hj=>by
  rw[Bj,vN g r (i+1) _ j (λk hk=>by have:=hj (k+1) (by simpa using hk);rwa [show i+1+k=i+(k+1) from by omega]),PT.get_set,aA];exact hj 0 (by simp)
 |none::r,i,h,j,hj=>by
  rw[Bj,vN g r (i+1) _ j (λk hk=>by have:=hj (k+1) (by simpa using hk);rwa [show i+1+k=i+(k+1) from by omega]),Ka,aA];exact hj 0 (by simp)
theorem vO (g:Nat->Nat):∀(l:List (Option iE)) (i:Nat) (h:bl),(∀a b,a<l.length->b<l.length->g (i+a)=g (i+b)->a=b)->∀(k:Nat) (c:Option iE),l[k]? =af c->(Bj g i l h).get (g (i+k))=(match c with|some b=>af b|none=>(h.get (g (i+k))).map vP)
 |[],i,h,_,k,c,hk=>by simp at hk
 |o::r,i,h,hinj,k,c,hk=>by
  have hinj':∀a b,a<r.length->b<r.length->g (i+1+a)=g (i+1+b)->a=b:=λa b J hb e=>by
   have:=hinj (a+1) (b+1) (by simpa using J) (by simpa using hb) (by rw[show i+(a+1)=i+1+a from by omega,show i+(b+1)=i+1+b from by omega];exact e);omega
  cases k with
  |zero=>
   simp at hk;subst hk;have hne:∀k,k<r.length->g (i+0)≠g (i+1+k):=λk hk e=>by
    have:=hinj 0 (k+1) (by simp) (by simpa using hk) (by rw[show i+(k+1)=i+1+k from by omega];exact e);omega
   cases o with
   |some b=>rw[Bj,vN g r (i+1) _ _ hne];simp only[dD];rw[PT.get_set,aD rfl]
   |none=>rw[Bj,vN g r (i+1) _ _ hne];simp only[dD];rw[Ka,aD rfl]
  |succ k=>
   have I:r[k]? =af c:=by simpa using hk
   have hkl:k<r.length:=(bn.1 I).1;have hne:g (i+(k+1))≠g i:=λe=>by
    have:=hinj (k+1) 0 (by simpa using hkl) (by simp) (by rw[e];rfl);omega
   rw[show i+(k+1)=i+1+k from by omega]at hne ⊢;cases o with
   |some b=>
    rw[Bj,vO g r (i+1) _ hinj' k c I];cases c with
    |some _=>rfl
    |none=>simp only[PT.get_set,aA hne]
   |none=>
    rw[Bj,vO g r (i+1) _ hinj' k c I];cases c with
    |some _=>rfl
    |none=>simp only[Ka,aA hne]
def yF (h' h:bl):Prop:=∀i r,eL h' i=af r->eL h i=af r
section get
variable {h h':bl} {H H':HF} {g:Nat->Nat}
theorem l_.agg {l I:List AV} (hl:iu H H' l I) (hc:∀x∈I,x.isCell=ai):l_ H H' (.agg l) (.agg I):=by
 intro φ E w v hrep hr;cases hr with
 |@agg _ vs hlen hcl hrr=>
  refine .agg (by rw[hlen,<-hl.length]) hc λj y u J hu=>?_
  obtain⟨x,M,hle⟩:=hl.get j y J;exact hle φ E w u hrep (hrr j x u M hu)
theorem Rx (hr:yF h' h) {i:Nat} {y M:AV} (J:cB h (.row i)=af y) (I:cB h' (.row i)=af M):M=y:=by
 simp only[cB]at J I;cases h1:eL h' i with
 |none=>rw[h1]at I;cases I
 |some r=>
  rw[h1]at I;rw[hr i r h1]at J;rw[J]at I;cases I;rfl
mutual
theorem ah2 (d:wa H H') (hr:yF h' h):∀(p:PV) (l:List TV) (x:p.ty.den) (m:Nat) (r:List TV) (cs:List TV) (l' cs':List AV),pY g h p l=af (x,m,r)->qx g p x=af cs->cU h l=af l'->cU h' cs=af cs'->EQ h H H' m->∃l1 l2,l'=l1++l2/\cU h r=af l2/\iu H H' l1 cs'
 |.d T,l,x,m,r,cs,l',cs',hg,hp,hl,hc,gv=>by
  obtain⟨l1,l2,e1,e2,e3⟩:=sR d 40 T l x m r l' hg hl gv;have:=(l8 h' 40 T x cs hp).1;rw[hc]at this;cases this;exact⟨l1,l2,e1,e2,e3⟩
 |.ptr i q,l,x,m,r,cs,l',cs',hg,hp,hl,hc,gv=>by
  simp only[pY]at hg;split at hg
  .rename_i i' o' r';split at hg
   .rename_i hb;simp only[av]at hb;have e1:=aw hb.1;have e2:=aw hb.2;subst e1;subst e2;simp only[ak,aE]at hg;obtain⟨_,_,rfl⟩:=hg;simp only[qx,ak]at hp;subst hp;obtain⟨y,l2,rfl,g1,g2⟩:=db hl;simp only[cB,ak]at g1;subst g1;simp only[cU,cB,ak]at hc;subst hc;exact⟨[_],l2,rfl,g2,l_.refl d _,trivial⟩
   .cases hg
  .cases hg
 |.csl i q z,l,x,m,r,cs,l',cs',hg,hp,hl,hc,gv=>by
  simp only[pY]at hg;split at hg
  .rename_i i' o' z' r';split at hg
   .rename_i hb;simp only[av]at hb;have e1:=aw hb.1.1;have e2:=aw hb.1.2;have e3:=aw hb.2;subst e1;subst e2;subst e3;simp only[ak,aE]at hg;obtain⟨_,_,rfl⟩:=hg;simp only[qx,ak]at hp;subst hp;obtain⟨y,l2,rfl,g1,g2⟩:=db hl;simp only[cB,ak]at g1;subst g1;simp only[cU,cB,ak]at hc;subst hc;exact⟨[_],l2,rfl,g2,l_.refl d _,trivial⟩
   .cases hg
  .cases hg
 |.clo q i z,l,x,m,r,cs,l',cs',hg,hp,hl,hc,gv=>by
  simp only[pY]at hg;split at hg
  .rename_i q' i' z' r';split at hg
   .rename_i hb;simp only[av]at hb;have e1:=aw hb.1.1;have e2:=aw hb.1.2;have e3:=aw hb.2;subst e1;subst e2;subst e3;simp only[ak,aE]at hg;obtain⟨_,_,rfl⟩:=hg;simp only[qx,ak]at hp;subst hp;obtain⟨y,l2,rfl,g1,g2⟩:=db hl;simp only[cB,cU,ak]at g1;subst g1;simp only[cU,cB,ak]at hc;subst hc;exact⟨[_],l2,rfl,g2,l_.refl d _,trivial⟩
   .cases hg
  .cases hg
 |.row i,l,x,m,r,cs,l',cs',hg,hp,hl,hc,gv=>by
  simp only[pY]at hg;split at hg
  .rename_i i' r';split at hg
   .rename_i hb;have e1:=aw hb;subst e1;simp only[ak,aE]at hg;obtain⟨_,_,rfl⟩:=hg;simp only[qx,ak]at hp;subst hp;obtain⟨y,l2,rfl,g1,g2⟩:=db hl;obtain⟨y',l3,rfl,g3,g4⟩:=db hc;simp only[cU,ak]at g4;subst g4;rw[Rx hr g1 g3];exact⟨[_],l2,rfl,g2,l_.refl d _,trivial⟩
   .cases hg
  .cases hg
 |.mp i,l,x,m,r,cs,l',cs',hg,hp,hl,hc,gv=>by
  simp only[pY]at hg;split at hg
  .rename_i i' r';split at hg
   .rename_i hb;have e1:=aw hb;subst e1;simp only[ak,aE]at hg;obtain⟨_,_,rfl⟩:=hg;simp only[qx,ak]at hp;subst hp;obtain⟨y,l2,rfl,g1,g2⟩:=db hl;simp only[cB,ak]at g1;subst g1;simp only[cU,cB,ak]at hc;subst hc;exact⟨[_],l2,rfl,g2,l_.refl d _,trivial⟩
   .cases hg
  .cases hg
 |.nil,l,x,m,r,cs,l',cs',hg,hp,hl,hc,gv=>by
  simp only[pY]at hg;split at hg
  .simp only[ak,aE]at hg;obtain⟨_,_,rfl⟩:=hg;simp only[qx,ak]at hp;subst hp;obtain⟨y,l2,rfl,g1,g2⟩:=db hl;simp only[cB,ak]at g1;subst g1;simp only[cU,cB,ak]at hc;subst hc;exact⟨[_],l2,rfl,g2,l_.refl d _,trivial⟩
  .cases hg
 |.emp,l,x,m,r,cs,l',cs',hg,hp,hl,hc,gv=>by
  simp only[pY]at hg;split at hg
  .simp only[ak,aE]at hg;obtain⟨_,_,rfl⟩:=hg;simp only[qx,ak]at hp;subst hp;obtain⟨y,l2,rfl,g1,g2⟩:=db hl;simp only[cB,ak]at g1;subst g1;simp only[cU,cB,ak]at hc;subst hc;exact⟨[_],l2,rfl,g2,Le.nilEmp.toH d,trivial⟩
  .simp only[ak,aE]at hg;obtain⟨_,_,rfl⟩:=hg;simp only[qx,ak]at hp;subst hp;obtain⟨y,l2,rfl,g1,g2⟩:=db hl;simp only[cB,ak]at g1;subst g1;simp only[cU,cB,ak]at hc;subst hc;exact⟨[_],l2,rfl,g2,l_.refl d _,trivial⟩
  .cases hg
 |.agg ps,l,x,m,r,cs,l',cs',hg,hp,hl,hc,gv=>DO d hr ps l x m r cs l' cs' hg hp hl hc gv
theorem DO (d:wa H H') (hr:yF h' h):∀(ps:List PV) (l:List TV) (x:(PV.tyL ps).den) (m:Nat) (r:List TV) (cs:List TV) (l' cs':List AV),zZ g h ps l=af (x,m,r)->rE g ps x=af cs->cU h l=af l'->cU h' cs=af cs'->EQ h H H' m->∃l1 l2,l'=l1++l2/\cU h r=af l2/\iu H H' l1 cs'
 |[],l,x,m,r,cs,l',cs',hg,hp,hl,hc,gv=>by
  simp only[zZ,ak,aE]at hg;obtain⟨_,_,rfl⟩:=hg;simp only[rE,ak]at hp;subst hp;simp only[cU,ak]at hc;subst hc;exact⟨[],l',rfl,hl,trivial⟩
 |p::ps,l,x,m,r,cs,l',cs',hg,hp,hl,hc,gv=>by
  simp only[zZ]at hg;split at hg
  .rename_i x1 m1 r1 h1;split at hg
   .rename_i x2 m2 r2 h2;simp only[ak,aE]at hg;obtain⟨rfl,rfl,rfl⟩:=hg;simp only[rE,uf,vJ]at hp;split at hp
    .rename_i a ha;split at hp
     .rename_i b hb;simp only[ak]at hp;subst hp;obtain⟨a',b',rfl,ea,eb⟩:=CG hc;obtain⟨ga,gb⟩:=gv.or;obtain⟨l1,l2,rfl,q1,q2⟩:=ah2 d hr p l _ _ _ a l' a' h1 ha hl ea ga;obtain⟨l3,l4,rfl,q3,q4⟩:=DO d hr ps _ _ _ _ b l2 b' h2 hb q1 eb gb;exact⟨l1++l3,l4,by simp,q3,q2.append q4⟩
     .cases hp
    .cases hp
   .cases hg
  .cases hg
end
mutual
theorem Y':∀(p:PV) (x:p.ty.den) (cs:List TV),qx g p x=af cs->kJ cs=ai
 |.d T,x,cs,hp=>(l8 PT.leaf 40 T x cs hp).2
 |.ptr i q,x,cs,hp=>by simp only[qx,ak]at hp;subst hp;rfl
 |.csl i q z,x,cs,hp=>by simp only[qx,ak]at hp;subst hp;rfl
 |.clo q i z,x,cs,hp=>by simp only[qx,ak]at hp;subst hp;rfl
 |.row i,x,cs,hp=>by simp only[qx,ak]at hp;subst hp;rfl
 |.mp i,x,cs,hp=>by simp only[qx,ak]at hp;subst hp;rfl
 |.nil,x,cs,hp=>by simp only[qx,ak]at hp;subst hp;rfl
 |.emp,x,cs,hp=>by simp only[qx,ak]at hp;subst hp;rfl
 |.agg ps,x,cs,hp=>xP ps x cs hp
theorem xP:∀(ps:List PV) (x:(PV.tyL ps).den) (cs:List TV),rE g ps x=af cs->kJ cs=ai
 |[],x,cs,hp=>by simp only[rE,ak]at hp;subst hp;rfl
 |p::ps,x,cs,hp=>by
  simp only[rE]at hp;split at hp
  .rename_i a ha;split at hp
   .rename_i b hb;simp only[ak]at hp;subst hp;exact Up (Y' p _ a ha) (xP ps _ b hb)
   .cases hp
  .cases hp
end
theorem ah1 (d:wa H H') (hr:yF h' h) {p:PV} {v:TV} {x:p.ty.den} {m:Nat} {u:TV} {y M:AV} (hg:ye g h p v=af (x,m)) (hp:t7 g p x=af u) (J:cB h v=af y) (I:cB h' u=af M) (Z:EQ h H H' m):l_ H H' y M:=by
 cases p with
 |d T=>
  simp only[t7,ak]at hp;subst hp;simp only[cB,ak]at I;subst I;exact (QP d hg J Z).1
 |agg ps=>
  simp only[ye]at hg;split at hg
  .cases hg
  .rename_i hc;split at hg
   .rename_i l hl;split at hg
    .rename_i x1 m1 h1;simp only[ak,aE]at hg;obtain⟨rfl,rfl⟩:=hg;simp only[t7]at hp;split at hp
     .rename_i cs hcs;simp only[ak]at hp;subst hp;simp only[cB]at I;split at I
      .rename_i cs' hcs';simp only[ak]at I;subst I;obtain⟨e1,e2⟩:=Lb hl J;obtain⟨l1,l2,Y,U,q3⟩:=DO d hr ps l _ _ [] cs y.cs cs' h1 hcs e1 hcs' Z;simp only[cU,ak]at U;subst U;rw[fJ]at Y;subst Y;have hcell:∀x∈cs',x.isCell=ai:=l9 (sO hcs' (xP ps _ cs hcs));cases v with
       |agg q=>
        simp only[cB]at J;split at J
        .simp only[ak]at J;subst J;exact l_.agg q3 hcell
        .cases J
       |f S z=>
        simp only[cB,ak]at J;subst J;have ho:S.one=aj:=by simpa[TV.isC] using hc
        rw[AZ]at q3;rw[re S z ho];intro φ E w v hrep hrel;exact l_.agg q3 hcell φ E w v hrep (Le.aggF _ _ _ _ hrel)
       |tup q=>simp[TV.cs,TV.isC]at hl
       |undef=>simp[TV.cs,TV.isC]at hl
       |np=>simp[TV.isC]at hc
       |anyb=>simp[TV.cs,TV.isC]at hl
       |fel T xs j hj off=>simp[TV.isC]at hc
       |pel id sz j off=>simp[TV.isC]at hc
       |ptr id off=>simp[TV.isC]at hc
       |csl id off z=>simp[TV.isC]at hc
       |row id=>simp[TV.isC]at hc
       |emp=>simp[TV.isC]at hc
       |nil=>simp[TV.isC]at hc
       |mp id=>simp[TV.isC]at hc
       |rtl id jj=>cases hl
       |clo g l=>simp[TV.isC]at hc
      .cases I
     .cases hp
    .cases hg
   .cases hg
 |ptr i q=>
  simp only[t7,ak]at hp;subst hp;simp only[ye]at hg;split at hg
  .rename_i h1;simp only[pY]at h1;split at h1
   .rename_i e;simp only[je]at e;obtain⟨rfl,_⟩:=e;split at h1
    .rename_i hb;simp only[av]at hb;have e1:=aw hb.1;have e2:=aw hb.2;subst e1;subst e2;simp only[cB,ak]at J I;subst J;subst I;exact l_.refl d _
    .cases h1
   .cases h1
  .cases hg
 |csl i q z=>
  simp only[t7,ak]at hp;subst hp;simp only[ye]at hg;split at hg
  .rename_i h1;simp only[pY]at h1;split at h1
   .rename_i e;simp only[je]at e;obtain⟨rfl,_⟩:=e;split at h1
    .rename_i hb;simp only[av]at hb;have e1:=aw hb.1.1;have e2:=aw hb.1.2;have e3:=aw hb.2;subst e1;subst e2;subst e3;simp only[cB,ak]at J I;subst J;subst I;exact l_.refl d _
    .cases h1
   .cases h1
  .cases hg
 |clo q i z=>
  simp only[t7,ak]at hp;subst hp;simp only[ye]at hg;split at hg
  .rename_i h1;simp only[pY]at h1;split at h1
   .rename_i e;simp only[je]at e;obtain⟨rfl,_⟩:=e;split at h1
    .rename_i hb;simp only[av]at hb;have e1:=aw hb.1.1;have e2:=aw hb.1.2;have e3:=aw hb.2;subst e1;subst e2;subst e3;simp only[cB,cU,ak]at J I;subst J;subst I;exact l_.refl d _
    .cases h1
   .cases h1
  .cases hg
 |row i=>
  simp only[t7,ak]at hp;subst hp;simp only[ye]at hg;split at hg
  .rename_i h1;simp only[pY]at h1;split at h1
   .rename_i e;simp only[je]at e;obtain⟨rfl,_⟩:=e;split at h1
    .rename_i hb;have e1:=aw hb;subst e1;rw[Rx hr J I];exact l_.refl d _
    .cases h1
   .cases h1
  .cases hg
 |mp i=>
  simp only[t7,ak]at hp;subst hp;simp only[ye]at hg;split at hg
  .rename_i h1;simp only[pY]at h1;split at h1
   .rename_i e;simp only[je]at e;obtain⟨rfl,_⟩:=e;split at h1
    .rename_i hb;have e1:=aw hb;subst e1;simp only[cB,ak]at J I;subst J;subst I;exact l_.refl d _
    .cases h1
   .cases h1
  .cases hg
 |nil=>
  simp only[t7,ak]at hp;subst hp;simp only[ye]at hg;split at hg
  .rename_i h1;simp only[pY]at h1;split at h1
   .rename_i e;simp only[je]at e;obtain⟨rfl,_⟩:=e;simp only[cB,ak]at J I;subst J;subst I;exact l_.refl d _
   .cases h1
  .cases hg
 |emp=>
  simp only[t7,ak]at hp;subst hp;simp only[ye]at hg;split at hg
  .rename_i h1;simp only[pY]at h1;split at h1
   .rename_i e;simp only[je]at e;obtain⟨rfl,_⟩:=e;simp only[cB,ak]at J I;subst J;subst I;exact Le.nilEmp.toH d
   .rename_i e;simp only[je]at e;obtain⟨rfl,_⟩:=e;simp only[cB,ak]at J I;subst J;subst I;exact l_.refl d _
   .cases h1
  .cases hg
theorem DM (d:wa H H') (hr:yF h' h):∀(ps:List PV) (vs:List TV) (x:(PV.tyL ps).den) (m:Nat) (us:List TV) (l J:List AV),yQ g h ps vs=af (x,m)->qE g ps x=af us->cU h vs=af l->cU h' us=af J->EQ h H H' m->iu H H' l J
 |[],[],x,m,us,l,J,hg,hp,hl,I,M=>by
  simp only[qE,ak]at hp;subst hp;simp only[cU,ak]at hl I;subst hl;subst I;trivial
 |[],_::_,x,m,us,l,J,hg,_,_,_,_=>by simp[yQ]at hg
 |_::_,[],x,m,us,l,J,hg,_,_,_,_=>by simp[yQ]at hg
 |p::ps,v::vs,x,m,us,l,J,hg,hp,hl,I,M=>by
  simp only[yQ]at hg;split at hg
  .rename_i x1 m1 h1;split at hg
   .rename_i x2 m2 h2;simp only[ak,aE]at hg;obtain⟨rfl,rfl⟩:=hg;simp only[qE,uf,vJ]at hp;split at hp
    .rename_i a Y;split at hp
     .rename_i b hb;simp only[ak]at hp;subst hp;obtain⟨y,l2,rfl,e1,e2⟩:=db hl;obtain⟨y',U,rfl,e3,e4⟩:=db I;obtain⟨ga,Z⟩:=M.or;exact⟨ah1 d hr h1 Y e1 e3 ga,DM d hr ps vs _ _ b l2 U h2 hb e2 e4 Z⟩
     .cases hp
    .cases hp
   .cases hg
  .cases hg
inductive BM (g:Nat->Nat) (h:bl) (m:Nat):iE->iE->Prop
 |rows (ty:TypeId) (p:Bool) (T:Ty) (xs:List T.den):BM g h m (.rows ty p T xs) (.rows ty p T xs)
 |mp (K V:Ty) (es:List (K.den×V.den)):BM g h m (.mp K V es) (.mp K V es)
 |cells (ty:TypeId) (ps:List PV) (x:(PV.tyL ps).den) (l l2:List TV) (m':Nat) (hg:zZ g h ps l=af (x,m',[])) (hp:rE g ps x=af l2) (hm:∀i,aN m' i=ai->aN m i=ai):BM g h m (.cells ty l) (.cells ty l2)
theorem BM.mono {m m2:Nat} (hm:∀i,aN m i=ai->aN m2 i=ai) {b c:iE} (h1:BM g h m b c):BM g h m2 b c:=by
 cases h1 with
 |rows ty p T xs=>exact .rows ty p T xs
 |mp K V es=>exact .mp K V es
 |cells ty ps x l l2 m' hg hp I=>exact .cells ty ps x l l2 m' hg hp λi hi=>hm i (I i hi)
theorem ah3 {i:Nat} {b:PB} {x:b.ty.den} {m:Nat} {c:iE} (hg:FC g h i b=af (x,m)) (hp:Dj g b x=af (af c)):∃b0,h.get (g i)=af b0/\BM g h m b0 c:=by
 cases b with
 |rows ty p T=>
  simp only[FC]at hg;split at hg
  .rename_i ty' M S xs hb;split at hg
   .rename_i hc;simp only[av,c8]at hc;obtain⟨rfl,rfl⟩:=hc;split at hg
    .rename_i z I;simp only[ak,aE]at hg;obtain⟨rfl,rfl⟩:=hg;obtain⟨e,rfl⟩:=jv I;cases e;simp only[Dj,ak]at hp;subst hp;exact⟨_,hb,.rows _ _ _ _⟩
    .cases hg
   .cases hg
  .cases hg
 |rowsP ty T=>
  simp only[FC]at hg;split at hg
  .rename_i ty' M S xs hb;split at hg
   .rename_i hc;have hc:ty=ty':=by simpa using hc
    subst hc;split at hg
    .rename_i z I;simp only[ak,aE]at hg;obtain⟨rfl,rfl⟩:=hg;obtain⟨e,rfl⟩:=jv I;cases e;simp only[Dj,ak]at hp;subst hp;exact⟨_,hb,.rows _ _ _ _⟩
    .cases hg
   .cases hg
  .cases hg
 |cells ty ps=>
  simp only[FC]at hg;split at hg
  .rename_i ty' l hb;split at hg
   .rename_i hc;have hc:ty=ty':=by simpa using hc
    subst hc;split at hg
    .rename_i z m1 I;simp only[ak,aE]at hg;obtain⟨rfl,rfl⟩:=hg;simp only[Dj]at hp;split at hp
     .rename_i l2 J;simp only[ak]at hp;subst hp;exact⟨_,hb,.cells ty ps _ l l2 _ I J λ_ h=>h⟩
     .cases hp
    .cases hg
   .cases hg
  .cases hg
 |mp K V=>
  simp only[FC]at hg;split at hg
  .rename_i K' V' es hb;split at hg
   .rename_i z I;simp only[ak,aE]at hg;obtain⟨rfl,rfl⟩:=hg;obtain⟨e,rfl⟩:=jv I;cases e;simp only[Dj,ak]at hp;subst hp;exact⟨_,hb,.mp _ _ _⟩
   .cases hg
  .cases hg
 |gone=>simp[Dj]at hp
theorem Kb:∀(bs:List PB) (i:Nat) (x:(PB.tyL bs).den) (m:Nat) (I:List (Option iE)),Bz g h i bs=af (x,m)->oZ g bs x=af I->∀(k:Nat) c,I[k]? =af (af c)->∃b0,h.get (g (i+k))=af b0/\BM g h m b0 c
 |[],i,x,m,I,hg,hp,k,c,hk=>by
  simp only[oZ,ak]at hp;subst hp;simp at hk
 |b::r,i,x,m,I,hg,hp,k,c,hk=>by
  simp only[Bz]at hg;split at hg
  .rename_i U m1 h1;split at hg
   .rename_i M m2 h2;simp only[ak,aE]at hg;obtain⟨rfl,rfl⟩:=hg;simp only[oZ,uf,vJ]at hp;split at hp
    .rename_i a J;split at hp
     .rename_i q hq;simp only[ak]at hp;subst hp;cases k with
      |zero=>
       simp at hk;subst hk;obtain⟨b0,e1,e2⟩:=ah3 h1 J;exact⟨b0,e1,e2.mono λi hi=>by rw[bz,hi];rfl⟩
      |succ k=>
       obtain⟨b0,e1,e2⟩:=Kb r (i+1) _ _ q h2 hq k c (by simpa using hk);rw[show i+1+k=i+(k+1) from by omega]at e1;exact⟨b0,e1,e2.mono λi hi=>by rw[bz,hi];simp⟩
     .cases hp
    .cases hp
   .cases hg
  .cases hg
end get
theorem SA {σ:PT Nat} {i a:Nat} (h:σ.get i=af a):ir σ i=a:=by unfold ir;rw[h]
theorem XL {σ:PT Nat}:∀(n i acc sm:Nat),ac1 σ n i acc=af sm->
 (∀k,k<n->aN acc (ir σ (i+k))=aj)/\(∀a b,a<n->b<n->ir σ (i+a)=ir σ (i+b)->a=b)/\∀q,aN sm q=ai↔aN acc q=ai\/∃k,k<n/\ir σ (i+k)=q
 |0,i,acc,sm,h=>by
  simp only[ac1,ak]at h;subst h;exact⟨λk hk=>by omega,λa b J=>by omega,λq=>⟨.inl,λhq=>hq.elim id λ⟨k,hk,_⟩=>by omega⟩⟩
 |n+1,i,acc,sm,h=>by
  simp only[ac1]at h;split at h
  .rename_i a J;split at h
   .cases h
   .rename_i hna;have hna:aN acc a=aj:=by simpa using hna
    have hga:=SA J;obtain⟨h1,h2,M⟩:=XL n (i+1) (acc|||kZ a) sm h;have hne:∀k,k<n->ir σ (i+1+k)≠a/\aN acc (ir σ (i+1+k))=aj:=λk hk=>by
     have:=h1 k hk;rw[bz,Bool.or_eq_false_iff]at this;refine ⟨λe=>?_,this.1⟩;have I:=this.2;rw[e]at I;rw[ca.2 rfl]at I;cases I
    refine ⟨λk hk=>?_,λx y Y U hxy=>?_,λq=>?_⟩
    .cases k with
     |zero=>rw[dD,hga];exact hna
     |succ k=>rw[show i+(k+1)=i+1+k from by omega];exact (hne k (by omega)).2
    .cases x with
     |zero=>
      cases y with
      |zero=>rfl
      |succ y=>
       rw[dD,hga,show i+(y+1)=i+1+y from by omega]at hxy;exact cX hxy.symm (hne y (by omega)).1
     |succ x=>
      cases y with
      |zero=>
       rw[show i+0=i from rfl,hga,show i+(x+1)=i+1+x from by omega]at hxy;exact cX hxy (hne x (by omega)).1
      |succ y=>
       rw[show i+(x+1)=i+1+x from by omega,show i+(y+1)=i+1+y from by omega]at hxy;have:=h2 x y (by omega) (by omega) hxy;omega
    .rw[M,bz,jf];constructor
     .rintro ((hq|hq)|⟨k,hk,hq⟩)
      .exact .inl hq
      .exact .inr ⟨0,by omega,by rw[dD,hga];exact ca.1 hq⟩
      .exact .inr ⟨k+1,by omega,by rw[show i+(k+1)=i+1+k from by omega];exact hq⟩
     .rintro (hq|⟨k,hk,hq⟩)
      .exact .inl (.inl hq)
      .cases k with
       |zero=>rw[dD,hga]at hq;exact .inl (.inr (ca.2 hq))
       |succ k=>exact .inr ⟨k,by omega,by rw[show i+1+k=i+(k+1) from by omega];exact hq⟩
  .cases h
theorem SS {σ:PT Nat}:∀(n:Nat),Ym σ n=ai->∀i,i<n->ir σ i=i
 |0,_,i,hi=>by omega
 |n+1,h,i,hi=>by
  simp only[Ym,av]at h;by_cases e:i=n
  .subst e;cases I:σ.get i with
   |none=>rw[I]at h;exact cX h.1 (by simp)
   |some a=>rw[I]at h;rw[SA I];exact aw h.1
  .exact SS n h.2 i (by omega)
structure IU (np:Nat) (t:Tm) (vs:List TV) (h:bl) (z:t.ty.den) (m:Nat) (σ:PT Nat) (sm:Nat):Prop where
 ex:∃x m1 y m2,z=Vv _ _ x y/\m=m1|||m2/\yQ (ir σ) h t.vs vs=af (x,m1)/\Bz (ir σ) h 0 t.bs=af (y,m2)
 inj:∀a b,a<t.bs.length->b<t.bs.length->ir σ a=ir σ b->a=b
 sig:∀q,aN sm q=ai↔∃k,k<t.bs.length/\ir σ k=q
 disj:∀i,aN m i=ai->aN sm i=aj
 fix:∀i,i<np->ir σ i=i
theorem wY {np:Nat} {t:Tm} {vs:List TV} {h:bl} {z:t.ty.den} {m:Nat} {σ:PT Nat} {sm:Nat} (hm:Fd np t vs h=af ⟨z,m,σ,sm⟩):IU np t vs h z m σ sm:=by
 unfold Fd at hm;rw[P3]at hm;split at hm
 .rename_i sm' hs;split at hm
  .rename_i x m1 h1;split at hm
   .rename_i y m2 h2;split at hm
    .rename_i hc;simp only[av]at hc;simp only[ak,ak2.mk.injEq]at hm;obtain⟨rfl,rfl,rfl,rfl⟩:=hm;obtain⟨M,J,I⟩:=XL _ _ _ _ hs;simp only[bR]at M J I;exact⟨⟨x,m1,y,m2,rfl,rfl,h1,h2⟩,J,λq=>by rw[I];simp,λi hi=>yw hc.1 i hi,SS np hc.2⟩
    .cases hm
   .cases hm
  .cases hm
 .cases hm
mutual
theorem z_ {g:Nat->Nat} {h:bl}:∀(p:PV) (l:List TV) (x:p.ty.den) (m:Nat) (r:List TV),pY g h p l=af (x,m,r)->dY h m
 |.d T,l,x,m,r,hg=>vK 40 T l x m r hg
 |.ptr i q,l,x,m,r,hg=>by
  simp only[pY]at hg;split at hg
  .split at hg
   .simp only[ak,aE]at hg;obtain⟨_,rfl,_⟩:=hg;exact dY.zero h
   .cases hg
  .cases hg
 |.csl i q z,l,x,m,r,hg=>by
  simp only[pY]at hg;split at hg
  .split at hg
   .simp only[ak,aE]at hg;obtain⟨_,rfl,_⟩:=hg;exact dY.zero h
   .cases hg
  .cases hg
 |.clo q i z,l,x,m,r,hg=>by
  simp only[pY]at hg;split at hg
  .split at hg
   .simp only[ak,aE]at hg;obtain⟨_,rfl,_⟩:=hg;exact dY.zero h
   .cases hg
  .cases hg
 |.row i,l,x,m,r,hg=>by
  simp only[pY]at hg;split at hg
  .split at hg
   .simp only[ak,aE]at hg;obtain⟨_,rfl,_⟩:=hg;exact dY.zero h
   .cases hg
  .cases hg
 |.mp i,l,x,m,r,hg=>by
  simp only[pY]at hg;split at hg
  .split at hg
   .simp only[ak,aE]at hg;obtain⟨_,rfl,_⟩:=hg;exact dY.zero h
   .cases hg
  .cases hg
 |.nil,l,x,m,r,hg=>by
  simp only[pY]at hg;split at hg
  .simp only[ak,aE]at hg;obtain⟨_,rfl,_⟩:=hg;exact dY.zero h
  .cases hg
 |.emp,l,x,m,r,hg=>by
  simp only[pY]at hg;split at hg
  .simp only[ak,aE]at hg;obtain⟨_,rfl,_⟩:=hg;exact dY.zero h
  .simp only[ak,aE]at hg;obtain⟨_,rfl,_⟩:=hg;exact dY.zero h
  .cases hg
 |.agg ps,l,x,m,r,hg=>IF ps l x m r hg
theorem IF {g:Nat->Nat} {h:bl}:∀(ps:List PV) (l:List TV) (x:(PV.tyL ps).den) (m:Nat) (r:List TV),zZ g h ps l=af (x,m,r)->dY h m
 |[],l,x,m,r,hg=>by
  simp only[zZ,ak,aE]at hg;obtain⟨_,rfl,_⟩:=hg;exact dY.zero h
 |p::ps,l,x,m,r,hg=>by
  simp only[zZ]at hg;split at hg
  .rename_i x1 m1 r1 h1;split at hg
   .rename_i x2 m2 r2 h2;simp only[ak,aE]at hg;obtain⟨_,rfl,_⟩:=hg;exact (z_ p l x1 m1 r1 h1).or (IF ps r1 _ _ _ h2)
   .cases hg
  .cases hg
end
theorem akw {g:Nat->Nat} {h:bl} {p:PV} {v:TV} {x:p.ty.den} {m:Nat} (hg:ye g h p v=af (x,m)):dY h m:=by
 cases p with
 |d T=>exact YM hg
 |agg ps=>
  simp only[ye]at hg;split at hg
  .cases hg
  .split at hg
   .split at hg
    .rename_i I m1 h1;simp only[ak,aE]at hg;obtain⟨_,rfl⟩:=hg;exact IF ps _ _ _ _ h1
    .cases hg
   .cases hg
 |ptr i q=>
  simp only[ye]at hg;split at hg
  .rename_i h1;simp only[ak,aE]at hg;obtain⟨_,rfl⟩:=hg;exact z_ _ _ _ _ _ h1
  .cases hg
 |csl i q z=>
  simp only[ye]at hg;split at hg
  .rename_i h1;simp only[ak,aE]at hg;obtain⟨_,rfl⟩:=hg;exact z_ _ _ _ _ _ h1
  .cases hg
 |clo q i z=>
  simp only[ye]at hg;split at hg
  .rename_i h1;simp only[ak,aE]at hg;obtain⟨_,rfl⟩:=hg;exact z_ _ _ _ _ _ h1
  .cases hg
 |row i=>
  simp only[ye]at hg;split at hg
  .rename_i h1;simp only[ak,aE]at hg;obtain⟨_,rfl⟩:=hg;exact z_ _ _ _ _ _ h1
  .cases hg
 |mp i=>
  simp only[ye]at hg;split at hg
  .rename_i h1;simp only[ak,aE]at hg;obtain⟨_,rfl⟩:=hg;exact z_ _ _ _ _ _ h1
  .cases hg
 |nil=>
  simp only[ye]at hg;split at hg
  .rename_i h1;simp only[ak,aE]at hg;obtain⟨_,rfl⟩:=hg;exact z_ _ _ _ _ _ h1
  .cases hg
 |emp=>
  simp only[ye]at hg;split at hg
  .rename_i h1;simp only[ak,aE]at hg;obtain⟨_,rfl⟩:=hg;exact z_ _ _ _ _ _ h1
  .cases hg
theorem IE {g:Nat->Nat} {h:bl}:∀(ps:List PV) (vs:List TV) (x:(PV.tyL ps).den) (m:Nat),yQ g h ps vs=af (x,m)->dY h m
 |[],[],x,m,hg=>by simp only[yQ,ak,aE]at hg;obtain⟨_,rfl⟩:=hg;exact dY.zero h
 |[],_::_,x,m,hg=>by simp[yQ]at hg
 |_::_,[],x,m,hg=>by simp[yQ]at hg
 |p::ps,v::vs,x,m,hg=>by
  simp only[yQ]at hg;split at hg
  .rename_i J m1 h1;split at hg
   .rename_i I m2 h2;simp only[ak,aE]at hg;obtain⟨_,rfl⟩:=hg;exact (akw h1).or (IE ps vs I m2 h2)
   .cases hg
  .cases hg
theorem akx {g:Nat->Nat} {h:bl} {i:Nat} {b:PB} {x:b.ty.den} {m:Nat} (hg:FC g h i b=af (x,m)):dY h m:=by
 cases b with
 |rows ty p T=>
  simp only[FC]at hg;split at hg
  .split at hg
   .split at hg
    .simp only[ak,aE]at hg;obtain⟨_,rfl⟩:=hg;exact dY.zero h
    .cases hg
   .cases hg
  .cases hg
 |rowsP ty T=>
  simp only[FC]at hg;split at hg
  .split at hg
   .split at hg
    .simp only[ak,aE]at hg;obtain⟨_,rfl⟩:=hg;exact dY.zero h
    .cases hg
   .cases hg
  .cases hg
 |cells ty ps=>
  simp only[FC]at hg;split at hg
  .split at hg
   .split at hg
    .rename_i h1;simp only[ak,aE]at hg;obtain⟨_,rfl⟩:=hg;exact IF ps _ _ _ _ h1
    .cases hg
   .cases hg
  .cases hg
 |mp K V=>
  simp only[FC]at hg;split at hg
  .split at hg
   .simp only[ak,aE]at hg;obtain⟨_,rfl⟩:=hg;exact dY.zero h
   .cases hg
  .cases hg
 |gone=>simp only[FC,ak,aE]at hg;obtain⟨_,rfl⟩:=hg;exact dY.zero h
theorem IG {g:Nat->Nat} {h:bl}:∀(bs:List PB) (i:Nat) (x:(PB.tyL bs).den) (m:Nat),Bz g h i bs=af (x,m)->dY h m
 |[],i,x,m,hg=>by simp only[Bz,ak,aE]at hg;obtain⟨_,rfl⟩:=hg;exact dY.zero h
 |b::r,i,x,m,hg=>by
  simp only[Bz]at hg;split at hg
  .rename_i J m1 h1;split at hg
   .rename_i I m2 h2;simp only[ak,aE]at hg;obtain⟨_,rfl⟩:=hg;exact (akx h1).or (IG r (i+1) I m2 h2)
   .cases hg
  .cases hg
structure rn (t:Tm) (x:t.ty.den) (vs:List TV) (h1:bl) (l1:List (Option iE)):Prop where
 pv:qE IB t.vs (P1 _ _ x)=af vs
 pb:oZ IB t.bs (Me _ _ x)=af l1
 len:l1.length=t.bs.length
 at_:∀i b,h1.get i=af b↔l1[i]? =af (af b)
 ok:lh h1 vs=ai
 lt:r9 t.bs.length vs=ai
 cells:∀i ty l,h1.get i=af (.cells ty l)->lh h1 l=ai/\r9 t.bs.length l=ai
theorem acx (l:List (Option iE)) (i:Nat) (b:iE):(Bj IB 0 l PT.leaf).get i=af b↔l[i]? =af (af b):=by
 by_cases hi:i<l.length
 .obtain⟨c,hc⟩:∃c,l[i]? =af c:=⟨l[i],aB hi⟩
  have:=vO IB l 0 PT.leaf (λa b _ _ e=>by simp only[IB]at e;omega) i c hc;rw[show IB (0+i)=i from by simp only[IB];omega]at this;rw[this,hc];cases c with
  |some b'=>simp
  |none=>simp[PT.get]
 .rw[vN IB l 0 PT.leaf i (λk hk=>by simp only[IB];omega),bT (by omega)];simp[PT.get]
theorem xa {t:Tm} {x:t.ty.den} {vs:List TV} {h1:bl} (hi:Dz t x=af (vs,h1)):∃l1,rn t x vs h1 l1:=by
 unfold Dz at hi;split at hi
 .rename_i us hus;split at hi
  .rename_i h hh;split at hi
   .rename_i hc;simp only[av]at hc;simp only[ak,aE]at hi;obtain⟨rfl,rfl⟩:=hi;unfold Ny at hh;split at hh
    .rename_i l1 I;simp only[ak]at hh;refine ⟨l1,hus,I,Di _ _ _ _ I,λi b=>?_,hc.1.1,hc.1.2,λi ty l hil=>?_⟩
     .rw[<- hh];exact acx l1 i b
     .have:=PT.get_all _ h 1 0 i _ hc.2 hil;simpa only[av] using this
    .cases hh
   .cases hi
  .cases hi
 .cases hi
def XX (nb:Nat) (n:Nat):Bool:=n%2==0&&gz (n/2) nb
theorem Cc {nb i:Nat}:XX nb (nm i)=ai↔i<nb:=by
 unfold XX nm;rw[show 2*i%2=0 from by omega,show 2*i/2=i from by omega];simp only[c7,kT];exact⟨λh=>a_ h,λh=>bH h⟩
theorem acf {nb n:Nat} (h:XX nb n=ai):∃i,i<nb/\n=nm i:=by
 unfold XX at h;simp only[av,c8]at h;exact⟨n/2,a_ h.2,by unfold nm;omega⟩
mutual
theorem akr {nb:Nat} {h:bl}:∀(v:TV) (y:AV),Mn nb v=ai->cB h v=af y->y.all (XX nb)=ai
 |.f _ _,y,_,he=>by simp only[cB,ak]at he;subst he;rfl
 |.fel _ _ _ _ _,y,_,he=>by simp only[cB,ak]at he;subst he;rfl
 |.pel id _ _ _,y,hl,he=>by simp only[cB,ak]at he;subst he;exact Cc.2 (a_ hl)
 |.ptr id _,y,hl,he=>by simp only[cB,ak]at he;subst he;exact Cc.2 (a_ hl)
 |.csl id _ _,y,hl,he=>by simp only[cB,ak]at he;subst he;exact Cc.2 (a_ hl)
 |.row id,y,hl,he=>by
  simp only[cB]at he;split at he
  .simp only[ak]at he;subst he;unfold fK;split
   .rfl
   .exact Cc.2 (a_ hl)
  .cases he
 |.rtl id jj,y,hl,he=>by
  simp only[cB]at he;split at he
  .simp only[ak]at he;subst he;exact Cc.2 (a_ hl)
  .cases he
 |.emp,y,_,he=>by simp only[cB,ak]at he;subst he;rfl
 |.nil,y,_,he=>by simp only[cB,ak]at he;subst he;rfl
 |.mp id,y,hl,he=>by simp only[cB,ak]at he;subst he;exact Cc.2 (a_ hl)
 |.agg l,y,hl,he=>by
  simp only[cB]at he;split at he
  .rename_i l' hl';simp only[ak]at he;subst he;exact uc l l' hl hl'
  .cases he
 |.tup l,y,hl,he=>by
  simp only[cB]at he;split at he
  .rename_i l' hl';simp only[ak]at he;subst he;exact uc l l' hl hl'
  .cases he
 |.clo q l,y,hl,he=>by
  simp only[cB]at he;split at he
  .rename_i l' hl';simp only[ak]at he;subst he;exact uc l l' hl hl'
  .cases he
 |.undef,y,_,he=>by simp only[cB,ak]at he;subst he;rfl
 |.np,y,_,he=>by simp only[cB,ak]at he;subst he;rfl
 |.anyb,y,_,he=>by simp only[cB,ak]at he;subst he;rfl
theorem uc {nb:Nat} {h:bl}:∀(l:List TV) (l':List AV),r9 nb l=ai->cU h l=af l'->AV.allL (XX nb) l'=ai
 |[],l',_,he=>by simp only[cU,ak]at he;subst he;rfl
 |x::r,l',hl,he=>by
  obtain⟨y,l2,rfl,e1,e2⟩:=db he;simp only[r9,av]at hl;simp only[AV.allL,av];exact⟨akr x y hl.1 e1,uc r l2 hl.2 e2⟩
end
theorem rn.blk_all {t:Tm} {x:t.ty.den} {vs:List TV} {h1:bl} {l1:List (Option iE)} (I:rn t x vs h1 l1) {i:Nat} {b:iE} (hb:h1.get i=af b) {y:xE} (J:kN h1 b=af y):y.c.all (XX t.bs.length)=ai:=by
 cases b with
 |rows ty p T xs=>
  simp only[kN]at J;split at J
  .cases J
  .simp only[ak]at J;subst J;rfl
 |cells ty l=>
  simp only[kN]at J;split at J
  .rename_i M hl;simp only[ak]at J;subst J;exact uc l M (I.cells i ty l hb).2 hl
  .cases J
 |dead p sz n=>cases J
 |mp K V es=>
  simp only[kN,ak]at J;subst J;show BC.all _ (mpC K V es)=ai;unfold mpC;split
  .rfl
  .simp only[BC.all,AF];have key:∀l:List (K.den×V.den),AV.allL (XX t.bs.length) (l.map ((λx=>x.2)∘λp=>(qm K p.1,AV.f (gV V p.2))))=ai:=λl=>by
    induction l with
    |nil=>rfl
    |cons e r U=>simp only[gB,AV.allL,av];exact⟨rfl,U⟩
   exact key es
theorem rn.lt_len {t:Tm} {x:t.ty.den} {vs:List TV} {h1:bl} {l1:List (Option iE)} (I:rn t x vs h1 l1) {i:Nat} {b:iE} (hb:h1.get i=af b):i<t.bs.length:=by
 rw[<- I.len];exact (bn.1 ((I.at_ i b).1 hb)).1
def φ1 (nb:Nat) (g:Nat->Nat) (φ:PM):PM:=λn=>if XX nb n then φ (IH g n) else ah
theorem abk {nb:Nat} {g:Nat->Nat} {φ:PM} {i:Nat} (hi:i<nb):φ1 nb g φ (nm i)=φ (nm (g i)):=by
 unfold φ1;rw[aD (Cc.2 hi),yg]
theorem xL {nb:Nat} {g:Nat->Nat} {φ:PM} {n k:Nat} (h:φ1 nb g φ n=af k):∃i,i<nb/\n=nm i/\φ (nm (g i))=af k:=by
 unfold φ1 at h;split at h
 .rename_i hp;obtain⟨i,hi,rfl⟩:=acf hp;rw[yg]at h;exact⟨i,hi,rfl,h⟩
 .cases h
structure ai3 (t:Tm) (x:t.ty.den) (vs:List TV) (h1:bl) (g:Nat->Nat) (φ:PM) (E E':Nat->Prop) (Hv:HF) (w:World):Prop where
 rep:rH (φ1 t.bs.length g φ) E' (bF h1) w
 val:∀x v,x.all (XX t.bs.length)=ai->cV φ (tot E φ Hv) w (x.ren (IH g)) v->cV (φ1 t.bs.length g φ) (tot E' (φ1 t.bs.length g φ) (bF h1)) w x v
 own_:∀k,own (φ1 t.bs.length g φ) (bF h1) k->own φ Hv k
 tot_:∀k,tot E' (φ1 t.bs.length g φ) (bF h1) k->tot E φ Hv k
theorem rH.toId {t:Tm} {x:t.ty.den} {vs:List TV} {h1:bl} {l1:List (Option iE)} (I:rn t x vs h1 l1) {g:Nat->Nat} (inj:∀a b,a<t.bs.length->b<t.bs.length->g a=g b->a=b) {φ:PM} {E E':Nat->Prop} {Hv:HF} {w:World} (r:rH φ E Hv w)
 (hat:∀i b y,h1.get i=af b->kN h1 b=af y->Hv (nm (g i))=af (y.ren (IH g)))
 (hE:∀k,E' k->tot E φ Hv k) (hne:∀i k b,i<t.bs.length->Hv (nm (g i))=af b->φ (nm (g i))=af k->¬E' k) (hel:∀k,E' k->k<w.heap.size):ai3 t x vs h1 g φ E E' Hv w:=by
 have own1:∀k,own (φ1 t.bs.length g φ) (bF h1) k->own φ Hv k:=by
  rintro k ⟨n,y,h2,h3⟩;obtain⟨i,hi,rfl,Y⟩:=xL h3;obtain⟨j,b,e,U,J⟩:=jH h2;have:=li e;subst this;exact⟨nm (g i),_,hat i b y U J,Y⟩
 have tot1:∀k,tot E' (φ1 t.bs.length g φ) (bF h1) k->tot E φ Hv k:=λk hk=>hk.elim (hE k) λh=>.inr (own1 k h)
 have val:∀x v,x.all (XX t.bs.length)=ai->cV φ (tot E φ Hv) w (x.ren (IH g)) v->cV (φ1 t.bs.length g φ) (tot E' (φ1 t.bs.length g φ) (bF h1)) w x v:=λx v hx hr=>by
  have h2:cV (φ1 t.bs.length g φ) (tot E φ Hv) w x v:=cV.renFrom (λi k hp hk=>by unfold φ1;rw[aD hp];exact hk) hr x hx rfl;exact h2.ext (λ_ _ h=>h) (LX.refl _ w) λk _ hk=>tot1 k hk
 refine ⟨⟨λn n' b b' k Z g2 g3 g4=>?_,λn y Z=>?_,hel,λg' cells hg=>(r.gl g' cells hg).ext (LX.refl _ w) λk _ hk=>tot1 k hk⟩,val,own1,tot1⟩
 .obtain⟨i,hi,rfl,Y⟩:=xL g3;obtain⟨j,hj,rfl,U⟩:=xL g4;obtain⟨i',c,e,J,M⟩:=jH Z;have:=li e;subst this;obtain⟨j',c',e,h8,h9⟩:=jH g2;have:=li e;subst this;have:=r.inj _ _ _ _ k (hat i c _ J M) (hat j c' _ h8 h9) Y U;rw[inj i j hi hj (li this)]
 .obtain⟨i,c,rfl,J,M⟩:=jH Z;have hi:=I.lt_len J;obtain⟨k,p1,p2,ob,p3,p4⟩:=r.at_ _ _ (hat i c y J M);exact⟨k,by rw[abk hi];exact p1,hne i k _ hi (hat i c y J M) p1,ob,p3,jD.renFrom val (I.blk_all J M) p4⟩
theorem BM.view {g:Nat->Nat} {h hv:bl} {H H':HF} {m:Nat} (d:wa H H') (Y:EQ h H H' m) (hr:yF hv h) {b0 c:iE} (hb:BM g h m b0 c) {y I:xE} (e0:kN h b0=af y) (e1:kN hv c=af I):kh H H' y I:=by
 cases hb with
 |rows ty p T xs=>
  simp only[kN]at e0 e1;rw[e0]at e1;cases e1;exact kh.refl d y
 |mp K V es=>
  simp only[kN]at e0 e1;rw[e0]at e1;cases e1;exact kh.refl d y
 |cells ty ps x l l2 m' hg hp hm=>
  simp only[kN]at e0 e1;split at e0
  .rename_i U hl;simp only[ak]at e0;subst e0;split at e1
   .rename_i cs' hc;simp only[ak]at e1;subst e1;obtain⟨l1,Z,M,J,q3⟩:=DO d hr ps l x m' [] l2 U cs' hg hp hl hc λi hi=>Y i (hm i hi)
    simp only[cU,ak]at J;subst J;rw[fJ]at M;subst M;exact kh.cells rfl rfl q3 (l9 (sO hc (xP ps x l2 hp)))
   .cases e1
  .cases e0
theorem BM.erB_some {g:Nat->Nat} {h hv:bl} {nx m:Nat} (hinv:mr h nx) {i:Nat} {b0 c:iE} (h0:h.get i=af b0) (hb:BM g h m b0 c) {I:xE} (e1:kN hv c=af I):∃y,kN h b0=af y:=by
 cases hb with
 |rows ty p T xs=>exact⟨I,e1⟩
 |mp K V es=>exact⟨I,e1⟩
 |cells ty ps x l l2 m' hg hp hm=>
  obtain⟨J,hl⟩:=fI h l (hinv.cells i ty l h0);exact⟨_,by simp only[kN,hl];rfl⟩
theorem BM.row {g:Nat->Nat} {h:bl} {m:Nat} {b0 c:iE} (hb:BM g h m b0 c):mZ c=mZ b0:=by
 cases hb<;>rfl
structure qr (P:Program) (f:FuncId) (c:cq):Prop where
 callable:EL P f
 calls:∀x y,c.m x=af y->∀vs hp l1 rs hq l2 la lr,rn c.pre x vs hp l1->rn c.post y rs hq l2->cU hp vs=af la->cU hq rs=af lr->
  ∀(φ:PM) (E:Nat->Prop) (w:World) (us:ξ),rH φ E (bF hp) w->kf φ (tot E φ (bF hp)) w la us->(∀n k,φ n=af k->ow n<c.pre.bs.length)->
  Calls P f us.toArray w λen w'=>∃v φ',en= .returned v/\LX (own φ (bF hp)) w w'/\(∀k,k<w.heap.size->own φ' (bF hq) k->own φ (bF hp) k)/\(∀i,i<c.pre.bs.length->φ' (nm i)=φ (nm i))/\rH φ' E (bF hq) w'/\cV φ' (tot E φ' (bF hq)) w' (ES lr) v
theorem ND {g:Nat->Nat}:∀(bs:List PB) (x:(PB.tyL bs).den) (l:List (Option iE)),Cl bs=ai->oZ g bs x=af l->∀(i:Nat) (c:Option iE),l[i]? =af c->∃b,c=af b
 |[],x,l,_,hp,i,c,hc=>by simp only[oZ,ak]at hp;subst hp;simp at hc
 |b::r,x,l,hn,hp,i,c,hc=>by
  simp only[oZ]at hp;split at hp
  .rename_i a I;split at hp
   .rename_i q hq;simp only[ak]at hp;subst hp;cases i with
    |zero=>
     simp at hc;subst hc;cases b with
     |gone=>simp[Cl]at hn
     |rows ty p T=>simp only[Dj,ak]at I;exact⟨_,I.symm⟩
     |rowsP ty T=>simp only[Dj,ak]at I;exact⟨_,I.symm⟩
     |cells ty ps=>
      simp only[Dj]at I;split at I
      .simp only[ak]at I;exact⟨_,I.symm⟩
      .cases I
     |mp K V=>simp only[Dj,ak]at I;exact⟨_,I.symm⟩
    |succ i=>
     refine ND r _ q ?_ hq i c (by simpa using hc);cases b<;>first|exact hn|simp[Cl]at hn
   .cases hp
  .cases hp
theorem Gk {h h2:bl} {g:Nat->Nat}:∀n,uz h h2 g n=ai->∀i,i<n->∀r,eL h (g i)=af r->eL h2 (g i)=af r
 |0,_,i,hi,_,_=>by omega
 |n+1,hs,i,hi,r,hr=>by
  simp only[uz,av]at hs;by_cases e:i=n
  .subst e;obtain⟨p,s,k⟩:=r;have h1:=hs.1;rw[hr]at h1;cases I:eL h2 (g i) with
   |none=>rw[I]at h1;cases h1
   |some q=>
    obtain⟨J,s',k'⟩:=q;rw[I]at h1;simp only[av,c8]at h1;rw[h1.1.1,aw h1.1.2,aw h1.2]
  .exact Gk n hs.2 i (by omega) r hr
theorem kf.le {H H':HF} {φ:PM} {E:Nat->Prop} {w:World} (r:rH φ E H w):∀{l I:List AV} {us:ξ},iu H H' l I->kf φ (tot E φ H) w l us->kf φ (tot E φ H') w I us
 |[],[],[],_,_=>trivial
 |[],[],_::_,_,h=>h.elim
 |_::_,_::_,[],_,h=>h.elim
 |[],_::_,_,h,_=>h.elim
 |_::_,[],_,h,_=>h.elim
 |_::_,_::_,_::_,hl,h=>⟨hl.1 _ _ _ _ r h.1,kf.le r hl.2 h.2⟩
theorem kf.toId {φ φ':PM} {O O':Nat->Prop} {w:World} {γ:Nat->Nat} {p:Nat->Bool} (hv:∀x v,x.all p=ai->cV φ O w (x.ren γ) v->cV φ' O' w x v):∀{l:List AV} {us:ξ},AV.allL p l=ai->kf φ O w (AV.renL γ l) us->kf φ' O' w l us
 |[],[],_,_=>trivial
 |[],_::_,_,h=>h.elim
 |_::_,[],_,h=>h.elim
 |_::_,_::_,hp,h=>by
  simp only[AV.allL,av]at hp;exact⟨hv _ _ hp.1 h.1,kf.toId hv hp.2 h.2⟩
theorem XR {h:bl}:∀{rs:List TV} {lr:List AV},cU h rs=af lr->cB h (Ry rs)=af (ES lr)
 |[],lr,he=>by simp only[cU,ak]at he;subst he;rfl
 |[x],lr,he=>by
  obtain⟨y,l2,rfl,e1,e2⟩:=db he;simp only[cU,ak]at e2;subst e2;exact e1
 |x::y::r,lr,he=>by
  obtain⟨J,l2,rfl,e1,e2⟩:=db he;obtain⟨I,M,rfl,e3,U⟩:=db e2;simp only[Ry,cB,he,ES]
theorem abu (γ:Nat->Nat):∀l:List AV,ES (AV.renL γ l)=(ES l).ren γ
 |[]=>rfl
 |[x]=>rfl
 |x::y::r=>rfl
theorem abv {p:Nat->Bool}:∀{l:List AV},AV.allL p l=ai->(ES l).all p=ai
 |[],_=>rfl
 |[x],h=>by simp only[AV.allL,av]at h;exact h.1
 |x::y::r,h=>h
theorem agj {nx I q:Nat}:aN (((1<<<I)-1)<<<nx) q=ai↔nx<=q/\q<nx+I:=by
 rw[Nat.testBit_shiftLeft,Nat.one_shiftLeft,Nat.testBit_two_pow_sub_one];simp only[av,be];omega
theorem ae8 {P:Program} {o:Oper} {e:iZ} {h:bl} {nx:Nat} {f:FuncId} {c:cq} {l:List TV} (hinv:mr h nx) (sp:qr P f c) {x:c.pre.ty.den} {m:Nat} {σ:PT Nat} {sm:Nat} (M:IU 0 c.pre l h x m σ sm) {vs:List TV} {hp:bl} {l1:List (Option iE)} (I:rn c.pre x vs hp l1) (hng:Cl c.pre.bs=ai) {y:c.post.ty.den} (hm:c.m x=af y) {rs:List TV} {hq:bl} {l2:List (Option iE)} (J:rn c.post y rs hq l2) (hle:c.pre.bs.length<=c.post.bs.length)
 {g:Nat->Nat} (glo:∀i,i<c.pre.bs.length->g i=ir σ i) (ghi:∀i,c.pre.bs.length<=i->g i=nx+(i-c.pre.bs.length)) {h2:bl} (hh2:h2=Bj g 0 (l2.map (mc (me g))) (eM m h)) (hsr:uz h h2 g c.pre.bs.length=ai) {la:List AV} (hla:cU h l=af la)
 (hexec:∀(φ:PM) (E:Nat->Prop) (h':HF) (w:World) (a:Act),(∀t,.tmp t∈o.op.operands->∀y,gi e h t=af y->cV φ (tot E φ h') w y (a.tmps.getD t undef))->rH φ E h' w->∃us:ξ,(execOp a.eval o).run P w= .ok (.enter f us.toArray) w/\kf φ (tot E φ h') w la us):
 jw P o aj e h nx (Ry (kM g rs)) (sm|||m) (sm|||m|||(((1<<<(c.post.bs.length-c.pre.bs.length))-1)<<<nx)) h2 (nx+(c.post.bs.length-c.pre.bs.length)):=by
 obtain⟨x1,m1,x2,m2,hx,hmm,gv,gb⟩:=M.ex;have hmr:dY h m:=by rw[hmm];exact (IE _ _ _ _ gv).or (IG _ _ _ _ gb)
 generalize hnp:c.pre.bs.length=np at*
 generalize hnq:c.post.bs.length=nq at*
 have pvg:qE (ir σ) c.pre.vs x1=af (kM (ir σ) vs):=by
  have Y:=ul (ir σ) c.pre.vs x1;have h4:=I.pv;rw[hx,uf]at h4;rw[Y,h4];rfl
 have pbg:oZ (ir σ) c.pre.bs x2=af (l1.map (mc (me (ir σ)))):=by
  have Y:=wO (ir σ) c.pre.bs x2;have h4:=I.pb;rw[hx,vJ]at h4;rw[Y,h4];rfl
 have hl1:∀i,i<np->∃b,l1[i]? =af (af b):=λi hi=>by
  have hi':i<l1.length:=by rw[I.len,hnp];exact hi
  obtain⟨b,hb⟩:=ND c.pre.bs _ l1 hng I.pb i l1[i] (aB hi');exact⟨b,by rw[aB hi',hb]⟩
 have hbm:∀i b,l1[i]? =af (af b)->∃b0,h.get (ir σ i)=af b0/\BM (ir σ) h m b0 (me (ir σ) b):=λi b hb=>by
  obtain⟨b0,U,Z⟩:=Kb c.pre.bs 0 x2 m2 _ gb pbg i (me (ir σ) b) (by rw[ba,hb];rfl);rw[bR]at U;exact⟨b0,U,Z.mono λj hj=>by rw[hmm,bz,hj];simp⟩
 have inj1:∀a b,a<np->b<np->ir σ a=ir σ b->a=b:=λa b ha hb=>M.inj a b (by rw[hnp];exact ha) (by rw[hnp];exact hb)
 have sig:∀q,aN sm q=ai↔∃k,k<np/\ir σ k=q:=λq=>by rw[M.sig,hnp]
 have gnx:∀i,i<np->ir σ i<nx:=λi hi=>by
  obtain⟨b,hb⟩:=hl1 i hi;obtain⟨b0,U,_⟩:=hbm i b hb;exact hinv.low _ _ U
 have hmS:∀i,i<np->aN m (ir σ i)=aj:=λi hi=>by
  cases hx:aN m (ir σ i) with
  |false=>rfl
  |true=>have:=M.disj _ hx;rw[(sig _).2 ⟨i,hi,rfl⟩]at this;cases this
 have injg:∀a b,a<nq->b<nq->g a=g b->a=b:=λa b ha hb hab=>by
  by_cases h1:a<np
  .by_cases h2:b<np
   .rw[glo a h1,glo b h2]at hab;exact inj1 a b h1 h2 hab
   .rw[glo a h1,ghi b (by omega)]at hab;have:=gnx a h1;omega
  .by_cases h2:b<np
   .rw[ghi a (by omega),glo b h2]at hab;have:=gnx b h2;omega
   .rw[ghi a (by omega),ghi b (by omega)]at hab;omega
 let hv:bl:=Bj (ir σ) 0 (l1.map (mc (me (ir σ)))) (eM m h)
 have hv_at:∀i b,l1[i]? =af (af b)->hv.get (ir σ i)=af (me (ir σ) b):=λi b hb=>by
  have:=vO (ir σ) (l1.map (mc (me (ir σ)))) 0 (eM m h) (λa b ha hb=>by
   simp only[bS,I.len,hnp]at ha hb;simp only[bR];exact inj1 a b ha hb) i (af (me (ir σ) b)) (by rw[ba,hb];rfl)
  rw[bR]at this;exact this
 have hv_ne:∀j,(∀i,i<np->j≠ir σ i)->hv.get j=(eM m h).get j:=λj hj=>
  vN (ir σ) _ 0 _ j λk hk=>by
   simp only[bS,I.len,hnp]at hk;rw[bR];exact hj k hk
 have rows_in:yF hv h:=λj r hr=>by
  rw[bX]at hr ⊢;by_cases hj:∃i,i<np/\j=ir σ i
  .obtain⟨i,hi,rfl⟩:=hj;obtain⟨b,hb⟩:=hl1 i hi;obtain⟨b0,U,Z⟩:=hbm i b hb;rw[hv_at i b hb]at hr;rw[U];simp only[aI]at hr ⊢;rw[<- Z.row];exact hr
  .rw[hv_ne j (λi hi e=>hj ⟨i,hi,e⟩),jk]at hr;split at hr
   .rename_i ht;obtain⟨ty,p,T,xs,hb⟩:=hmr j ht;rw[hb]at hr ⊢;exact hr
   .exact hr
 have rows_hp:∀i r,eL hp i=af r->eL hv (ir σ i)=af r:=λi r hr=>by
  rw[bX]at hr ⊢;cases hb:hp.get i with
  |none=>rw[hb]at hr;cases hr
  |some b=>
   rw[hb]at hr;rw[hv_at i b ((I.at_ i b).1 hb)];simp only[aI,I_]at hr ⊢;exact hr
 have dead_m:∀i,aN m i=ai->bF hv (nm i)=ah:=λi hi=>by
  rw[bN,hv_ne i (λk hk e=>by rw[e,hmS k hk]at hi;cases hi)];obtain⟨p,sz,n,hd⟩:=uu hmr hi;rw[hd];rfl
 have h2_at:∀i cc,l2[i]? =af cc->h2.get (g i)=(match cc with|some b=>af (me g b)|none=>((eM m h).get (g i)).map vP):=λi cc hc=>by
  have:=vO g (l2.map (mc (me g))) 0 (eM m h) (λa b ha hb=>by
   simp only[bS,J.len,hnq]at ha hb;simp only[bR];exact injg a b ha hb) i (cc.map (me g)) (by rw[ba,hc];rfl)
  rw[bR]at this;rw[hh2,this];cases cc<;>rfl
 have h2_ne:∀j,(∀i,i<nq->j≠g i)->h2.get j=(eM m h).get j:=λj hj=>by
  rw[hh2];refine vN g _ 0 _ j λk hk=>?_
  simp only[bS,J.len,hnq]at hk;rw[bR];exact hj k hk
 have rows_hq:∀i r,eL hq i=af r->eL h2 (g i)=af r:=λi r hr=>by
  rw[bX]at hr ⊢;cases hb:hq.get i with
  |none=>rw[hb]at hr;cases hr
  |some b=>
   rw[hb]at hr;rw[h2_at i _ ((J.at_ i b).1 hb)];simp only[aI,I_]at hr ⊢;exact hr
 have rows2:cA h h2:=λj r hr=>by
  by_cases hj:∃i,i<np/\j=ir σ i
  .obtain⟨i,hi,rfl⟩:=hj;rw[<- glo i hi]at hr ⊢;exact Gk np hsr i hi r hr
  .have hjn:j<nx:=by
    rw[bX]at hr;cases hb:h.get j with
    |none=>rw[hb]at hr;cases hr
    |some b=>exact hinv.low j b hb
   have:=cA.kill m h j r hr;rw[bX]at this ⊢;rw[h2_ne j (λi hi e=>?_)]
   .exact this
   .by_cases hip:i<np
    .exact hj ⟨i,hip,by rw[e,glo i hip]⟩
    .rw[ghi i (by omega)]at e;omega
 obtain⟨lr,hlr⟩:=fI hq rs J.ok;obtain⟨lp,hlp⟩:=fI hp vs I.ok;have er2:∀i b yb,hq.get i=af b->kN hq b=af yb->bF h2 (nm (g i))=af (yb.ren (IH g)):=λi b yb hb hyb=>by
  rw[bN,h2_at i _ ((J.at_ i b).1 hb)];exact DR rows_hq hyb
 have er2':∀i,i<nq->∀z,bF h2 (nm (g i))=af z->∃b yb,hq.get i=af b/\kN hq b=af yb/\z=yb.ren (IH g):=λi hi z hz=>by
  have hi':i<l2.length:=by rw[J.len,hnq];exact hi
  have hcc:=aB hi';cases hcv:l2[i] with
  |none=>
   rw[hcv]at hcc;rw[bN,h2_at i ah hcc]at hz;simp only at hz;cases hkg:(eM m h).get (g i) with
   |none=>rw[hkg]at hz;cases hz
   |some b0=>rw[hkg]at hz;cases b0<;>simp[vP,kN]at hz
  |some b=>
   rw[hcv]at hcc;have hb:=(J.at_ i b).2 hcc;rw[bN,h2_at i (af b) hcc]at hz;have hyb:∃yb,kN hq b=af yb:=by
    cases b with
    |rows ty p T xs=>simp only[aI,me,kN]at hz ⊢;exact⟨z,hz⟩
    |cells ty q=>
     obtain⟨q',hq'⟩:=fI hq q (J.cells i ty q hb).1;exact⟨_,by simp only[kN,hq'];rfl⟩
    |dead p sz n=>simp[me,kN]at hz
    |mp K V es=>exact⟨_,rfl⟩
   obtain⟨yb,hyb⟩:=hyb;have:=DR rows_hq hyb;simp only[aI]at hz;rw[this]at hz;exact⟨b,yb,hb,hyb,by cases hz;rfl⟩
 have dead2:∀i,aN m i=ai->bF h2 (nm i)=ah:=λi hi=>by
  have hlt:=hmr.lt hinv hi;rw[bN,h2_ne i (λk hk e=>?_)]
  .obtain⟨p,sz,n,hd⟩:=uu hmr hi;rw[hd];rfl
  .by_cases hkp:k<np
   .rw[e,glo k hkp,hmS k hkp]at hi;cases hi
   .rw[ghi k (by omega)]at e;omega
 have inv2:mr h2 (nx+(nq-np)):=by
  refine ⟨λj ty q hj=>?_,λj b hj=>?_⟩
  .by_cases hjg:∃i,i<nq/\j=g i
   .obtain⟨i,hi,rfl⟩:=hjg;have hi':i<l2.length:=by rw[J.len,hnq];exact hi
    have hcc:=aB hi';cases hcv:l2[i] with
    |none=>
     rw[hcv]at hcc;rw[h2_at i ah hcc]at hj;simp only at hj;cases hkg:(eM m h).get (g i) with
     |none=>rw[hkg]at hj;cases hj
     |some b0=>rw[hkg]at hj;cases b0<;>simp[vP]at hj
    |some b=>
     rw[hcv]at hcc;have hb:=(J.at_ i b).2 hcc;rw[h2_at i (af b) hcc]at hj;simp only[ak]at hj;cases b with
     |cells ty' q'=>
      simp only[me,iE.cells.injEq]at hj;obtain⟨_,rfl⟩:=hj;obtain⟨z,hz⟩:=fI hq q' (J.cells i ty' q' hb).1;exact kX _ _ _ (rc rows_hq q' z hz)
     |rows _ _ _ _=>simp[me]at hj
     |dead _ _ _=>simp[me]at hj
     |mp _ _ _=>simp[me]at hj
   .rw[h2_ne j (λi hi e=>hjg ⟨i,hi,e⟩)]at hj;refine jg rows2 q ?_;have hkk:=(hinv.kill m).cells j ty q hj;rw[jk]at hj;split at hj
    .rename_i ht;obtain⟨_,_,_,_,hb⟩:=hmr j ht;rw[hb]at hj;cases hj
    .exact hinv.cells j ty q hj
  .by_cases hjg:∃i,i<nq/\j=g i
   .obtain⟨i,hi,rfl⟩:=hjg;by_cases hip:i<np
    .rw[glo i hip];have:=gnx i hip;omega
    .rw[ghi i (by omega)];omega
   .rw[h2_ne j (λi hi e=>hjg ⟨i,hi,e⟩)]at hj;have:=(hinv.kill m).low j b hj;omega
 let S:ι:=(bx np).map λi=>nm (ir σ i)
 have memS:∀n,n∈S↔∃i,i<np/\n=nm (ir σ i):=λn=>by
  simp only[S,dv,lD];exact⟨λ⟨i,h1,h2⟩=>⟨i,h1,h2.symm⟩,λ⟨i,h1,h2⟩=>⟨i,h1,h2.symm⟩⟩
 let NN:ι:=(bx (nq-np)).map λt=>nm (nx+t)
 have memN:∀n,n∈NN↔∃t,t<nq-np/\n=nm (nx+t):=λn=>by
  simp only[NN,dv,lD];exact⟨λ⟨i,h1,h2⟩=>⟨i,h1,h2.symm⟩,λ⟨i,h1,h2⟩=>⟨i,h1,h2.symm⟩⟩
 have memW:∀n,n∈S++Gs m++NN↔(∃i,i<nq/\n=nm (g i))\/n∈Gs m:=λn=>by
  rw[bY,bY,memS,memN];constructor
  .rintro ((⟨i,hi,rfl⟩|hn)|⟨t,ht,rfl⟩)
   .exact .inl ⟨i,by omega,by rw[glo i hi]⟩
   .exact .inr hn
   .exact .inl ⟨np+t,by omega,by rw[ghi _ (by omega),show np+t-np=t from by omega]⟩
  .rintro (⟨i,hi,rfl⟩|hn)
   .by_cases hip:i<np
    .exact .inl (.inl ⟨i,hip,by rw[glo i hip]⟩)
    .exact .inr ⟨i-np,by omega,by rw[ghi i (by omega)]⟩
   .exact .inl (.inr hn)
 have hOpT:gZ P o (gi e h) (bF h) ⟨ES (AV.renL (IH g) lr),S++Gs m,S++Gs m++NN,bF h2,NN⟩:=by
  intro φ E h' w a hrd hwr hops hrep hN;have hS':∀i,i<np->h' (nm (ir σ i))=bF h (nm (ir σ i)):=λi hi=>hrd _ (lE _ ((memS _).2 ⟨i,hi,rfl⟩))
  have hM':∀i,aN m i=ai->h' (nm i)=bF h (nm i):=λi hi=>hrd _ (n_ _ (lQ.2 hi))
  obtain⟨us,hrun,hrel⟩:=hexec φ E h' w a hops hrep
  let Hv:HF:=λn=>if n∈S++Gs m then bF hv n else h' n
  have Hv_in:∀n,n∈S++Gs m->Hv n=bF hv n:=λn hn=>by simp only[Hv,hn,bI]
  have Hv_out:∀n,n∉S++Gs m->Hv n=h' n:=λn hn=>by simp only[Hv,hn,ey]
  have blkS:∀i,i<np->∀z,bF hv (nm (ir σ i))=af z->∃b0 b y0,h.get (ir σ i)=af b0/\l1[i]? =af (af b)/\BM (ir σ) h m b0 (me (ir σ) b)/\kN h b0=af y0/\kN hv (me (ir σ) b)=af z:=λi hi z hz=>by
   obtain⟨b,hb⟩:=hl1 i hi;obtain⟨b0,U,Z⟩:=hbm i b hb;rw[bN,hv_at i b hb]at hz;simp only[aI]at hz;obtain⟨y0,hy0⟩:=BM.erB_some hinv U Z hz;exact⟨b0,b,y0,U,hb,Z,hy0,hz⟩
  have hd:wa h' Hv:=λn b hb=>by
   by_cases hn:n∈S++Gs m
   .rw[Hv_in n hn]at hb;rcases bY.1 hn with hs|hs
    .obtain⟨i,hi,rfl⟩:=(memS n).1 hs;obtain⟨b0,b1,y0,U,Z,q3,q4,q5⟩:=blkS i hi b hb;exact⟨y0,by rw[hS' i hi,bN,U];exact q4⟩
    .obtain⟨i,rfl,hi⟩:=ox.1 hs;rw[dead_m i hi]at hb;cases hb
   .rw[Hv_out n hn]at hb;exact⟨b,hb⟩
  have gvv:EQ h h' Hv m:=λi hi=>⟨hM' i hi,by rw[Hv_in _ (n_ _ (lQ.2 hi)),dead_m i hi]⟩
  have V:LI h' Hv:=⟨hd,λn b b' hb hb'=>by
   by_cases hn:n∈S++Gs m
   .rw[Hv_in n hn]at hb';rcases bY.1 hn with hs|hs
    .obtain⟨i,hi,rfl⟩:=(memS n).1 hs;obtain⟨b0,b1,y0,U,Z,q3,q4,q5⟩:=blkS i hi b' hb';rw[hS' i hi,bN,U]at hb;simp only[aI]at hb;exact BM.view hd gvv rows_in q3 hb q5
    .obtain⟨i,rfl,hi⟩:=ox.1 hs;rw[dead_m i hi]at hb';cases hb'
   .rw[Hv_out n hn,hb]at hb';cases hb';exact kh.refl hd b⟩
  have hrepv:=V.rep hrep;have hlpg:cU hv (kM (ir σ) vs)=af (AV.renL (IH (ir σ)) lp):=rc rows_hp vs lp hlp;have hrel1:kf φ (tot E φ Hv) w (AV.renL (IH (ir σ)) lp) us:=
   kf.le hrep (DM hd rows_in c.pre.vs l x1 m1 _ la _ gv pvg hla hlpg (λi hi=>gvv i (by rw[hmm,bz,hi];rfl))) hrel
  let E':Nat->Prop:=λk=>E k\/∃n b,Hv n=af b/\n∉S/\φ n=af k
  have T:ai3 c.pre x vs hp (ir σ) φ E E' Hv w:=by
   refine rH.toId I (λa b ha hb=>inj1 a b (by rw[<- hnp];exact ha) (by rw[<- hnp];exact hb)) hrepv (λi b yb hb hyb=>?_) ?_ ?_ ?_
   .have hi:=I.lt_len hb;rw[hnp]at hi;rw[Hv_in _ (lE _ ((memS _).2 ⟨i,hi,rfl⟩)),bN,hv_at i b ((I.at_ i b).1 hb)];exact DR rows_hp hyb
   .rintro k (hE|⟨n,b,h1,_,Y⟩)
    .exact .inl hE
    .exact .inr ⟨n,b,h1,Y⟩
   .rintro i k b hi h1 Y (hE|⟨n,b',h4,h5,h6⟩)
    .obtain⟨k',p1,p2,_⟩:=hrepv.at_ _ _ h1;rw[Y]at p1;cases p1;exact p2 hE
    .have:=hrepv.inj _ _ _ _ k h1 h4 Y h6;exact h5 (by rw[<- this];exact (memS _).2 ⟨i,by rw[<- hnp];exact hi,rfl⟩)
   .rintro k (hE|⟨n,b,h1,_,Y⟩)
    .exact hrepv.el k hE
    .obtain⟨k',U,_,ob,q3,_⟩:=hrepv.at_ n b h1;rw[Y]at U;cases U;exact (cJ.1 q3).1
  have hcalls:=sp.calls x y hm vs hp l1 rs hq l2 lp lr I J hlp hlr (φ1 c.pre.bs.length (ir σ) φ) E' w us T.rep (kf.toId T.val (uc vs lp I.lt hlp) hrel1) (λn k hk=>by
   obtain⟨i,hi,rfl,_⟩:=xL hk;rw[eo];exact hi)
  unfold In;rw[hrun];refine Calls.mono hcalls ?_;rintro en w' ⟨v,φc',rfl,hext,hown,hnm,rp,rv'⟩
  let isN:Nat->Prop:=λn=>n∈NN
  let φ':PM:=λn=>if n∈NN then φc' (nm (np+(ow n-nx))) else φ n
  have φ'_new:∀t,t<nq-np->φ' (nm (nx+t))=φc' (nm (np+t)):=λt ht=>by
   have:nm (nx+t)∈NN:=(memN _).2 ⟨t,ht,rfl⟩;simp only[φ',this,bI,eo];rw[show nx+t-nx=t from by omega]
  have φ'_old:∀n,n∉NN->φ' n=φ n:=λn hn=>by simp only[φ',hn,ey]
  have loN:∀i,i<nx->nm i∉NN:=λi hi hn=>by
   obtain⟨t,_,e⟩:=(memN _).1 hn;have:=li e;omega
  have φ'_g:∀i,i<nq->φ' (nm (g i))=φc' (nm i):=λi hi=>by
   by_cases hip:i<np
   .rw[glo i hip,φ'_old _ (loN _ (gnx i hip)),hnm i (by rw[hnp];exact hip),abk (by rw[hnp];exact hip)]
   .rw[ghi i (by omega),φ'_new _ (by omega),show np+(i-np)=i from by omega]
  have hsub:∀n k,φ n=af k->φ' n=af k:=λn k hk=>by
   by_cases hn:n∈NN
   .rw[hN n hn]at hk;cases hk
   .rw[φ'_old n hn];exact hk
  let F:HF:=fd h' (S++Gs m++NN) (bF h2)
  have F_g:∀i,i<nq->F (nm (g i))=bF h2 (nm (g i)):=λi hi=>by
   simp only[F,fd,(memW _).2 (.inl ⟨i,hi,rfl⟩),bI]
  have F_out:∀n,n∉S++Gs m++NN->F n=h' n:=λn hn=>by simp only[F,fd,hn,ey]
  have from_:∀n b,F n=af b->(∃i bq yb,i<nq/\n=nm (g i)/\hq.get i=af bq/\kN hq bq=af yb/\b=yb.ren (IH g))\/(h' n=af b/\Hv n=af b/\n∉S/\n∉NN/\φ' n=φ n):=λn b hb=>by
   by_cases hn:n∈S++Gs m++NN
   .rcases (memW n).1 hn with ⟨i,hi,rfl⟩|hs
    .rw[F_g i hi]at hb;obtain⟨bq,yb,U,Z,q3⟩:=er2' i hi b hb;exact .inl ⟨i,bq,yb,hi,rfl,U,Z,q3⟩
    .obtain⟨i,rfl,hi⟩:=ox.1 hs;have:F (nm i)=bF h2 (nm i):=by simp only[F,fd,hn,bI]
     rw[this,dead2 i hi]at hb;cases hb
   .rw[F_out n hn]at hb;have h1:n∉S++Gs m:=λhh=>hn (lE _ hh)
    have Y:n∉NN:=λhh=>hn (n_ _ hh)
    exact .inr ⟨hb,by rw[Hv_out n h1];exact hb,λhh=>h1 (lE _ hh),Y,φ'_old n Y⟩
  have own':∀k,own φ' F k->own φc' (bF hq) k\/∃n b,Hv n=af b/\n∉S/\φ n=af k:=by
   rintro k ⟨n,b,h1,Y⟩;rcases from_ n b h1 with ⟨i,bq,yb,hi,rfl,U,Z,_⟩|⟨_,Z,q3,_,q5⟩
   .rw[φ'_g i hi]at Y;exact .inl ⟨nm i,yb,by rw[bN,U];exact Z,Y⟩
   .exact .inr ⟨n,b,Z,q3,by rw[<- q5];exact Y⟩
  have mv:jm φ φ' h' F w w':=by
   refine ⟨hsub,hext.mono λk hk=>hd.own (T.own_ k hk),λk hk ho=>?_⟩;rcases own' k ho with h1|⟨n,b,h1,_,Y⟩
   .exact hd.own (T.own_ k (hown k hk h1))
   .exact hd.own ⟨n,b,h1,Y⟩
  have tot':∀k,tot E φ' F k->tot E' φc' (bF hq) k:=by
   rintro k (h1|h1)
   .exact .inl (.inl h1)
   .rcases own' k h1 with Y|Y
    .exact .inr Y
    .exact .inl (.inr Y)
  let φr:PM:=λn=>if XX nq n then φc' n else ah
  have rel_r:∀x v,x.all (XX nq)=ai->cV φc' (tot E' φc' (bF hq)) w' x v->cV φr (tot E φ' F) w' x v:=λx v hx hr=>
   hr.restrict (λi k hi hk=>by simp only[φr,hi,bI];exact hk) tot' hx
  have rel_g:∀x v,cV φr (tot E φ' F) w' x v->cV φ' (tot E φ' F) w' (x.ren (IH g)) v:=λx v hr=>
   hr.renTo λn k hk=>by
    simp only[φr]at hk;split at hk
    .rename_i hpn;obtain⟨i,hi,rfl⟩:=acf hpn;rw[yg,φ'_g i hi];exact hk
    .cases hk
  have hnqJ:=hnq;refine ⟨v,φ',rfl,mv,λn k hk=>?_,?_,?_⟩
  .by_cases hn:n∈NN
   .exact .inr hn
   .rw[φ'_old n hn]at hk;exact .inl hk
  .refine ⟨λn n' b b' k h1 Y h4 h5=>?_,λn b h1=>?_,λk hk=>dH (hrep.el k hk) mv.ext.size,λg' cells hg=>mv.keepF (hrep.gl g' cells hg)⟩
   .rcases from_ n b h1 with ⟨i,bq,yb,hi,rfl,U,Z,_⟩|⟨U,Z,q3,_,q5⟩
    .rw[φ'_g i hi]at h4;have hqi:bF hq (nm i)=af yb:=by rw[bN,U];exact Z
     rcases from_ n' b' Y with ⟨j,bj,yj,hj,rfl,t1,t2,_⟩|⟨t1,t2,t3,_,t5⟩
     .rw[φ'_g j hj]at h5;have:=rp.inj _ _ _ _ k hqi (by rw[bN,t1];exact t2) h4 h5;rw[li this]
     .exfalso;obtain⟨k',p1,p2,_⟩:=rp.at_ _ _ hqi;rw[h4]at p1;cases p1;exact p2 (.inr ⟨n',b',t2,t3,by rw[<- t5];exact h5⟩)
    .rcases from_ n' b' Y with ⟨j,bj,yj,hj,rfl,t1,t2,_⟩|⟨t1,t2,t3,_,t5⟩
     .exfalso;rw[φ'_g j hj]at h5;have hqj:bF hq (nm j)=af yj:=by rw[bN,t1];exact t2
      obtain⟨k',p1,p2,_⟩:=rp.at_ _ _ hqj;rw[h5]at p1;cases p1;exact p2 (.inr ⟨n,b,Z,q3,by rw[<- q5];exact h4⟩)
     .exact hrep.inj n n' b b' k U t1 (by rw[<- q5];exact h4) (by rw[<- t5];exact h5)
   .rcases from_ n b h1 with ⟨i,bq,yb,hi,rfl,U,Z,rfl⟩|⟨U,Z,q3,_,q5⟩
    .have hqi:bF hq (nm i)=af yb:=by rw[bN,U];exact Z
     obtain⟨k,p1,p2,ob,p3,p4⟩:=rp.at_ _ _ hqi;have hall:=J.blk_all U Z;rw[hnq]at hall;exact⟨k,by rw[φ'_g i hi];exact p1,λhE=>p2 (.inl hE),ob,p3,(p4.restrict rel_r hall).renTo rel_g⟩
    .obtain⟨k,p1,p2,ob,p3,p4⟩:=hrep.at_ n b U;have hk:k<w.heap.size:=(cJ.1 p3).1;refine ⟨k,hsub n k p1,p2,ob,?_,p4.mono λx v hr=>mv.keep hr⟩;rw[hext.blk k hk ?_]
     .exact p3
     .rintro⟨n',y',t1,t2⟩;obtain⟨i,hi,rfl,t3⟩:=xL t2;obtain⟨j,bb,e,t4,t5⟩:=jH t1;have:=li e;subst this;have hi':i<np:=by rw[<- hnp];exact hi
      have hvi:Hv (nm (ir σ i))=af (y'.ren (IH (ir σ))):=by
       rw[Hv_in _ (lE _ ((memS _).2 ⟨i,hi',rfl⟩)),bN,hv_at i bb ((I.at_ i bb).1 t4)];exact DR rows_hp t5
      have:=hrepv.inj _ _ _ _ k hvi Z t3 p1;exact q3 (by rw[<- this];exact (memS _).2 ⟨i,hi',rfl⟩)
  .have hall:(ES lr).all (XX nq)=ai:=abv (by have:=uc rs lr J.lt hlr;rwa [hnq]at this);show cV φ' (tot E φ' F) w' (ES (AV.renL (IH g) lr)) v;rw[abu];exact rel_g _ _ (rel_r _ _ hall rv')
 have hrsg:cU h2 (kM g rs)=af (AV.renL (IH g) lr):=rc rows_hq rs lr hlr;refine ⟨⟨_,hOpT,λz hz=>?_,?_,λn hn=>?_,λn hn=>?_,λn hn=>?_⟩,rows2,inv2,by omega,λhs=>by cases hs⟩
 .rw[XR hrsg]at hz;cases hz;rfl
 .funext n;unfold fd;split
  .rfl
  .rename_i hn;refine (kY hinv rows2 λi e=>?_).symm;subst e;rw[h2_ne i (λk hk e=>hn ((memW _).2 (.inl ⟨k,hk,by rw[e]⟩))),jk,aA];intro hb;exact hn ((memW _).2 (.inr (lQ.2 hb)))
 .rw[bz];rcases bY.1 hn with hs|hs
  .obtain⟨i,hi,rfl⟩:=(memS n).1 hs;rw[eo,(sig _).2 ⟨i,hi,rfl⟩];rfl
  .obtain⟨i,rfl,hi⟩:=ox.1 hs;rw[eo,hi];simp
 .rw[bz,bz];rcases bY.1 hn with hs|hs
  .rcases bY.1 hs with hs|hs
   .obtain⟨i,hi,rfl⟩:=(memS n).1 hs;rw[eo,(sig _).2 ⟨i,hi,rfl⟩];rfl
   .obtain⟨i,rfl,hi⟩:=ox.1 hs;rw[eo,hi];simp
  .obtain⟨t,ht,rfl⟩:=(memN n).1 hs;rw[eo,agj.2 ⟨by omega,by omega⟩];simp
 .obtain⟨t,ht,rfl⟩:=(memN n).1 hn;rw[eo];omega
mutual
def FV.fl:FV->Bool
 |.raw _=>ai
 |.agg l=>FV.flL l
 |.sl _ _=>aj
 |.ptr _ _=>aj
def FV.flL:List FV->Bool
 |[]=>ai
 |x::r=>x.fl&&FV.flL r
end
theorem Yl:∀{l:List FV},FV.flL l=ai->∀x∈l,x.fl=ai
 |[],_,x,I=>by cases I
 |y::l,h,x,I=>by
  simp only[FV.flL,av]at h;rcases bp.1 I with rfl|I
  .exact h.1
  .exact Yl h.2 x I
theorem ads:∀{l:List FV},(∀x∈l,x.fl=ai)->FV.flL l=ai
 |[],_=>rfl
 |y::l,h=>by simp only[FV.flL,av];exact⟨h y (by simp),ads λx I=>h x (by simp[I])⟩
theorem nS.flat {O O':Nat->Prop} {w w':World} {x:FV} {v:Value} (h:nS O w x v):x.fl=ai->nS O' w' x v:=by
 induction h with
 |raw v=>intro _;exact .raw v
 |nil a c hc=>intro h;cases h
 |sl cells n c b off us hn hc hO hb hcl hu hr I=>intro h;cases h
 |ptr cells o b off us hO hb hcl hu hr I=>intro h;cases h
 |agg cells vs hl hcl hr I=>intro h;exact .agg cells vs hl hcl λj x v J hv=>I j x v J hv (Yl h x (bc J))
mutual
def AV.fl:AV->Bool
 |.f x=>x.fl
 |.emp=>ai
 |.anyb=>ai
 |.agg l=>AV.flL l
 |.tup l=>AV.flL l
 |.ptr _ _=>aj
 |.sl _ _ _=>aj
 |.row _ _ _=>aj
 |.mp _=>aj
 |.clo _ _=>aj
def AV.flL:List AV->Bool
 |[]=>ai
 |x::r=>x.fl&&AV.flL r
end
theorem LH:∀{l:List AV},AV.flL l=ai->∀x∈l,x.fl=ai
 |[],_,x,I=>by cases I
 |y::l,h,x,I=>by
  simp only[AV.flL,av]at h;rcases bp.1 I with rfl|I
  .exact h.1
  .exact LH h.2 x I
theorem YQ:∀{l:List AV},(∀x∈l,x.fl=ai)->AV.flL l=ai
 |[],_=>rfl
 |y::l,h=>by simp only[AV.flL,av];exact⟨h y (by simp),YQ λx I=>h x (by simp[I])⟩
theorem cV.flat {φ φ':PM} {O O':Nat->Prop} {w w':World} {x:AV} {v:Value} (h:cV φ O w x v):x.fl=ai->cV φ' O' w' x v:=by
 induction h with
 |f h=>intro hf;exact .f (h.flat hf)
 |ptr h=>intro hf;cases hf
 |sl h hn hc=>intro hf;cases hf
 |row h hn hc hsh=>intro hf;cases hf
 |emp=>intro _;exact .emp
 |anyb=>intro _;exact .anyb
 |mp h=>intro hf;cases hf
 |agg hl hcl hr J=>intro hf;exact .agg hl hcl λj x v I hv=>J j x v I hv (LH hf x (bc I))
 |tup hl hr J=>intro hf;exact .tup hl λj x v I hv=>J j x v I hv (LH hf x (bc I))
 |clo hl hr J=>intro hf;cases hf
mutual
theorem aky (γ:Nat->Nat):∀x:AV,x.fl=ai->x.ren γ=x
 |.f x,_=>rfl
 |.emp,_=>rfl
 |.anyb,_=>rfl
 |.agg l,h=>by simp only[AV.ren];rw[IJ γ l h]
 |.tup l,h=>by simp only[AV.ren];rw[IJ γ l h]
 |.ptr _ _,h=>by cases h
 |.sl _ _ _,h=>by cases h
 |.row _ _ _,h=>by cases h
 |.mp _,h=>by cases h
 |.clo _ _,h=>by cases h
theorem IJ (γ:Nat->Nat):∀l:List AV,AV.flL l=ai->AV.renL γ l=l
 |[],_=>rfl
 |x::r,h=>by
  simp only[AV.flL,av]at h;rw[AV.renL,aky γ x h.1,IJ γ r h.2]
end
theorem AY:∀(T:Ty),T.flat=ai->∀x:T.den,∀y∈bU T x,y.fl=ai
 |.int _,_,x,y,I=>by simp only[bU,aL]at I;subst I;rfl
 |.bool,_,x,y,I=>by simp only[bU,aL]at I;subst I;rfl
 |.str,_,x,y,I=>by simp only[bU,aL]at I;subst I;rfl
 |.sl _,h,x,y,I=>by cases h
 |.st t,h,x,y,I=>AY t h x y I
 |.pr a b,h,x,y,I=>by
  simp only[Ty.flat,av]at h;simp only[bU,bY]at I;exact I.elim (AY a h.1 x.1 y) (AY b h.2 x.2 y)
 |.un,_,x,y,I=>by simp[bU]at I
 |.ex,h,_,_,_=>by cases h
 |.sm,h,_,_,_=>by cases h
theorem ah8 (T:Ty) (h:T.flat=ai) (x:T.den):(gV T x).fl=ai:=by
 cases I:T.one with
 |true=>
  have:=AY T h x (gV T x) (by rw[(DV T x I).1];simp);exact this
 |false=>rw[re T x I];exact ads (AY T h x)
theorem Rn (a b:Ty):(spr a b).flat=(a.flat&&b.flat):=by
 cases a<;>cases b<;>simp[spr,HI,Ty.flat]
theorem Jy {n:Nat}:∀{a b:List TV},r9 n (a++b)=ai->r9 n a=ai/\r9 n b=ai
 |[],b,h=>⟨rfl,h⟩
 |x::r,b,h=>by
  simp only[gC,r9,av]at h ⊢;obtain⟨h1,h2⟩:=Jy h.2;exact⟨⟨h.1,h1⟩,h2⟩
mutual
theorem ag7 {g:Nat->Nat} {h:bl}:∀(p:PV) (x:p.ty.den) (cs:List TV) (l:List AV),p.ty.flat=ai->qx g p x=af cs->r9 0 cs=ai->cU h cs=af l->∀y∈l,y.fl=ai
 |.d T,x,cs,l,hf,hp,_,hl,y,hy=>by
  have:=(l8 h 40 T x cs hp).1;rw[hl]at this;cases this;obtain⟨q,hq,rfl⟩:=dv.1 hy;exact AY T hf x q hq
 |.ptr i q,x,cs,l,hf,hp,hlt,hl,y,hy=>by
  simp only[qx,ak]at hp;subst hp;simp[r9,Mn]at hlt
 |.csl i q z,x,cs,l,hf,hp,hlt,hl,y,hy=>by
  simp only[qx,ak]at hp;subst hp;simp[r9,Mn]at hlt
 |.clo q i z,x,cs,l,hf,hp,hlt,hl,y,hy=>by
  simp only[qx,ak]at hp;subst hp;simp[r9,Mn]at hlt
 |.row i,x,cs,l,hf,hp,hlt,hl,y,hy=>by
  simp only[qx,ak]at hp;subst hp;simp[r9,Mn]at hlt
 |.mp i,x,cs,l,hf,hp,hlt,hl,y,hy=>by
  simp only[qx,ak]at hp;subst hp;simp[r9,Mn]at hlt
 |.nil,x,cs,l,hf,hp,hlt,hl,y,hy=>by
  simp only[qx,ak]at hp;subst hp;simp only[cU,cB,ak]at hl;subst hl;simp only[aL]at hy;subst hy;rfl
 |.emp,x,cs,l,hf,hp,hlt,hl,y,hy=>by
  simp only[qx,ak]at hp;subst hp;simp only[cU,cB,ak]at hl;subst hl;simp only[aL]at hy;subst hy;rfl
 |.agg ps,x,cs,l,hf,hp,hlt,hl,y,hy=>Jf ps x cs l hf hp hlt hl y hy
theorem Jf {g:Nat->Nat} {h:bl}:∀(ps:List PV) (x:(PV.tyL ps).den) (cs:List TV) (l:List AV),(PV.tyL ps).flat=ai->rE g ps x=af cs->r9 0 cs=ai->cU h cs=af l->∀y∈l,y.fl=ai
 |[],x,cs,l,hf,hp,hlt,hl,y,hy=>by
  simp only[rE,ak]at hp;subst hp;simp only[cU,ak]at hl;subst hl;cases hy
 |p::ps,x,cs,l,hf,hp,hlt,hl,y,hy=>by
  simp only[PV.tyL]at hf;rw[Rn,av]at hf;simp only[rE]at hp;split at hp
  .rename_i a ha;split at hp
   .rename_i b hb;simp only[ak]at hp;subst hp;obtain⟨a',b',rfl,e1,e2⟩:=CG hl;have hsp:=Jy hlt;rcases bY.1 hy with hy|hy
    .exact ag7 p _ a a' hf.1 ha hsp.1 e1 y hy
    .exact Jf ps _ b b' hf.2 hb hsp.2 e2 y hy
   .cases hp
  .cases hp
end
theorem ag5 {g:Nat->Nat} {h:bl} {p:PV} {x:p.ty.den} {u:TV} {y:AV} (hf:p.ty.flat=ai) (hp:t7 g p x=af u) (hlt:Mn 0 u=ai) (I:cB h u=af y):y.fl=ai:=by
 cases p with
 |d T=>
  simp only[t7,ak]at hp;subst hp;simp only[cB,ak]at I;subst I;exact ah8 T hf x
 |agg ps=>
  simp only[t7]at hp;split at hp
  .rename_i l hl;simp only[ak]at hp;subst hp;simp only[cB]at I;split at I
   .rename_i M J;simp only[ak]at I;subst I;exact YQ (Jf ps _ l M hf hl hlt J)
   .cases I
  .cases hp
 |ptr i q=>simp only[t7,ak]at hp;subst hp;simp[Mn]at hlt
 |csl i q z=>simp only[t7,ak]at hp;subst hp;simp[Mn]at hlt
 |row i=>simp only[t7,ak]at hp;subst hp;simp[Mn]at hlt
 |clo q i z=>simp only[t7,ak]at hp;subst hp;simp[Mn,r9]at hlt
 |mp i=>simp only[t7,ak]at hp;subst hp;simp[Mn]at hlt
 |nil=>simp only[t7,ak]at hp;subst hp;simp only[cB,ak]at I;subst I;rfl
 |emp=>simp only[t7,ak]at hp;subst hp;simp only[cB,ak]at I;subst I;rfl
theorem RE {g:Nat->Nat} {h:bl}:∀(ps:List PV) (x:(PV.tyL ps).den) (us:List TV) (l:List AV),(PV.tyL ps).flat=ai->qE g ps x=af us->r9 0 us=ai->cU h us=af l->AV.flL l=ai
 |[],x,us,l,hf,hp,hlt,hl=>by
  simp only[qE,ak]at hp;subst hp;simp only[cU,ak]at hl;subst hl;rfl
 |p::ps,x,us,l,hf,hp,hlt,hl=>by
  simp only[PV.tyL]at hf;rw[Rn,av]at hf;simp only[qE]at hp;split at hp
  .rename_i a I;split at hp
   .rename_i b hb;simp only[ak]at hp;subst hp;obtain⟨y,l2,rfl,e1,e2⟩:=db hl;simp only[r9,av]at hlt;simp only[AV.flL,av];exact⟨ag5 hf.1 I hlt.1 e1,RE ps _ b l2 hf.2 hb hlt.2 e2⟩
   .cases hp
  .cases hp
theorem afw:∀{l:List AV},AV.flL l=ai->(ES l).fl=ai
 |[],_=>rfl
 |[x],h=>by simp only[AV.flL,av]at h;exact h.1
 |x::y::r,h=>h
theorem ahn {P:Program} {o:Oper} {e:iZ} {h:bl} {nx:Nat} {f:FuncId} {c:cq} {l:List TV} (hinv:mr h nx) (sp:qr P f c) {x:c.pre.ty.den} {m:Nat} {σ:PT Nat} {sm:Nat} (M:IU 0 c.pre l h x m σ sm) {vs:List TV} {hp:bl} {l1:List (Option iE)} (I:rn c.pre x vs hp l1) {y:c.post.ty.den} (hm:c.m x=af y) {rs:List TV} {hq:bl} {l2:List (Option iE)} (J:rn c.post y rs hq l2) (hp0:c.pre.bs.length=0) (hq0:c.post.bs.length=0) (hfl:(PV.tyL c.post.vs).flat=ai)
 (g:Nat->Nat) {la:List AV} (hla:cU h l=af la)
 (hexec:∀(φ:PM) (E:Nat->Prop) (h':HF) (w:World) (a:Act),(∀t,.tmp t∈o.op.operands->∀y,gi e h t=af y->cV φ (tot E φ h') w y (a.tmps.getD t undef))->rH φ E h' w->∃us:ξ,(execOp a.eval o).run P w= .ok (.enter f us.toArray) w/\kf φ (tot E φ h') w la us):
 jw P o aj e h nx (Ry (kM g rs)) m 0 h nx:=by
 obtain⟨x1,m1,x2,m2,hx,hmm,gv,gb⟩:=M.ex;have hmr:dY h m:=by rw[hmm];exact (IE _ _ _ _ gv).or (IG _ _ _ _ gb)
 have pvg:qE (ir σ) c.pre.vs x1=af (kM (ir σ) vs):=by
  have U:=ul (ir σ) c.pre.vs x1;have h4:=I.pv;rw[hx,uf]at h4;rw[U,h4];rfl
 obtain⟨lr,hlr⟩:=fI hq rs J.ok;obtain⟨lp,hlp⟩:=fI hp vs I.ok;have hfl':AV.flL lr=ai:=RE c.post.vs _ rs lr hfl J.pv (by rw[<- hq0];exact J.lt) hlr;have hpe:∀i,hp.get i=ah:=λi=>by
  cases hb:hp.get i with
  |none=>rfl
  |some b=>have:=I.lt_len hb;omega
 have hqe:∀i,hq.get i=ah:=λi=>by
  cases hb:hq.get i with
  |none=>rfl
  |some b=>have:=J.lt_len hb;omega
 have rows_hp:∀i r,eL hp i=af r->eL (eM m h) (ir σ i)=af r:=λi r hr=>by rw[bX,hpe]at hr;cases hr
 have rows_hq:∀i r,eL hq i=af r->eL h (g i)=af r:=λi r hr=>by rw[bX,hqe]at hr;cases hr
 have rows_in:yF (eM m h) h:=λj r hr=>by
  rw[bX]at hr ⊢;rw[jk]at hr;split at hr
  .rename_i ht;obtain⟨ty,p,T,xs,hb⟩:=hmr j ht;rw[hb]at hr ⊢;exact hr
  .exact hr
 have hOpT:gZ P o (gi e h) (bF h) ⟨ES lr,Gs m,[],λ_=>ah,[]⟩:=by
  intro φ E h' w a hrd hwr hops hrep hN;obtain⟨us,hrun,hrel⟩:=hexec φ E h' w a hops hrep
  let Hv:HF:=λn=>if n∈Gs m then ah else h' n
  have Hv_in:∀n,n∈Gs m->Hv n=ah:=λn hn=>by simp only[Hv,hn,bI]
  have Hv_out:∀n,n∉Gs m->Hv n=h' n:=λn hn=>by simp only[Hv,hn,ey]
  have hd:wa h' Hv:=λn b hb=>by
   by_cases hn:n∈Gs m
   .rw[Hv_in n hn]at hb;cases hb
   .rw[Hv_out n hn]at hb;exact⟨b,hb⟩
  have gvv:EQ h h' Hv m:=λi hi=>⟨hrd _ (lQ.2 hi),Hv_in _ (lQ.2 hi)⟩
  have V:LI h' Hv:=⟨hd,λn b b' hb Y=>by
   by_cases hn:n∈Gs m
   .rw[Hv_in n hn]at Y;cases Y
   .rw[Hv_out n hn,hb]at Y;cases Y;exact kh.refl hd b⟩
  have hrepv:=V.rep hrep;have hlpg:cU (eM m h) (kM (ir σ) vs)=af (AV.renL (IH (ir σ)) lp):=rc rows_hp vs lp hlp;have hrel1:kf φ (tot E φ Hv) w (AV.renL (IH (ir σ)) lp) us:=
   kf.le hrep (DM hd rows_in c.pre.vs l x1 m1 _ la _ gv pvg hla hlpg (λi hi=>gvv i (by rw[hmm,bz,hi];rfl))) hrel
  let E':Nat->Prop:=λk=>E k\/∃n b,Hv n=af b/\φ n=af k
  have T:ai3 c.pre x vs hp (ir σ) φ E E' Hv w:=by
   refine rH.toId I (λa b ha=>by omega) hrepv (λi b yb hb=>by rw[hpe]at hb;cases hb) ?_ (λi k b hi=>by omega) ?_
   .rintro k (hE|⟨n,b,h1,U⟩)
    .exact .inl hE
    .exact .inr ⟨n,b,h1,U⟩
   .rintro k (hE|⟨n,b,h1,U⟩)
    .exact hrepv.el k hE
    .obtain⟨k',Z,_,ob,q3,_⟩:=hrepv.at_ n b h1;rw[U]at Z;cases Z;exact (cJ.1 q3).1
  have hcalls:=sp.calls x y hm vs hp l1 rs hq l2 lp lr I J hlp hlr (φ1 c.pre.bs.length (ir σ) φ) E' w us T.rep (kf.toId T.val (uc vs lp I.lt hlp) hrel1) (λn k hk=>by
   obtain⟨i,hi,rfl,_⟩:=xL hk;rw[eo];exact hi)
  unfold In;rw[hrun];refine Calls.mono hcalls ?_;rintro en w' ⟨v,φc',rfl,hext,hown,hnm,rp,rv'⟩;have hno:∀k,¬own (φ1 c.pre.bs.length (ir σ) φ) (bF hp) k:=by
   rintro k ⟨n,b,h1,_⟩;obtain⟨i,bb,_,U,_⟩:=jH h1;rw[hpe]at U;cases U
  have mv:jm φ φ h' h' w w':=⟨λ_ _ h=>h,hext.mono λk hk=>cX hk (hno k),λ_ _ h=>h⟩
  refine ⟨v,φ,rfl,?_,λ_ _ h=>.inl h,?_,?_⟩
  .rw[ux];exact mv
  .rw[ux];refine hrep.moved mv λk hk=>?_
   obtain⟨n,b,h1,U⟩:=hk;obtain⟨k',Z,_,ob,q3,_⟩:=hrep.at_ n b h1;rw[U]at Z;cases Z;exact hext.blk k (cJ.1 q3).1 (hno k)
  .exact rv'.flat (afw hfl')
 have hrsg:cU h (kM g rs)=af (AV.renL (IH g) lr):=rc rows_hq rs lr hlr;refine ⟨⟨_,hOpT,λz hz=>?_,?_,λn hn=>?_,by simp,by simp⟩,λ_ _ h=>h,hinv,bV _,λhs=>by cases hs⟩
 .rw[XR hrsg,IJ _ lr hfl']at hz;cases hz;rfl
 .exact ux _ _
 .obtain⟨i,rfl,hi⟩:=ox.1 hn;rw[eo];exact hi
def cq.full (c:cq):cq:=⟨c.pre,⟨c.post.vs,c.pre.bs⟩,λx=>obind (c.m x) λy=>af (Vv (PV.tyL c.post.vs) (PB.tyL c.pre.bs) (P1 _ _ y) (Me _ _ x))⟩
def aH (P:Program) (f:FuncId) (c:cq):Prop:=if eU c.pre.bs.length c.post.bs.length=ai then qr P f c else qr P f c.full
theorem qr.toC {P:Program} {f:FuncId} {c:cq} (h:qr P f c) (hb:eU c.pre.bs.length c.post.bs.length=ai):aH P f c:=by
 unfold aH;rw[aD hb];exact h
theorem aH.holds {P:Program} {f:FuncId} {c:cq} (h:aH P f c) (hb:eU c.pre.bs.length c.post.bs.length=ai):qr P f c:=by
 unfold aH at h;rw[aD hb]at h;exact h
theorem agm (a b:Ty) (z:(spr a b).den):Vv a b (P1 a b z) (Me a b z)=z:=by cases a<;>cases b<;>rfl
open Classical in
def roM {pre:Tm} {vs:List PV} (m:pre.ty.den->Option (Tm.ty ⟨vs,pre.bs⟩).den) (x:pre.ty.den):Option (Tm.ty ⟨vs,[]⟩).den:=
 obind (m x) λy=>if Me (PV.tyL vs) (PB.tyL pre.bs) y=Me _ _ x then af (Vv (PV.tyL vs) (PB.tyL []) (P1 (PV.tyL vs) (PB.tyL pre.bs) y) ()) else ah
theorem aH.ro {P:Program} {f:FuncId} {pre:Tm} {vs:List PV} {m:pre.ty.den->Option (Tm.ty ⟨vs,pre.bs⟩).den} {m':pre.ty.den->Option (Tm.ty ⟨vs,[]⟩).den} (h:qr P f ⟨pre,⟨vs,pre.bs⟩,m⟩) (hb:eU pre.bs.length 0=aj) (hs:∀x y,m' x=af y->roM m x=af y):aH P f ⟨pre,⟨vs,[]⟩,m'⟩:=by
 unfold aH;rw[aA (by show ¬eU pre.bs.length 0=ai;rw[hb];exact Bool.false_ne_true)];refine ⟨h.callable,λx y hxy=>?_⟩;refine h.calls x y ?_;have hxy:obind (m' x) (λy=>af (Vv (PV.tyL vs) (PB.tyL pre.bs) (P1 (PV.tyL vs) (PB.tyL []) y) (Me _ _ x)))=af y:=hxy;obtain⟨z,M,hzy⟩:=dQ hxy;have h1:=hs x z M;unfold roM at h1;obtain⟨y0,J,h2⟩:=dQ h1;split at h2
 .rename_i heq;have h2:=j6 h2;have hzy:=j6 hzy;subst h2;have I:Vv (PV.tyL vs) (PB.tyL pre.bs) (P1 (PV.tyL vs) (PB.tyL pre.bs) y0) (Me (PV.tyL pre.vs) (PB.tyL pre.bs) x)=y:=(gX (λq=>Vv (PV.tyL vs) (PB.tyL pre.bs) q (Me (PV.tyL pre.vs) (PB.tyL pre.bs) x)) (uf (PV.tyL vs) (PB.tyL []) _ ()).symm).trans hzy;rw[<- heq]at I;have:=(agm (PV.tyL vs) (PB.tyL pre.bs) y0).symm.trans I;exact J.trans (gX af this)
 .cases h2
theorem jw.drop {P:Program} {o:Oper} {e:iZ} {h h':bl} {nx nx':Nat} {v:TV} {rd wr W wr':Nat} (t:jw P o aj e h nx v rd wr h' nx') (hW:∀i,aN W i=ai->bF h' (nm i)=bF h (nm i)/\aN rd i=ai) (M:∀i,aN wr i=ai->aN W i=ai\/aN wr' i=ai):jw P o aj e h nx v rd wr' h' nx':=by
 obtain⟨⟨f,h1,h2,J,h4,h5,Z⟩,r,i,g,st⟩:=t;have hs:∀n,aN W (ow n)=ai->bF h' n=bF h n:=λn hn=>by
  by_cases I:∃i,n=nm i
  .obtain⟨i,rfl⟩:=I;rw[eo]at hn;exact (hW i hn).1
  .rw[xh h I,xh h' I]
 have hup:∀H:HF,(∀n∈f.wr,H n=bF h n)->fd H (f.wr.filter λn=> !(aN W (ow n))) f.nw=fd H f.wr f.nw:=λH Y=>by
  funext n;unfold fd;by_cases hn:n∈f.wr
  .by_cases hb:aN W (ow n)=ai
   .rw[aA (by simp[hb]),aD hn];have:=congrFun J n;unfold fd at this;rw[aD hn,hs n hb]at this;rw[this,Y n hn]
   .rw[aD (by simp[hn,hb]),aD hn]
  .rw[aA (by simp[hn]),aA hn]
 refine ⟨⟨⟨f.val,f.rd++(f.wr.filter λn=>aN W (ow n)),f.wr.filter λn=> !(aN W (ow n)),f.nw,f.N⟩,?_,h2,?_,λn hn=>?_,λn hn=>?_,Z⟩,r,i,g,λhs=>by cases hs⟩
 .intro φ E H w a hrd hwr hops hrep U;have k1:∀i∈f.rd,H i=bF h i:=λi hi=>hrd i (lE _ hi)
  have k2:∀i∈f.wr,H i=bF h i:=λi hi=>by
   cases hb:aN W (ow i) with
   |true=>exact hrd i (n_ _ (by simp[hi,hb]))
   |false=>exact hwr i (by simp[hi,hb])
  have:=h1 φ E H w a k1 k2 hops hrep U;simp only[hup H k2];exact this
 .simp only[hup (bF h) (λ_ _=>rfl)];exact J
 .rcases bY.1 hn with hn|hn
  .exact h4 n hn
  .simp only[xJ]at hn;exact (hW _ hn.2).2
 .simp only[xJ,eJ]at hn;rcases M _ (h5 n hn.1) with hh|hh
  .rw[hn.2]at hh;cases hh
  .exact hh
mutual
theorem acv {n n':Nat} (hle:n<=n'):∀(v:TV),Mn n v=ai->Mn n' v=ai
 |.row id,h=>by simp only[Mn,Nat.blt_eq]at h ⊢;omega
 |.rtl id _,h=>by simp only[Mn,Nat.blt_eq]at h ⊢;omega
 |.pel id _ _ _,h=>by simp only[Mn,Nat.blt_eq]at h ⊢;omega
 |.ptr id _,h=>by simp only[Mn,Nat.blt_eq]at h ⊢;omega
 |.csl id _ _,h=>by simp only[Mn,Nat.blt_eq]at h ⊢;omega
 |.mp id,h=>by simp only[Mn,Nat.blt_eq]at h ⊢;omega
 |.agg l,h=>w9 hle l h
 |.tup l,h=>w9 hle l h
 |.clo _ l,h=>w9 hle l h
 |.f _ _,_=>rfl
 |.fel _ _ _ _ _,_=>rfl
 |.emp,_=>rfl
 |.nil,_=>rfl
 |.undef,_=>rfl
 |.np,_=>rfl
 |.anyb,_=>rfl
theorem w9 {n n':Nat} (hle:n<=n'):∀(l:List TV),r9 n l=ai->r9 n' l=ai
 |[],_=>rfl
 |x::r,h=>by
  simp only[r9,av]at h ⊢;exact⟨acv hle x h.1,w9 hle r h.2⟩
end
theorem NT {g g':Nat->Nat} {h:bl}:∀(bs:List PB) (i:Nat) (x:(PB.tyL bs).den) (m:Nat),IR bs=ai->Bz g h i bs=af (x,m)->∃l,oZ g' bs x=af l/\l.length=bs.length/\∀j,j<bs.length->∃ty p T xs,l[j]? =af (af (.rows ty p T xs))/\h.get (g (i+j))=af (.rows ty p T xs)
 |[],i,x,m,_,hg=>⟨[],rfl,rfl,λj hj=>by simp at hj⟩
 |.rows ty p T::r,i,x,m,I,hg=>by
  simp only[Bz]at hg;split at hg
  .rename_i M m1 h1;split at hg
   .rename_i J m2 h2;simp only[ak,aE]at hg;obtain⟨rfl,rfl⟩:=hg;obtain⟨l,q1,Z,q3⟩:=NT (g:=g) (g':=g') (h:=h) r (i+1) J m2 I h2;simp only[FC]at h1;split at h1
    .rename_i ty' p' S xs hb;split at h1
     .rename_i hc;simp only[av,c8]at hc;obtain⟨rfl,rfl⟩:=hc;split at h1
      .rename_i z hz;simp only[ak]at h1;obtain⟨rfl,_⟩:=h1;obtain⟨es,ez⟩:=jv hz;cases es;subst ez;refine ⟨af (.rows ty p T M)::l,?_,by simp[Z],λj hj=>?_⟩
       .simp only[oZ];rw[uf,vJ,q1];rfl
       .cases j with
        |zero=>exact⟨ty,p,T,_,rfl,hb⟩
        |succ j=>
         obtain⟨a,b,c,d,Y,U⟩:=q3 j (by simpa using hj);exact⟨a,b,c,d,by simpa using Y,by rw[show i+(j+1)=i+1+j from by omega];exact U⟩
      .cases h1
     .cases h1
    .cases h1
   .cases hg
  .cases hg
 |.rowsP _ _::r,i,x,m,I,hg=>by cases I
 |.cells _ _::r,i,x,m,I,hg=>by cases I
 |.mp _ _::r,i,x,m,I,hg=>by cases I
 |.gone::r,i,x,m,I,hg=>by cases I
theorem Gr:∀{bs:List PB},IR bs=ai->Cl bs=ai
 |[],_=>rfl
 |.rows _ _ _::r,h=>Gr (bs:=r) h
 |.rowsP _ _::r,h=>by cases h
 |.cells _ _::r,h=>by cases h
 |.mp _ _::r,h=>by cases h
 |.gone::r,h=>by cases h
theorem Gl {h h2:bl} {g:Nat->Nat}:∀(n:Nat),(∀i,i<n->h2.get (g i)=h.get (g i))->uz h h2 g n=ai
 |0,_=>rfl
 |n+1,hs=>by
  simp only[uz,av];refine ⟨?_,Gl n λi hi=>hs i (by omega)⟩;have:eL h2 (g n)=eL h (g n):=by rw[bX,bX,hs n (by omega)]
  rw[this];cases eL h (g n) with
  |none=>rfl
  |some q=>obtain⟨p,s,k⟩:=q;simp
def L1 (P:Program) (con:FuncId->Option cq):Prop:=∀f c,con f=af c->aH P f c
theorem YG {R:Type} {P:Program} {con:FuncId->Option cq} (hcon:L1 P con) {o:Oper} {e:iZ} {h:bl} {nx:Nat} {f:FuncId} {l:List TV} {K:KO R} {r:R} (hinv:mr h nx) (hk:YH con f l h nx K=af r) {la:List AV} (hla:cU h l=af la)
 (hexec:∀(φ:PM) (E:Nat->Prop) (h':HF) (w:World) (a:Act),EL P f->(∀t,.tmp t∈o.op.operands->∀y,gi e h t=af y->cV φ (tot E φ h') w y (a.tmps.getD t undef))->rH φ E h' w->∃us:ξ,(execOp a.eval o).run P w= .ok (.enter f us.toArray) w/\kf φ (tot E φ h') w la us):k9 P o aj e h nx K r:=by
 unfold YH at hk;split at hk
 .rename_i c hc;have spc:=hcon f c hc;split at hk
  .rename_i x m σ sm hM;split at hk
   .rename_i q hq;obtain⟨vs,hp⟩:=q;obtain⟨l1,I⟩:=xa hq;obtain⟨y,hy,hk⟩:=dQ hk;split at hk
    .rename_i q2 hq2;obtain⟨rs1,Z⟩:=q2;obtain⟨l2,J⟩:=xa hq2;split at hk
     .rename_i hcond;simp only[av]at hcond;have hle:=a_ hcond.1;have sp:=spc.holds hcond.1;simp only at hk;split at hk
      .rename_i rs hrs;have hrs':=hrs;rw[ul,J.pv]at hrs';simp only[cr,ak]at hrs';split at hk
       .rename_i hb;simp only[av]at hb;have hq0:=aw hb.1.2;refine ⟨_,_,_,_,_,hk,?_⟩;rw[<- hrs'];exact ahn hinv sp (wY hM) I hy J (by omega) hq0 hb.2 _ hla λφ E h' w a=>hexec φ E h' w a sp.callable
       .split at hk
        .rename_i h2 U;obtain⟨hsr,hk⟩:=ef hk;refine ⟨_,_,_,_,_,hk,?_⟩;rw[<- hrs'];unfold Ny at U;rw[wO,J.pb]at U;simp only[cr,ak]at U;exact ae8 hinv sp (wY hM) I hcond.2 hy J hle (λi hi=>by
          have:gz i c.pre.bs.length=ai:=bH hi;simp only[this,bI]) (λi hi=>by
          have:gz i c.pre.bs.length=aj:=by
           cases hb:gz i c.pre.bs.length with
           |false=>rfl
           |true=>have:=a_ hb;omega
          simp only[this];rfl) U.symm hsr hla λφ E h' w a=>hexec φ E h' w a sp.callable
        .cases hk
      .cases hk
     .rename_i hcond;split at hk
      .rename_i hro;simp only[av]at hro;have hq0:=aw hro.1;have hng:=Gr hro.2;have sp:qr P f c.full:=by
        unfold aH at spc
        rwa [aA (λhb=>hcond (by rw[hb,hng];rfl))]at spc
       simp only at hk;split at hk
       .rename_i rs hrs;split at hk
        .rename_i h2 U;have hrs':=hrs;rw[ul,J.pv]at hrs';simp only[cr,ak]at hrs';refine ⟨_,_,_,_,_,hk,?_⟩;rw[<- hrs'];have M:=wY hM;unfold Ny at U;rw[wO,I.pb]at U;simp only[cr,ak]at U;have hqe:∀i,Z.get i=ah:=λi=>by
          cases hb:Z.get i with
          |none=>rfl
          |some b=>have:=J.lt_len hb;omega
         have J':rn c.full.post (Vv (PV.tyL c.post.vs) (PB.tyL c.pre.bs) (P1 _ _ y) (Me _ _ x)) rs1 hp l1:=
          ⟨by show qE IB c.post.vs (P1 (PV.tyL c.post.vs) (PB.tyL c.pre.bs) _)=_;rw[uf];exact J.pv,by show oZ IB c.pre.bs (Me (PV.tyL c.post.vs) (PB.tyL c.pre.bs) _)=_;rw[vJ];exact I.pb,I.len,I.at_,jg (λi r hr=>by rw[bX,hqe]at hr;cases hr) _ J.ok,w9 (by omega) _ J.lt,I.cells⟩
         obtain⟨x1,m1,x2,m2,hx,hmm,gv,gb⟩:=M.ex;obtain⟨l,q1,q2,q3⟩:=NT (g':=IB) c.pre.bs 0 x2 m2 hro.2 gb;have hl1:l1=l:=by
          have:=I.pb;rw[hx,vJ,q1]at this;cases this;rfl
         subst hl1;have hgi:∀i,i<c.pre.bs.length->(if gz i c.pre.bs.length then ir σ i else nx+(i-c.pre.bs.length))=ir σ i:=λi hi=>by
          have:gz i c.pre.bs.length=ai:=bH hi;simp only[this,bI]
         have hsame:∀i,i<c.pre.bs.length->h2.get (ir σ i)=h.get (ir σ i):=λi hi=>by
          obtain⟨ty,p,T,xs,w1,Y⟩:=q3 i hi;rw[bR]at Y;have:=vO (λi=>if gz i c.pre.bs.length then ir σ i else nx+(i-c.pre.bs.length)) (l1.map (mc (me (λi=>if gz i c.pre.bs.length then ir σ i else nx+(i-c.pre.bs.length))))) 0 (eM m h) (λa b ha hb e=>by
           simp only[bS,q2]at ha hb;rw[bR,bR,hgi a ha,hgi b hb]at e;exact M.inj a b ha hb e) i (af (.rows ty p T xs)) (by rw[ba,w1];rfl)
          rw[bR,hgi i hi]at this;rw[<- U,this,Y]
         have t:=ae8 (o:=o) (e:=e) hinv sp M I hng (y:=Vv (PV.tyL c.post.vs) (PB.tyL c.pre.bs) (P1 _ _ y) (Me _ _ x)) (by show obind (c.m x) _=_;rw[hy];rfl) J' (bV _) (g:=λi=>if gz i c.pre.bs.length then ir σ i else nx+(i-c.pre.bs.length)) hgi (λi hi=>by
          have:gz i c.pre.bs.length=aj:=by
           cases hb:gz i c.pre.bs.length with
           |false=>rfl
           |true=>have:=a_ hb;have hi:c.pre.bs.length<=i:=hi;omega
          simp only[this];rfl) U.symm (Gl _ λi hi=>by rw[hgi i hi];exact hsame i hi) hla λφ E h' w a=>hexec φ E h' w a sp.callable
         have t':jw P o aj e h nx (Ry (kM (λi=>if gz i c.pre.bs.length then ir σ i else nx+(i-c.pre.bs.length)) rs1)) (sm|||m) (sm|||m|||(((1<<<(c.pre.bs.length-c.pre.bs.length))-1)<<<nx)) h2 (nx+(c.pre.bs.length-c.pre.bs.length)):=t;rw[vE,dD]at t';refine t'.drop (W:=sm) (λi hi=>?_) (λi hi=>?_)
         .refine ⟨?_,by rw[bz,hi];rfl⟩;obtain⟨k,hk,rfl⟩:=(M.sig i).1 hi;obtain⟨ty,p,T,xs,_,Y⟩:=q3 k hk;rw[bR]at Y;rw[bN,bN,hsame k hk,Y];rfl
         .simp only[Nat.shiftLeft_zero,vE,Nat.zero_shiftLeft,Nat.or_zero,bz,jf]at hi;exact hi
        .cases hk
       .cases hk
      .cases hk
    .cases hk
   .cases hk
  .cases hk
 .cases hk
theorem ake {R:Type} {P:Program} {con:FuncId->Option cq} (hcon:L1 P con) {b9:TypeId->Option Ty} {o:Oper} {e:iZ} {h:bl} {nx:Nat} {i:SI} {K:KO R} {r:R} (hinv:mr h nx) (hi:uj e h) (hc:zh P o.op=i) (hk:d_ con b9 i e h nx K=af r):k9 P o i.still e h nx K r:=by
 have callOps:∀(c:Call),o.op= .call c->∀x,x∈c.operands->x∈o.op.operands:=λc I x J=>by rw[I];exact J
 cases i with
 |call f args=>
  simp only[d_]at hk;split at hk
  .rename_i l hl;have I:∃c:Call,o.op= .call c/\c.callee= .value (.func f)/\c.args.toList=args:=by
    unfold zh at hc;split at hc
    .rename_i i hi;subst hc;unfold QK at hi;split at hi
     .rename_i c I;split at hi
      .rename_i g hg;simp only[ak,SI.call.injEq]at hi;exact⟨c,I,by rw[hg,hi.1],hi.2⟩
      .simp at hi
      .cases hi
     .cases hi
    .split at hc<;>cases hc
   obtain⟨c,I,h1,h2⟩:=I;obtain⟨la,Z,Y⟩:=zI hi hl;refine YG hcon hinv hk Y λφ E h' w a hcb hops hrep=>?_
   have hp:Xr φ E h' w a (Km e h) o:=λx y J U=>ug hrep (by rw[vW];exact hops) J U
   refine ⟨args.map a.eval,?_,Qb hp args la (λx J=>callOps c I x (by simp[fc,h1,<-h2]at J ⊢;exact .inr J)) Z⟩;unfold execOp;rw[I];have hm:c.args.map a.eval=(args.map a.eval).toArray:=by rw[<- h2];apply L8;simp
   simp[resolve,h1,Act.eval,Deferred.ofValue,invoke,hm,xO hcb]
  .cases hk
 |callv x args=>
  simp only[d_]at hk;split at hk
  .rename_i f cap l J hl;have I:∃c:Call,o.op= .call c/\c.callee= .value x/\c.args.toList=args:=by
    unfold zh at hc;split at hc
    .rename_i i hi;subst hc;unfold QK at hi;split at hi
     .rename_i c I;split at hi
      .simp at hi
      .rename_i g hg;simp only[ak,SI.callv.injEq]at hi;exact⟨c,I,by rw[hg,hi.1],hi.2⟩
      .cases hi
     .cases hi
    .split at hc<;>cases hc
   obtain⟨c,I,h1,h2⟩:=I;obtain⟨la,Z,Y⟩:=zI hi hl;obtain⟨yx,g3,M⟩:=bP hi J;simp only[cB]at M;split at M
   .rename_i lc hlc;simp only[ak]at M;subst M;refine YG hcon hinv hk (nP Y hlc) λφ E h' w a hcb hops hrep=>?_
    have hp:Xr φ E h' w a (Km e h) o:=λx y J U=>ug hrep (by rw[vW];exact hops) J U
    have hxv:=hp x _ (callOps c I x (by simp[fc,h1])) g3;have hlv:=Qb hp args la (λx J=>callOps c I x (by simp[fc,h1,<-h2]at J ⊢;exact .inr J)) Z;generalize hz:a.eval x=z at hxv;cases hxv with
    |@clo _ _ vs hvl hvr=>
     refine ⟨args.map a.eval++vs,?_,hlv.append (kf.of hvl hvr)⟩;unfold execOp;rw[I];have hm:c.args.map a.eval=(args.map a.eval).toArray:=by rw[<- h2];apply L8;simp
     simp[resolve,h1,hz,Deferred.ofValue,invoke,hm,xO hcb]
   .cases M
  .cases hk
 |op s=>
  have hc:s= .bad\/dA P o.op=af s:=by
   unfold zh at hc;split at hc
   .rename_i i hi;subst hc;unfold QK at hi;split at hi
    .split at hi<;>simp at hi
    .cases hi
   .split at hc
    .rename_i q hq;simp only[SI.op.injEq]at hc;subst hc;exact .inr hq
    .simp only[SI.op.injEq]at hc;exact .inl hc.symm
  rcases hc with rfl|hc
  .simp[d_]at hk
  .exact K_op hinv hi hc hk
def gG (am:Nat) (e e':iZ):Prop:=∀k,aN am k=aj->∀I,e'.get k=af I->∃v,e.get k=af v/\(uP v=ai->I=v)
theorem gG.refl (am:Nat) (e:iZ):gG am e e:=λ_ _ I h=>⟨I,h,λ_=>rfl⟩
theorem gG.trans {am:Nat} {a b c:iZ} (h1:gG am a b) (h2:gG am b c):gG am a c:=λk hk J hv=>by
 obtain⟨I,Z,Y⟩:=h2 k hk J hv;obtain⟨v,U,M⟩:=h1 k hk I Z;refine ⟨v,U,λhf=>?_⟩;have:=M hf;subst this;exact Y hf
theorem gG.mono {am am':Nat} {a b:iZ} (h:gG am a b) (hm:∀k,aN am k=ai->aN am' k=ai):gG am' a b:=λk hk=>h k (by
 cases I:aN am k with
 |false=>rfl
 |true=>rw[hm k I]at hk;cases hk)
structure aet (P:Program) (ops:Array Oper) (rest:List Oper) (sl:List tj) (am:Nat) (s s':TS) (fs:List FPm) (l:List (Oper×B5)):Prop where
 ops_:l.map (·.1)=rest
 chain:AC P ops l (gi s.e s.h) (bF s.h) (gi s'.e s'.h) (bF s'.h)
 fsl:fs.length=l.length
 sll:sl.length=l.length
 fp:∀(j:Nat) o f q,l[j]? =af (o,f)->fs[j]? =af q->(∀n∈f.rd,aN q.rd (ow n)=ai)/\∀n∈f.wr,aN q.wr (ow n)=ai
 still:∀(j:Nat) o f so,l[j]? =af (o,f)->sl[j]? =af so->so.op.still=ai->f.rd=[]/\f.wr=[]
 names:∀(j:Nat) o f,l[j]? =af (o,f)->∀n∈f.N,s.nx<=ow n/\ow n<s'.nx
 apart_:∀(i j:Nat) oi fi oj fj,i<j->l[i]? =af (oi,fi)->l[j]? =af (oj,fj)->∀n∈fi.N,n∉fj.N
 grows:s.nx<=s'.nx
 invH:mr s'.h s'.nx
 invE:uj s'.e s'.h
 keeps:gG am s.e s'.e
theorem ag6 {e:iZ} {h h':bl} (hi:uj e h) (hr:cA h h') (d:Option Nat) {v:TV} {y:AV} (hv:cB h' v=af y):Dh (gi e h) d y=gi (E4 e d v) h':=by
 funext t;have old:(e.get t).bind (cB h)=(e.get t).bind (cB h'):=by
  cases ht:e.get t with
  |none=>rfl
  |some x=>
   obtain⟨z,I⟩:=qG h x (hi t x ht);simp only[aI,I,gO hr x z I]
 cases d with
 |none=>simp only[Dh,E4,gi];rw[aA (by simp)];exact old
 |some d=>
  simp only[Dh,E4,gi,PT.get_set,ak];by_cases hd:d=t
  .subst hd;simp[hv]
  .rw[aA hd,aA (λe=>hd e.symm)];exact old
theorem uj.put {e:iZ} {h h':bl} (hi:uj e h) (hr:cA h h') (d:Option Nat) {v:TV} (hv:Ml h' v=ai):uj (E4 e d v) h':=λt x I=>by
 cases d with
 |none=>exact o6 hr x (hi t x I)
 |some d=>
  simp only[E4,PT.get_set]at I;split at I
  .cases I;exact hv
  .exact o6 hr x (hi t x I)
theorem S1 {e:iZ} {h:bl} {t:Nat} {v:TV} (ht:e.get t=af v):gi (e.set t (af v)) h=gi e h:=by
 funext k;simp only[gi,PT.get_set];by_cases hk:k=t
 .subst hk;simp[ht]
 .rw[aA hk]
theorem uj.set {e:iZ} {h:bl} {t:Nat} {v:TV} (hi:uj e h) (ht:e.get t=af v):uj (e.set t (af v)) h:=λk x I=>by
 rw[PT.get_set]at I;split at I
 .rename_i hk;subst hk;cases I;exact hi _ _ ht
 .exact hi k x I
theorem U3 {R:Type} {e:iZ} {g:Option (Nat×Bool)} {K:Bool->iZ->Option R} {r:R} (h:abp e g K=af r):
 (g=ah/\K ai e=af r)\/(∃t want b,g=af (t,want)/\e.get t=af (.f .bool b)/\K (b==want) (e.set t (af (.f .bool b)))=af r)\/∃t want,g=af (t,want)/\e.get t=af .undef/\K aj e=af r:=by
 unfold abp at h;split at h
 .exact .inl ⟨rfl,h⟩
 .rename_i t want;split at h
  .rename_i b hb;refine .inr (.inl ⟨t,want,b,rfl,hb,?_⟩);cases want with
   |true=>rcases p_ h with ⟨rfl,h⟩|⟨rfl,h⟩<;>exact h
   |false=>rcases p_ h with ⟨rfl,h⟩|⟨rfl,h⟩<;>exact h
  .rename_i hb;exact .inr (.inr ⟨t,want,rfl,hb,h⟩)
  .cases h
theorem Ji {R:Type} {P:Program} {con:FuncId->Option cq} (hcon:L1 P con) {b9:TypeId->Option Ty} {ops:Array Oper} {am:Nat} (ham:∀(j:Nat) (o:Oper) (d:Nat),ops[j]? =af o->o.dst=af d->aN am d=ai):
 ∀(rest:List Oper) (sl:List tj) (s:TS) (fs:List FPm) (K:TS->List FPm->Option R) (r:R),(∀o∈rest,∃j:Nat,ops[j]? =af o)->sL P ops rest=af sl->Mi con b9 sl s fs K=af r->mr s.h s.nx->uj s.e s.h->∃s' fs' l,K s' (fs.reverse++fs')=af r/\aet P ops rest sl am s s' fs' l
 |[],sl,s,fs,K,r,hin,hc,hk,hH,M=>by
  simp only[sL,ak]at hc;subst hc;simp only[Mi]at hk;exact⟨s,[],[],by simpa using hk,rfl,.nil _ _,rfl,rfl,by simp,by simp,by simp,by simp,bV _,hH,M,gG.refl _ _⟩
 |o::rest,sl,s,fs,K,r,hin,hc,hk,hH,M=>by
  simp only[sL]at hc;split at hc
  .rename_i sl' hsl';have hso:∃g,sl=⟨o.dst,zh P o.op,g⟩::sl'/\((g=ah/\o.guard=ah)\/∃j want t,g=af (t,want)/\o.guard=af (j,want)/\(ops[j]?).bind (·.dst)=af t):=by
    split at hc
    .rename_i hg;simp only[ak]at hc;exact⟨ah,hc.symm,.inl ⟨rfl,hg⟩⟩
    .rename_i j want hg;split at hc
     .rename_i t ht;simp only[ak]at hc;exact⟨af (t,want),hc.symm,.inr ⟨j,want,t,rfl,hg,ht⟩⟩
     .cases hc
   obtain⟨g,rfl,hg⟩:=hso;simp only[Mi]at hk;have hdst:∀d,o.dst=af d->aN am d=ai:=λd hd=>by
    obtain⟨j,hj⟩:=hin o (dw ..);exact ham j o d hj hd
   have hgs:∀t want,g=af (t,want)->aN am t=ai:=λt want hgt=>by
    rcases hg with ⟨h1,_⟩|⟨j,want',t',h1,_,I⟩
    .rw[h1]at hgt;cases hgt
    .rw[h1]at hgt;cases hgt;cases hj:ops[j]? with
     |none=>rw[hj]at I;cases I
     |some oj=>rw[hj]at I;exact ham j oj t hj I
   have kput:∀(e:iZ) (v:TV),gG am s.e e->gG am s.e (E4 e o.dst v):=λe v hke k hk v' hv=>by
    cases hd:o.dst with
    |none=>rw[hd]at hv;exact hke k hk v' hv
    |some d=>
     rw[hd]at hv;simp only[E4,PT.get_set]at hv;split at hv
     .rename_i e2;rw[e2,hdst d hd]at hk;cases hk
     .exact hke k hk v' hv
   have done:∀(f:B5) (v:TV) (h':bl) (nx' rd wr:Nat) (e:iZ),gi e s.h=gi s.e s.h->uj e s.h->gG am s.e e->LJ P ops o f (gi s.e s.h) (bF s.h)->(∃y,cB h' v=af y/\f.val=y)->fd (bF s.h) f.wr f.nw=bF h'->(∀n∈f.rd,aN rd (ow n)=ai)->(∀n∈f.wr,aN wr (ow n)=ai)->(∀n∈f.N,s.nx<=ow n/\ow n<nx')->cA s.h h'->mr h' nx'->s.nx<=nx'->((zh P o.op).still=ai->f.rd=[]/\f.wr=[])->
    Mi con b9 sl' ⟨E4 e o.dst v,h',nx'⟩ (⟨rd,wr⟩::fs) K=af r->∃s' fs' l,K s' (fs.reverse++fs')=af r/\aet P ops (o::rest) (⟨o.dst,zh P o.op,g⟩::sl') am s s' fs' l:=by
    intro f v h' nx' rd wr e hee hiE hke hst hval hheap hrd hwr hN hrows hinv' hgr hstill hrun;obtain⟨y,U,hy2⟩:=hval;obtain⟨s',fs',l,J,L⟩:=Ji hcon ham rest sl' _ _ K r (λo' ho'=>hin o' (cM _ ho')) hsl' hrun hinv' (hiE.put hrows o.dst (FI _ _ _ U));have hg2:nx'<=s'.nx:=L.grows;refine ⟨s',⟨rd,wr⟩::fs',(o,f)::l,by simpa using J,by simp[L.ops_],.cons hst ?_,by simp[L.fsl],by simp[L.sll],?_,?_,?_,?_,du hgr hg2,L.invH,L.invE,(kput e v hke).trans L.keeps⟩
    .have e1:Dh (gi s.e s.h) o.dst f.val=gi (E4 e o.dst v) h':=by rw[<- hee,hy2];exact ag6 hiE hrows o.dst U
     rw[e1,hheap];exact L.chain
    .intro j o' f' q' h1 h2;cases j with
     |zero=>simp at h1 h2;obtain⟨rfl,rfl⟩:=h1;subst h2;exact⟨hrd,hwr⟩
     |succ j=>exact L.fp j o' f' q' (by simpa using h1) (by simpa using h2)
    .intro j o' f' so h1 h2 I;cases j with
     |zero=>simp at h1 h2;obtain⟨rfl,rfl⟩:=h1;subst h2;exact hstill I
     |succ j=>exact L.still j o' f' so (by simpa using h1) (by simpa using h2) I
    .intro j o' f' h1 n hn;cases j with
     |zero=>
      simp at h1;obtain⟨rfl,rfl⟩:=h1;have:=hN n hn;exact⟨this.1,by omega⟩
     |succ j=>
      have:=L.names j o' f' (by simpa using h1) n hn;exact⟨du hgr this.1,this.2⟩
    .intro i j oi fi oj fj hij h1 h2 n hn Y;cases j with
     |zero=>omega
     |succ j=>
      have hj:=L.names j oj fj (by simpa using h2) n Y;cases i with
      |zero=>
       simp at h1;obtain⟨rfl,rfl⟩:=h1;have I:=(hN n hn).2;have Z:nx'<=ow n:=hj.1;omega
      |succ i=>exact L.apart_ i j oi fi oj fj (by omega) (by simpa using h1) (by simpa using h2) n hn Y
   have runs:∀(e:iZ),gi e s.h=gi s.e s.h->uj e s.h->gG am s.e e->(∀f,gZ P o (gi s.e s.h) (bF s.h) f->LJ P ops o f (gi s.e s.h) (bF s.h))->d_ con b9 (zh P o.op) e s.h s.nx (λv rd wr h nx=>if Ml h v then Mi con b9 sl' ⟨E4 e o.dst v,h,nx⟩ (⟨rd,wr⟩::fs) K else ah)=af r->∃s' fs' l,K s' (fs.reverse++fs')=af r/\aet P ops (o::rest) (⟨o.dst,zh P o.op,g⟩::sl') am s s' fs' l:=by
    intro e hee hiE hke hstep hk;obtain⟨v,rd,wr,h',nx',J,T⟩:=ake hcon hH hiE rfl hk;simp only[]at J;split at J
    .rename_i hok;obtain⟨f,t1,t2,t3,t4,t5,t6⟩:=T.ex;rw[hee]at t1;obtain⟨y,hy⟩:=qG h' v hok;refine done f v h' nx' rd wr e hee hiE hke (hstep f t1) ⟨y,hy,t2 y hy⟩ t3 t4 t5 t6 T.rows T.inv T.grows (λhs=>?_) J;obtain⟨r0,w0⟩:=T.st hs;subst r0;subst w0;constructor
     .cases hl:f.rd with
      |nil=>rfl
      |cons n q=>have:=t4 n (by rw[hl];simp);simp at this
     .cases hl:f.wr with
      |nil=>rfl
      |cons n q=>have:=t5 n (by rw[hl];simp);simp at this
    .cases J
   have skips:∀(e:iZ),gi e s.h=gi s.e s.h->uj e s.h->gG am s.e e->LJ P ops o sB (gi s.e s.h) (bF s.h)->Mi con b9 sl' ⟨E4 e o.dst .undef,s.h,s.nx⟩ (⟨0,0⟩::fs) K=af r->∃s' fs' l,K s' (fs.reverse++fs')=af r/\aet P ops (o::rest) (⟨o.dst,zh P o.op,g⟩::sl') am s s' fs' l:=by
    intro e hee hiE hke hstep hk;exact done sB .undef s.h s.nx 0 0 e hee hiE hke hstep ⟨_,rfl,rfl⟩ (by funext i;simp[fd,sB]) (by simp[sB]) (by simp[sB]) (by simp[sB]) (cA.refl _) hH (bV _) (λ_=>⟨rfl,rfl⟩) hk
   rcases U3 hk with ⟨h1,hk⟩|⟨t,want,b,h1,hb,hk⟩|⟨t,want,h1,hb,hk⟩
   .refine runs s.e rfl M (gG.refl _ _) (λf hf=>?_) hk;rcases hg with ⟨_,hg⟩|⟨j,want,t,h2,_,_⟩
    .exact .run hg hf
    .rw[h1]at h2;cases h2
   .rcases hg with ⟨h2,_⟩|⟨j,want',t',h2,I,Z⟩
    .rw[h1]at h2;cases h2
    .rw[h1]at h2;cases h2;have hgt:=hgs t want h1;have heb:gi s.e s.h t=af (.f (.raw (.bool b))):=by simp only[gi,hb,aI,cB];rfl
     have hke:gG am s.e (s.e.set t (af (.f .bool b))):=λk hk v' hv=>by
      rw[PT.get_set]at hv;split at hv
      .rename_i ek;rw[ek,hgt]at hk;cases hk
      .exact⟨v',hv,λ_=>rfl⟩
     cases hbw:(b==want) with
     |true=>
      rw[hbw]at hk;have:b=want:=by simpa using hbw
      subst this;exact runs _ (S1 hb) (M.set hb) hke (λf hf=>.runG j t b I Z heb hf) hk
     |false=>
      rw[hbw]at hk;refine skips _ (S1 hb) (M.set hb) hke (.skip j t want I Z (.bool b) heb ?_ rfl) hk;intro hv;cases hv;simp at hbw
   .rcases hg with ⟨h2,_⟩|⟨j,want',t',h2,I,Z⟩
    .rw[h1]at h2;cases h2
    .rw[h1]at h2;cases h2;exact skips _ rfl M (gG.refl _ _) (.skip j t want I Z undef (by simp only[gi,hb,aI,cB]) (by unfold undef;simp) rfl) hk
  .cases hc
theorem agi {P:Program} {ops:Array Oper} {sl:List tj} {am:Nat} {s s':TS} {fs:List FPm} {l:List (Oper×B5)} {prs:List (Nat×Nat)} (hl:aet P ops ops.toList sl am s s' fs l) (hp:Nz ops sl=af prs) (hok:Gn fs prs=ai):NIP ops l:=by
 unfold Nz at hp;simp only[]at hp;split at hp
 .rename_i hall;simp only[gD,lD,av]at hall;simp only[ak]at hp;have hop:∀(j:Nat) o f,l[j]? =af (o,f)->ops[j]? =af o:=λj o f hj=>by
   have h1:(l.map (·.1))[j]? =af o:=by rw[ba,hj];rfl
   rw[hl.ops_]at h1;simpa using h1
  have hsize:∀(j:Nat) o,ops[j]? =af o->j<ops.size:=λj o h=>(cJ.1 h).1
  have hprs:∀i j,(i,j)∈prs->∃a b,fs[i]? =af a/\fs[j]? =af b/\Ei a.wr b.rd=ai/\Ei a.wr b.wr=ai/\Ei b.wr a.rd=ai:=by
   clear hp hall;induction prs with
   |nil=>intro i j h;cases h
   |cons p prs ih=>
    obtain⟨i0,j0⟩:=p;simp only[Gn,av,Yi]at hok;intro i j hm;rcases bp.1 hm with h|h
    .cases h;have h1:=hok.1;split at h1
     .rename_i a b Z hb;simp only[av]at h1;exact⟨a,b,Z,hb,h1.1.1,h1.1.2,h1.2⟩
     .cases h1
    .exact ih hok.2 i j h
  refine ⟨λj o ho e he hb=>?_,λi j oi fi oj fj hij hi hj=>?_,hl.apart_⟩
  .have:=(hall j (hsize j o ho)).1;rw[ho]at this;simp only[Option.all_some,gD]at this;have:=this e (by simpa using he);simp[hb]at this;exact this
  .have h1:=hop i oi fi hi;have h2:=hop j oj fj hj;have hcase:=(hall j (hsize j oj h2)).2 i hij;rw[h1,h2]at hcase;simp only[jf]at hcase;by_cases M:aN ((Ly ops.toList []).getD j 0) i=ai
   .left;rw[ay]at M;cases I:(Ly ops.toList [])[j]? with
    |none=>rw[I]at M;simp at M
    |some B=>
     rw[I]at M;exact Oz (ops:=ops) ops.toList [] (λj o hj=>by simpa using hj) (λj B hj=>by simp at hj) j B I i (by simpa using M)
   .right;have hap:=hcase.resolve_left M;refine ⟨hap,?_⟩;have hil:i<l.length:=(bn.1 hi).1;have hjl:j<l.length:=(bn.1 hj).1;have hsi:=aB (show i<sl.length by rw[hl.sll];exact hil);have hsj:=aB (show j<sl.length by rw[hl.sll];exact hjl);by_cases hst:(sl[i]'(by rw[hl.sll];exact hil)).op.still=ai
    .obtain⟨Y,U⟩:=hl.still i oi fi _ hi hsi hst;rw[Y,U];exact⟨(λx I=>by cases I),(λx _ I=>by cases I)⟩
    .by_cases hst2:(sl[j]'(by rw[hl.sll];exact hjl)).op.still=ai
     .obtain⟨Y,U⟩:=hl.still j oj fj _ hj hsj hst2;rw[Y,U];exact⟨(λx I=>⟨(by simp),(by simp)⟩),(λx I=>by cases I)⟩
     .have hmem:(i,j)∈prs:=by
       rw[<- hp,vF];refine ⟨j,lD.2 (hsize j oj h2),?_⟩;rw[List.mem_filterMap];refine ⟨i,lD.2 hij,?_⟩;rw[aA];rw[hsi,hsj];simp only[jf,not_or];exact⟨M,hst,hst2⟩
      obtain⟨a,b,Z,hb,d1,d2,d3⟩:=hprs i j hmem;obtain⟨f1,f2⟩:=hl.fp i oi fi a hi Z;obtain⟨g1,g2⟩:=hl.fp j oj fj b hj hb;refine ⟨λx I=>⟨λJ=>?_,λJ=>?_⟩,λx I J=>?_⟩
      .have:=yw d1 (ow x) (f2 x I);rw[g1 x J]at this;cases this
      .have:=yw d2 (ow x) (f2 x I);rw[g2 x J]at this;cases this
      .have:=yw d3 (ow x) (g2 x I);rw[f1 x J]at this;cases this
 .cases hp
structure pi (P:Program) (E:Nat->Prop) (nt np:Nat) (φ:PM) (s:TS) (a:Act) (w:World):Prop where
 rep:rH φ E (bF s.h) w
 env:OJ φ (tot E φ (bF s.h)) w (gi s.e s.h) a
 dom:∀n k,φ n=af k->ow n<s.nx
 low:np<=s.nx
 invH:mr s.h s.nx
 invE:uj s.e s.h
 inert:∀d∈a.defers,afb P d
 size:a.tmps.size=nt
structure CZ (np:Nat) (φ φ':PM) (H H':HF) (w w':World):Prop where
 ext:LX (own φ H) w w'
 own_:∀k,k<w.heap.size->own φ' H' k->own φ H k
 par:∀i,i<np->φ' (nm i)=φ (nm i)
theorem CZ.refl (np:Nat) (φ:PM) (H:HF) (w:World):CZ np φ φ H H w w:=⟨LX.refl _ _,λ_ _ h=>h,λ_ _=>rfl⟩
theorem CZ.trans {np:Nat} {φ φ' φ'':PM} {H H' H'':HF} {w w' w'':World} (a:CZ np φ φ' H H' w w') (b:CZ np φ' φ'' H' H'' w' w''):CZ np φ φ'' H H'' w w'' where
 ext:=⟨b.ext.os.trans a.ext.os,b.ext.tape.trans a.ext.tape,b.ext.output.trans a.ext.output,du a.ext.size b.ext.size,
  λk hk I=>(b.ext.blk k (dH hk a.ext.size) (λh=>I (a.own_ k hk h))).trans (a.ext.blk k hk I),
  λk hk=>(b.ext.shp k (dH hk a.ext.size)).trans (a.ext.shp k hk)⟩
 own_:=λk hk h=>a.own_ k hk (b.own_ k (dH hk a.ext.size) h)
 par:=λi hi=>(b.par i hi).trans (a.par i hi)
theorem ac8 {R:Type} {P:Program} {E:Nat->Prop} {nt np:Nat} {φ:PM} {s:TS} {a:Act} {w:World} {con:FuncId->Option cq} {b9:TypeId->Option Ty} (hm:P.follows .mixedOrders=ai) (hcon:L1 P con) (c:pi P E nt np φ s a w) {id:Nat} {ops:Array Oper} {draw:Bool} {sl:List tj} {prs:List (Nat×Nat)} {am:Nat} (ham:∀(j:Nat) (o:Oper) (d:Nat),ops[j]? =af o->o.dst=af d->aN am d=ai)
 (hd:(ops.toList.all λo=>match o.dst with|some d=>decide (d<nt)|none=>ai)=ai) (hc:sL P ops ops.toList=af sl) (hp:Nz ops sl=af prs) {K:TS->Option R} {r:R} (hr:Mi con b9 sl s [] (λs' fs=>if Gn fs prs then K s' else ah)=af r) {Q:Exit->Act->World->Prop}
 (hQ:∀a' w' s' φ',K s'=af r->pi P E nt np φ' s' a' w'->CZ np φ φ' (bF s.h) (bF s'.h) w w'->gG am s.e s'.e->Q .normal a' w'):(Code.region id ops draw).wp P Q a w:=by
 obtain⟨s',fs',l,J,L⟩:=Ji hcon ham ops.toList sl s [] _ r (λo U=>by
  obtain⟨j,hj⟩:=fx U;exact⟨j,by simpa using hj⟩) hc hr c.invH c.invE
 have J:(if Gn fs' prs then K s' else ah)=af r:=J;by_cases hok:Gn fs' prs=ai
 .rw[aD hok]at J;refine RA (φ0:=φ) (E:=E) hm L.ops_ L.chain (agi L hp hok) ?_ ?_ c.rep c.env ?_
  .intro n hn;obtain⟨p,I,hn⟩:=vF.1 hn;obtain⟨j,hj⟩:=fx I;have:=L.names j p.1 p.2 hj n hn;cases M:φ n with
   |none=>rfl
   |some k=>have:=c.dom n k M;omega
  .intro j o U d Y;have:=gD.1 hd o (by have:=Array.mem_of_getElem? U;simpa using this);rw[Y]at this;rw[c.size];simpa using this
  .rintro a' w' ⟨φ',m',d',Z,en',df',sz'⟩;have hnm:∀n k,φ' n=af k->φ n=af k\/(s.nx<=ow n/\ow n<s'.nx):=λn k hik=>by
    rcases d' n k hik with h|h
    .exact .inl h
    .obtain⟨p,I,hn⟩:=vF.1 h;obtain⟨j,hj⟩:=fx I;exact .inr (L.names j p.1 p.2 hj n hn)
   have hg:=L.grows;have hlow:=c.low;refine hQ a' w' s' φ' J ⟨Z,en',λn k hik=>?_,by omega,L.invH,L.invE,by rw[df'];exact c.inert,by rw[sz'];exact c.size⟩ ⟨m'.ext,m'.own_,λi hi=>?_⟩ L.keeps
   .rcases hnm n k hik with h|h
    .have:=c.dom n k h;omega
    .exact h.2
   .cases M:φ (nm i) with
    |some k=>exact m'.sub _ _ M
    |none=>
     cases hy:φ' (nm i) with
     |none=>rfl
     |some k=>
      rcases hnm (nm i) k hy with h|h
      .rw[M]at h;cases h
      .rw[eo]at h;omega
 .rw[aA hok]at J;cases J
theorem Ay:∀(l:List tj) (acc:Nat),QN l acc=acc|||QN l 0
 |[],acc=>by simp[QN]
 |o::r,acc=>by
  simp only[QN];cases o.dst with
  |none=>exact Ay r acc
  |some d=>simp only[];rw[Ay r (acc|||kZ d),Ay r (0|||kZ d),zl,kQ]
theorem AO:∀(l:ι) (acc:Nat),Mo l acc=acc|||Mo l 0
 |[],acc=>by simp[Mo]
 |k::r,acc=>by simp only[Mo];rw[AO r (acc|||kZ k),AO r (0|||kZ k),zl,kQ]
theorem mq:∀(l:List Adj) (acc:Nat),oV l acc=acc|||oV l 0
 |[],acc=>by simp[oV]
 |.nil k _ _::r,acc=>by simp only[oV];rw[mq r (acc|||kZ k),mq r (0|||kZ k),zl,kQ]
 |.cel _ _ _ _::r,acc=>by simp only[oV];exact mq r acc
 |.mpt _ _ _::r,acc=>by simp only[oV];exact mq r acc
 |.ren k _::r,acc=>by simp only[oV];rw[mq r (acc|||kZ k),mq r (0|||kZ k),zl,kQ]
 |.pk _ _ _::r,acc=>by simp only[oV];exact mq r acc
theorem iN:∀(c:TC) (acc:Nat),c.asg acc=acc|||c.asg 0
 |.reg ops _,acc=>Ay ops acc
 |.seq a b,acc=>by simp only[TC.asg];rw[iN b (a.asg acc),iN b (a.asg 0),iN a acc,kQ]
 |.jseq A a b,acc=>by simp only[TC.asg];rw[iN b (a.asg _),iN b (a.asg (Mo A.ks 0)),iN a (Mo A.ks acc),iN a (Mo A.ks 0),AO A.ks acc,kQ,kQ,kQ]
 |.cond _ a b,acc=>by simp only[TC.asg];rw[iN b (a.asg acc),iN b (a.asg 0),iN a acc,kQ]
 |.block _ b,acc=>iN b acc
 |.jblock A _ b,acc=>by simp only[TC.asg];rw[iN b (Mo A.ks acc),iN b (Mo A.ks 0),AO A.ks acc,kQ]
 |.loop A b,acc=>by simp only[TC.asg];rw[iN b (Mo A.ks acc),iN b (Mo A.ks 0),AO A.ks acc,kQ]
 |.defer _ _ t,acc=>by simp[TC.asg]
 |.adj l c,acc=>by simp only[TC.asg];rw[iN c (oV l acc),iN c (oV l 0),mq l acc,kQ]
 |.split _ _ _ _ c,acc=>iN c acc
 |.unl _ b,acc=>iN b acc
 |.skip,acc=>by simp[TC.asg]
 |.exit _,acc=>by simp[TC.asg]
 |.ret,acc=>by simp[TC.asg]
 |.bad,acc=>by simp[TC.asg]
theorem v_ {c:TC} {acc k:Nat} (h:aN (c.asg 0) k=ai):aN (c.asg acc) k=ai:=by rw[iN,bz,h];simp
theorem kC {c:TC} {acc k:Nat} (h:aN acc k=ai):aN (c.asg acc) k=ai:=by rw[iN,bz,h];rfl
theorem X9:∀{l:ι} {acc k:Nat},k∈l->aN (Mo l acc) k=ai
 |[],_,_,h=>by cases h
 |x::r,acc,k,h=>by
  simp only[Mo];rcases bp.1 h with rfl|h
  .rw[AO,bz,bz,ca.2 rfl];simp
  .exact X9 h
theorem Uk:∀{l:List tj} {acc:Nat} {o:tj} {d:Nat},o∈l->o.dst=af d->aN (QN l acc) d=ai
 |[],_,_,_,h,_=>by cases h
 |x::r,acc,o,d,h,hd=>by
  simp only[QN];rcases bp.1 h with rfl|h
  .rw[hd];simp only[];rw[Ay,bz,bz,ca.2 rfl];simp
  .exact Uk h hd
theorem Yg:∀{e:iZ} {ks:ι} {vs:List TV},oD e ks=af vs->vs.length=ks.length/\∀(j k:Nat),ks[j]? =af k->∃v,vs[j]? =af v/\e.get k=af v
 |e,[],vs,h=>by simp only[oD,ak]at h;subst h;exact⟨rfl,by simp⟩
 |e,k::r,vs,h=>by
  simp only[oD]at h;split at h
  .rename_i v hv;split at h
   .rename_i l hl;simp only[ak]at h;subst h;obtain⟨h1,h2⟩:=Yg hl;refine ⟨by simp[h1],λj k' hj=>?_⟩;cases j with
    |zero=>simp at hj;subst hj;exact⟨v,rfl,hv⟩
    |succ j=>simpa using h2 j k' (by simpa using hj)
   .cases h
  .cases h
theorem Jl {e:iZ} {h:bl} (hi:uj e h):∀{ks:ι} {vs:List TV},oD e ks=af vs->lh h vs=ai
 |[],vs,hg=>by simp only[oD,ak]at hg;subst hg;rfl
 |k::r,vs,hg=>by
  simp only[oD]at hg;split at hg
  .rename_i v hv;split at hg
   .rename_i l hl;simp only[ak]at hg;subst hg;simp only[lh,av];exact⟨hi k v hv,Jl hi hl⟩
   .cases hg
  .cases hg
theorem C_:∀{e:iZ} {ks:ι} {vs:List TV},vs.length=ks.length->∀t v,(Y7 e ks vs).get t=af v->(∃j:Nat,ks[j]? =af t/\vs[j]? =af v)\/(t∉ks/\e.get t=af v)
 |e,[],[],_,t,v,h=>.inr ⟨by simp,h⟩
 |e,[],_::_,hl,t,v,h=>by simp at hl
 |e,_::_,[],hl,t,v,h=>by simp at hl
 |e,k::r,u::l,hl,t,v,h=>by
  simp only[Y7,PT.get_set]at h;split at h
  .rename_i I;subst I;cases h;exact .inl ⟨0,rfl,rfl⟩
  .rename_i I;rcases C_ (by simpa using hl) t v h with ⟨j,h1,h2⟩|⟨h1,h2⟩
   .exact .inl ⟨j+1,by simpa using h1,by simpa using h2⟩
   .exact .inr ⟨by simp[I,h1],h2⟩
theorem ur {am:Nat} {e:iZ}:∀{ks:ι} {k:Nat} {v:TV},(Dx am e ks).get k=af v->k∈ks/\e.get k=af v/\uP v=ai/\aN am k=aj
 |[],k,v,h=>by simp[Dx,PT.get]at h
 |x::r,k,v,h=>by
  simp only[Dx]at h;split at h
  .rename_i u hu;split at h
   .rename_i hc;simp only[av,eJ]at hc;rw[PT.get_set]at h;split at h
    .rename_i I;subst I;cases h;exact⟨by simp,hu,hc.1,hc.2⟩
    .obtain⟨h1,h2⟩:=ur h;exact⟨by simp[h1],h2⟩
   .obtain⟨h1,h2⟩:=ur h;exact⟨by simp[h1],h2⟩
  .obtain⟨h1,h2⟩:=ur h;exact⟨by simp[h1],h2⟩
theorem JE {am:Nat} {e0 e:iZ}:∀{ks:ι},IA am e0 e ks=ai->∀k v,k∈ks->e0.get k=af v->uP v=ai->aN am k=aj->∃J,e.get k=af J
 |[],_,k,v,h,_,_,_=>by cases h
 |x::r,hc,k,v,h,hv,hf,I=>by
  simp only[IA,av]at hc;rcases bp.1 h with rfl|h
  .have h1:=hc.1;rw[hv]at h1;simp only[hf,I,Bool.not_true,Bool.false_or]at h1;cases M:e.get k with
   |none=>rw[M]at h1;cases h1
   |some u=>exact⟨u,rfl⟩
  .exact JE hc.2 k v h hv hf I
section walk
variable {P:Program} {E:Nat->Prop} {nt np:Nat}
theorem SX {h:bl} {v:TV} {y:AV} (hn:agq v=ai) (I:cB h v=af y):Le y .emp:=by
 cases v with
 |nil=>simp only[cB,ak]at I;subst I;exact Le.nilEmp
 |emp=>simp only[cB,ak]at I;subst I;exact Le.refl _
 |_=>cases hn
theorem YR {φ:PM} {s:TS} {a:Act} {w:World} (c:pi P E nt np φ s a w) (ty:TypeId) (T:Ty):pi P E nt np φ ⟨s.e,s.h.set s.nx (af (.rows ty ai T [])),s.nx+1⟩ a w/\bF (s.h.set s.nx (af (.rows ty ai T [])))=bF s.h/\cA s.h (s.h.set s.nx (af (.rows ty ai T []))):=by
 have hfr:=c.invH.fresh;have hr:cA s.h (s.h.set s.nx (af (.rows ty ai T []))):=cA.set λr hr=>by rw[bX,hfr]at hr;cases hr
 have J:bF (s.h.set s.nx (af (.rows ty ai T [])))=bF s.h:=by
  funext n;by_cases hn:n=nm s.nx
  .subst hn;rw[bN,bN,PT.get_set,aD rfl,hfr];rfl
  .refine kY c.invH hr λi e=>?_
   subst e;rw[PT.get_set,aA (λe=>hn (by rw[e]))]
 refine ⟨⟨by rw[J];exact c.rep,?_,λn k hk=>AE (c.dom n k hk),iH c.low,c.invH.set hr (rx _) (Nat.le_succ _) (λ_ _ he=>by cases he),?_,c.inert,c.size⟩,J,hr⟩
 .intro t x I;rw[J];simp only[gi]at I;cases he:s.e.get t with
  |none=>rw[he]at I;cases I
  |some q=>
   rw[he]at I;obtain⟨z,M⟩:=qG s.h q (c.invE t q he);simp only[aI,gO hr q z M,ak]at I;subst I;exact c.env t _ (by simp only[gi,he,aI,M])
 .intro t x I;exact o6 hr x (c.invE t x I)
theorem zK {h:bl}:∀{a b:List TV},lh h a=ai->lh h b=ai->lh h (a++b)=ai
 |[],_,_,hb=>hb
 |x::r,b,I,hb=>by
  simp only[lh,av]at I;simp only[gC,lh,av];exact⟨I.1,zK I.2 hb⟩
theorem NA {h:bl}:∀{a:List TV} (n:Nat),lh h a=ai->lh h (a.take n)=ai
 |[],n,_=>by simp[lh]
 |x::r,0,_=>rfl
 |x::r,n+1,I=>by
  simp only[lh,av]at I;simp only[wG,lh,av];exact⟨I.1,NA n I.2⟩
theorem NC {h:bl}:∀{a:List TV} (n:Nat),lh h a=ai->lh h (a.drop n)=ai
 |[],n,_=>by simp[lh]
 |x::r,0,I=>I
 |x::r,n+1,I=>by
  simp only[lh,av]at I;simp only[wH];exact NC n I.2
theorem zE {α:Type} {l:List α} {j:Nat} {x:α} (h:l[j]? =af x):splice l j [x]=l:=by
 have hl:j<l.length:=by
  rcases ci j l.length with h'|h'
  .exact h'
  .rw[bT h']at h;cases h
 rw[aB hl,ak]at h;unfold splice;subst h;simp
theorem aek {φ:PM} {s:TS} {a:Act} {w:World} (c:pi P E nt np φ s a w) {id cty j:Nat} {l:List TV} {v u:TV} (hb:s.h.get id=af (.cells cty l)) (hv:l[j]? =af v) (hn:agq v=ai) (hu:cB s.h u=af .emp) (huo:Ml s.h u=ai):
 pi P E nt np φ ⟨s.e,s.h.set id (af (.cells cty (splice l j [u]))),s.nx⟩ a w/\CZ np φ φ (bF s.h) (bF (s.h.set id (af (.cells cty (splice l j [u]))))) w w:=by
 have hr:cA s.h (s.h.set id (af (.cells cty (splice l j [u])))):=cA.set λr hr=>by rw[bX,hb]at hr;cases hr
 have hlo:=c.invH.cells id cty l hb;obtain⟨J,M⟩:=fI s.h l hlo;have hsp:cU s.h (splice l j [u])=af (splice J j [.emp]):=s7 j M (by simp only[cU,hu]);have hsp':cU (s.h.set id (af (.cells cty (splice l j [u])))) (splice l j [u])=af (splice J j [.emp]):=ic hr _ _ hsp;obtain⟨y,hy,hey⟩:=mn M j v hv;have hold:bF s.h (nm id)=af ⟨cty,.mx J⟩:=by rw[bN,hb];simp only[aI,kN,M]
 have hnew:bF (s.h.set id (af (.cells cty (splice l j [u])))) (nm id)=af ⟨cty,.mx (splice J j [.emp])⟩:=by
  rw[bN,PT.get_set,aD rfl];simp only[aI,kN,hsp']
 have hoth:∀n,n≠nm id->bF (s.h.set id (af (.cells cty (splice l j [u])))) n=bF s.h n:=λn Y=>by
  refine kY c.invH hr λi e=>?_
  subst e;rw[PT.get_set,aA (λe=>Y (by rw[e]))]
 have hdom:wa (bF s.h) (bF (s.h.set id (af (.cells cty (splice l j [u]))))):=λn b U=>by
  by_cases e:n=nm id
  .subst e;exact⟨_,hold⟩
  .rw[hoth n e]at U;exact⟨b,U⟩
 have hcell:∀x∈J,x.isCell=ai:=λx I=>by
  obtain⟨k,hk⟩:=fx I;obtain⟨q,_,_,hat⟩:=c.rep.at_ _ _ hold;unfold Y0 at hat;obtain⟨ob,_,hob⟩:=hat;rw[qe rfl]at hob;obtain⟨arr,_,hca⟩:=hob;exact (hca.2 k x hk).1
 have hV:LI (bF s.h) (bF (s.h.set id (af (.cells cty (splice l j [u]))))):=⟨hdom,λn b b' h1 h2=>by
  by_cases e:n=nm id
  .subst e;rw[hold]at h1;cases h1;rw[hnew]at h2;cases h2;refine kh.cells rfl rfl ?_ λx I=>?_
   .show iu _ _ J (splice J j [.emp]);have:=iu.splice j (iu.refl hdom J) (b:=[y]) (b':=[.emp]) ⟨(SX hn hey).toH hdom,trivial⟩;rw[zE hy]at this;exact this
   .have I:x∈splice J j [.emp]:=I;unfold splice at I;rw[bY,bY,aL]at I;rcases I with (I|I)|I
    .exact hcell x (gj I)
    .subst I;rfl
    .exact hcell x (List.mem_of_mem_drop I)
  .rw[hoth n e,h1]at h2;cases h2;exact kh.refl hdom b⟩
 refine ⟨⟨hV.rep c.rep,?_,c.dom,c.low,c.invH.set hr (c.invH.low id _ hb) (bV _) (λty l2 he=>?_),?_,c.inert,c.size⟩,⟨LX.refl _ _,λk _ ho=>hdom.own ho,λ_ _=>rfl⟩⟩
 .intro t x I;simp only[gi]at I;cases he:s.e.get t with
  |none=>rw[he]at I;cases I
  |some q=>
   rw[he]at I;obtain⟨z,Z⟩:=qG s.h q (c.invE t q he);simp only[aI,gO hr q z Z,ak]at I;subst I;exact (c.env t _ (by simp only[gi,he,aI,Z])).dom hdom
 .simp only[iE.cells.injEq]at he;obtain⟨_,rfl⟩:=he;refine jg hr _ ?_;unfold splice;exact zK (zK (NA _ hlo) (by simp only[lh,huo,iW])) (NC _ hlo)
 .intro t x I;exact o6 hr x (c.invE t x I)
theorem pi.congr {φ:PM} {s s':TS} {a:Act} {w:World} (c:pi P E nt np φ s a w) (he:∀t,s'.e.get t=s.e.get t) (hh:∀i,s'.h.get i=s.h.get i) (hn:s'.nx=s.nx):pi P E nt np φ s' a w/\bF s'.h=bF s.h:=by
 have hr:cA s.h s'.h:=λi r hi=>by rw[bX]at hi ⊢;rw[hh];exact hi
 have J:bF s'.h=bF s.h:=by funext n;exact kY c.invH hr λi _=>hh i
 refine ⟨⟨by rw[J];exact c.rep,?_,by rw[hn];exact c.dom,by rw[hn];exact c.low,⟨λi ty l hg=>?_,λi b hg=>?_⟩,λt v hv=>?_,c.inert,c.size⟩,J⟩
 .intro t x I;rw[J];simp only[gi,he]at I;cases hg:s.e.get t with
  |none=>rw[hg]at I;cases I
  |some v=>
   rw[hg]at I;obtain⟨z,M⟩:=qG s.h v (c.invE t v hg);simp only[aI,gO hr v z M,ak]at I;subst I;exact c.env t _ (by simp only[gi,hg,aI,M])
 .rw[hh]at hg;exact jg hr l (c.invH.cells i ty l hg)
 .rw[hh]at hg;rw[hn];exact c.invH.low i b hg
 .rw[he]at hv;exact o6 hr v (c.invE t v hv)
theorem Rp {R:Type} {v:Int} {f:Nat->Option R} {r:R}:∀{m i:Nat},spl v f i m=af r->∃j,v=aP j/\f j=af r
 |0,i,h=>by cases h
 |m+1,i,h=>by
  simp only[spl]at h;rcases p_ h with ⟨h1,h2⟩|⟨_,h2⟩
  .exact⟨i,bi h1,h2⟩
  .exact Rp h2
theorem ac4 {φ:PM} {s s':TS} {a:Act} {w:World} (c:pi P E nt np φ s a w) {k off:Nat} {kd:IntKind} {v:Int} (h1:ad3 s k off=af (kd,v)) (h2:Vd s k off kd v=af s'):pi P E nt np φ s' a w/\bF s'.h=bF s.h/\∀t,s'.e.get t=s.e.get t:=by
 unfold ad3 at h1;unfold Vd at h2;cases hk:s.e.get k with
 |none=>rw[hk]at h1;cases h1
 |some x=>
  rw[hk]at h1 h2;cases x with
  |f T q=>
   cases T with
   |int kd'=>
    simp only[ak,aE]at h1;obtain⟨rfl,rfl⟩:=h1;simp only[ak]at h2;subst h2;have he:∀t,(s.e.set k (af (.f (.int kd') q))).get t=s.e.get t:=λt=>by
     rw[PT.get_set];split
     .rename_i e;subst e;exact hk.symm
     .rfl
    obtain⟨J,I⟩:=c.congr (s':=⟨s.e.set k (af (.f (.int kd') q)),s.h,s.nx⟩) he (λ_=>rfl) rfl;exact⟨J,I,he⟩
   |_=>cases h1
  |ptr a0 o0=>
   simp only[]at h1 h2;cases hb:s.h.get a0 with
   |none=>rw[hb]at h1;cases h1
   |some b=>
    rw[hb]at h1 h2;cases b with
    |cells ty l=>
     simp only[]at h1 h2;cases hl:l[o0+off]? with
     |none=>rw[hl]at h1;cases h1
     |some y=>
      rw[hl]at h1;cases y with
      |f T q=>
       cases T with
       |int kd'=>
        simp only[ak,aE]at h1;obtain⟨rfl,rfl⟩:=h1;simp only[ak]at h2;subst h2;have hh:∀i,(s.h.set a0 (af (.cells ty (splice l (o0+off) [.f (.int kd') q])))).get i=s.h.get i:=λi=>by
         rw[PT.get_set];split
         .rename_i e;subst e;rw[hb,zE hl]
         .rfl
        obtain⟨J,I⟩:=c.congr (s':=⟨s.e,s.h.set a0 (af (.cells ty (splice l (o0+off) [.f (.int kd') q]))),s.nx⟩) (λ_=>rfl) hh rfl;exact⟨J,I,λ_=>rfl⟩
       |_=>cases h1
      |_=>cases h1
    |_=>cases h1
  |_=>cases h1
mutual
theorem Ns (id sz n:Nat):∀v:TV,uP v=ai->Md id sz n v=v
 |.f _ _,_=>rfl
 |.fel _ _ _ _ _,_=>rfl
 |.emp,_=>rfl
 |.nil,_=>rfl
 |.undef,_=>rfl
 |.np,_=>rfl
 |.anyb,_=>rfl
 |.agg l,h=>by simp only[Md];rw[Cb id sz n l h]
 |.tup l,h=>by simp only[Md];rw[Cb id sz n l h]
 |.pel _ _ _ _,h=>by cases h
 |.ptr _ _,h=>by cases h
 |.csl _ _ _,h=>by cases h
 |.row _,h=>by cases h
 |.rtl _ _,h=>by cases h
 |.mp _,h=>by cases h
 |.clo _ _,h=>by cases h
theorem Cb (id sz n:Nat):∀l:List TV,qW l=ai->C7 id sz n l=l
 |[],_=>rfl
 |x::r,h=>by
  simp only[qW,av]at h;simp only[C7];rw[Ns id sz n x h.1,Cb id sz n r h.2]
end
section subs
variable {id sz n:Nat} {h h':bl}
mutual
theorem OZ (hr:cA h h') (hid:eL h' id=af (aj,sz,n)):∀(v:TV) (y:AV),cB h v=af y->cB h' (Md id sz n v)=af y
 |.csl i s m,y,he=>by
  simp only[cB,ak]at he;subst he;simp only[Md];split
  .rename_i hq;simp only[av]at hq;have e1:=aw hq.1.1;have e2:=aw hq.1.2;have e3:=aw hq.2;subst e1;subst e2;subst e3;simp only[cB,hid,fK,nV,cG,ey]
  .rfl
 |.agg l,y,he=>by
  simp only[cB]at he;cases hl:cU h l with
  |none=>rw[hl]at he;cases he
  |some l'=>rw[hl]at he;simp only[Md,cB,wM hr hid l l' hl];exact he
 |.tup l,y,he=>by
  simp only[cB]at he;cases hl:cU h l with
  |none=>rw[hl]at he;cases he
  |some l'=>rw[hl]at he;simp only[Md,cB,wM hr hid l l' hl];exact he
 |.clo g l,y,he=>by
  simp only[cB]at he;cases hl:cU h l with
  |none=>rw[hl]at he;cases he
  |some l'=>rw[hl]at he;simp only[Md,cB,wM hr hid l l' hl];exact he
 |.f T v,y,he=>gO hr _ _ he
 |.fel T xs j hj off,y,he=>gO hr _ _ he
 |.pel _ _ _ _,y,he=>gO hr _ _ he
 |.ptr _ _,y,he=>gO hr _ _ he
 |.row _,y,he=>gO hr _ _ he
 |.rtl _ _,y,he=>gO hr _ _ he
 |.emp,y,he=>gO hr _ _ he
 |.nil,y,he=>gO hr _ _ he
 |.mp _,y,he=>gO hr _ _ he
 |.undef,y,he=>gO hr _ _ he
 |.np,y,he=>gO hr _ _ he
 |.anyb,y,he=>gO hr _ _ he
theorem wM (hr:cA h h') (hid:eL h' id=af (aj,sz,n)):∀(l:List TV) (l':List AV),cU h l=af l'->cU h' (C7 id sz n l)=af l'
 |[],l',he=>by simp only[cU,ak]at he;subst he;rfl
 |x::r,l',he=>by
  obtain⟨y,l2,rfl,h1,h2⟩:=db he;simp only[C7];exact px (OZ hr hid x y h1) (wM hr hid r l2 h2)
end
end subs
theorem ao1 {φ:PM} {s:TS} {a:Act} {w:World} (c:pi P E nt np φ s a w) {T:Ty} {id sz n:Nat} {s':TS} (hp:pkS s T id sz n=af s'):pi P E nt np φ s' a w/\CZ np φ φ (bF s.h) (bF s'.h) w w/\gG 0 s.e s'.e:=by
 unfold pkS at hp;split at hp
 .rename_i ty l hb;split at hp
  .rename_i hs;have hs:=aw hs;subst hs;split at hp
   .rename_i xs m hpk;split at hp
    .cases hp
    .rename_i hmid;simp only[ak]at hp;subst hp;have hm:dY s.h m:=O_ n l xs m hpk;obtain⟨l',hl⟩:=fI s.h l (c.invH.cells id ty l hb);have hidlt:=c.invH.low id _ hb;have oD:∀i,((PT.updI (λ_ b=>Y5 id T.size n b) 1 0 (eM m s.h)).set id (af (.rows ty aj T xs))).get i=if i=id then af (.rows ty aj T xs) else if aN m i then (s.h.get i).map vP else (s.h.get i).map (Y5 id T.size n):=λi=>by
      rw[PT.get_set];by_cases e:i=id
      .rw[aD e,aD e]
      .rw[aA e,aA e,PT.get_updI,jk];split
       .cases hg:s.h.get i with
        |none=>rfl
        |some b=>cases b<;>rfl
       .rfl
     generalize hH2:((PT.updI (λ_ b=>Y5 id T.size n b) 1 0 (eM m s.h)).set id (af (.rows ty aj T xs)))=h2 at oD ⊢;have hr:cA s.h h2:=λi r hi=>by
      rw[bX]at hi ⊢;rw[oD];by_cases e:i=id
      .subst e;rw[hb]at hi;cases hi
      .rw[aA e];cases hg:s.h.get i with
       |none=>rw[hg]at hi;cases hi
       |some b=>
        rw[hg]at hi;split
        .exact Nw hi
        .cases b<;>first|exact hi|cases hi
     have hnone:∀i,aN m i=ai->bF h2 (nm i)=ah:=λi hi=>by
      have e:i≠id:=λe=>by subst e;exact hmid hi
      obtain⟨ty',p',T',xs',J⟩:=hm i hi;rw[bN,oD,aA e,aD hi,J];rfl
     have hdom:wa (bF s.h) (bF h2):=λq b hq=>by
      obtain⟨i,cc,rfl,I,h4⟩:=jH hq;rw[bN];rw[oD]at I;by_cases e:i=id
      .subst e;rw[hb];simp only[aI,kN,hl];exact⟨_,rfl⟩
      .rw[aA e]at I;cases hg:s.h.get i with
       |none=>rw[hg]at I;split at I<;>cases I
       |some b0=>
        rw[hg]at I;split at I
        .simp only[cr,ak]at I;subst I;cases b0<;>simp[vP,kN]at h4
        .simp only[cr,ak]at I;subst I;simp only[aI];cases b0 with
         |cells ty0 l0=>
          obtain⟨l0',U⟩:=fI s.h l0 (c.invH.cells i ty0 l0 hg);exact⟨⟨ty0,.mx l0'⟩,by simp only[kN,U]⟩
         |rows=>exact⟨_,h4⟩
         |dead=>exact⟨_,h4⟩
         |mp=>exact⟨_,h4⟩
     have giv:EQ s.h (bF s.h) (bF h2) m:=λi hi=>⟨rfl,hnone i hi⟩
     obtain⟨hle,hlen⟩:=Dk hdom n l xs m l' hpk hl giv;have hrow:eL h2 id=af (aj,T.size,n):=by rw[bX,oD,aD rfl,<-hlen];rfl
     have hV:LI (bF s.h) (bF h2):=⟨hdom,λq b b' I h4=>by
      obtain⟨i,cc,rfl,Z,h6⟩:=jH h4;rw[bN]at I;rw[oD]at Z;by_cases e:i=id
      .subst e;rw[aD rfl]at Z;cases Z;rw[hb]at I;simp only[aI,kN,hl,ak]at I;subst I;simp only[kN,nV,cG,ey,ak]at h6;subst h6;refine kh.cells rfl rfl hle λx J=>?_
       simp only[BC.toMx]at J;obtain⟨q,hq,rfl⟩:=dv.1 J;exact sh T _ q hq
      .rw[aA e]at Z;cases hg:s.h.get i with
       |none=>rw[hg]at Z;split at Z<;>cases Z
       |some b0=>
        rw[hg]at Z I;split at Z
        .simp only[cr,ak]at Z;subst Z;cases b0<;>simp[vP,kN]at h6
        .simp only[cr,ak]at Z;subst Z;have:b=b':=by
          simp only[aI]at I;cases b0 with
          |cells ty0 l0=>
           obtain⟨l0',U⟩:=fI s.h l0 (c.invH.cells i ty0 l0 hg);simp only[kN,U,ak]at I;simp only[Y5,kN,wM hr hrow l0 l0' U,ak]at h6;rw[<- I,<-h6]
          |rows ty1 p1 T1 xs1=>
           have h3':kN h2 (.rows ty1 p1 T1 xs1)=af b:=I;exact j6 (h3'.symm.trans h6)
          |dead p1 s1 n1=>
           have h3':kN h2 (.dead p1 s1 n1)=af b:=I;exact j6 (h3'.symm.trans h6)
          |mp K1 V1 es1=>
           have h3':kN h2 (.mp K1 V1 es1)=af b:=I;exact j6 (h3'.symm.trans h6)
         subst this;exact kh.refl hdom b⟩
     refine ⟨⟨hV.rep c.rep,?_,c.dom,c.low,⟨λi ty' l2 hg=>?_,λi b hg=>?_⟩,?_,c.inert,c.size⟩,⟨LX.refl _ _,λk _ hk=>hdom.own hk,λ_ _=>rfl⟩,?_⟩
     .intro t x J;simp only[gi,PT.get_updI]at J;cases he:s.e.get t with
      |none=>rw[he]at J;cases J
      |some v=>
       rw[he]at J;obtain⟨z,hz⟩:=qG s.h v (c.invE t v he);simp only[cr,aI,OZ hr hrow v z hz,ak]at J;subst J;exact (c.env t _ (by simp only[gi,he,aI,hz])).dom hdom
     .rw[oD]at hg;by_cases e:i=id
      .rw[aD e]at hg;cases hg
      .rw[aA e]at hg;cases Y:s.h.get i with
       |none=>rw[Y]at hg;split at hg<;>cases hg
       |some b0=>
        rw[Y]at hg;split at hg
        .simp only[cr,ak]at hg;cases b0<;>simp[vP]at hg
        .simp only[cr,ak]at hg;cases b0 with
         |cells ty0 l0=>
          simp only[Y5,iE.cells.injEq]at hg;obtain⟨_,rfl⟩:=hg;obtain⟨l0',U⟩:=fI s.h l0 (c.invH.cells i ty0 l0 Y);exact kX _ _ _ (wM hr hrow l0 l0' U)
         |_=>cases hg
     .rw[oD]at hg;by_cases e:i=id
      .subst e;exact hidlt
      .rw[aA e]at hg;cases Y:s.h.get i with
       |none=>rw[Y]at hg;split at hg<;>cases hg
       |some b0=>exact c.invH.low i b0 Y
     .intro t x J;simp only[PT.get_updI]at J;cases he:s.e.get t with
      |none=>rw[he]at J;cases J
      |some v=>
       rw[he]at J;simp only[cr,ak]at J;subst J;obtain⟨z,hz⟩:=qG s.h v (c.invE t v he);exact FI _ _ _ (OZ hr hrow v z hz)
     .intro k _ v' M;simp only[PT.get_updI]at M;cases he:s.e.get k with
      |none=>rw[he]at M;cases M
      |some v=>
       rw[he]at M;simp only[cr,ak]at M;subst M;exact⟨v,rfl,λhf=>Ns _ _ _ v hf⟩
   .cases hp
  .cases hp
 .cases hp
theorem anw {φ:PM} {s:TS} {a:Act} {w:World} (c:pi P E nt np φ s a w) {k off:Nat} {s':TS} (h:QR s (.ren k off)=af s'):∃φ',pi P E nt np φ' s' a w/\CZ np φ φ' (bF s.h) (bF s'.h) w w/\gG (oV [.ren k off] 0) s.e s'.e:=by
 simp only[QR]at h;split at h
 .rename_i b o hk;split at h
  .rename_i cty l hb;split at h
   .rename_i id hv;split at h
    .rename_i ty p T xs J;simp only[ak]at h;subst h;have hfr:=c.invH.fresh;have hidlt:=c.invH.low id _ J;have hblt:=c.invH.low b _ hb;have hbid:b≠id:=λe=>by rw[e,J]at hb;cases hb
     have hbn:b≠s.nx:=by omega
     have hin:id≠s.nx:=by omega
     generalize hh2:(((s.h.set id (af (.dead p T.size xs.length))).set s.nx (af (.rows ty p T xs))).set b (af (.cells cty (splice l (o+off) [.row s.nx]))))=h2;have oD:∀i,h2.get i=if i=b then af (.cells cty (splice l (o+off) [.row s.nx])) else if i=s.nx then af (.rows ty p T xs) else if i=id then af (.dead p T.size xs.length) else s.h.get i:=λi=>by
      rw[<- hh2,PT.get_set,PT.get_set,PT.get_set]
     have hr:cA s.h h2:=λi r hi=>by
      rw[bX]at hi ⊢;rw[oD];by_cases e1:i=b
      .subst e1;rw[hb]at hi;cases hi
      .rw[aA e1];by_cases e2:i=s.nx
       .subst e2;rw[hfr]at hi;cases hi
       .rw[aA e2];by_cases e3:i=id
        .subst e3;rw[aD rfl];rw[J]at hi;exact hi
        .rw[aA e3];exact hi
     have hlo:=c.invH.cells b cty l hb;obtain⟨Z,hl'⟩:=fI s.h l hlo;have hrow:cB h2 (.row s.nx)=af (fK p s.nx T.size xs.length):=by
      simp only[cB,bX,oD];rw[aA hbn.symm];simp only[bI,aI,mZ]
     have hsp:cU h2 (splice l (o+off) [.row s.nx])=af (splice Z (o+off) [fK p s.nx T.size xs.length]):=s7 _ (ic hr _ _ hl') (by simp only[cU,hrow]);obtain⟨y,hy,hey⟩:=mn hl' _ _ hv;have hy0:y=fK p id T.size xs.length:=by
      simp only[cB,bX,J,aI,mZ,ak]at hey;exact hey.symm
     subst hy0;have hold:bF s.h (nm b)=af ⟨cty,.mx Z⟩:=by rw[bN,hb];simp only[aI,kN,hl']
     have hnew:bF h2 (nm b)=af ⟨cty,.mx (splice Z (o+off) [fK p s.nx T.size xs.length])⟩:=by
      rw[bN,oD,aD rfl];simp only[aI,kN,hsp]
     have hdead:bF h2 (nm id)=ah:=by rw[bN,oD,aA hbid.symm,aA hin,aD rfl];rfl
     have hnx2:bF h2 (nm s.nx)=if p&&xs.length==0 then ah else af ⟨ty,.fz (xs.flatMap (bU T))⟩:=by rw[bN,oD,aA hbn.symm,aD rfl];rfl
     have hid0:bF s.h (nm id)=if p&&xs.length==0 then ah else af ⟨ty,.fz (xs.flatMap (bU T))⟩:=by rw[bN,J];rfl
     have hoth:∀n,n≠nm b->n≠nm s.nx->n≠nm id->bF h2 n=bF s.h n:=λn e1 e2 e3=>kY c.invH hr λi e=>by
      subst e;rw[oD,aA (λe=>e1 (by rw[e])),aA (λe=>e2 (by rw[e])),aA (λe=>e3 (by rw[e]))]
     have hnb:nm b≠nm s.nx:=λe=>hbn (li e)
     have hbi:nm b≠nm id:=λe=>hbid (li e)
     have hni:nm s.nx≠nm id:=λe=>hin (li e).symm
     have hinv:mr h2 (s.nx+1):=by
      refine ⟨λi ty2 l2 hil=>?_,λi q hiq=>?_⟩
      .rw[oD]at hil;split at hil
       .simp only[ak,iE.cells.injEq]at hil;obtain⟨_,rfl⟩:=hil;exact kX _ _ _ hsp
       .split at hil
        .cases hil
        .split at hil
         .cases hil
         .exact jg hr l2 (c.invH.cells i ty2 l2 hil)
      .rw[oD]at hiq;split at hiq
       .omega
       .split at hiq
        .omega
        .split at hiq
         .omega
         .have:=c.invH.low i q hiq;omega
     have hE:∀t x,gi s.e h2 t=af x->gi s.e s.h t=af x:=λt x I=>by
      simp only[gi]at I ⊢;cases he:s.e.get t with
      |none=>rw[he]at I;cases I
      |some q=>
       rw[he]at I;obtain⟨z,hz⟩:=qG s.h q (c.invE t q he);simp only[aI,gO hr q z hz,ak]at I;subst I;simp only[aI,hz]
     by_cases hp:(p&&xs.length==0)=ai
     ·
      have Y:bF h2=bF s.h:=by
       funext n;by_cases e1:n=nm b
       .subst e1;rw[hold,hnew];have:fK p s.nx T.size xs.length=fK p id T.size xs.length:=by unfold fK;rw[aD hp,aD hp]
        rw[this,zE hy]
       .by_cases e2:n=nm s.nx
        .subst e2;rw[hnx2,aD hp,bN,hfr];rfl
        .by_cases e3:n=nm id
         .subst e3;rw[hdead,hid0,aD hp]
         .exact hoth n e1 e2 e3
      refine ⟨φ,⟨by rw[Y];exact c.rep,λt x I=>by rw[Y];exact c.env t x (hE t x I),λn q hq=>AE (c.dom n q hq),iH c.low,hinv,λt x I=>o6 hr x (c.invE t x I),c.inert,c.size⟩,by rw[Y];exact CZ.refl _ _ _ _,gG.refl _ _⟩
     .have hid1:bF s.h (nm id)=af ⟨ty,.fz (xs.flatMap (bU T))⟩:=by rw[hid0,aA hp]
      obtain⟨kk,k1,k2,ob,k3,k4⟩:=c.rep.at_ _ _ hid1;have hφn:φ (nm s.nx)=ah:=by
       cases hq:φ (nm s.nx) with
       |none=>rfl
       |some q=>have:=c.dom _ q hq;rw[eo]at this;omega
      let nw:HF:=λn=>if n=nm s.nx then af ⟨ty,.fz (xs.flatMap (bU T))⟩ else ah
      have hsh:F_ w w kk ob:=⟨rfl,rfl,rfl,rfl,k3,λ_ _=>rfl,λ_=>rfl⟩
      obtain⟨φ',p1,p2,p3,p4⟩:=c.rep.wren hid1 k1 hφn hsh k4 nw (by simp[nw]) (by simp only[nw];rw[aA hni.symm]);have hb1:fd (bF s.h) [nm s.nx,nm id] nw (nm b)=af ⟨cty,.mx Z⟩:=by
       unfold fd;rw[aA (by simp[hnb,hbi]),hold]
      obtain⟨kb,b1,b2,ob2,b3,b4⟩:=p4.at_ _ _ hb1;have hlt:o+off<Z.length:=by
       rcases ci (o+off) Z.length with h'|h'
       .exact h'
       .rw[bT h']at hy;cases hy
      have hob:jD φ' (tot E φ' (fd (bF s.h) [nm s.nx,nm id] nw)) w ⟨cty,.mx (splice Z (o+off) [fK p s.nx T.size xs.length])⟩ ob2:=by
       rw[qe rfl]at b4 ⊢;obtain⟨arr,a1,a2⟩:=b4;refine ⟨arr,a1,?_⟩;unfold wg at a2 ⊢;refine ⟨by simp only[BC.len]at a2 ⊢;rw[oX (by simp;omega)];exact a2.1,λj x I=>?_⟩;simp only[BC.get]at I a2;rw[mY (by simp;omega)]at I;split at I
       .exact a2.2 j x I
       .split at I
        .rename_i h3 M;simp only[c9]at M;have hj:j=o+off:=by omega
         subst hj;simp only[vE,rz,ak]at I;subst I;obtain⟨_,v,a3,a4⟩:=a2.2 _ _ hy;unfold fK at a4 ⊢;rw[aA hp]at a4 ⊢;refine ⟨rfl,v,a3,?_⟩;cases a4 with
         |@row _ _ _ cc q hφq hn hc hs2=>
          have:=p2.sub _ _ k1;rw[this,ak]at hφq;subst hφq;exact .row p1 hn hc hs2
        .exact a2.2 j x I
      obtain⟨q1,q2⟩:=p4.wset hb1 b1 (⟨rfl,rfl,rfl,rfl,b3,λ_ _=>rfl,λ_=>rfl⟩:F_ w w kb ob2) hob (λn=>if n=nm b then af ⟨cty,.mx (splice Z (o+off) [fK p s.nx T.size xs.length])⟩ else ah) (by simp);have Y:fd (fd (bF s.h) [nm s.nx,nm id] nw) [nm b] (λn=>if n=nm b then af ⟨cty,.mx (splice Z (o+off) [fK p s.nx T.size xs.length])⟩ else ah)=bF h2:=by
       funext n;by_cases e1:n=nm b
       .subst e1;rw[hnew];simp[fd]
       .by_cases e2:n=nm s.nx
        .subst e2;rw[hnx2,aA hp];simp[fd,nw,hnb.symm]
        .by_cases e3:n=nm id
         .subst e3;rw[hdead];simp[fd,nw,hbi.symm,hni.symm]
         .rw[hoth n e1 e2 e3];simp[fd,e1,e2,e3]
      rw[Y]at q1 q2;have m:=p2.trans q1;refine ⟨φ',⟨q2,λt x I=>m.keep (c.env t x (hE t x I)),λn q hq=>?_,iH c.low,hinv,λt x I=>o6 hr x (c.invE t x I),c.inert,c.size⟩,⟨LX.refl _ _,m.own_,λi hi=>?_⟩,gG.refl _ _⟩
      .rcases p3 n q hq with M|M
       .exact AE (c.dom n q M)
       .simp only[aL]at M;subst M;rw[eo];exact rx _
      .cases hq:φ' (nm i) with
       |none=>
        cases hq2:φ (nm i) with
        |none=>rfl
        |some z=>rw[p2.sub _ _ hq2]at hq;cases hq
       |some z=>
        rcases p3 _ _ hq with M|M
        .exact M.symm
        .simp only[aL]at M;have:=li M;have:=c.low;omega
    .cases h
   .cases h
  .cases h
 .rename_i id hk;split at h
  .rename_i ty p T xs J;simp only[ak]at h;subst h;have hfr:=c.invH.fresh;have hidlt:=c.invH.low id _ J;have hin:id≠s.nx:=by omega
   generalize hh2:((s.h.set id (af (.dead p T.size xs.length))).set s.nx (af (.rows ty p T xs)))=h2;have oD:∀i,h2.get i=if i=s.nx then af (.rows ty p T xs) else if i=id then af (.dead p T.size xs.length) else s.h.get i:=λi=>by
    rw[<- hh2,PT.get_set,PT.get_set]
   have hr:cA s.h h2:=λi r hi=>by
    rw[bX]at hi ⊢;rw[oD];by_cases e2:i=s.nx
    .subst e2;rw[hfr]at hi;cases hi
    .rw[aA e2];by_cases e3:i=id
     .subst e3;rw[aD rfl];rw[J]at hi;exact hi
     .rw[aA e3];exact hi
   have hrow:cB h2 (.row s.nx)=af (fK p s.nx T.size xs.length):=by
    simp only[cB,bX,oD,bI,aI,mZ]
   have hrow0:cB s.h (.row id)=af (fK p id T.size xs.length):=by
    simp only[cB,bX,J,aI,mZ]
   have hdead:bF h2 (nm id)=ah:=by rw[bN,oD,aA hin,aD rfl];rfl
   have hnx2:bF h2 (nm s.nx)=if p&&xs.length==0 then ah else af ⟨ty,.fz (xs.flatMap (bU T))⟩:=by rw[bN,oD,aD rfl];rfl
   have hid0:bF s.h (nm id)=if p&&xs.length==0 then ah else af ⟨ty,.fz (xs.flatMap (bU T))⟩:=by rw[bN,J];rfl
   have hoth:∀n,n≠nm s.nx->n≠nm id->bF h2 n=bF s.h n:=λn e2 e3=>kY c.invH hr λi e=>by
    subst e;rw[oD,aA (λe=>e2 (by rw[e])),aA (λe=>e3 (by rw[e]))]
   have hni:nm s.nx≠nm id:=λe=>hin (li e).symm
   have hinv:mr h2 (s.nx+1):=by
    refine ⟨λi ty2 l2 hil=>?_,λi q hiq=>?_⟩
    .rw[oD]at hil;split at hil
     .cases hil
     .split at hil
      .cases hil
      .exact jg hr l2 (c.invH.cells i ty2 l2 hil)
    .rw[oD]at hiq;split at hiq
     .omega
     .split at hiq
      .omega
      .have:=c.invH.low i q hiq;omega
   have hE:∀t x,t≠k->gi (s.e.set k (af (.row s.nx))) h2 t=af x->gi s.e s.h t=af x:=λt x ht I=>by
    simp only[gi,PT.get_set]at I ⊢;rw[aA ht]at I;cases he:s.e.get t with
    |none=>rw[he]at I;cases I
    |some q=>
     rw[he]at I;obtain⟨z,hz⟩:=qG s.h q (c.invE t q he);simp only[aI,gO hr q z hz,ak]at I;subst I;simp only[aI,hz]
   have hIE:uj (s.e.set k (af (.row s.nx))) h2:=λt x I=>by
    simp only[PT.get_set]at I;split at I
    .cases I;exact FI _ _ _ hrow
    .exact o6 hr x (c.invE t x I)
   have hKp:gG (oV [.ren k off] 0) s.e (s.e.set k (af (.row s.nx))):=λt ht v' hv'=>by
    simp only[PT.get_set]at hv';split at hv'
    .rename_i et;subst et;simp only[oV]at ht;rw[bz,ca.2 rfl]at ht;simp at ht
    .exact⟨v',hv',λ_=>rfl⟩
   have U:=c.env k (fK p id T.size xs.length) (by simp only[gi,hk,aI,hrow0]);by_cases hp:(p&&xs.length==0)=ai
   .have Y:bF h2=bF s.h:=by
     funext n;by_cases e2:n=nm s.nx
     .subst e2;rw[hnx2,aD hp,bN,hfr];rfl
     .by_cases e3:n=nm id
      .subst e3;rw[hdead,hid0,aD hp]
      .exact hoth n e2 e3
    have hsame:fK p s.nx T.size xs.length=fK p id T.size xs.length:=by unfold fK;rw[aD hp,aD hp]
    refine ⟨φ,⟨by rw[Y];exact c.rep,λt x I=>?_,λn q hq=>AE (c.dom n q hq),iH c.low,hinv,hIE,c.inert,c.size⟩,by rw[Y];exact CZ.refl _ _ _ _,hKp⟩;rw[Y];by_cases ht:t=k
    .subst ht;simp only[gi,PT.get_set,bI,aI,hrow,ak]at I;subst I;rw[hsame];exact U
    .exact c.env t x (hE t x ht I)
   .have hid1:bF s.h (nm id)=af ⟨ty,.fz (xs.flatMap (bU T))⟩:=by rw[hid0,aA hp]
    obtain⟨kk,k1,k2,ob,k3,k4⟩:=c.rep.at_ _ _ hid1;have hφn:φ (nm s.nx)=ah:=by
     cases hq:φ (nm s.nx) with
     |none=>rfl
     |some q=>have:=c.dom _ q hq;rw[eo]at this;omega
    let nw:HF:=λn=>if n=nm s.nx then af ⟨ty,.fz (xs.flatMap (bU T))⟩ else ah
    have hsh:F_ w w kk ob:=⟨rfl,rfl,rfl,rfl,k3,λ_ _=>rfl,λ_=>rfl⟩
    obtain⟨φ',p1,p2,p3,p4⟩:=c.rep.wren hid1 k1 hφn hsh k4 nw (by simp[nw]) (by simp only[nw];rw[aA hni.symm]);have Y:fd (bF s.h) [nm s.nx,nm id] nw=bF h2:=by
     funext n;by_cases e2:n=nm s.nx
     .subst e2;rw[hnx2,aA hp];simp[fd,nw]
     .by_cases e3:n=nm id
      .subst e3;rw[hdead];simp[fd,nw,hni.symm]
      .rw[hoth n e2 e3];simp[fd,e2,e3]
    rw[Y]at p2 p4;refine ⟨φ',⟨p4,λt x I=>?_,λn q hq=>?_,iH c.low,hinv,hIE,c.inert,c.size⟩,⟨LX.refl _ _,p2.own_,λi hi=>?_⟩,hKp⟩
    .by_cases ht:t=k
     .subst ht;simp only[gi,PT.get_set,bI,aI,hrow,ak]at I;subst I;unfold fK at U ⊢;rw[aA hp]at U ⊢;generalize a.tmps.getD t undef=z at U;cases U with
      |@row _ _ _ cc q hφq hn hc hs2=>
       rw[k1,ak]at hφq;subst hφq;exact .row p1 hn hc hs2
     .exact p2.keep (c.env t x (hE t x ht I))
    .rcases p3 n q hq with M|M
     .exact AE (c.dom n q M)
     .simp only[aL]at M;subst M;rw[eo];exact rx _
    .cases hq:φ' (nm i) with
     |none=>
      cases hq2:φ (nm i) with
      |none=>rfl
      |some z=>rw[p2.sub _ _ hq2]at hq;cases hq
     |some z=>
      rcases p3 _ _ hq with M|M
      .exact M.symm
      .simp only[aL]at M;have:=li M;have:=c.low;omega
  .cases h
 .cases h
theorem alg {φ:PM} {s:TS} {a:Act} {w:World} (c:pi P E nt np φ s a w) {Z:Adj} {s':TS} (h:QR s Z=af s') (hnr:∀k off,Z≠ .ren k off):pi P E nt np φ s' a w/\CZ np φ φ (bF s.h) (bF s'.h) w w/\gG (oV [Z] 0) s.e s'.e:=by
 cases Z with
 |ren k off=>exact cX rfl (hnr k off)
 |nil k ty T=>
  simp only[QR]at h;split at h
  .rename_i v hv;split at h
   .rename_i hn;simp only[ak]at h;subst h;obtain⟨J,M,hr⟩:=YR c ty T;refine ⟨⟨J.rep,?_,J.dom,J.low,J.invH,?_,J.inert,J.size⟩,by rw[M];exact CZ.refl _ _ _ _,?_⟩
    .intro t x I;simp only[gi,PT.get_set]at I;split at I
     .rename_i et;subst et;simp only[aI,cB,bX,PT.get_set,bI,mZ,fK,j8,c7,iW,ak]at I;subst I;obtain⟨z,Y⟩:=qG s.h v (c.invE _ v hv);rw[M];exact SX hn Y _ _ _ _ (c.env _ _ (by simp only[gi,hv,aI,Y]))
     .exact J.env t x I
    .intro t x I;simp only[PT.get_set]at I;split at I
     .cases I;simp only[Ml,bX,PT.get_set,bI];rfl
     .exact J.invE t x I
    .intro t ht v' U;simp only[PT.get_set]at U;split at U
     .rename_i et;subst et;simp only[oV]at ht;rw[bz,ca.2 rfl]at ht;simp at ht
     .exact⟨v',U,λ_=>rfl⟩
   .simp only[ak]at h;subst h;exact⟨c,CZ.refl _ _ _ _,gG.refl _ _⟩
  .cases h
 |cel k off ty T=>
  simp only[QR]at h;split at h
  .rename_i id o hk;split at h
   .rename_i cty l hb;split at h
    .rename_i v hv;split at h
     .rename_i hn;simp only[ak]at h;subst h;obtain⟨J,M,hr⟩:=YR c ty T;have hid:id≠s.nx:=λe=>by have:=c.invH.low id _ hb;omega
      obtain⟨c2,t2⟩:=aek J (id:=id) (cty:=cty) (l:=l) (v:=v) (u:=.row s.nx) (by show (s.h.set s.nx _).get id=_;rw[PT.get_set,aA hid];exact hb) hv hn (by simp only[cB,bX,PT.get_set,bI,aI,mZ,fK,j8,c7,iW]) (by simp only[Ml,bX,PT.get_set,bI];rfl);exact⟨c2,by rw[<- M];exact t2,gG.refl _ _⟩
     .simp only[ak]at h;subst h;exact⟨c,CZ.refl _ _ _ _,gG.refl _ _⟩
    .cases h
   .cases h
  .cases h
 |mpt k K V=>
  simp only[QR]at h;split at h
  .rename_i id hk;split at h
   .rename_i K' V' es hb;split at h
    .rename_i hE;simp only[ak]at h;subst h;have hr:cA s.h (s.h.set id (af (.mp K V []))):=cA.set λr hr=>by rw[bX,hb]at hr;cases hr
     have M:bF (s.h.set id (af (.mp K V [])))=bF s.h:=by
      funext n;by_cases hn:n=nm id
      .subst hn;rw[bN,bN,PT.get_set,aD rfl,hb];simp only[aI,kN,Cu (ako (eH.1 hE).1),Cu (eH.1 hE).2,Vu (eH.1 hE).1,List.map_nil]
      .refine kY c.invH hr λi e=>?_
       subst e;rw[PT.get_set,aA (λe=>hn (by rw[e]))]
     refine ⟨⟨by rw[M];exact c.rep,?_,c.dom,c.low,c.invH.set hr (c.invH.low id _ hb) (bV _) (λ_ _ he=>by cases he),λt x I=>o6 hr x (c.invE t x I),c.inert,c.size⟩,by rw[M];exact CZ.refl _ _ _ _,gG.refl _ _⟩;intro t x I;rw[M];simp only[gi]at I;cases he:s.e.get t with
     |none=>rw[he]at I;cases I
     |some q=>
      rw[he]at I;obtain⟨z,Y⟩:=qG s.h q (c.invE t q he);simp only[aI,gO hr q z Y,ak]at I;subst I;exact c.env t _ (by simp only[gi,he,aI,Y])
    .simp only[ak]at h;subst h;exact⟨c,CZ.refl _ _ _ _,gG.refl _ _⟩
   .cases h
  .cases h
 |pk k off T=>
  simp only[QR]at h;split at h
  .obtain⟨h1,h2,h3⟩:=ao1 c h;exact⟨h1,h2,h3.mono λk hk=>by simp at hk⟩
  .cases h
theorem alf {φ:PM} {s:TS} {a:Act} {w:World} (c:pi P E nt np φ s a w) {I:Adj} {s':TS} (h:QR s I=af s'):∃φ',pi P E nt np φ' s' a w/\CZ np φ φ' (bF s.h) (bF s'.h) w w/\gG (oV [I] 0) s.e s'.e:=by
 by_cases hn:∃k off,I= .ren k off
 .obtain⟨k,off,rfl⟩:=hn;exact anw c h
 .exact⟨φ,alg c h λk off e=>hn ⟨k,off,e⟩⟩
theorem Xj {φ:PM} {a:Act} {w:World}:∀{l:List Adj} {s s':TS},pi P E nt np φ s a w->aa6 s l=af s'->∃φ',pi P E nt np φ' s' a w/\CZ np φ φ' (bF s.h) (bF s'.h) w w/\gG (oV l 0) s.e s'.e
 |[],s,s',c,h=>by simp only[aa6,ak]at h;subst h;exact⟨φ,c,CZ.refl _ _ _ _,gG.refl _ _⟩
 |I::r,s,s',c,h=>by
  simp only[aa6]at h;split at h
  .rename_i s1 h1;obtain⟨φ1,U,t1,k1⟩:=alf c h1;obtain⟨φ2,M,J,k2⟩:=Xj U h;refine ⟨φ2,M,t1.trans J,(k1.mono ?_).trans (k2.mono ?_)⟩
   .intro k hk;cases I with
    |nil q ty T=>simp only[oV]at hk ⊢;rw[mq,bz,hk];rfl
    |cel q off ty T=>simp[oV]at hk
    |mpt q K V=>simp[oV]at hk
    |pk q off T=>simp[oV]at hk
    |ren q off=>simp only[oV]at hk ⊢;rw[mq,bz,hk];rfl
   .intro k hk;cases I with
    |nil q ty T=>simp only[oV];rw[mq,bz,hk];simp
    |cel q off ty T=>simp only[oV];exact hk
    |mpt q K V=>simp only[oV];exact hk
    |pk q off T=>simp only[oV];exact hk
    |ren q off=>simp only[oV];rw[mq,bz,hk];simp
  .cases h
mutual
theorem SD {h:bl}:∀(v:TV) (y:AV),uP v=ai->cB h v=af y->y.all (λ_=>aj)=ai
 |.f _ _,y,_,he=>by simp only[cB,ak]at he;subst he;rfl
 |.fel _ _ _ _ _,y,_,he=>by simp only[cB,ak]at he;subst he;rfl
 |.emp,y,_,he=>by simp only[cB,ak]at he;subst he;rfl
 |.nil,y,_,he=>by simp only[cB,ak]at he;subst he;rfl
 |.undef,y,_,he=>by simp only[cB,ak]at he;subst he;rfl
 |.np,y,_,he=>by simp only[cB,ak]at he;subst he;rfl
 |.anyb,y,_,he=>by simp only[cB,ak]at he;subst he;rfl
 |.agg l,y,hl,he=>by
  simp only[cB]at he;split at he
  .rename_i l' hl';simp only[ak]at he;subst he;exact FE l l' hl hl'
  .cases he
 |.tup l,y,hl,he=>by
  simp only[cB]at he;split at he
  .rename_i l' hl';simp only[ak]at he;subst he;exact FE l l' hl hl'
  .cases he
 |.pel _ _ _ _,_,h,_=>by cases h
 |.ptr _ _,_,h,_=>by cases h
 |.csl _ _ _,_,h,_=>by cases h
 |.row _,_,h,_=>by cases h
 |.rtl _ _,_,h,_=>by cases h
 |.mp _,_,h,_=>by cases h
 |.clo _ _,_,h,_=>by cases h
theorem FE {h:bl}:∀(l:List TV) (l':List AV),qW l=ai->cU h l=af l'->AV.allL (λ_=>aj) l'=ai
 |[],l',_,he=>by simp only[cU,ak]at he;subst he;rfl
 |x::r,l',hl,he=>by
  obtain⟨y,l2,rfl,e1,e2⟩:=db he;simp only[qW,av]at hl;simp only[AV.allL,av];exact⟨SD x y hl.1 e1,FE r l2 hl.2 e2⟩
end
mutual
theorem Yh (h:bl):∀(v:TV),uP v=ai->Ml h v=ai
 |.f _ _,_=>rfl
 |.fel _ _ _ _ _,_=>rfl
 |.emp,_=>rfl
 |.nil,_=>rfl
 |.undef,_=>rfl
 |.np,_=>rfl
 |.anyb,_=>rfl
 |.agg l,hl=>Kd h l hl
 |.tup l,hl=>Kd h l hl
 |.pel _ _ _ _,h=>by cases h
 |.ptr _ _,h=>by cases h
 |.csl _ _ _,h=>by cases h
 |.row _,h=>by cases h
 |.rtl _ _,h=>by cases h
 |.mp _,h=>by cases h
 |.clo _ _,h=>by cases h
theorem Kd (h:bl):∀(l:List TV),qW l=ai->lh h l=ai
 |[],_=>rfl
 |x::r,hl=>by
  simp only[qW,av]at hl;simp only[lh,av];exact⟨Yh h x hl.1,Kd h r hl.2⟩
end
structure Seen (np:Nat) (t:Tm) (x:t.ty.den) (us:List TV) (h1:bl) (φ φ':PM) (H:HF) (E:Nat->Prop) (w:World) (la lu:List AV):Prop where
 rep:rH φ' E (bF h1) w
 val:∀(j:Nat) y v,lu[j]? =af y->∃z,la[j]? =af z/\(cV φ (tot E φ H) w z v->cV φ' (tot E φ' (bF h1)) w y v)
 len:lu.length=la.length
 tot_:∀k,tot E φ' (bF h1) k->tot E φ H k
 own_:∀k,own φ' (bF h1) k->own φ H k
 dom:∀n k,φ' n=af k->ow n<t.bs.length
 par:∀i,i<np->i<t.bs.length->φ' (nm i)=φ (nm i)
theorem Mg {t:Tm} {x:t.ty.den} {us:List TV} {h1:bl} {l1:List (Option iE)} (I:rn t x us h1 l1) {h:bl} {nx:Nat} (hinv:mr h nx) {vs:List TV} {m:Nat} {σ:PT Nat} {sm:Nat} (M:IU np t vs h x m σ sm) {la:List AV} (hla:cU h vs=af la) {φ:PM} {w:World} (r:rH φ E (bF h) w):∃φ' lu,cU h1 us=af lu/\Seen np t x us h1 φ φ' (bF h) E w la lu:=by
 obtain⟨x1,m1,x2,m2,hx,hmm,gv,gb⟩:=M.ex;have hmr:dY h m:=by rw[hmm];exact (IE _ _ _ _ gv).or (IG _ _ _ _ gb)
 have pvg:qE (ir σ) t.vs x1=af (kM (ir σ) us):=by
  have U:=ul (ir σ) t.vs x1;have J:=I.pv;rw[hx,uf]at J;rw[U,J];rfl
 have pbg:oZ (ir σ) t.bs x2=af (l1.map (mc (me (ir σ)))):=by
  have U:=wO (ir σ) t.bs x2;have J:=I.pb;rw[hx,vJ]at J;rw[U,J];rfl
 have hbm:∀i b,l1[i]? =af (af b)->∃b0,h.get (ir σ i)=af b0/\BM (ir σ) h m b0 (me (ir σ) b):=λi b hb=>by
  obtain⟨b0,Y,Z⟩:=Kb t.bs 0 x2 m2 _ gb pbg i (me (ir σ) b) (by rw[ba,hb];rfl);rw[bR]at Y;exact⟨b0,Y,Z.mono λj hj=>by rw[hmm,bz,hj];simp⟩
 let hv:bl:=Bj (ir σ) 0 (l1.map (mc (me (ir σ)))) PT.leaf
 have hv_at:∀i b,l1[i]? =af (af b)->hv.get (ir σ i)=af (me (ir σ) b):=λi b hb=>by
  have:=vO (ir σ) (l1.map (mc (me (ir σ)))) 0 PT.leaf (λa b ha hb=>by
   simp only[bS,I.len]at ha hb;simp only[bR];exact M.inj a b ha hb) i (af (me (ir σ) b)) (by rw[ba,hb];rfl)
  rw[bR]at this;exact this
 have hv_ex:∀j c,hv.get j=af c->∃i b,l1[i]? =af (af b)/\j=ir σ i/\c=me (ir σ) b:=λj c hj=>by
  by_cases hex:∃i,i<l1.length/\j=ir σ i
  .obtain⟨i,hi,rfl⟩:=hex;have hcc:=aB hi;cases hcv:l1[i] with
   |some b=>rw[hcv]at hcc;rw[hv_at i b hcc]at hj;cases hj;exact⟨i,b,hcc,rfl,rfl⟩
   |none=>
    rw[hcv]at hcc;have:=vO (ir σ) (l1.map (mc (me (ir σ)))) 0 PT.leaf (λa b ha hb=>by
     simp only[bS,I.len]at ha hb;simp only[bR];exact M.inj a b ha hb) i ah (by rw[ba,hcc];rfl)
    rw[bR]at this;have hj':(Bj (ir σ) 0 (l1.map (mc (me (ir σ)))) PT.leaf).get (ir σ i)=af c:=hj;rw[this]at hj';simp[PT.get]at hj'
  .have:hv.get j=(PT.leaf:bl).get j:=vN (ir σ) _ 0 _ j λk hk=>by
    simp only[bS]at hk;rw[bR];exact λe=>hex ⟨k,hk,e⟩
   rw[this]at hj;simp[PT.get]at hj
 have rows_in:yF hv h:=λj q hq=>by
  rw[bX]at hq ⊢;cases hc:hv.get j with
  |none=>rw[hc]at hq;cases hq
  |some c=>
   rw[hc]at hq;obtain⟨i,b,Y,rfl,rfl⟩:=hv_ex j c hc;obtain⟨b0,Z,q3⟩:=hbm i b Y;rw[Z];simp only[aI]at hq ⊢;rw[<- q3.row];exact hq
 have rows_h1:∀i q,eL h1 i=af q->eL hv (ir σ i)=af q:=λi q hq=>by
  rw[bX]at hq ⊢;cases hb:h1.get i with
  |none=>rw[hb]at hq;cases hq
  |some b=>
   rw[hb]at hq;rw[hv_at i b ((I.at_ i b).1 hb)];simp only[aI,I_]at hq ⊢;exact hq
 have hd:wa (bF h) (bF hv):=λn y hy=>by
  obtain⟨j,c,rfl,U,J⟩:=jH hy;obtain⟨i,b,Y,rfl,rfl⟩:=hv_ex j c U;obtain⟨b0,Z,q3⟩:=hbm i b Y;obtain⟨y0,hy0⟩:=BM.erB_some hinv Z q3 J;exact⟨y0,by rw[bN,Z];exact hy0⟩
 have gvv:EQ h (bF h) (bF hv) m:=λi hi=>⟨rfl,by
  cases hc:bF hv (nm i) with
  |none=>rfl
  |some y=>
   obtain⟨j,c,e,U,J⟩:=jH hc;have:=li e;subst this;obtain⟨k,b,Y,rfl,rfl⟩:=hv_ex i c U;have hk:k<t.bs.length:=by rw[<- I.len];exact (bn.1 Y).1
   have h5:=M.disj _ hi;rw[(M.sig _).2 ⟨k,hk,rfl⟩]at h5;cases h5⟩
 have V:LI (bF h) (bF hv):=⟨hd,λn b b' hb hb'=>by
  obtain⟨j,c,rfl,U,J⟩:=jH hb';obtain⟨i,bb,Y,rfl,rfl⟩:=hv_ex j c U;obtain⟨b0,Z,q3⟩:=hbm i bb Y;rw[bN,Z]at hb;exact BM.view hd gvv rows_in q3 hb J⟩
 have rv:=V.rep r;have T:ai3 t x us h1 (ir σ) φ E E (bF hv) w:=by
  refine rH.toId I M.inj rv (λi b yb hb hyb=>?_) (λk hk=>.inl hk) (λi k b hi U J hE=>?_) rv.el
  .rw[bN,hv_at i b ((I.at_ i b).1 hb)];exact DR rows_h1 hyb
  .obtain⟨k',p1,p2,_⟩:=rv.at_ _ _ U;rw[J]at p1;cases p1;exact p2 hE
 obtain⟨lu,hlu⟩:=fI h1 us I.ok;have hlug:cU hv (kM (ir σ) us)=af (AV.renL (IH (ir σ)) lu):=rc rows_h1 us lu hlu;have hle:=DM hd rows_in t.vs vs x1 m1 _ la _ gv pvg hla hlug (λi hi=>gvv i (by rw[hmm,bz,hi];rfl));have hall:=uc us lu I.lt hlu;refine ⟨_,lu,hlu,T.rep,λj y v hy=>?_,?_,λk hk=>hd.tot (T.tot_ k hk),λk hk=>hd.own (T.own_ k hk),λn k hk=>?_,λi hi hb=>?_⟩
 .rw[oY]at hle;obtain⟨z,hz,hlz⟩:=hle.get j (y.ren (IH (ir σ))) (by rw[ba,hy];rfl);exact⟨z,hz,λhr=>T.val y v (mo hall y (bc hy)) (hlz _ _ _ _ r hr)⟩
 .have:=hle.length;rw[oY,bS]at this;exact this
 .obtain⟨i,hi,rfl,_⟩:=xL hk;rw[eo];exact hi
 .rw[abk hb,M.fix i hi]
theorem Pq {φ:PM} {s':TS} {a:Act} {w:World} (c:pi P E nt np φ s' a w) {A:Ann} {am:Nat} {s0 s1:TS} {x:A.D} (J:MP np A am s0 s'=af x) (hs:HJ A am s0 x=af s1)
 (hk:∀k,k∈A.keep->k∉A.ks->∀v,s0.e.get k=af v->uP v=ai->aN am k=aj->∀Z,s'.e.get k=af Z->Z=v):∃φ',pi P E nt np φ' s1 a w/\CZ np φ φ' (bF s'.h) (bF s1.h) w w:=by
 unfold MP at J;split at J
 .rename_i hc;simp only[av]at hc;have hnp:=a_ hc.1;split at J
  .rename_i s2 h2;obtain⟨φ2,c2,t2,_⟩:=Xj c h2;split at J
   .rename_i vs hvs;split at J
    .rename_i z m σ sm hM;simp only[ak]at J;subst J;have M:=wY hM;unfold HJ at hs;split at hs
     .rename_i us h1 hi;obtain⟨l1,I⟩:=xa hi;split at hs
      .rename_i hlen;have hlen:=aw hlen;simp only[ak]at hs;subst hs;obtain⟨g1,g2⟩:=Yg hvs;have hvok:lh s2.h vs=ai:=Jl c2.invE hvs;obtain⟨la,hla⟩:=fI s2.h vs hvok;obtain⟨φ',lu,hlu,S⟩:=Mg (E:=E) I c2.invH M hla c2.rep;refine ⟨φ',⟨S.rep,?_,S.dom,hnp,⟨λi ty l hl=>(I.cells i ty l hl).1,λi b hb=>I.lt_len hb⟩,?_,c.inert,c.size⟩,t2.trans ⟨LX.refl _ _,λk _ h=>S.own_ k h,λi hi=>S.par i hi (by omega)⟩⟩
       .intro t y U;simp only[gi]at U;cases ht:(Y7 (Dx am s0.e A.keep) A.ks us).get t with
        |none=>rw[ht]at U;cases U
        |some v=>
         rw[ht]at U;simp only[aI]at U;rcases C_ hlen t v ht with ⟨j,q1,Y⟩|⟨q1,Y⟩
         .obtain⟨y',p1,p2⟩:=mn hlu j v Y;rw[U]at p2;cases p2;obtain⟨z,p3,p4⟩:=S.val j y (a.tmps.getD t undef) p1;refine p4 ?_;obtain⟨v0,p5,p6⟩:=g2 j t q1;obtain⟨z',p7,p8⟩:=mn hla j v0 p5;rw[p3]at p7;cases p7;exact c2.env t _ (by simp only[gi,p6,aI,p8])
         .obtain⟨k1,k2,k3,k4⟩:=ur Y;obtain⟨Z,k5⟩:=JE hc.2 t v k1 k2 k3 k4;have:=hk t k1 q1 v k2 k3 k4 Z k5;subst this;have h3:=c.env t y (by simp only[gi,k5,aI];rw[S0 s'.h h1 Z k3];exact U);exact h3.restrict (p:=λ_=>aj) (λi k hi _=>by cases hi) (λk hk=>by
           have h4:=S.tot_ k hk;rcases h4 with h4|h4
           .exact .inl h4
           .exact .inr (by
             have hkl:k<w.heap.size:=by
              obtain⟨n,b,e1,e2⟩:=h4;obtain⟨k',p1,_,ob,p3,_⟩:=c2.rep.at_ n b e1;rw[e2]at p1;cases p1;exact (cJ.1 p3).1
             exact t2.own_ k hkl h4)) (SD Z y k3 U)
       .intro t v hv;rcases C_ hlen t v hv with ⟨j,q1,Y⟩|⟨q1,Y⟩
        .obtain⟨y',_,p2⟩:=mn hlu j v Y;exact FI _ _ _ p2
        .exact Yh _ v (ur Y).2.2.1
      .cases hs
     .cases hs
    .cases J
   .cases J
  .cases J
 .cases J
theorem E0 {A:Ann} {am:Nat} {I s1:TS} {x:A.D} (hs:HJ A am I x=af s1):gG (Mo A.ks 0) I.e s1.e/\∀k,k∉A.ks->∀v,s1.e.get k=af v->I.e.get k=af v:=by
 unfold HJ at hs;split at hs
 .rename_i us h1 hi;split at hs
  .rename_i hlen;have hlen:=aw hlen;simp only[ak]at hs;subst hs;have key:∀k,k∉A.ks->∀v,(Y7 (Dx am I.e A.keep) A.ks us).get k=af v->I.e.get k=af v:=λk hk v hv=>by
    rcases C_ hlen k v hv with ⟨j,U,_⟩|⟨_,M⟩
    .exact cX (bc U) hk
    .exact (ur M).2.1
   refine ⟨λk hk J hv=>?_,key⟩;have hnk:k∉A.ks:=λhm=>by rw[X9 hm]at hk;cases hk
   exact⟨J,key k hnk J hv,λ_=>rfl⟩
  .cases hs
 .cases hs
end walk
inductive Er:TC->SC->Prop
 |skip:Er .skip .skip
 |reg (ops:List tj) (prs:List (Nat×Nat)):Er (.reg ops prs) (.reg ops prs)
 |seq {a b:TC} {a' b':SC}:Er a a'->Er b b'->Er (.seq a b) (.seq a' b')
 |jseq (A:Ann) {a b:TC} {a' b':SC}:Er a a'->Er b b'->Er (.jseq A a b) (.seq a' b')
 |cond (c:Nat) {a b:TC} {a' b':SC}:Er a a'->Er b b'->Er (.cond c a b) (.cond c a' b')
 |block (id:Nat) {b:TC} {b':SC}:Er b b'->Er (.block id b) (.block id b')
 |jblock (A:Ann) (id:Nat) {b:TC} {b':SC}:Er b b'->Er (.jblock A id b) (.block id b')
 |loop (A:Ann) {b:TC} {b':SC}:Er b b'->Er (.loop A b) (.loop b')
 |exit (id:Nat):Er (.exit id) (.exit id)
 |ret:Er .ret .ret
 |defer (f:FuncId) (c:List Operand) (t:Nat):Er (.defer f c t) (.defer f c t)
 |adj (l:List Adj) {c:TC} {c':SC}:Er c c'->Er (.adj l c) c'
 |split (k off lo n:Nat) {c:TC} {c':SC}:Er c c'->Er (.split k off lo n c) c'
 |unl (n:Nat) {b:TC} {b':SC}:Er b b'->Er (.unl n b) (.loop b')
 |bad (c:SC):Er .bad c
theorem C2 {H:PT afc} {n:Nat} {c:TC} {c':SC} (h:Er c c'):Er (IZ H n c) c':=by
 unfold IZ;split
 .exact .adj _ h
 .exact .split _ _ _ _ h
 .exact h
theorem yz (H:PT afc):∀(c:SC) (n:Nat),Er (Ek H c n).1 c
 |.skip,n=>C2 .skip
 |.reg o p,n=>C2 (.reg o p)
 |.seq a b,n=>by
  have h1:=yz H a (n+1);have h2:=yz H b (Ek H a (n+1)).2;simp only[Ek];split
  .exact .jseq _ h1 h2
  .exact .seq h1 h2
 |.cond c a b,n=>by
  have h1:=yz H a (n+1);have h2:=yz H b (Ek H a (n+1)).2;simp only[Ek];exact C2 (.cond c h1 h2)
 |.block id b,n=>by
  have h1:=yz H b (n+1);simp only[Ek];split
  .exact .jblock _ id h1
  .exact .block id h1
 |.loop b,n=>by
  have h1:=yz H b (n+1);simp only[Ek];split
  .exact .loop _ h1
  .exact .unl _ h1
  .exact .bad _
 |.exit id,n=>C2 (.exit id)
 |.ret,n=>C2 .ret
 |.defer f c t,n=>.defer f c t
 |.bad,n=>.bad _
theorem Zj {σ R:Type} {step:σ->Option (σ⊕R)} {x:σ} {r:R} (h:iter step x=af r):∃n,iterN step n x=af r:=by
 unfold iter at h;split at h
 .exact⟨_,h⟩
 .cases h
theorem X' {α R:Type} {o:Option (R⊕α)} {k:α->Option R} {r:R} (h:jn o k=af r):(∃x,o=af (.inr x)/\k x=af r)\/o=af (.inl r):=by
 unfold jn at h;split at h
 .exact .inl ⟨_,rfl,h⟩
 .cases h;exact .inr rfl
 .cases h
section inv
variable {P:Program} {nt:Nat}
theorem As (id:Nat) (ops:Array Oper) (I:Bool):cC P nt (.region id ops I)= .bad\/
 ((ops.toList.all λo=>match o.dst with|some d=>decide (d<nt)|none=>ai)=ai/\
   ((∃f caps t,Ej ops I=af (f,caps,t)/\cC P nt (.region id ops I)= .defer f caps t)\/
    ∃l prs,sL P ops ops.toList=af l/\Nz ops l=af prs/\cC P nt (.region id ops I)= .reg l prs)):=by
 simp only[cC];split
 .rename_i hd;split
  .rename_i f caps t h;exact .inr ⟨hd,.inl ⟨f,caps,t,h,rfl⟩⟩
  .split
   .rename_i l hl;split
    .rename_i prs hp;exact .inr ⟨hd,.inr ⟨l,prs,hl,hp,rfl⟩⟩
    .exact .inl rfl
   .exact .inl rfl
 .exact .inl rfl
def E_:Code->Bool
 |.cond (.const (.bool _)) _ _=>aj
 |_=>ai
theorem kq (P:Program) (nt:Nat) (c:Code):∃c',E_ c'=ai/\cC P nt c'=cC P nt c/\∀Q a w,c'.wp P Q a w->c.wp P Q a w:=by
 have self:∀c:Code,E_ c=ai->∃c',E_ c'=ai/\cC P nt c'=cC P nt c/\∀Q a w,c'.wp P Q a w->c.wp P Q a w:=λc h=>⟨c,h,rfl,λ_ _ _ h=>h⟩
 induction c with
 |cond o x y ihx ihy=>
  cases o with
  |const v=>
   cases v with
   |bool b=>
    cases b with
    |true=>
     obtain⟨c',h1,h2,I⟩:=ihx;exact⟨c',h1,h2,λQ a w h=>wp_cond_true rfl (I Q a w h)⟩
    |false=>
     obtain⟨c',h1,h2,I⟩:=ihy;exact⟨c',h1,h2,λQ a w h=>wp_cond_false rfl (I Q a w h)⟩
   |_=>exact self _ rfl
  |_=>exact self _ rfl
 |_=>exact self _ rfl
theorem Gu {α:Prop} {o:Operand} {x y:Code} {sc:SC} (hn:E_ (.cond o x y)=ai) (h:cC P nt (.cond o x y)=sc) (h1:sc≠ .bad) (h2:∀t a b,sc≠ .cond t a b):α:=by
 cases o with
 |tmp q=>exact (h2 _ _ _ h.symm).elim
 |const v=>cases v<;>first|exact (h1 h.symm).elim|cases hn
 |global g=>exact (h1 h.symm).elim
 |func f=>exact (h1 h.symm).elim
theorem ags {c:Code} {sl:List tj} {prs:List (Nat×Nat)} (hn:E_ c=ai) (h:cC P nt c= .reg sl prs):∃id ops I,c= .region id ops I/\(ops.toList.all λo=>match o.dst with|some d=>decide (d<nt)|none=>ai)=ai/\sL P ops ops.toList=af sl/\Nz ops sl=af prs:=by
 cases c with
 |region id ops I=>
  rcases As (P:=P) (nt:=nt) id ops I with h1|⟨hd,⟨f,caps,t,_,h1⟩|⟨l,p,h2,J,h1⟩⟩
  .rw[h1]at h;cases h
  .rw[h1]at h;cases h
  .rw[h1]at h;cases h;exact⟨id,ops,I,rfl,hd,h2,J⟩
 |cond o x y=>exact Gu hn h (by simp) (by simp)
 |_=>simp[cC]at h
theorem Zk {c:Code} {f:FuncId} {caps:List Operand} {t:Nat} (hn:E_ c=ai) (h:cC P nt c= .defer f caps t):∃id ops I,c= .region id ops I/\(ops.toList.all λo=>match o.dst with|some d=>decide (d<nt)|none=>ai)=ai/\Ej ops I=af (f,caps,t):=by
 cases c with
 |region id ops I=>
  rcases As (P:=P) (nt:=nt) id ops I with h1|⟨hd,⟨f',caps',t',h2,h1⟩|⟨l,p,h2,J,h1⟩⟩
  .rw[h1]at h;cases h
  .rw[h1]at h;cases h;exact⟨id,ops,I,rfl,hd,h2⟩
  .rw[h1]at h;cases h
 |cond o x y=>exact Gu hn h (by simp) (by simp)
 |_=>simp[cC]at h
theorem pK {c:Code} {sc:SC} (h:cC P nt c=sc) (h1:sc≠ .bad) (h2:∀a b,sc≠ .reg a b) (M:∀a b t,sc≠ .defer a b t):∀id ops J,c≠ .region id ops J:=by
 rintro id ops J rfl;rcases As (P:=P) (nt:=nt) id ops J with I|⟨_,⟨f,caps,t,_,I⟩|⟨l,p,_,_,I⟩⟩<;>rw[I]at h
 .exact h1 h.symm
 .exact M _ _ _ h.symm
 .exact h2 _ _ h.symm
theorem ad0 {c:Code} (hn:E_ c=ai) (h:cC P nt c= .skip):c= .skip:=by
 have I:=pK h (by simp) (by simp) (by simp);cases c with
 |skip=>rfl
 |region id ops J=>exact cX rfl (I id ops J)
 |cond o x y=>exact Gu hn h (by simp) (by simp)
 |_=>simp[cC]at h
theorem agr {c:Code} (hn:E_ c=ai) (h:cC P nt c= .ret):c= .ret:=by
 have I:=pK h (by simp) (by simp) (by simp);cases c with
 |ret=>rfl
 |region id ops J=>exact cX rfl (I id ops J)
 |cond o x y=>exact Gu hn h (by simp) (by simp)
 |_=>simp[cC]at h
theorem ad1 {c:Code} {i:Nat} (hn:E_ c=ai) (h:cC P nt c= .exit i):c= .exit i:=by
 have I:=pK h (by simp) (by simp) (by simp);cases c with
 |exit id=>simp[cC]at h;rw[h]
 |region id ops J=>exact cX rfl (I id ops J)
 |cond o x y=>exact Gu hn h (by simp) (by simp)
 |_=>simp[cC]at h
theorem Yb {c:Code} {a b:SC} (hn:E_ c=ai) (h:cC P nt c= .seq a b):∃x y,c= .seq x y/\cC P nt x=a/\cC P nt y=b:=by
 have I:=pK h (by simp) (by simp) (by simp);cases c with
 |seq x y=>simp[cC]at h;exact⟨x,y,rfl,h.1,h.2⟩
 |region id ops J=>exact cX rfl (I id ops J)
 |cond o x y=>exact Gu hn h (by simp) (by simp)
 |_=>simp[cC]at h
theorem ad2 {c:Code} {t:Nat} {a b:SC} (hn:E_ c=ai) (h:cC P nt c= .cond t a b):∃x y,c= .cond (.tmp t) x y/\cC P nt x=a/\cC P nt y=b:=by
 have I:=pK h (by simp) (by simp) (by simp);cases c with
 |cond o x y=>
  cases o with
  |tmp q=>simp[cC]at h;obtain⟨rfl,h1,h2⟩:=h;exact⟨x,y,rfl,h1,h2⟩
  |const v=>cases v<;>first|(simp [cC]at h;done)|cases hn
  |_=>simp[cC]at h
 |region id ops J=>exact cX rfl (I id ops J)
 |_=>simp[cC]at h
theorem NK {c:Code} {id:Nat} {b:SC} (hn:E_ c=ai) (h:cC P nt c= .block id b):∃y,c= .block id y/\cC P nt y=b:=by
 have I:=pK h (by simp) (by simp) (by simp);cases c with
 |block i y=>simp[cC]at h;obtain⟨rfl,h1⟩:=h;exact⟨y,rfl,h1⟩
 |region id ops J=>exact cX rfl (I id ops J)
 |cond o x y=>exact Gu hn h (by simp) (by simp)
 |_=>simp[cC]at h
theorem RZ {c:Code} {b:SC} (hn:E_ c=ai) (h:cC P nt c= .loop b):∃y,c= .loop y/\cC P nt y=b:=by
 have I:=pK h (by simp) (by simp) (by simp);cases c with
 |loop y=>simp[cC]at h;exact⟨y,rfl,h⟩
 |region id ops J=>exact cX rfl (I id ops J)
 |cond o x y=>exact Gu hn h (by simp) (by simp)
 |_=>simp[cC]at h
end inv
def ajy {R:Type} (P:Program) (E:Nat->Prop) (nt np:Nat) (φ:PM) (s:TS) (w:World) (am:Nat) (K:Ex->TS->Option R) (r:R):Exit->Act->World->Prop:=
 λe a' w'=>∃ex s' φ',e=ex.to/\K ex s'=af r/\pi P E nt np φ' s' a' w'/\CZ np φ φ' (bF s.h) (bF s'.h) w w'/\gG am s.e s'.e
theorem pi.bool {P:Program} {E:Nat->Prop} {nt np:Nat} {φ:PM} {s:TS} {a:Act} {w:World} (c:pi P E nt np φ s a w) {t:Nat} {b:Bool} (ht:s.e.get t=af (.f .bool b)):a.eval (.tmp t)= .bool b:=
 fM (c.env t _ (by simp only[gi,ht,aI,cB];rfl))
theorem pi.anyb {P:Program} {E:Nat->Prop} {nt np:Nat} {φ:PM} {s:TS} {a:Act} {w:World} (c:pi P E nt np φ s a w) {t:Nat} (ht:s.e.get t=af .anyb):∃b,a.eval (.tmp t)= .bool b:=by
 have:=c.env t .anyb (by simp only[gi,ht,aI,cB]);show ∃b,a.tmps.getD t undef= .bool b;generalize a.tmps.getD t undef=z at this;cases this with
 |anyb=>exact⟨_,rfl⟩
theorem aa4 {R:Type} {a b:Option R} {r:R} (h:F5 a b=af r):a=af r/\b=af r:=by
 unfold F5 at h;split at h
 .rename_i e;exact⟨h,by rw[<- e];exact h⟩
 .cases h
theorem akd {P:Program} {E:Nat->Prop} {nt np:Nat} {con:FuncId->Option cq} {b9:TypeId->Option Ty} {inert:FuncId->Bool} (hm:P.follows .mixedOrders=ai) (hcon:L1 P con) (hin:LV P inert):
 ∀{tc:TC} {sc:SC},Er tc sc->∀(c:Code),cC P nt c=sc->∀(R:Type) (s:TS) (K:Ex->TS->Option R) (r:R),pD np con b9 inert tc s K=af r->∀(φ:PM) (a:Act) (w:World),pi P E nt np φ s a w->c.wp P (ajy P E nt np φ s w (tc.asg 0) K r) a w:=by
 intro tc sc hE;induction hE with
 |skip=>
  intro c hc R s K r h φ a w g;obtain⟨c',hn,I,hsim⟩:=kq P nt c;refine hsim _ _ _ ?_;rw[<- I]at hc;rw[ad0 hn hc];exact wp_skip ⟨.normal,s,φ,rfl,h,g,CZ.refl _ _ _ _,gG.refl _ _⟩
 |reg ops prs=>
  intro c hc R s K r h φ a w g;obtain⟨c',hn,I,hsim⟩:=kq P nt c;refine hsim _ _ _ ?_;rw[<- I]at hc;obtain⟨id,os,dr,rfl,h1,h2,h3⟩:=ags hn hc;simp only[pD]at h;refine ac8 (K:=λs'=>K .normal s') hm hcon g (am:=QN ops 0) (λj o d ho hd=>?_) h1 h2 h3 h λa' w' s' φ' Z J q3 q4=>⟨.normal,s',φ',rfl,Z,J,q3,q4⟩
  have hmem:o∈os.toList:=by have:=Array.mem_of_getElem? ho;simpa using this
  have key:∀(rest:List Oper) (sl:List tj),sL P os rest=af sl->∀o∈rest,∃so∈sl,so.dst=o.dst:=by
   intro rest;induction rest with
   |nil=>intro sl _ o ho;cases ho
   |cons x rest ih=>
    intro sl hsl o ho;simp only[sL]at hsl;split at hsl
    .rename_i l hl;have:∃so,sl=so::l/\so.dst=x.dst:=by
      split at hsl
      .simp only[ak]at hsl;exact⟨_,hsl.symm,rfl⟩
      .split at hsl
       .simp only[ak]at hsl;exact⟨_,hsl.symm,rfl⟩
       .cases hsl
     obtain⟨so,rfl,hso⟩:=this;rcases bp.1 ho with rfl|ho
     .exact⟨so,by simp,hso⟩
     .obtain⟨q,hq,hq2⟩:=ih l hl o ho;exact⟨q,by simp[hq],hq2⟩
    .cases hsl
  obtain⟨so,hso,hd2⟩:=key os.toList ops h2 o hmem;exact Uk hso (by rw[hd2];exact hd)
 |@seq x y x' y' _ _ ihx ihy=>
  intro c hc R s K r h φ a w g;obtain⟨c',hn,I,hsim⟩:=kq P nt c;refine hsim _ _ _ ?_;rw[<- I]at hc;obtain⟨cx,cy,rfl,h1,h2⟩:=Yb hn hc;simp only[pD]at h;refine wp_seq (wp_mono (ihx cx h1 R s _ r h φ a w g) ?_);rintro e a' w' ⟨ex,s',φ',rfl,hk,g',st,M⟩;have kp':gG ((TC.seq x y).asg 0) s.e s'.e:=M.mono λk hk=>by simp only[TC.asg];exact kC hk
  cases ex with
  |normal=>
   refine wp_mono (ihy cy h2 R s' K r hk φ' a' w' g') ?_;rintro e2 a2 w2 ⟨ex2,s2,φ2,rfl,hk2,g2,st2,kp2⟩;exact⟨ex2,s2,φ2,rfl,hk2,g2,st.trans st2,kp'.trans (kp2.mono λk hk=>by simp only[TC.asg];exact v_ hk)⟩
  |exit id=>exact⟨.exit id,s',φ',rfl,hk,g',st,kp'⟩
  |ret=>exact⟨.ret,s',φ',rfl,hk,g',st,kp'⟩
 |@jseq A x y x' y' _ _ ihx ihy=>
  intro c hc R s K r h φ a w g;obtain⟨c',hn,I,hsim⟩:=kq P nt c;refine hsim _ _ _ ?_;rw[<- I]at hc;obtain⟨cx,cy,rfl,h1,h2⟩:=Yb hn hc;simp only[pD]at h;have sub1:∀k,aN (x.asg 0) k=ai->aN ((TC.jseq A x y).asg 0) k=ai:=λk hk=>by simp only[TC.asg];exact kC (v_ hk)
  have sub2:∀k,aN (y.asg 0) k=ai->aN ((TC.jseq A x y).asg 0) k=ai:=λk hk=>by simp only[TC.asg];exact v_ hk
  have sub3:∀k,aN (Mo A.ks 0) k=ai->aN ((TC.jseq A x y).asg 0) k=ai:=λk hk=>by simp only[TC.asg];exact kC (kC hk)
  rcases X' h with ⟨d,h3,h4⟩|h3
  .refine wp_seq (wp_mono (ihx cx h1 _ s _ _ h3 φ a w g) ?_);rintro e a' w' ⟨ex,s',φ',rfl,hk,g',st,M⟩;cases ex with
   |normal=>
    simp only[]at hk;obtain⟨d',Z,J⟩:=dQ hk;simp only[ak,Sum.inr.injEq]at J;subst J;split at h4
    .rename_i s1 Y;obtain⟨φ1,g1,I6⟩:=Pq g' Z Y λk _ _ v hv hf ha v' U=>by
      obtain⟨v0,e1,e2⟩:=M k ha v' U;rw[hv]at e1;cases e1;exact e2 hf
     refine wp_mono (ihy cy h2 R s1 K r h4 φ1 a' w' g1) ?_;rintro e2 a2 w2 ⟨ex2,s2,φ2,rfl,hk2,g2,st2,kp2⟩;exact⟨ex2,s2,φ2,rfl,hk2,g2,(st.trans I6).trans st2,((E0 Y).1.mono sub3).trans (kp2.mono sub2)⟩
    .cases h4
   |exit id=>simp only[]at hk;obtain⟨_,_,J⟩:=dQ hk;simp at J
   |ret=>simp only[]at hk;obtain⟨_,_,J⟩:=dQ hk;simp at J
  .refine wp_seq (wp_mono (ihx cx h1 _ s _ _ h3 φ a w g) ?_);rintro e a' w' ⟨ex,s',φ',rfl,hk,g',st,M⟩;cases ex with
   |normal=>simp only[]at hk;obtain⟨_,_,J⟩:=dQ hk;simp at J
   |exit id=>
    simp only[]at hk;obtain⟨r',Z,J⟩:=dQ hk;simp only[ak,Sum.inl.injEq]at J;subst J;exact⟨.exit id,s',φ',rfl,Z,g',st,M.mono sub1⟩
   |ret=>
    simp only[]at hk;obtain⟨r',Z,J⟩:=dQ hk;simp only[ak,Sum.inl.injEq]at J;subst J;exact⟨.ret,s',φ',rfl,Z,g',st,M.mono sub1⟩
 |@cond t x y x' y' _ _ ihx ihy=>
  intro c hc R s K r h φ a w g;obtain⟨c',hn,I,hsim⟩:=kq P nt c;refine hsim _ _ _ ?_;rw[<- I]at hc;obtain⟨cx,cy,rfl,h1,h2⟩:=ad2 hn hc;simp only[pD]at h;split at h
  .rename_i b hb;rcases p_ h with ⟨rfl,h⟩|⟨rfl,h⟩
   .refine wp_cond_true (g.bool hb) (wp_mono (ihx cx h1 R s K r h φ a w g) ?_);rintro e a' w' ⟨ex,s',φ',rfl,hk,g',st,M⟩;exact⟨ex,s',φ',rfl,hk,g',st,M.mono λk hk=>by simp only[TC.asg];exact kC hk⟩
   .refine wp_cond_false (g.bool hb) (wp_mono (ihy cy h2 R s K r h φ a w g) ?_);rintro e a' w' ⟨ex,s',φ',rfl,hk,g',st,M⟩;exact⟨ex,s',φ',rfl,hk,g',st,M.mono λk hk=>by simp only[TC.asg];exact v_ hk⟩
  .rename_i hb;obtain⟨ha,hbb⟩:=aa4 h;obtain⟨bv,hbv⟩:=g.anyb hb;cases bv with
   |true=>
    refine wp_cond_true hbv (wp_mono (ihx cx h1 R s K r ha φ a w g) ?_);rintro e a' w' ⟨ex,s',φ',rfl,hk,g',st,M⟩;exact⟨ex,s',φ',rfl,hk,g',st,M.mono λk hk=>by simp only[TC.asg];exact kC hk⟩
   |false=>
    refine wp_cond_false hbv (wp_mono (ihy cy h2 R s K r hbb φ a w g) ?_);rintro e a' w' ⟨ex,s',φ',rfl,hk,g',st,M⟩;exact⟨ex,s',φ',rfl,hk,g',st,M.mono λk hk=>by simp only[TC.asg];exact v_ hk⟩
  .cases h
 |@block id b b' _ ih=>
  intro c hc R s K r h φ a w g;obtain⟨c',hn,I,hsim⟩:=kq P nt c;refine hsim _ _ _ ?_;rw[<- I]at hc;obtain⟨cb,rfl,h1⟩:=NK hn hc;simp only[pD]at h;refine wp_block (wp_mono (ih cb h1 R s _ r h φ a w g) ?_);rintro e a' w' ⟨ex,s',φ',rfl,hk,g',st,M⟩;cases ex with
  |normal=>exact⟨.normal,s',φ',rfl,hk,g',st,M⟩
  |ret=>exact⟨.ret,s',φ',rfl,hk,g',st,M⟩
  |exit i=>
   simp only[Ex.to,Exit.inBlock];simp only[]at hk;split at hk
   .rename_i hb;rw[aD (aw hb)];exact⟨.normal,s',φ',rfl,hk,g',st,M⟩
   .rename_i hb;rw[aA (λe=>hb (by rw[e];exact sx id))];exact⟨.exit i,s',φ',rfl,hk,g',st,M⟩
 |@jblock A id b b' _ ih=>
  intro c hc R s K r h φ a w g;obtain⟨c',hn,I,hsim⟩:=kq P nt c;refine hsim _ _ _ ?_;rw[<- I]at hc;obtain⟨cb,rfl,h1⟩:=NK hn hc;simp only[pD]at h;have sub1:∀k,aN (b.asg 0) k=ai->aN ((TC.jblock A id b).asg 0) k=ai:=λk hk=>by simp only[TC.asg];exact v_ hk
  have sub3:∀k,aN (Mo A.ks 0) k=ai->aN ((TC.jblock A id b).asg 0) k=ai:=λk hk=>by simp only[TC.asg];exact kC hk
  rcases X' h with ⟨d,h3,h4⟩|h3
  .refine wp_block (wp_mono (ih cb h1 _ s _ _ h3 φ a w g) ?_);rintro e a' w' ⟨ex,s',φ',rfl,hk,g',st,M⟩;have fin:obind (MP np A (b.asg 0) s s') (λx=>af (bO (α:=R) x))=af (bO d)->ajy P E nt np φ s w ((TC.jblock A id b).asg 0) K r .normal a' w':=by
    intro hk;obtain⟨d',Z,J⟩:=dQ hk;simp only[ak,Sum.inr.injEq]at J;subst J;split at h4
    .rename_i s1 Y;obtain⟨φ1,g1,I6⟩:=Pq g' Z Y λk _ _ v hv hf ha v' U=>by
      obtain⟨v0,e1,e2⟩:=M k ha v' U;rw[hv]at e1;cases e1;exact e2 hf
     exact⟨.normal,s1,φ1,rfl,h4,g1,st.trans I6,(E0 Y).1.mono sub3⟩
    .cases h4
   cases ex with
   |normal=>exact fin hk
   |ret=>simp only[]at hk;obtain⟨_,_,J⟩:=dQ hk;simp at J
   |exit i=>
    simp only[Ex.to,Exit.inBlock];simp only[]at hk;split at hk
    .rename_i hb;rw[aD (aw hb)];exact fin hk
    .obtain⟨_,_,J⟩:=dQ hk;simp at J
  .refine wp_block (wp_mono (ih cb h1 _ s _ _ h3 φ a w g) ?_);rintro e a' w' ⟨ex,s',φ',rfl,hk,g',st,M⟩;cases ex with
   |normal=>simp only[]at hk;obtain⟨_,_,J⟩:=dQ hk;simp at J
   |ret=>
    simp only[]at hk;obtain⟨r',Z,J⟩:=dQ hk;simp only[ak,Sum.inl.injEq]at J;subst J;exact⟨.ret,s',φ',rfl,Z,g',st,M.mono sub1⟩
   |exit i=>
    simp only[Ex.to,Exit.inBlock];simp only[]at hk;split at hk
    .obtain⟨_,_,J⟩:=dQ hk;simp at J
    .rename_i hb;rw[aA (λe=>hb (by rw[e];exact sx id))];obtain⟨r',Z,J⟩:=dQ hk;simp only[ak,Sum.inl.injEq]at J;subst J;exact⟨.exit i,s',φ',rfl,Z,g',st,M.mono sub1⟩
 |@loop A b b' _ ih=>
  intro c hc R s K r h φ a w g;obtain⟨c',hn,I,hsim⟩:=kq P nt c;refine hsim _ _ _ ?_;rw[<- I]at hc;obtain⟨cb,rfl,h1⟩:=RZ hn hc;simp only[pD]at h;obtain⟨x0,hx0,h⟩:=dQ h;obtain⟨n,hn⟩:=Zj h;have sub1:∀k,aN (b.asg 0) k=ai->aN ((TC.loop A b).asg 0) k=ai:=λk hk=>by simp only[TC.asg];exact v_ hk
  have sub3:∀k,aN (Mo A.ks 0) k=ai->aN ((TC.loop A b).asg 0) k=ai:=λk hk=>by simp only[TC.asg];exact kC hk
  obtain⟨step,hstep⟩:∃step:A.D->Option (A.D⊕R),step=λx=>(match HJ A (b.asg 0) s x with
   |some s'=>pD np con b9 inert b s' λex s'=>(match ex with
    |.normal=>obind (MP np A (b.asg 0) s s') λy=>af (kO y)
    |ex=>obind (K ex s') λr=>af (bO r))
   |none=>ah):=⟨_,rfl⟩
  have hn:iterN step n x0=af r:=by rw[hstep];exact hn
  have stepEq:∀x,step x=(match HJ A (b.asg 0) s x with
   |some s'=>pD np con b9 inert b s' λex s'=>(match ex with
    |.normal=>obind (MP np A (b.asg 0) s s') λy=>af (kO y)
    |ex=>obind (K ex s') λr=>af (bO r))
   |none=>ah):=λx=>by rw[hstep]
  let Inv:Nat->Act->World->Prop:=λn a w'=>∃x s1 φ1,iterN step n x=af r/\HJ A (b.asg 0) s x=af s1/\pi P E nt np φ1 s1 a w'/\CZ np φ φ1 (bF s.h) (bF s1.h) w w'
  have head:∀(n:Nat) (x:A.D),iterN step n x=af r->∃s1,HJ A (b.asg 0) s x=af s1:=by
   intro n x hn;cases n with
   |zero=>cases hn
   |succ n=>
    simp only[iterN]at hn;cases hr:HJ A (b.asg 0) s x with
    |some s1=>exact⟨s1,rfl⟩
    |none=>rw[stepEq,hr]at hn;cases hn
  refine C3 Inv ?_ (n:=n) ?_
  .rintro n a1 w1 ⟨x,s1,φ1,hi,hr,g1,I6⟩;cases n with
   |zero=>cases hi
   |succ n=>
    simp only[iterN]at hi;have hse:=stepEq x;rw[hr]at hse;simp only[]at hse;obtain⟨kp1,kp1'⟩:=E0 hr;split at hi
    .rename_i y hy;rw[hy]at hse;refine wp_mono (ih cb h1 _ s1 _ _ hse.symm φ1 a1 w1 g1) ?_;rintro e a' w' ⟨ex,s',φ',rfl,hk,g',st,M⟩;cases ex with
     |normal=>
      simp only[]at hk;obtain⟨d',Z,J⟩:=dQ hk;simp only[ak,Sum.inl.injEq]at J;subst J;obtain⟨s2,hs2⟩:=head n d' hi;obtain⟨φ2,g2,st2⟩:=Pq g' Z hs2 λk hkk hks v hv hf ha v' U=>by
       obtain⟨v0,e1,e2⟩:=M k ha v' U;have:=kp1' k hks v0 e1;rw[hv]at this;cases this;exact e2 hf
      exact⟨n,by omega,d',s2,φ2,hi,hs2,g2,(I6.trans st).trans st2⟩
     |exit id=>simp only[]at hk;obtain⟨_,_,J⟩:=dQ hk;simp at J
     |ret=>simp only[]at hk;obtain⟨_,_,J⟩:=dQ hk;simp at J
    .rename_i r' hy;cases hi;rw[hy]at hse;refine wp_mono (ih cb h1 _ s1 _ _ hse.symm φ1 a1 w1 g1) ?_;rintro e a' w' ⟨ex,s',φ',rfl,hk,g',st,M⟩;cases ex with
     |normal=>simp only[]at hk;obtain⟨_,_,J⟩:=dQ hk;simp at J
     |exit id=>
      simp only[]at hk;obtain⟨r',Z,J⟩:=dQ hk;simp only[ak,Sum.inr.injEq]at J;subst J;exact⟨.exit id,s',φ',rfl,Z,g',I6.trans st,(kp1.mono sub3).trans (M.mono sub1)⟩
     |ret=>
      simp only[]at hk;obtain⟨r',Z,J⟩:=dQ hk;simp only[ak,Sum.inr.injEq]at J;subst J;exact⟨.ret,s',φ',rfl,Z,g',I6.trans st,(kp1.mono sub3).trans (M.mono sub1)⟩
    .cases hi
  .obtain⟨s1,Y⟩:=head n x0 hn;obtain⟨φ1,g1,I6⟩:=Pq g hx0 Y λk _ _ v hv _ _ v' U=>by rw[hv]at U;cases U;rfl
   exact⟨x0,s1,φ1,hn,Y,g1,I6⟩
 |exit id=>
  intro c hc R s K r h φ a w g;obtain⟨c',hn,I,hsim⟩:=kq P nt c;refine hsim _ _ _ ?_;rw[<- I]at hc;rw[ad1 hn hc];exact wp_exit ⟨.exit id,s,φ,rfl,h,g,CZ.refl _ _ _ _,gG.refl _ _⟩
 |ret=>
  intro c hc R s K r h φ a w g;obtain⟨c',hn,I,hsim⟩:=kq P nt c;refine hsim _ _ _ ?_;rw[<- I]at hc;rw[agr hn hc];exact wp_ret ⟨.ret,s,φ,rfl,h,g,CZ.refl _ _ _ _,gG.refl _ _⟩
 |defer f caps t=>
  intro c hc R s K r h φ a w g;obtain⟨c',hn,I,hsim⟩:=kq P nt c;refine hsim _ _ _ ?_;rw[<- I]at hc;obtain⟨id,ops,dr,rfl,h1,h2⟩:=Zk hn hc;simp only[pD]at h;split at h
  .rename_i l hl;split at h
   .rename_i hi;obtain⟨l',e1,e2⟩:=zI g.invE hl;obtain⟨H,hH⟩:=jV s.h;have lowN:∀n k,φ n=af k->n<2*s.nx+2:=λn k hk=>by have:=g.dom n k hk;unfold ow at this;omega
    have cfg:Cfg P ⟨2*s.nx+2,φ,E,bF s.h,w⟩ nt ⟨Km s.e s.h,H,2*s.nx+2,0⟩ a w:=by
     refine ⟨⟨φ,?_,?_,?_,lowN,λi k hk=>.inl hk⟩,bV _,g.inert,g.size⟩
     .rw[hH];exact jm.refl _ _ _
     .rw[hH];exact g.rep
     .rw[hH,vW];exact g.env
    refine Tg hin cfg h1 h2 e1 hi λa' w' c'=>?_
    obtain⟨φ',m',r',en',dm',d0'⟩:=c'.ex;have hφ:φ'=φ:=by
     funext n;cases hx:φ n with
     |some k=>exact m'.sub n k hx
     |none=>
      cases hy:φ' n with
      |none=>rfl
      |some k=>
       rcases d0' n k hy with h3|h3
       .have h3:φ n=af k:=h3;rw[hx]at h3;cases h3
       .have h4:n<2*s.nx+2:=dm' n k hy;have h5:2*s.nx+2<=n:=h3;omega
    subst hφ;simp only[hH]at m' r' en';refine ⟨.normal,_,φ',rfl,h,⟨r',?_,g.dom,g.low,g.invH,?_,c'.inert,c'.size⟩,⟨m'.ext,m'.own_,λ_ _=>rfl⟩,?_⟩
    .intro u x hx;refine en' u x ?_;simp only[gi,PT.get_set]at hx;simp only[AB.put,PT.get_set];split at hx
     .rename_i eu;rw[aD eu];simp only[aI,cB,e2,ak]at hx;rw[hx]
     .rename_i eu;rw[aA eu,vW];exact hx
    .intro u x hx;simp only[PT.get_set]at hx;split at hx
     .cases hx;simp only[Ml];exact kX _ _ _ e2
     .exact g.invE u x hx
    .intro k hk v' U;simp only[PT.get_set]at U;split at U
     .rename_i ek;subst ek;simp only[TC.asg]at hk;rw[bz,ca.2 rfl]at hk;simp at hk
     .exact⟨v',U,λ_=>rfl⟩
   .cases h
  .cases h
 |@adj l tc' sc' _ ih=>
  intro c hc R s K r h φ a w g;obtain⟨c',hn,I,hsim⟩:=kq P nt c;refine hsim _ _ _ ?_;rw[<- I]at hc;simp only[pD]at h;split at h
  .rename_i s1 Y;obtain⟨φ1,g1,I6,kp1⟩:=Xj g Y;refine wp_mono (ih c' hc R s1 K r h φ1 a w g1) ?_;rintro e a' w' ⟨ex,s',φ',rfl,hk,g',st,M⟩;exact⟨ex,s',φ',rfl,hk,g',I6.trans st,(kp1.mono λk hk=>by simp only[TC.asg];exact kC hk).trans (M.mono λk hk=>by simp only[TC.asg];exact v_ hk)⟩
  .cases h
 |@split k off lo n tc' sc' _ ih=>
  intro c hc R s K r h φ a w g;obtain⟨c',hn,I,hsim⟩:=kq P nt c;refine hsim _ _ _ ?_;rw[<- I]at hc;simp only[pD]at h;split at h
  .rename_i kd v hv;obtain⟨j,hj,h2⟩:=Rp h;subst hj;split at h2
   .rename_i s1 Y;obtain⟨g1,hH,he⟩:=ac4 g hv Y;refine wp_mono (ih c' hc R s1 K r h2 φ a w g1) ?_;rintro e a' w' ⟨ex,s',φ',rfl,hk,g',st,M⟩;exact⟨ex,s',φ',rfl,hk,g',by rw[<- hH];exact st,λk hk v' U=>by
     obtain⟨v,Z,J⟩:=M k hk v' U;exact⟨v,by rw[<- he];exact Z,J⟩⟩
   .cases h2
  .cases h
 |@unl n b b' _ ih=>
  intro c hc R s K r h φ a w g;obtain⟨c',hn,I,hsim⟩:=kq P nt c;refine hsim _ _ _ ?_;rw[<- I]at hc;obtain⟨cb,rfl,h1⟩:=RZ hn hc;simp only[pD]at h
  let Inv:Nat->Act->World->Prop:=λm a w'=>∃s1 φ1,afv (λs K=>pD np con b9 inert b s K) m s1 K=af r/\pi P E nt np φ1 s1 a w'/\CZ np φ φ1 (bF s.h) (bF s1.h) w w'/\gG (b.asg 0) s.e s1.e
  refine C3 Inv ?_ (n:=n) ⟨s,φ,h,g,CZ.refl _ _ _ _,gG.refl _ _⟩;rintro m a1 w1 ⟨s1,φ1,hi,g1,I6,kp1⟩;cases m with
  |zero=>cases hi
  |succ m=>
   simp only[afv]at hi;refine wp_mono (ih cb h1 R s1 _ r hi φ1 a1 w1 g1) ?_;rintro e a' w' ⟨ex,s',φ',rfl,hk,g',st,M⟩;cases ex with
   |normal=>exact⟨m,rx m,s',φ',hk,g',I6.trans st,kp1.trans M⟩
   |exit id=>exact⟨.exit id,s',φ',rfl,hk,g',I6.trans st,kp1.trans M⟩
   |ret=>exact⟨.ret,s',φ',rfl,hk,g',I6.trans st,kp1.trans M⟩
 |bad sc'=>
  intro c hc R s K r h;simp[pD]at h
theorem O5 {P:Program} {φ:PM} {E:Nat->Prop} {s:TS} {a:Act} {w:World} (hinv:mr s.h s.nx) (hiE:uj s.e s.h) (r:rH φ E (bF s.h) w) (en:OJ φ (tot E φ (bF s.h)) w (gi s.e s.h) a):∀(rs:List ResultVar) (rvs:List RV) (l:List TV),v9 P rs=af rvs->Vf s rvs=af l->
 ∃la vs,cU s.h l=af la/\(rs.mapM (Y9 a.tmps)).run P w= .ok vs w/\kf φ (tot E φ (bF s.h)) w la vs
 |[],rvs,l,hc,hr=>by
  simp only[v9,ak]at hc;subst hc;simp only[Vf,ak]at hr;subst hr;exact⟨[],[],rfl,by simp,trivial⟩
 |.tmp t::rs,rvs,l,hc,hr=>by
  simp only[v9]at hc;split at hc
  .rename_i rvs' hrs;simp only[ak]at hc;subst hc;simp only[Vf]at hr;split at hr
   .rename_i v hv;split at hr
    .rename_i M I;simp only[ak]at hr;subst hr;obtain⟨la,vs,h0,h1,h2⟩:=O5 hinv hiE r en rs rvs' M hrs I;simp only[rvT]at hv;obtain⟨y,Y⟩:=qG s.h v (hiE t v hv);refine ⟨y::la,a.tmps.getD t undef::vs,px Y h0,?_,en t y (by simp only[gi,hv,aI,Y]),h2⟩;simp only[List.mapM_cons,eT,Y9,pl,cR];show ((rs.mapM (Y9 a.tmps)).run P w).andThen _=_;rw[h1];rfl
    .cases hr
   .cases hr
  .cases hc
 |.cell ad t::rs,rvs,l,hc,hr=>by
  simp only[v9]at hc;split at hc
  .rename_i rvs' sz ag hrs hsz hag;simp only[ak]at hc;subst hc;simp only[Vf]at hr;split at hr
   .rename_i v hv;split at hr
    .rename_i M I;simp only[ak]at hr;subst hr;obtain⟨la,vs,h0,h1,h2⟩:=O5 hinv hiE r en rs rvs' M hrs I;simp only[rvT]at hv;split at hv
     .rename_i id off hp;split at hv
      .rename_i ty q hb;obtain⟨q',J⟩:=fI s.h q (hinv.cells id ty q hb);obtain⟨y,e1,e2⟩:=XJ J hv;obtain⟨H,Z⟩:=jV s.h;have hR:EB H sz ag (.ptr (nm id) off)=af ⟨y,[nm id],[],[],[]⟩:=by
        have hg:H.get (nm id)=af ⟨ty,.mx q'⟩:=by rw[Z,bN,hb];simp only[aI,kN,J]
        simp only[EB,hg,e2]
       obtain⟨_,_,_,h3⟩:=Uo (P:=P) hsz hag hR;obtain⟨qq,U,h4,h5,h6⟩:=h3 φ E (bF s.h) w _ (λi _=>by rw[Z]) r (en ad _ (by simp only[gi,hp,aI,cB]));refine ⟨y::la,U::vs,px e1 h0,?_,h6,h2⟩;have hone:(Y9 a.tmps (.cell ad t)).run P w= .ok U w:=by
        simp only[Y9,eT,h4,asAddr,pl,cR,h5]
       rw[List.mapM_cons];simp only[eT,hone,cR,h1,pl]
      .cases hv
     .cases hv
    .cases hr
   .cases hr
  .cases hc
theorem F7:∀(args:List TV) (k t:Nat) (x:TV),(LD k args).get t=af x->k<=t/\args[t-k]? =af x
 |[],k,t,x,h=>by simp[LD,PT.get]at h
 |y::args,k,t,x,h=>by
  rw[LD,PT.get_set]at h;split at h
  .rename_i hk;subst hk;cases h;exact⟨bV _,by simp⟩
  .obtain⟨h1,h2⟩:=F7 args (k+1) t x h;refine ⟨by omega,?_⟩;rw[show t-k=t-(k+1)+1 from by omega];simpa using h2
theorem acl {h:bl} {l:List TV} (J:lh h l=ai) {j:Nat} {v:TV} (hj:l[j]? =af v):Ml h v=ai:=by
 obtain⟨M,hl⟩:=fI h l J;obtain⟨y,_,I⟩:=mn hl j v hj;exact FI _ _ _ I
theorem U7 {P:Program} {con:FuncId->Option cq} {b9:TypeId->Option Ty} {inert:FuncId->Bool} (hm:P.follows .mixedOrders=ai) (hcon:L1 P con) (hin:LV P inert) {f:FuncId} {sf:SF} (hf:At P f=af sf) (D:FT) (m:D.pre.ty.den->Option D.post.ty.den) (hmod:∀x y,m x=af y->abx con b9 inert (af sf) D x=af y):qr P f ⟨D.pre,D.post,m⟩:=by
 obtain⟨fn,c,hfn,hb,hnm,hcode,hres,hnt⟩:=Ua hf;refine ⟨⟨fn,hfn,by rw[hb];rfl,hnm⟩,λx y hxy vs hp l1 rs hq l2 la lr I J hla hlr φ E w us hrep hrel hdom=>?_⟩;have ht:=hmod x y hxy;unfold abx at ht;simp only[]at ht;split at ht
 .rename_i args h hins;obtain⟨l1',I'⟩:=xa hins;have e1:args=vs:=by have h1:=I.pv;have h2:=I'.pv;rw[h1]at h2;cases h2;rfl
  have e2:l1'=l1:=by have h1:=I.pb;have h2:=I'.pb;rw[h1]at h2;cases h2;rfl
  subst e1;subst e2;have hget:∀i,h.get i=hp.get i:=λi=>by
   cases h3:hp.get i with
   |some b=>exact (I'.at_ i b).2 ((I.at_ i b).1 h3)
   |none=>
    cases h4:h.get i with
    |none=>rfl
    |some b=>have:=(I.at_ i b).2 ((I'.at_ i b).1 h4);rw[h3]at this;cases this
  have hrow:∀i,eL h i=eL hp i:=λi=>by rw[bX,bX,hget]
  have herH:bF h=bF hp:=by
   funext n;by_cases hn:∃i,n=nm i
   .obtain⟨i,rfl⟩:=hn;rw[bN,bN,hget];cases h3:hp.get i with
    |none=>rfl
    |some b=>
     simp only[aI];refine Kn (λi r hr=>by rw[hrow];exact hr) λty l e=>?_
     exact (I.cells i ty l (by rw[h3,e])).1
   .rw[xh _ hn,xh _ hn]
  have hla':cU h args=af la:=ic (λi r hr=>by rw[hrow];exact hr) args la hla;split at ht
  .rename_i hle;simp only[av]at hle;have hle2:=a_ hle.2;have hle:=a_ hle.1;have hlen:=hrel.length;have hargl:args.length=la.length:=(il hla).symm;refine calls_of_wp_defers hfn hb ?_;have hcfg:pi P E fn.ntmps D.pre.bs.length φ ⟨LD 0 args,h,D.pre.bs.length⟩ {tmps:=us.toArray++oW (fn.ntmps-us.toArray.size) undef,defers:=[]} w:=by
    refine ⟨by rw[herH];exact hrep,?_,hdom,bV _,⟨λi ty l hl=>(I'.cells i ty l hl).1,λi b hbb=>I'.lt_len hbb⟩,?_,by simp,by simp;omega⟩
    .intro t z U;simp only[gi]at U;cases Z:(LD 0 args).get t with
     |none=>rw[Z]at U;cases U
     |some v0=>
      rw[Z]at U;obtain⟨_,h2⟩:=F7 args 0 t v0 Z;rw[Nat.sub_zero]at h2;obtain⟨y0,q1,Y⟩:=mn hla' t v0 h2;simp only[aI]at U;rw[U]at Y;cases Y;obtain⟨v,h3,h4⟩:=hrel.get t z q1;have hlt:t<us.length:=(bn.1 h3).1;have:(us.toArray++oW (fn.ntmps-us.toArray.size) undef).getD t undef=v:=by
       rw[gR,Array.getElem?_append];simp only[tX,hlt,bI,kD,h3,vD]
      show cV φ _ w z ((us.toArray++oW (fn.ntmps-us.toArray.size) undef).getD t undef);rw[this,herH];exact h4
    .intro t v0 hv0;obtain⟨_,h2⟩:=F7 args 0 t v0 hv0;exact acl I'.ok h2
   refine wp_mono (akd (E:=E) hm hcon hin (yz D.hints sf.code 0) c hcode.symm _ _ _ _ ht φ _ w hcfg) ?_;rintro e a' w' ⟨ex,s',φ',rfl,hk,g',st,_⟩;have fin:(match Vf s' sf.res with
    |some l=>(match Fd D.pre.bs.length D.post l s'.h with
     |some ⟨y,_,_,_⟩=>(match Dz D.post y with|some _=>af y|none=>ah)
     |none=>ah)
    |none=>ah)=af y->Leaves P fn a'.tmps (λen w'=>∃v φ',en= .returned v/\LX (own φ (bF hp)) w w'/\(∀k,k<w.heap.size->own φ' (bF hq) k->own φ (bF hp) k)/\(∀i,i<D.pre.bs.length->φ' (nm i)=φ (nm i))/\rH φ' E (bF hq) w'/\cV φ' (tot E φ' (bF hq)) w' (ES lr) v) a'.defers .returning w':=by
    intro hk;split at hk
    .rename_i l hl;split at hk
     .rename_i y' m' σ sm hM;split at hk
      .simp only[ak]at hk;subst hk;obtain⟨lo,rvs,q0,q1,Y⟩:=O5 g'.invH g'.invE g'.rep g'.env fn.results.toList sf.res l hres hl;have M:=wY hM;obtain⟨φ2,lu,hlu,S⟩:=Mg (np:=D.pre.bs.length) (E:=E) J g'.invH M q0 g'.rep;rw[hlr]at hlu;cases hlu;have hresults:(results fn a'.tmps).run P w'= .ok (if h:rvs.toArray.size=1 then rvs.toArray[0] else .tuple rvs.toArray) w':=by
        rw[Vh,Array.mapM_eq_mapM_toList];simp only[eT,Sem.run_map,q1,cR,pl]
       have hrl:kf φ2 (tot E φ2 (bF hq)) w' lr rvs:=by
        refine kf.of (by rw[Y.length,S.len]) λj z v U hv=>?_
        obtain⟨z0,p1,p2⟩:=S.val j z v U;obtain⟨v',p3,p4⟩:=Y.get j z0 p1;rw[hv]at p3;cases p3;exact p2 p4
       have hval:cV φ2 (tot E φ2 (bF hq)) w' (ES lr) (if h:rvs.toArray.size=1 then rvs.toArray[0] else .tuple rvs.toArray):=by
        have hll:=hrl.length;clear hlr S;cases lr with
        |nil=>
         cases rvs with
         |nil=>exact cV.tup (vs:=[]) rfl (by intro j x v Z;simp at Z)
         |cons _ _=>exact hrl.elim
        |cons z lr=>
         cases rvs with
         |nil=>exact hrl.elim
         |cons v rvs=>
          cases lr with
          |nil=>
           cases rvs with
           |nil=>exact hrl.1
           |cons _ _=>exact hrl.2.elim
          |cons y l=>
           cases rvs with
           |nil=>exact hrl.2.elim
           |cons u rvs=>
            rw[dif_neg (by simp)];refine cV.tup (vs:=v::u::rvs) (by simpa using hll) λj x' v' Z hv=>?_
            obtain⟨v'',q1,Y⟩:=hrl.get j x' Z;rw[hv]at q1;cases q1;exact Y
       have st':CZ D.pre.bs.length φ φ' (bF hp) (bF s'.h) w w':=by rw[<- herH];exact st
       refine Ds hresults ⟨_,φ2,rfl,st'.ext,λk hk ho=>st'.own_ k hk (S.own_ k ho),λi hi=>?_,S.rep,hval⟩ a'.defers g'.inert;rw[S.par i hi (dH hi hle2),st'.par i hi]
      .cases hk
     .cases hk
    .cases hk
   cases ex with
   |normal=>exact fin hk
   |ret=>exact fin hk
   |exit id=>cases hk
  .cases ht
 .cases ht
def WV:List (FuncId×cq)->FuncId->Option cq
 |[],_=>ah
 |(g,c)::r,f=>if aC g f then af c else WV r f
def UW (P:Program):List (FuncId×cq)->Prop
 |[]=>True
 |p::r=>aH P p.1 p.2/\UW P r
theorem YB {P:Program}:∀{l:List (FuncId×cq)},UW P l->L1 P (WV l)
 |[],_,f,c,h=>by simp[WV]at h
 |(g,d)::r,I,f,c,h=>by
  simp only[WV]at h;split at h
  .rename_i hb;have:=aw hb;subst this;cases h;exact I.1
  .exact YB I.2 f c h
theorem Sv {P:Program} {inert:FuncId->Bool} (hm:P.follows .mixedOrders=ai) (hin:LV P inert) {l:List (FuncId×cq)} (I:UW P l) {b9:TypeId->Option Ty} {f:FuncId} {D:FT} {m:D.pre.ty.den->Option D.post.ty.den} (hs:(At P f).isSome=ai) (he:∀x,abx (WV l) b9 inert (At P f) D x=m x):qr P f ⟨D.pre,D.post,m⟩:=by
 obtain⟨J,hf⟩:=iV.1 hs;exact U7 hm (YB I) hin hf D m λx y hxy=>by rw[<- hf,he];exact hxy
theorem qr.sub {P:Program} {f:FuncId} {pre post:Tm} {m m':pre.ty.den->Option post.ty.den} (h:qr P f ⟨pre,post,m⟩) (hs:∀x y,m' x=af y->m x=af y):qr P f ⟨pre,post,m'⟩:=
 ⟨h.callable,λx y hxy=>h.calls x y (hs x y hxy)⟩
theorem aH.sub {P:Program} {f:FuncId} {pre post:Tm} {m m':pre.ty.den->Option post.ty.den} (h:aH P f ⟨pre,post,m⟩) (hb:eU pre.bs.length post.bs.length=ai) (hs:∀x y,m' x=af y->m x=af y):aH P f ⟨pre,post,m'⟩:=
 ((h.holds hb).sub hs).toC hb
theorem sq {α:Type} {b:Nat}:∀(x y:List α),chk (a8 (al x) b) (λ_=>af x)=af y->bcase (aC (al x) 0) (F5 (af ([]:List α)) (chk (a8 (al ([]:List α)+al x) b) λ_=>(af (([]:List α)++x)))) (chk (a8 (al ([]:List α)+al x) b) λ_=>(af (([]:List α)++x)))=af y:=by
 intro x y h;rw[md,j8,bR,h];cases x with
 |nil=>
  obtain⟨_,h⟩:=ef h;cases h;show F5 (af []) (af [])=_;unfold F5;rw[aD rfl]
 |cons a r=>rfl
theorem V9 {P:Program} {f:FuncId} {pre post:Tm} (hs:(At P f).isSome=ai):qr P f ⟨pre,post,λ_=>ah⟩:=by
 obtain⟨I,hf⟩:=iV.1 hs;obtain⟨fn,c,hfn,hb,hnm,_⟩:=Ua hf;exact⟨⟨fn,hfn,by rw[hb];rfl,hnm⟩,λx y h=>by cases h⟩
theorem qr.orElse {P:Program} {f:FuncId} {pre post:Tm} {m m':pre.ty.den->Option post.ty.den} (h:qr P f ⟨pre,post,m⟩) (h':qr P f ⟨pre,post,m'⟩):qr P f ⟨pre,post,λx=>match m x with|some y=>af y|none=>m' x⟩:=
 ⟨h.callable,λx y hxy=>by
   cases hm:m x with
   |some z=>rw[show (cq.m ⟨pre,post,λx=>match m x with|some y=>af y|none=>m' x⟩ x)=af z by show (match m x with|some y=>af y|none=>m' x)=af z;rw[hm]]at hxy;cases hxy;exact h.calls x _ hm
   |none=>rw[show (cq.m ⟨pre,post,λx=>match m x with|some y=>af y|none=>m' x⟩ x)=m' x by show (match m x with|some y=>af y|none=>m' x)=m' x;rw[hm]]at hxy;exact h'.calls x y hxy⟩
theorem aH.orE {P:Program} {f:FuncId} {pre post:Tm} {m m':pre.ty.den->Option post.ty.den} (hb:eU pre.bs.length post.bs.length=ai) (h:aH P f ⟨pre,post,m⟩) (h':aH P f ⟨pre,post,m'⟩):aH P f ⟨pre,post,λx=>AI.orE (m x) (m' x)⟩:=by
 have e:(λx=>AI.orE (m x) (m' x))=λx=>match m x with|some y=>af y|none=>m' x:=by funext x;cases m x<;>rfl
 rw[e];exact ((h.holds hb).orElse (h'.holds hb)).toC hb
def abt (P:Program) (f:Ty->TypeId->Bool):List Field->Nat->Ty->Bool
 |[],_,.un=>ai
 |[x],off,T=>aC x.offset off&&f T x.type&&aC (P.cellsOf x.type) T.size
 |x::y::r,off,.pr a b=>aC x.offset off&&f a x.type&&aC (P.cellsOf x.type) a.size&&abt P f (y::r) (off+a.size) b
 |_,_,_=>aj
def U6 (P:Program) (f:Ty->TypeId->Bool) (e:TypeId):Nat->Ty->Bool
 |1,T=>f T e&&aC (P.cellsOf e) T.size
 |m+2,.pr a b=>f a e&&aC (P.cellsOf e) a.size&&U6 P f e (m+1) b
 |_,_=>aj
def B9 (P:Program):Nat->Ty->TypeId->Bool
 |0,_,_=>aj
 |n+1,T,t=>match T,P.underlying t with
  |.int k,af (.int k')=>k==k'
  |.bool,af .bool=>ai
  |.str,af .string=>ai
  |.sl U,af (.slice e)=>B9 P n U e&&aC (P.cellsOf e) U.size&&gz 0 U.size
  |.st U,af (.struct fs)=>abt P (B9 P n) fs.toList 0 U&&aC (P.cellsOf t) U.size
  |.st U,af (.array m e)=>U6 P (B9 P n) e m U&&aC (P.cellsOf t) U.size
  |_,_=>aj
def XF:(T:Ty)->T.den->Prop
 |.int k,n=>(Lit.int k n).wf=ai
 |.str,s=>al s<=maxLen
 |.sl U,xs=>al xs<=maxLen/\∀x∈(xs:List U.den),XF U x
 |.st t,v=>XF t v
 |.pr a b,v=>XF a v.1/\XF b v.2
 |_,_=>True
def LP (W:World) (T:Ty) (x:T.den) (cs:ξ):Prop:=cs.length=T.size/\∀(j:Nat) y v,(bU T x)[j]? =af y->cs[j]? =af v->nS (λ_=>False) W y v
theorem Ls {α:Type} (z:α) (P:Nat->α->Prop):∀n:Nat,(∀i,i<n->∃a,P i a)->∃l:List α,l.length=n/\∀i x,l[i]? =af x->P i x
 |0,_=>⟨[],rfl,λi x h=>by simp at h⟩
 |n+1,h=>by
  obtain⟨l,hl,hp⟩:=Ls z P n (λi hi=>h i (by omega));obtain⟨a,J⟩:=h n (by omega);refine ⟨l++[a],by simp[hl],λi x I=>?_⟩;by_cases hi:i<l.length
  .rw[bM hi]at I;exact hp i x I
  .rw[b7 (by omega)]at I;by_cases h0:i-l.length=0
   .rw[h0]at I;simp at I;subst I;rw[show i=n from by omega];exact J
   .rw[bT (by simp;omega)]at I;cases I
theorem Addr.add_plain {a:Addr} (h:a.spot=ah) (n:Nat):a.add n=⟨a.block,a.off+n,ah⟩:=by
 unfold Addr.add;split
 .rename_i h0;subst h0;cases a;simp at h;subst h;rfl
 .rfl
theorem aa0 {w:World} {a:Addr} {v:Value} (h:w.cell? a=af v):a.spot=ah:=by
 unfold ON at h;split at h
 .split at h
  .cases h
  .rename_i hs;cases hh:a.spot with
   |none=>rfl
   |some _=>simp[hh]at hs
 .cases h
theorem LP.sub {W:World} {T:Ty} {x:T.den} {cs:ξ} {off n:Nat} (h:LP W T x ((cs.drop off).take n)) (hn:n=T.size) (hl:off+n<=cs.length):∀(j:Nat) y v,(bU T x)[j]? =af y->cs[off+j]? =af v->nS (λ_=>False) W y v:=λj y v I hv=>by
 refine h.2 j y v I ?_;have hj:j<T.size:=by have:=(bn.1 I).1;rwa [bG]at this
 rw[cP,aD (by omega),ia];exact hv
section
variable {H:Type} {enc:TypeId×Value->H} {P:Program} {W:World} {base:Nat} {sp:Nat->Bool} {hd:Bool}
theorem XZ {f:Ty->TypeId->Bool} {m:Nat} (M:∀(T:Ty) (t:TypeId) (cs:ξ) x,f T t=ai->DataW.trod enc P W base sp hd m t cs=af x->∃v,LP W T v cs/\XF T v) (cs:ξ) (ts:List (DataW H×List MemPlace)):
 ∀(fs:List Field) (off k:Nat) (T:Ty),abt P f fs off T=ai->off+T.size<=cs.length->(∀(i:Nat) (fl:Field),fs[i]? =af fl->∃z,DataW.trod enc P W base sp hd m fl.type ((cs.drop fl.offset).take (P.cellsOf fl.type))=af z)->
 ∃v,(∀(j:Nat) y u,(bU T v)[j]? =af y->cs[off+j]? =af u->nS (λ_=>False) W y u)/\XF T v
 |[],off,k,.un,_,_,_=>⟨(),λj y u I=>by simp[bU]at I,trivial⟩
 |[x],off,k,T,h,hl,hg=>by
  simp only[abt,av]at h;obtain⟨⟨h1,h2⟩,J⟩:=h;have h1:=aw h1;have J:=aw J;obtain⟨z,U⟩:=hg 0 x rfl;obtain⟨v,hv,Z⟩:=M T _ _ _ h2 U;rw[h1]at hv;exact⟨v,hv.sub J (by omega),Z⟩
 |x::x'::r,off,k,.pr a b,h,hl,hg=>by
  simp only[abt,av]at h;obtain⟨⟨⟨h1,h2⟩,J⟩,h4⟩:=h;have h1:=aw h1;have J:=aw J;simp only[Ty.size]at hl;obtain⟨z,U⟩:=hg 0 x rfl;obtain⟨v,hv,Z⟩:=M a _ _ _ h2 U;rw[h1]at hv;have hv:=hv.sub J (by omega);obtain⟨v',hv',Y⟩:=XZ M cs ts (x'::r) (off+a.size) (k+1) b h4 (by omega) (λi fl hi=>hg (i+1) fl (by simpa using hi));refine ⟨(v,v'),λj y u I hu=>?_,Z,Y⟩;simp only[bU]at I;by_cases hj:j<a.size
  .rw[bM (by rw[bG];exact hj)]at I;exact hv j y u I hu
  .rw[b7 (by rw[bG];omega),bG]at I;exact hv' _ y u I (by rw[show off+a.size+(j-a.size)=off+j from by omega];exact hu)
theorem X0 {f:Ty->TypeId->Bool} {m:Nat} {e:TypeId} (J:∀(T:Ty) (t:TypeId) (cs:ξ) x,f T t=ai->DataW.trod enc P W base sp hd m t cs=af x->∃v,LP W T v cs/\XF T v) (cs:ξ):
 ∀(n i:Nat) (T:Ty),U6 P f e n T=ai->i*P.cellsOf e+T.size<=cs.length->(∀j,j<n->∃z,DataW.trod enc P W base sp hd m e ((cs.drop ((i+j)*P.cellsOf e)).take (P.cellsOf e))=af z)->
 ∃v,(∀(j:Nat) y u,(bU T v)[j]? =af y->cs[i*P.cellsOf e+j]? =af u->nS (λ_=>False) W y u)/\XF T v
 |0,i,T,h,_,_=>by unfold U6 at h;cases h
 |1,i,T,h,hl,hg=>by
  simp only[U6,av]at h;have h3:=aw h.2;obtain⟨z,M⟩:=hg 0 (by omega);obtain⟨v,hv,Y⟩:=J T _ _ _ h.1 M;rw[dD]at hv;exact⟨v,hv.sub h3 (by omega),Y⟩
 |n+2,i,T,h,hl,hg=>by
  cases T with
  |pr a b=>
   simp only[U6,av]at h;obtain⟨⟨h1,h2⟩,h4⟩:=h;have h3:=aw h2;simp only[Ty.size]at hl;obtain⟨z,M⟩:=hg 0 (by omega);obtain⟨v,hv,Y⟩:=J a _ _ _ h1 M;rw[dD]at hv;have hv:=hv.sub h3 (by omega);obtain⟨v',Z,U⟩:=X0 J cs (n+1) (i+1) b h4 (by rw[OQ,Nat.one_mul];omega) (λj hj=>by have:=hg (j+1) (by omega);rwa [show i+(j+1)=i+1+j from by omega]at this);refine ⟨(v,v'),λj y u I hu=>?_,Y,U⟩;simp only[bU]at I;by_cases hj:j<a.size
   .rw[bM (by rw[bG];exact hj)]at I;exact hv j y u I hu
   .rw[b7 (by rw[bG];omega),bG]at I;exact Z _ y u I (by rw[OQ,Nat.one_mul,show i*P.cellsOf e+P.cellsOf e+(j-a.size)=i*P.cellsOf e+j from by omega];exact hu)
  |_=>unfold U6 at h;cases h
theorem Iw:∀(n:Nat) (T:Ty) (t:TypeId) (fuel:Nat) (cs:ξ) x,B9 P n T t=ai->(∀b,sp b=ai)->DataW.trod enc P W base sp hd fuel t cs=af x->∃v,LP W T v cs/\XF T v
 |0,_,_,_,_,_,h,_,_=>by unfold B9 at h;cases h
 |n+1,T,t,fuel,cs,x,h,hsp,ht=>by
  unfold B9 at h;split at h
  .rename_i k k' hu;have hk:=eq_of_beq h;subst hk;obtain⟨m,rfl,_,J⟩:=DataW.trod_int hu ht;refine ⟨m,⟨rfl,λj y v I hv=>?_⟩,J⟩;cases j with
   |zero=>simp[bU]at I hv;subst I hv;exact .raw _
   |succ j=>simp[bU]at I
  .rename_i hu;obtain⟨b,rfl,_⟩:=DataW.trod_bool hu ht;refine ⟨b,⟨rfl,λj y v I hv=>?_⟩,trivial⟩;cases j with
   |zero=>simp[bU]at I hv;subst I hv;exact .raw _
   |succ j=>simp[bU]at I
  .rename_i hu;obtain⟨s,rfl,_,hs⟩:=DataW.trod_string hu ht;refine ⟨s.data.toList,⟨rfl,λj y v I hv=>?_⟩,by simpa[XF] using hs⟩;cases j with
   |zero=>simp[bU]at I hv;subst I hv;exact .raw _
   |succ j=>simp[bU]at I
  .rename_i U e hu;simp only[av]at h;obtain⟨⟨h1,h2⟩,h3⟩:=h;have h2:=aw h2;have h3:0<U.size:=a_ h3;rcases Go.Deep.open_slice hu ht with ⟨rfl,_⟩|⟨a,len,cap,m,k,D,Pl,rfl,hb,hl,hm,hmm,_,hi⟩
   .refine ⟨[],⟨rfl,λj y v I hv=>?_⟩,by simp[XF]⟩;cases j with
    |zero=>simp[bU]at I hv;subst I hv;exact .nil _ _ (by unfold maxLen;omega)
    |succ j=>simp[bU]at I
   .rw[hsp,aD rfl]at hmm;rw[h2]at hi;obtain⟨xs,hx1,Y⟩:=Ls U.zero (λi (v:U.den)=>∃cs',W.cells? base (a.add (i*U.size)) U.size=af cs'/\LP W U v cs'/\XF U v) len (λi hil=>by
     obtain⟨cs',hc,htt⟩:=hi i (by omega);obtain⟨v,hv,J⟩:=Iw n U e k cs' _ h1 hsp htt;exact⟨v,cs',hc,hv,J⟩)
    refine ⟨xs,⟨rfl,λj y v I hv=>?_⟩,by show al xs<=maxLen;omega,λy I=>?_⟩
    .cases j with
     |succ j=>simp[bU]at I
     |zero=>
      simp[bU]at I hv;subst I hv;by_cases h0:len=0
      .have:xs=[]:=gW.1 (by omega);subst this;subst h0;exact .nil _ _ hm
      .obtain⟨x0,hx0⟩:∃x0,xs[0]? =af x0:=⟨xs[0]'(by omega),aB (by omega)⟩
       obtain⟨cs0,hc0,_⟩:=Y 0 x0 hx0;obtain⟨_,hcl0,hat0⟩:=World.cells?_some hc0;have hca:=hat0 0 h3;rw[aB (by omega)]at hca;have hspot:a.spot=ah:=by
        have:=aa0 hca;simpa[Addr.add] using this
       have hblk:=World.block_lt_of_cell? W _ hca;rw[Nat.zero_mul,Addr.add_plain hspot,Addr.add_plain rfl]at hca hblk;have hcell:∀(i j:Nat) x,xs[i]? =af x->j<U.size->∃cs',W.cell? ⟨a.block,a.off+(i*U.size+j),ah⟩=cs'[j]? /\j<cs'.length/\LP W U x cs':=λi j x Z hj=>by
        obtain⟨cs',hc,hr,_⟩:=Y i x Z;obtain⟨_,hcl,hat⟩:=World.cells?_some hc;have:=hat j hj;rw[Addr.add_plain hspot,Addr.add_plain rfl,qa]at this;exact⟨cs',this,by omega,hr⟩
       have hflat:∀j,j<xs.length*U.size->∃x,xs[j/U.size]? =af x/\j%U.size<U.size/\j=j/U.size*U.size+j%U.size:=λj hj=>by
        have h5:j/U.size<xs.length:=Nat.div_lt_of_lt_mul (by rw[Io];exact hj);exact⟨xs[j/U.size],aB h5,Nat.mod_lt _ h3,by rw[Io];exact (Nat.div_add_mod j U.size).symm⟩
       have hlen:(List.flatMap (bU U) xs).length=xs.length*U.size:=fR (bG U) xs;obtain⟨ab,ao,az⟩:=a;cases hspot;rw[<- hx1];refine .sl (List.flatMap (bU U) xs) xs.length cap ab ao (λj=>(W.cell? ⟨ab,ao+j,ah⟩).getD undef) (by omega) hm (λh=>h) hblk (sh U xs) (λj hj=>?_) (λj y I=>?_)
       .obtain⟨x,Z,hjs,hje⟩:=hflat j (by omega);obtain⟨cs',g1,g2,_⟩:=hcell _ _ x Z hjs;rw[<- hje]at g1;simp only[g1,aB g2,vD]
       .have hj:j<xs.length*U.size:=by rw[<- hlen];exact (bn.1 I).1
        obtain⟨x,Z,hjs,hje⟩:=hflat j hj;obtain⟨cs',g1,g2,g3⟩:=hcell _ _ x Z hjs;rw[<- hje]at g1;simp only[g1];rw[aB g2];refine g3.2 (j%U.size) y _ ?_ (aB g2);obtain⟨r,hr⟩:=FG (bG U) xs (j/U.size) x Z;have:((List.flatMap (bU U) xs).drop (j/U.size*U.size))[j%U.size]? =af y:=by rw[ia,<-hje];exact I
        rw[hr,bM (by rw[bG];exact hjs)]at this;exact this
    .obtain⟨i,M⟩:=fx I;obtain⟨_,_,_,J⟩:=Y i y M;exact J
  .rename_i U fs hu;simp only[av]at h;have h2:=aw h.2;obtain⟨xs,m,rfl,_,hl,hxl,hg⟩:=DataW.trod_struct hu ht;obtain⟨v,hv,J⟩:=XZ (f:=B9 P n) (m:=m) (λT t cs x h1 h2=>Iw n T t m cs x h1 hsp h2) cs xs fs.toList 0 0 U h.1 (by omega) (λi fl hi=>by
    have M:fs[i]? =af fl:=by simpa using hi
    have:=hg i fl M;have hlt:i<xs.length:=by rw[hxl];exact (cJ.1 M).1
    rw[aB hlt]at this;exact⟨_,this⟩)
   exact⟨v,⟨by rw[hl,h2];rfl,λj y u I hu=>hv j y u I (by rw[bR];exact hu)⟩,J⟩
  .rename_i U m e hu;simp only[av]at h;have h2:=aw h.2;obtain⟨xs,q,rfl,_,hl,hxl,hg⟩:=DataW.trod_array hu ht;obtain⟨v,hv,J⟩:=X0 (f:=B9 P n) (m:=q) (λT t cs x h1 h2=>Iw n T t q cs x h1 hsp h2) cs m 0 U h.1 (by omega) (λj hj=>by
    have:=hg j hj;rw[aB (by omega)]at this;rw[bR];exact⟨_,this⟩)
   exact⟨v,⟨by rw[hl,h2];rfl,λj y u I hu=>hv j y u I (by rw[Nat.zero_mul,bR];exact hu)⟩,J⟩
  .cases h
theorem RO {n:Nat} {T:Ty} {t:TypeId} {v:Value} {r:Reach} {bs:Nat} (I:B9 P n T t=ai) (h1:T.one=ai) (h:Il P W r bs t v):v.cells.toList=[v]:=by
 cases n with
 |zero=>unfold B9 at I;cases I
 |succ n=>
  unfold B9 at I;unfold Il at h;cases v with
  |agg cs=>
   exfalso;split at I<;>rename_i hu<;>first|(rw [hu]at h;simp only[]at h;unfold Cell.okWide at h;rw[hu]at h;unfold Cell.ok at h;rw[hu]at h;simp at h)|cases h1|cases I
  |_=>rfl
theorem Vn {n:Nat} {T:Ty} {t:TypeId} {v:Value} {r:Reach} {bs:Nat} (I:B9 P n T t=ai) (h1:T.one=aj) (h:Il P W r bs t v):∃cs,v= .agg cs:=by
 cases n with
 |zero=>unfold B9 at I;cases I
 |succ n=>
  unfold B9 at I;unfold Il at h;split at I<;>rename_i hu<;>first|(rw [hu]at h;obtain⟨cs,h,_⟩:=h;exact⟨cs,h⟩)|cases h1|cases I
theorem open_arg {n:Nat} {T:Ty} {t:TypeId} {v:Value} {d:DataW H} {ps:List MemPlace} {r:Reach} {bs:Nat} (J:B9 P n T t=ai) (hsp:∀b,sp b=ai) (hok:Il P W r bs t v) (h:DataW.Trod enc P W base sp hd t v d ps):∃x,nS (λ_=>False) W (gV T x) v/\XF T x:=by
 obtain⟨fuel,hf⟩:=h;obtain⟨x,I,U⟩:=Iw n T t fuel _ _ J hsp hf;refine ⟨x,?_,U⟩;by_cases h1:T.one=ai
 .obtain⟨e1,e2⟩:=DV T x h1;exact I.2 0 _ v (by rw[e1];rfl) (by rw[RO J h1 hok];rfl)
 .obtain⟨cs,rfl⟩:=Vn J (by simpa using h1) hok;rw[re T x (by simpa using h1)];have hl:cs.toList.length=(bU T x).length:=by rw[bG];exact I.1
  have:=nS.agg (O:=λ_=>False) (w:=W) (bU T x) cs.toList hl (oE T x) (λj y u M hu=>I.2 j y u M hu);simpa using this
end
theorem YJ {z:Int} (h:(Lit.int .u8 z).wf=ai):0<=z/\z<=255:=⟨bi (eH.1 h).1,bi (eH.1 h).2⟩
theorem LM (a b c:η) (M:a.length<=9223372036854775807) (I:∀z∈a,0<=z/\z<=255) (hc:c.length<=9223372036854775807) (J:∀z∈c,0<=z/\z<=255):Ok (mi (a,b,c)) λy=>y=ai:=by
 unfold mi bd aF;refine ax (P:=TR) (QW a b c 40 (by omega) (by omega) M I hc J) ?_;rintro⟨w,l⟩ tr;have hl:=tr.len;dsimp only at hl;have:=O7 w l (oK w l) l.length (by omega);refine aU (Vb tr) (aU (aex tr) (aY (λx=>x=ai) ?_ λx I=>ar I));exact RN (aU (QU tr (oK w l)) (aU (LO (rO w l (oK w l) l.length) (by omega)) (RN (aU (x:=ai) ahx (ar rfl)))))
theorem ShbRaces_law (x:η×η×η) (w:XF (.st (.pr (.sl (.int .u8)) (.pr (.sl (.int .u8)) (.sl (.int .u8))))) x):mi x=af ai:=by
 obtain⟨a,b,c⟩:=x;obtain⟨⟨l0,w0⟩,_,⟨l2,J⟩⟩:=w;obtain⟨y,h,rfl⟩:=LM a b c l0 (λz I=>YJ (w0 z I)) l2 (λz I=>YJ (J z I));exact h
def inert (f:FuncId):Bool:=aC f 51
theorem R2:∃I,Tryz.prog.underlying 20=af (.interface I):=⟨#[],by kernel_rfl⟩
theorem ad5 (w:World):(Op.equal 20 .nilIface .nilIface).run Tryz.prog w= .ok ai w:=by
 obtain⟨I,hu⟩:=R2;have key:∀d,(Op.equalIn (d+1) 20 .nilIface .nilIface).run Tryz.prog w= .ok ai w:=λd=>by simp[Op.equalIn,run_underlying hu]
 exact key 9999
theorem acj {P:Program} {ops:Array Oper} {Q:Exit->Act->List Frame->World->Prop} {i:Nat} {rest:ι} {a:Act} {cs:List Frame} {w w':World} {o:Oper} (J:ops[i]? =af o) (I:o.guard=ah) (hr:(execOp a.eval o).run P w= .ok .recover w') (hn:recoverD cs=ah) (h:wpOpsS P ops Q rest (a.put o.dst .nilIface) cs w'):wpOpsS P ops Q (i::rest) a cs w:=by
 have I:iU o (yielded ops a.tmps)=ai:=by unfold iU;rw[I]
 simp only[wpOpsS,J,I,bI,hr,hn];exact h
theorem aci {P:Program} {ops:Array Oper} {Q:Exit->Act->List Frame->World->Prop} {i:Nat} {rest:ι} {a:Act} {cs:List Frame} {w w':World} {o:Oper} {v:Value} (J:ops[i]? =af o) (I:o.guard=ah) (hr:(execOp a.eval o).run P w= .ok (.value v) w') (h:wpOpsS P ops Q rest (a.put o.dst v) cs w'):wpOpsS P ops Q (i::rest) a cs w:=by
 have I:iU o (yielded ops a.tmps)=ai:=by unfold iU;rw[I]
 simp only[wpOpsS,J,I,bI,hr];exact h
theorem R1:LV Tryz.prog inert:=by
 intro f hf;have hf:f=51:=aw hf;subst hf;refine ⟨⟨Tryz.f51,Tryz.func51,by kernel_rfl,by kernel_rfl⟩,λargs w=>?_⟩;refine callsD_of_wpS Tryz.func51 rfl λc₀ cs hu=>?_
 refine wpS_seq (wpS_region ?_);generalize ht:(args++oW (Tryz.f51.ntmps-args.size) undef)=T;have hs:5<=T.size:=by
  rw[<- ht];simp only[Array.size_append,Array.size_replicate];have:Tryz.f51.ntmps=5:=rfl;omega
 have hr:recoverD (c₀::cs)=ah:=by simp[recoverD,hu]
 refine acj (i:=0) (rest:=[1]) rfl rfl (w':=w) ?_ hr ?_
 .simp[execOp,resolve,invoke,builtin]
 refine aci (v:=.bool aj) rfl rfl (w':=w) ?_ ?_
 .have hv:Act.eval (OR {tmps:=T,defers:=[]} (af 2) .nilIface) (.tmp 2)= .nilIface:=by
   simp[Act.eval,OR,show 2<T.size by omega]
  have h2:=ad5 w;have hcst:Act.eval (OR {tmps:=T,defers:=[]} (af 2) .nilIface) (.const .nilIface)= .nilIface:=rfl;show (execOp (Act.eval (OR {tmps:=T,defers:=[]} (af 2) .nilIface)) _).run _ w=_;simp[execOp,hv,hcst,eqGuard,binOp,h2]
 show Exit.thenS _ _ .normal _ _ _;refine wpS_cond (t:=aj) ?_ ?_
 .simp[Act.eval,OR,show 3<T.size by omega]
 refine wpS_of_wp (wp_skip ?_);have hres:Tryz.f51.results=#[]:=rfl;exact⟨rfl,c₀.mode,rfl,.tuple #[],by simp[results,hres],⟨_,rfl⟩,hu,rfl⟩
def dL {α:Type}:List (Nat×α)->PT α
 |[]=>.leaf
 |p::r=>(dL r).set p.1 (af p.2)
noncomputable abbrev Pg:Program:=Tryz.prog
def cn (D:FT) (m:D.pre.ty.den->Option D.post.ty.den):cq:=⟨D.pre,D.post,m⟩
theorem aoa:Pg.follows .mixedOrders=ai:=by kernel_rfl
theorem ac {f:FuncId} {c:cq} {l:List (FuncId×cq)} (h:aH Pg f c) (t:UW Pg l):UW Pg ((f,c)::l):=⟨h,t⟩
theorem an:UW Pg []:=trivial
inductive OI {R:Type}:Option R->Option R->Prop where
 |rfl {a:Option R}:OI a a
 |chk {b:Bool} {k k':Option R} (h:k_ k k'):OI (chk b λ_=>k) (chk b λ_=>k')
 |bcase {b:Bool} {t f t' f':Option R} (h1:k_ t t') (h2:k_ f f'):OI (bcase b t f) (bcase b t' f')
 |lt {α:Type} {x:α} {k k':α->Option R} (h:∀y,k_ (k y) (k' y)):OI (lt x k) (lt x k')
 |jn {α:Type} {o o':Option (R⊕α)} {k k':α->Option R} (h:k_ o o') (hk:∀x,k_ (k x) (k' x)):OI (jn o k) (jn o' k')
 |obind {α:Type} {o o':Option α} {k k':α->Option R} (h:k_ o o') (hk:∀x,k_ (k x) (k' x)):OI (obind o k) (obind o' k')
 |iter {σ:Type} {f g:σ->Option (σ⊕R)} {x:σ} (h:∀x,k_ (f x) (g x)):OI (gh f x) (iter g x)
theorem OI.o {R:Type} {a b:Option R} (h:OI a b):k_ a b:=by
 cases h with
 |rfl=>exact k_.rfl
 |chk h=>exact k_.chk h
 |bcase h g=>exact k_.bcase h g
 |lt h=>exact k_.lt h
 |jn h g=>exact k_.jn h g
 |obind h g=>exact k_.obind h g
 |iter h=>exact k_.iter h
theorem mk {f:FuncId} (D:FT) (m:D.pre.ty.den->Option D.post.ty.den) {l:List (FuncId×cq)} (J:UW Pg l) (I:TypeId->Option Ty) (he:∀x,abx (WV l) I inert (At Pg f) D x=m x:=by intro x;kernel_rfl) (hs:(At Pg f).isSome=ai:=by kernel_rfl) (hb:eU D.pre.bs.length D.post.bs.length=ai:=by kernel_rfl):aH Pg f (cn D m):=(Sv aoa R1 J hs he).toC hb
theorem yL {f:FuncId} (D:FT) (m n:D.pre.ty.den->Option D.post.ty.den) (J:∀x,k_ (m x) (n x)) {l:List (FuncId×cq)} (M:UW Pg l) (I:TypeId->Option Ty) (he:∀x,abx (WV l) I inert (At Pg f) D x=n x:=by intro x;kernel_rfl) (hs:(At Pg f).isSome=ai:=by kernel_rfl) (hb:eU D.pre.bs.length D.post.bs.length=ai:=by kernel_rfl):aH Pg f (cn D m):=((Sv aoa R1 M hs he).sub J).toC hb
theorem RW {f:FuncId} (D:FT) (hs:(At Pg f).isSome=ai:=by kernel_rfl) (hb:eU D.pre.bs.length D.post.bs.length=ai:=by kernel_rfl):aH Pg f (cn D λ_=>ah):=(V9 hs).toC hb
abbrev vB:List PV:=[.d aM,.d aM,.d aM,.d aM,.d aM,.nil,.nil]
abbrev wE:List PV:=[.nil,.d aM,.nil,.nil,.nil,.nil,.nil]
abbrev ak3:List PV:=[.ptr 1 0,.d aM,.d aM,.d .bool,.d .bool,.d .bool,.d .bool,.row 4]
abbrev ak7:List PV:=[.d aM,.d aM,.d .str,.d .str,.nil,.d aM,.d aM,.d .str,.nil,.nil,.nil]
abbrev La2:List PB:=[.cells 205 ak3,.cells 89 [.d zA],.gone,.cells 211 ak7,.rowsP 9 .str]
abbrev OG:List PV:=[.ptr 0 0,.ptr 1 0,.ptr 2 0,.ptr 3 0,.ptr 4 0,.ptr 5 0,.ptr 6 0,.ptr 7 0,.d .bool]
abbrev La4:List PB:=[.cells 197 [.d (.sl kK),.d (.sl su),.d (.sl ma),.d (.sl .str),.d (.sl .str),.d (.sl pj),.d (.sl .str),.row 2,.d aM,.d aM],.gone,.rows 201 ai rA]
abbrev La5:List PB:=[.cells 197 [.d (.sl kK),.d (.sl su),.d (.sl ma),.d (.sl .str),.d (.sl .str),.d (.sl pj),.d (.sl .str),.row 1,.d aM,.d aM],.rows 201 ai rA]
abbrev La6:List PV:=[.d aM,.row 11,.row 12,.d aM]
abbrev La7:List PB:=[.cells 151 [.nil,.nil],.cells 205 [.ptr 5 0,.d aM,.d aM,.d .bool,.d .bool,.d .bool,.d .bool,.row 6],.cells 151 [.d (.sl HG),.row 7],.rows 9 aj .str,.cells 195 [.d .str,.d aM,.row 8,.row 9],.cells 89 [.d zA],.rowsP 9 .str,.rows 195 ai tK,.rows 9 aj .str,.rows 211 ai .sm]
abbrev La8:List PB:=[.cells 236 [.d (.sl HG),.d (.sl tK),.d aM,.row 1,.row 6,.row 7],.rowsP 211 .sm,.gone,.gone,.cells 211 [.d .sm],.cells 151 [.d OH],.rows 9 ai .str,.rows 9 ai .str]
abbrev La9:List PV:=[.d (.sl eh),.d aM,.d qz,.d (.sl im),.row 8,.row 9,.csl 10 4 4]
abbrev aij:List PB:=[.cells 105 [.d (.sl eh),.d aM,.d qz,.d (.sl im),.row 6,.row 7,.csl 8 4 4],.cells 154 [.d gQ],.cells 105 wE,.cells 52 vB,.cells 52 [.d gr],.cells 188 [.d fe],.rows 2 ai aM,.rows 2 ai aM,.cells 188 [.d fe,.d fe,.d fe,.d fe]]
abbrev ak4:List PV:=[.ptr 1 0,.d aM,.d aM,.d .bool,.d .bool,.d .bool,.d .bool,.row 2]
abbrev Q1:List PV:=[.d EH,.d aM]
abbrev Xv:List PB:=[.cells 205 ak4,.cells 89 Q1,.rowsP 9 .str]
abbrev Nm:List PV:=[.ptr 0 0,.ptr 1 0,.ptr 2 0,.ptr 3 0,.ptr 4 0,.ptr 5 0,.ptr 6 0,.ptr 7 0,.d aM]
abbrev amd:List PV:=[.d (.sl eh),.d aM,.d qz,.d (.sl im),.row 8,.row 9,.csl 10 4 3]
abbrev amx:List PB:=[.cells 110 [.d vi],.cells 105 amd,.cells 154 [.d gQ],.cells 105 wE,.cells 52 vB,.cells 52 [.d gr],.cells 188 La6,.cells 201 [.d rA],.rows 2 ai aM,.rows 2 ai aM,.cells 188 [.d aM,.row 11,.row 12,.d aM,.d fe,.d fe],.rows 2 ai aM,.rows 50 ai (.sl aM)]
abbrev amw:List PB:=[.cells 110 [.d vi],.cells 105 amd,.cells 154 [.d gQ],.cells 105 wE,.cells 52 vB,.cells 52 [.d gr],.cells 188 La6,.cells 201 [.d rA],.rows 2 ai aM,.rows 2 ai aM,.cells 188 [.d fe,.d aM,.row 11,.row 12,.d aM,.d fe],.rows 2 ai aM,.rows 50 ai (.sl aM)]
abbrev amv:List PB:=[.cells 110 [.d vi],.cells 105 amd,.cells 154 [.d gQ],.cells 105 wE,.cells 52 vB,.cells 52 [.d gr],.cells 188 La6,.cells 201 [.d rA],.rows 2 ai aM,.rows 2 ai aM,.cells 188 [.d fe,.d fe,.d aM,.row 11,.row 12,.d aM],.rows 2 ai aM,.rows 50 ai (.sl aM)]
abbrev ak6:List PV:=[.d (.sl eh),.d aM,.d qz,.d (.sl im),.row 8,.row 9,.csl 10 4 2]
abbrev amu:List PB:=[.cells 110 [.d vi],.cells 105 ak6,.cells 154 [.d gQ],.cells 105 wE,.cells 52 vB,.cells 52 [.d gr],.cells 188 La6,.cells 201 [.d rA],.rows 2 ai aM,.rows 2 ai aM,.cells 188 [.d aM,.row 11,.row 12,.d aM,.d fe],.rows 2 ai aM,.rows 50 ai (.sl aM)]
abbrev amt:List PB:=[.cells 110 [.d vi],.cells 105 ak6,.cells 154 [.d gQ],.cells 105 wE,.cells 52 vB,.cells 52 [.d gr],.cells 188 La6,.cells 201 [.d rA],.rows 2 ai aM,.rows 2 ai aM,.cells 188 [.d fe,.d aM,.row 11,.row 12,.d aM],.rows 2 ai aM,.rows 50 ai (.sl aM)]
abbrev aav:List PB:=[.cells 236 [.d (.sl HG),.d (.sl tK),.d aM,.row 1,.row 4,.row 5],.rowsP 211 .sm,.gone,.gone,.rows 9 ai .str,.rows 9 ai .str]
abbrev Nl:List PV:=[.ptr 0 0,.ptr 1 0,.ptr 2 0,.ptr 3 0,.ptr 4 0,.ptr 5 0,.ptr 6 0,.d .bool]
abbrev ie:List PV:=[.ptr 0 0,.d .bool]
abbrev aau:List PB:=[.cells 236 [.d (.sl HG),.d (.sl tK),.d aM,.row 1,.row 2,.row 3],.rowsP 211 .sm,.rows 9 ai .str,.rows 9 ai .str]
abbrev ams:List PB:=[.cells 110 [.d vi],.cells 105 [.d (.sl eh),.d aM,.d qz,.d (.sl im),.row 8,.row 9,.csl 10 4 1],.cells 154 [.d gQ],.cells 105 wE,.cells 52 vB,.cells 52 [.d gr],.cells 188 La6,.cells 201 [.d rA],.rows 2 ai aM,.rows 2 ai aM,.cells 188 La6,.rows 2 ai aM,.rows 50 ai (.sl aM)]
abbrev Nk:List PV:=[.ptr 0 0,.ptr 1 0,.ptr 2 0,.ptr 3 0,.ptr 4 0,.ptr 5 0,.ptr 6 0]
abbrev amr:List PB:=[.cells 110 [.d vi],.cells 105 La9,.cells 154 [.d gQ],.cells 105 wE,.cells 52 vB,.cells 52 [.d gr],.cells 188 La6,.cells 201 [.d rA],.rows 2 ai aM,.rows 2 ai aM,.cells 188 [.d aM,.row 11,.row 12,.d aM,.d fe,.d fe,.d fe],.rows 2 ai aM,.rows 50 ai (.sl aM)]
abbrev amq:List PB:=[.cells 110 [.d vi],.cells 105 La9,.cells 154 [.d gQ],.cells 105 wE,.cells 52 vB,.cells 52 [.d gr],.cells 188 La6,.cells 201 [.d rA],.rows 2 ai aM,.rows 2 ai aM,.cells 188 [.d fe,.d aM,.row 11,.row 12,.d aM,.d fe,.d fe],.rows 2 ai aM,.rows 50 ai (.sl aM)]
abbrev amp:List PB:=[.cells 110 [.d vi],.cells 105 La9,.cells 154 [.d gQ],.cells 105 wE,.cells 52 vB,.cells 52 [.d gr],.cells 188 La6,.cells 201 [.d rA],.rows 2 ai aM,.rows 2 ai aM,.cells 188 [.d fe,.d fe,.d aM,.row 11,.row 12,.d aM,.d fe],.rows 2 ai aM,.rows 50 ai (.sl aM)]
abbrev amo:List PB:=[.cells 110 [.d vi],.cells 105 La9,.cells 154 [.d gQ],.cells 105 wE,.cells 52 vB,.cells 52 [.d gr],.cells 188 La6,.cells 201 [.d rA],.rows 2 ai aM,.rows 2 ai aM,.cells 188 [.d fe,.d fe,.d fe,.d aM,.row 11,.row 12,.d aM],.rows 2 ai aM,.rows 50 ai (.sl aM)]
abbrev LU:List PB:=[.cells 31 [.d mb],.cells 97 [.d i_],.cells 52 [.d gr],.cells 97 wE]
abbrev Nj:List PV:=[.ptr 0 0,.ptr 1 0,.ptr 2 0,.ptr 3 0,.ptr 4 0,.ptr 5 0]
abbrev amn:List PB:=[.cells 105 [.d (.sl eh),.d aM,.d qz,.d (.sl im),.row 6,.row 7,.csl 8 4 3],.cells 154 [.d gQ],.cells 105 wE,.cells 52 vB,.cells 52 [.d gr],.cells 188 [.d fe],.rows 2 ai aM,.rows 2 ai aM,.cells 188 [.d fe,.d fe,.d fe]]
abbrev UC:List PV:=[.d (.sl eh),.d aM,.d qz,.d (.sl im),.row 7,.row 8,.csl 9 4 4]
abbrev rC:List PV:=[.ptr 0 0,.ptr 1 0,.d .bool]
abbrev AA:List PV:=[.ptr 0 0,.ptr 1 0,.ptr 2 0,.ptr 3 0,.d .bool]
abbrev aib:List PV:=[.nil,.nil,.nil,.nil,.nil,.nil]
abbrev amm:List PB:=[.cells 151 [.d OH],.cells 31 aib,.cells 31 [.row 4,.row 5,.row 6,.row 7,.nil,.nil],.cells 239 [.d HG],.rows 123 ai kK,.rows 125 ai su,.rows 116 ai ma,.rows 9 ai .str]
abbrev af2:List PV:=[.nil,.nil,.nil,.nil,.nil,.nil,.nil]
abbrev apr:List PV:=[.d (.sl kK),.d (.sl su),.d (.sl ma),.d (.sl .str),.d (.sl .str),.d (.sl pj),.row 5]
abbrev aq3:List PB:=[.cells 151 [.d OH],.cells 110 af2,.cells 110 apr,.cells 197 [.d (.sl kK),.d (.sl su),.d (.sl ma),.d (.sl .str),.d (.sl .str),.d (.sl pj),.d (.sl .str),.row 6,.d aM,.d aM],.cells 184 [.d aM,.row 6],.rows 184 ai xB,.rows 201 ai rA]
abbrev Ii:List PV:=[.row 0,.d aM,.row 1,.row 2]
abbrev aml:List PB:=[.cells 89 [.d zA],.cells 97 [.d i_],.cells 31 [.d mb],.rows 52 ai gr,.cells 50 [.row 5,.row 6,.row 7,.row 8],.rows 3 ai aM,.rows 3 ai aM,.rows 3 ai aM,.rows 3 ai aM]
abbrev Ge:List PV:=[.ptr 0 0,.ptr 1 0,.ptr 2 0,.d aM]
abbrev LS:List PV:=[.d aM,.d (.sl aM),.d kg,.d aM]
abbrev aat:List PV:=[.d (.sl eh),.d aM,.d qz,.d (.sl im),.row 7,.row 8,.csl 9 4 3]
abbrev amk:List PB:=[.cells 89 [.d zA],.cells 97 [.d i_],.cells 31 [.d mb],.cells 50 [.row 4,.row 5,.row 6,.row 7],.rows 3 ai aM,.rows 3 ai aM,.rows 3 ai aM,.rows 3 ai aM]
abbrev Gb:List PV:=[.ptr 0 0,.ptr 1 0,.ptr 2 0,.d .bool]
abbrev wD:List PV:=[.ptr 0 0,.ptr 1 0,.d aM]
abbrev LR:List PV:=[.d aM,.row 10,.row 11,.d aM]
abbrev aia:List PV:=[.d aM,.row 0,.row 1,.d aM]
abbrev YX:List PV:=[.d aM,.nil,.nil,.d aM]
abbrev amj:List PB:=[.rows 2 ai aM,.rows 50 ai (.sl aM),.cells 201 [.d rA],.cells 188 aia,.cells 188 YX]
abbrev ami:List PB:=[.cells 236 [.d (.sl HG),.d (.sl tK),.d aM,.row 4,.row 5,.row 6],.gone,.gone,.gone,.rowsP 211 .sm,.rows 9 ai .str,.rows 9 ai .str]
abbrev CV:List PV:=[.nil,.d aM,.nil,.nil]
abbrev amh:List PB:=[.cells 94 [.row 2,.d aM,.row 3,.row 4],.cells 94 CV,.rows 167 ai eh,.rows 4 ai .bool,.rows 169 ai im]
abbrev LQ:List PV:=[.ptr 0 0,.ptr 3 0,.d .bool]
abbrev aq2:List PB:=[.cells 105 [.d (.sl eh),.d aM,.d qz,.d (.sl im),.row 6,.row 7,.csl 8 4 2],.cells 154 [.d gQ],.cells 105 wE,.cells 52 vB,.cells 52 [.d gr],.cells 188 [.d fe],.rows 2 ai aM,.rows 2 ai aM,.cells 188 [.d fe,.d fe]]
abbrev aq1:List PB:=[.cells 34 af2,.cells 89 [.d zA],.cells 34 apr,.cells 97 [.d i_],.rows 52 aj gr,.rows 52 ai gr]
abbrev qy:List PB:=[.cells 31 [.d mb]]
abbrev aq0:List PB:=[.cells 89 [.d zA],.cells 97 [.d i_],.cells 31 [.d mb],.rows 52 ai gr,.cells 50 [.row 7,.row 8,.row 9,.row 10],.cells 52 [.d gr],.cells 97 [.d i_],.rows 3 ai aM,.rows 3 ai aM,.rows 3 ai aM,.rows 3 ai aM]
abbrev aii:List PB:=[.cells 31 aib,.cells 31 [.row 2,.row 3,.row 4,.row 5,.row 6,.row 7],.rows 123 aj kK,.rows 125 aj su,.rows 116 aj ma,.rows 9 aj .str,.rows 9 aj .str,.rows 127 ai pj]
abbrev xA:List PV:=[.ptr 0 0,.d aM]
abbrev af1:List PV:=[.row 2,.row 3,.row 4,.row 5]
abbrev apz:List PB:=[.cells 89 [.d zA],.cells 50 af1,.rows 3 ai aM,.rows 3 ai aM,.rows 3 ai aM,.rows 3 ai aM,.cells 52 vB,.cells 52 [.d aM,.d aM,.d aM,.d aM,.d aM,.d (.sl aM),.nil]]
abbrev aih:List PV:=[.d (.sl eh),.d aM,.d qz,.d (.sl im),.row 7,.row 8,.csl 9 4 2]
abbrev Ni:List PV:=[.d wF,.d gr,.d .bool]
abbrev apy:List PB:=[.cells 89 [.d zA],.cells 50 af1,.rows 3 ai aM,.rows 3 ai aM,.rows 3 ai aM,.rows 3 ai aM,.cells 97 [.d i_],.cells 31 [.d mb],.cells 52 vB,.cells 52 vB]
abbrev apx:List PB:=[.cells 151 [.d OH],.cells 31 aib,.cells 31 [.row 3,.row 4,.row 5,.row 6,.nil,.nil],.rows 123 ai kK,.rows 125 ai su,.rows 116 ai ma,.rows 9 ai .str]
abbrev amg:List PV:=[.d (.sl eh),.d aM,.d qz,.d (.sl im),.row 3,.row 4,.row 5]
abbrev Nh:List PV:=[.d vi,.d wF,.d gQ]
abbrev amf:List PB:=[.rows 167 ai eh,.rows 4 ai .bool,.rows 169 ai im,.cells 94 Ii,.rows 3 ai aM]
abbrev af5:List PV:=[.row 3,.d aM,.row 4,.row 5]
abbrev apw:List PB:=[.cells 31 [.d mb],.cells 94 af5,.cells 94 CV,.rows 167 ai eh,.rows 4 ai .bool,.rows 169 ai im]
abbrev vA:List PV:=[.d aM,.d aM]
abbrev ame:List PB:=[.rows 52 ai gr,.cells 110 [.d vi],.cells 105 [.d wF],.cells 105 wE]
abbrev apv:List PB:=[.cells 184 [.d xB],.cells 188 [.d aM,.row 3,.row 4,.d aM],.cells 188 YX,.rows 2 ai aM,.rows 50 ai (.sl aM)]
abbrev apu:List PB:=[.cells 205 ak3,.cells 89 [.d zA],.gone,.rows 211 ai .sm,.rowsP 9 .str]
abbrev amc:List PV:=[.ptr 1 0,.d aM,.d aM,.d .bool,.d .bool,.d .bool,.d .bool,.row 3]
abbrev apt:List PB:=[.cells 52 vB,.cells 188 [.d fe],.cells 201 [.d rA],.cells 52 [.d aM,.d aM,.d aM,.d aM,.d aM,.row 4,.nil],.rows 3 ai aM]
abbrev Q0:List PB:=[.cells 211 [.d .sm]]
abbrev aig:List PV:=[.agg [.agg Ii,.row 3,.row 4,.csl 5 4 4]]
abbrev UB:List PB:=[.cells 151 [.d OH]]
abbrev amb:List PB:=[.cells 31 [.d mb],.cells 184 [.d xB],.cells 201 [.d rA]]
abbrev aif:List PB:=[.cells 151 [.d OH],.cells 195 [.d tK]]
abbrev aie:List PB:=[.cells 151 [.d OH],.cells 209 [.d .ex]]
abbrev ama:List PB:=[.cells 31 [.d mb],.rows 9 ai .str,.cells 123 [.d kK]]
abbrev am9:List PB:=[.rows 167 ai eh,.rows 4 ai .bool,.rows 169 ai im]
abbrev aid:List PB:=[.cells 31 [.d mb],.cells 201 [.d rA]]
abbrev aic:List PV:=[.ptr 0 0,.ptr 4 0,.ptr 5 0,.d .bool]
abbrev am8:List PV:=[.ptr 0 0,.ptr 1 0,.ptr 2 0,.ptr 3 0,.ptr 4 0,.d aM]
abbrev Xu:List PB:=[.cells 31 [.d mb],.cells 94 [.d Ij]]
abbrev am7:List PB:=[.cells 89 [.d zA],.rows 3 ai aM,.rows 3 ai aM]
abbrev aas:List PB:=[.cells 31 [.d mb],.rows 9 ai .str]
abbrev am6:List PB:=[.cells 52 [.d gr],.cells 97 wE,.cells 97 amg,.rows 2 ai aM,.rows 2 ai aM,.rows 3 ai aM]
abbrev aps:List PB:=[.cells 89 Q1,.cells 50 af1,.rows 3 ai aM,.rows 3 ai aM,.rows 3 ai aM,.rows 3 ai aM]
abbrev Ih:List PV:=[.d (.sl aM),.d aM]
abbrev Ng:List PV:=[.ptr 0 0,.row 1,.d aM]
abbrev aar:List PB:=[.cells 239 [.d HG]]
abbrev aaq:List PB:=[.cells 89 [.d zA]]
abbrev am5:List PV:=[.agg [.agg Ii,.row 3,.row 4,.csl 5 4 3]]
abbrev UA:List PB:=[.cells 89 Q1]
abbrev afa:List PB:=[.rows 2 ai aM,.rows 50 ai (.sl aM)]
abbrev af9:List PB:=[.cells 110 [.d vi],.cells 105 [.d wF]]
abbrev af8:List PB:=[.cells 31 [.d mb],.cells 184 [.d xB]]
abbrev mT:List PV:=[.d (.sl aM)]
abbrev af7:List PV:=[.ptr 0 0,.ptr 1 0,.ptr 2 0,.ptr 3 0]
abbrev ak5:List PV:=[.d (.sl eh),.d aM,.d qz,.d (.sl im),.row 7,.row 8,.csl 9 4 1]
abbrev af6:List PB:=[.cells 94 [.d Ij],.rows 3 ai aM]
abbrev UD:List PV:=[.ptr 0 0,.d aM,.d aM]
def tyT:PT Ty:=dL [(2,aM),(3,aM),(4,.bool),(9,.str),(50,(.sl aM)),(52,gr),(57,gQ),(77,gQ),(91,qz),(116,ma),(123,kK),(125,su),(127,pj),(154,gQ),(167,eh),(169,im),(184,xB),(188,fe),(195,tK),(201,rA),(209,.ex),(211,.sm),(239,HG)]
def b9 (t:TypeId):Option Ty:=tyT.get t
def BP:FT:=⟨⟨[],[]⟩,⟨[.d (.sl .str)],[]⟩,.leaf⟩
def M4:cq:=cn BP kF
def Aj:FT:=⟨⟨[.d .str],[]⟩,⟨[.d .bool],[]⟩,dL [(8,(.j ⟨[0,3],[4],⟨[.d aM],[]⟩,[]⟩))]⟩
def Lk:cq:=cn Aj jO
def Hq:FT:=⟨⟨[.d (.int .u8)],[]⟩,⟨[.d .bool],[]⟩,dL [(2,(.j ⟨[],[2],⟨[.d .bool],[]⟩,[]⟩))]⟩
def T9:cq:=cn Hq lJ
def KY:FT:=⟨⟨[.d (.int .u8)],[]⟩,⟨[.d .bool],[]⟩,dL [(2,(.j ⟨[],[2],⟨[.d .bool],[]⟩,[]⟩))]⟩
def WS:cq:=cn KY rW
def KX:FT:=⟨⟨[.d (.int .u8)],[]⟩,⟨[.d .bool],[]⟩,dL [(2,(.j ⟨[],[2],⟨[.d .bool],[]⟩,[]⟩))]⟩
def WR:cq:=cn KX pQ
def Hr:FT:=⟨⟨[.d .str],[]⟩,⟨[.d .bool],[]⟩,dL [(3,(.j ⟨[0],[21],⟨[.d .bool],[]⟩,[]⟩)),(14,(.j ⟨[0],[3],⟨[.d aM],[]⟩,[]⟩))]⟩
def T_:cq:=cn Hr fA
def KP:FT:=⟨⟨[.d .bool],[]⟩,⟨[.d aM],[]⟩,.leaf⟩
def WG:cq:=cn KP gk
def KQ:FT:=⟨⟨vA,[]⟩,⟨[.d aM,.d .bool],[]⟩,.leaf⟩
def WH:cq:=cn KQ uM
def Hm:FT:=⟨⟨[.d aM,.d aM,.d aM],[]⟩,⟨[.d aM,.d .bool],[]⟩,dL [(91,(.j ⟨[],[6,7],⟨[.d aM,.d .bool],[]⟩,[]⟩)),(97,(.j ⟨[],[6,7],⟨[.d aM,.d .bool],[]⟩,[]⟩))]⟩
def T5:cq:=cn Hm sV
def KU:FT:=⟨⟨vA,[]⟩,⟨[.d aM],[]⟩,dL [(12,(.j ⟨[],[5],⟨[.d aM],[]⟩,[]⟩))]⟩
def WJ:cq:=cn KU rU
def BO:FT:=⟨⟨[.d aM],[]⟩,⟨[.d aM],[]⟩,dL [(4,(.j ⟨[0],[3],⟨[.d .bool],[]⟩,[]⟩)),(10,(.j ⟨[0],[10],⟨[.d .bool],[]⟩,[]⟩)),(16,(.j ⟨[],[17],⟨[.d .bool],[]⟩,[]⟩))]⟩
def M3:cq:=cn BO mF
def pA:FT:=⟨⟨[.d .ex],[]⟩,⟨[.d .bool],[]⟩,dL [(2,(.j ⟨[],[1,3],⟨ie,[.cells 209 [.d .ex]]⟩,[]⟩)),(5,(.j ⟨[],[1,50],⟨ie,[.cells 209 [.d .ex]]⟩,[]⟩)),(16,(.j ⟨[],[1,4],⟨xA,[.cells 209 [.d .ex]]⟩,[]⟩))]⟩
def H6:cq:=cn pA jp
def HP (n:Nat):cq:=cn pA (ik n)
def KW:FT:=⟨⟨[.d .ex],[]⟩,⟨[.d .bool],[]⟩,dL [(2,(.j ⟨[],[2],⟨[.d .bool],[]⟩,[]⟩))]⟩
def WP:cq:=cn KW pP
def tJ:FT:=⟨⟨[.d .sm],[]⟩,⟨[.d .bool],[]⟩,dL [(3,(.j ⟨[],[1,13],⟨ie,Q0⟩,[]⟩)),(10,(.j ⟨[],[1,3],⟨ie,Q0⟩,[]⟩)),(13,(.j ⟨[],[1,47],⟨ie,Q0⟩,[]⟩)),(21,(.j ⟨[],[1,66],⟨ie,Q0⟩,[]⟩)),(29,(.j ⟨[],[1,95],⟨ie,Q0⟩,[]⟩)),(36,(.j ⟨[],[1,4],⟨ie,Q0⟩,[]⟩)),(39,(.j ⟨[],[1,130],⟨ie,Q0⟩,[]⟩)),(46,(.j ⟨[],[1,5],⟨ie,Q0⟩,[]⟩)),(49,(.j ⟨[],[1,157],⟨ie,Q0⟩,[]⟩)),(56,(.j ⟨[],[2],⟨[.d .bool],[]⟩,[]⟩))]⟩
def HO (n:Nat):cq:=cn tJ (eK n)
def oF:FT:=⟨⟨[.d (.sl .sm)],[]⟩,⟨[.d .bool],[]⟩,dL [(6,(.j ⟨[0],[3],⟨[.d aM],[]⟩,[]⟩))]⟩
def FY:cq:=cn oF om
def Fh (n:Nat):cq:=cn oF (dM n)
def yX:FT:=⟨⟨[.d HG],[]⟩,⟨[.d .bool],[]⟩,dL [(3,(.j ⟨[],[1,31],⟨ie,aar⟩,[]⟩)),(11,(.j ⟨[],[1,50],⟨ie,aar⟩,[]⟩)),(18,(.j ⟨[],[2],⟨[.d .bool],[]⟩,[]⟩))]⟩
def H5:cq:=cn yX km
def Hp:FT:=⟨⟨[.d OH],[]⟩,⟨[.d .bool],[]⟩,dL [(6,(.j ⟨[],[1,3],⟨xA,UB⟩,[]⟩)),(27,(.j ⟨[],[1,4],⟨xA,UB⟩,[]⟩)),(42,(.j ⟨[4],[1,5,6],⟨wD,aif⟩,[]⟩)),(59,(.j ⟨[4],[1,56],⟨ie,UB⟩,[]⟩))]⟩
def T8:cq:=cn Hp qh
def Yx:FT:=⟨⟨[.d (.sl .str),.d .str],[]⟩,⟨[.d aM],[]⟩,dL [(6,(.j ⟨[0,1],[5],⟨[.d aM],[]⟩,[]⟩))]⟩
def ahj:cq:=cn Yx ji
def Ho:FT:=⟨⟨[.d (.sl HG),.d .str],[]⟩,⟨[.d aM],[]⟩,dL [(6,(.j ⟨[0,1],[5],⟨[.d aM],[]⟩,[]⟩))]⟩
def T7:cq:=cn Ho ij
def BN:FT:=⟨⟨[.d (.sl tK),.d .str],[]⟩,⟨[.d aM],[]⟩,dL [(6,(.j ⟨[0,1],[5],⟨[.d aM],[]⟩,[]⟩))]⟩
def M2:cq:=cn BN g_
def Hn:FT:=⟨⟨[.d OH,.d aM,.d .str],[]⟩,⟨[.d aM],[]⟩,dL [(3,(.j ⟨[2],[3,27],⟨ie,UB⟩,[]⟩)),(52,(.j ⟨[7],[3,56],⟨ie,UB⟩,[]⟩))]⟩
def T6:cq:=cn Hn qg
def Og:FT:=⟨⟨[.d OH,.d aM,.d .str,.d aM,.d aM],[]⟩,⟨[.d aM],[]⟩,dL [(13,(.j ⟨[],[25],⟨[.d .bool],[]⟩,[]⟩))]⟩
def Z3:cq:=cn Og gM
def yq:FT:=⟨⟨[.d .ex],[]⟩,⟨vA,[]⟩,dL [(8,(.j ⟨[],[1,4,5,6],⟨[.ptr 0 0,.d aM,.d aM,.d aM],[.cells 209 [.d .ex]]⟩,[]⟩))]⟩
def WN:cq:=cn yq Cr
def Vz (n:Nat):cq:=cn yq (nN n)
def yp:FT:=⟨⟨[.d OH,.d aM,.d .ex],[]⟩,⟨[.d aM],[]⟩,dL [(7,(.j ⟨[1],[3,5,7],⟨wD,aie⟩,[]⟩)),(21,(.j ⟨[1],[3,5,7,8],⟨[.ptr 0 0,.ptr 1 0,.d aM,.d aM],aie⟩,[]⟩)),(23,(.j ⟨[1,7,8],[3,5,33],⟨rC,aie⟩,[]⟩))]⟩
def WL:cq:=cn yp Cq
def Vy (n:Nat):cq:=cn yp (nM n)
def Oh:FT:=⟨⟨[.d OH,.d aM,.d .ex],[]⟩,⟨[.d aM],[]⟩,dL [(13,(.j ⟨[1],[3,5,22],⟨rC,aie⟩,[]⟩))]⟩
def Z4:cq:=cn Oh mE
def Ec:FT:=⟨⟨[.d .bool],[]⟩,⟨[.d aM],[]⟩,.leaf⟩
def Qs:cq:=cn Ec dg
def Yw:FT:=⟨⟨vA,[]⟩,⟨[.d aM],[]⟩,.leaf⟩
def ahi:cq:=cn Yw jh
def xq:FT:=⟨⟨[.ptr 0 0,.d aM,.d aM,.d .str],aau⟩,⟨[.d .bool],aau⟩,dL [(6,(.j ⟨[1,2,3],[0,9],⟨xA,aau⟩,[]⟩)),(17,(.j ⟨[1,2,3,9],[0,46],⟨ie,aau⟩,[]⟩))]⟩
def FX:cq:=cn xq dZ
def BL:FT:=⟨⟨[.ptr 0 0,.d .sm],aau⟩,⟨[.d aM],aav⟩,dL [(1,(.a [.ren 0 4,.ren 0 5])),(28,(.j ⟨[6,7,8,9,30],[0,3,5,67],⟨aic,La8⟩,[]⟩)),(41,(.j ⟨[],[4],⟨[.d aM],aav⟩,[]⟩)),(44,(.j ⟨[6,7,8,9,30],[0,3,5,91],⟨aic,La8⟩,[]⟩)),(51,(.j ⟨[],[4],⟨[.d aM],aav⟩,[]⟩)),(63,(.j ⟨[],[4],⟨[.d aM],aav⟩,[]⟩)),(66,(.j ⟨[6,7,8,9,30],[0,3,5,119],⟨aic,La8⟩,[]⟩)),(89,(.j ⟨[],[4],⟨[.d aM],aav⟩,[]⟩)),(108,(.j ⟨[],[0,3,187],⟨[.ptr 0 0,.ptr 4 0,.d .bool],[.cells 236 [.d (.sl HG),.d (.sl tK),.d aM,.row 1,.row 5,.row 6],.rowsP 211 .sm,.gone,.gone,.cells 211 [.d .sm],.rows 9 ai .str,.rows 9 ai .str]⟩,[]⟩)),(131,(.j ⟨[],[4],⟨[.d aM],aav⟩,[]⟩)),(137,(.j ⟨[6],[0,3,5,14],⟨[.ptr 0 0,.ptr 4 0,.ptr 5 0,.d aM],La8⟩,[]⟩)),(139,(.j ⟨[6],[0,3,5,14],⟨[.ptr 0 0,.ptr 4 0,.ptr 5 0,.d aM],La8⟩,[]⟩)),(140,(.j ⟨[6,14],[0,3,5,253],⟨aic,La8⟩,[]⟩))]⟩
def M0:cq:=cn BL mD
def sJ:FT:=⟨⟨[.ptr 0 0,.d (.sl .sm)],aau⟩,⟨vA,ami⟩,dL [(1,(.a [.ren 0 3,.ren 0 4,.ren 0 5])),(6,(.j ⟨[1],[0,6],⟨xA,ami⟩,[]⟩)),(19,(.j ⟨[1,6],[0,7,8],⟨[.ptr 0 0,.ptr 4 0,.d aM],[.cells 236 [.d (.sl HG),.d (.sl tK),.d aM,.row 5,.row 6,.row 7],.gone,.gone,.gone,.cells 211 [.d .sm],.rowsP 211 .sm,.rows 9 ai .str,.rows 9 ai .str]⟩,[]⟩)),(37,(.j ⟨[1,6],[0,8,9],⟨UD,ami⟩,[]⟩))]⟩
def M1:cq:=cn sJ wv
def Mq (n:Nat):cq:=cn sJ (iM n)
def yr:FT:=⟨⟨[.d (.sl .sm)],[]⟩,⟨[.d aM],[]⟩,dL [(8,(.j ⟨[0],[3,4],⟨vA,[]⟩,[]⟩))]⟩
def WO:cq:=cn yr Ct
def VB (n:Nat):cq:=cn yr (nO n)
def KV:FT:=⟨⟨[.d (.sl HG)],[]⟩,⟨vA,[]⟩,dL [(8,(.j ⟨[0],[4,5,6,7,8],⟨[.d aM,.d aM,.d aM,.d aM,.d aM],[]⟩,[]⟩)),(16,(.j ⟨[0,8],[4,5,6,7],⟨[.d aM,.d aM,.d aM,.d aM],[]⟩,[]⟩)),(38,(.j ⟨[0,8],[4,5,6,7,9],⟨[.d aM,.d aM,.d aM,.d aM,.ptr 0 0],aar⟩,[]⟩)),(39,(.j ⟨[0,4,5,6,7,8,36],[9,39],⟨ie,aar⟩,[]⟩)),(47,(.j ⟨[0,4,5,6,7,8,36],[9,47],⟨ie,aar⟩,[]⟩)),(61,(.j ⟨[0,4,5,6,7,8],[9,69],⟨ie,aar⟩,[]⟩))]⟩
def WM:cq:=cn KV rV
def Eb:FT:=⟨⟨[.d OH],[]⟩,⟨vA,[]⟩,dL [(6,(.j ⟨[],[1,4],⟨xA,UB⟩,[]⟩)),(17,(.j ⟨[4],[1,5,37],⟨rC,aif⟩,[]⟩)),(29,(.j ⟨[],[1,6],⟨xA,UB⟩,[]⟩)),(51,(.j ⟨[6],[1,7,8],⟨wD,aif⟩,[]⟩)),(62,(.j ⟨[6,8],[1,7,90],⟨rC,aif⟩,[]⟩))]⟩
def Qr:cq:=cn Eb ol
def Ed:FT:=⟨⟨[.d OH],[]⟩,⟨vA,[]⟩,dL [(44,(.j ⟨[],[1,8,9],⟨UD,UB⟩,[]⟩)),(67,(.a [.cel 10 3 211 .sm,.cel 10 4 9 .str,.cel 10 5 9 .str])),(69,(.j ⟨[],[1,10,11],⟨wD,[.cells 151 [.d OH],.cells 236 [.d (.sl HG),.d (.sl tK),.d aM,.row 2,.row 3,.row 4],.rowsP 211 .sm,.rows 9 ai .str,.rows 9 ai .str]⟩,[]⟩))]⟩
def Qt:cq:=cn Ed fD
def yo:FT:=⟨⟨[.row 0,.d aM,.d aM,.d (.sl .sm)],[.rows 127 ai pj]⟩,⟨[.row 1,.d aM],[.gone,.rows 127 ai pj]⟩,dL [(1,(.a [.ren 0 0])),(6,(.j ⟨[1,3],[0,2,10],⟨[.row 1,.d aM,.d aM],[.gone,.rows 127 ai pj]⟩,[]⟩)),(25,(.a [.nil 8 127 pj]))]⟩
def Wz:cq:=cn yo Jq
def Vx (n:Nat):cq:=cn yo (pZ n)
def Hj:FT:=⟨⟨[.d (.sl su),.d .str],[]⟩,⟨[.d aM],[]⟩,dL [(6,(.j ⟨[0,1],[5],⟨[.d aM],[]⟩,[]⟩))]⟩
def T2:cq:=cn Hj kw
def Hl:FT:=⟨⟨[.d mb,.d .str],[]⟩,⟨[.d aM],[]⟩,dL [(6,(.j ⟨[1],[2,5],⟨xA,qy⟩,[]⟩))]⟩
def T4:cq:=cn Hl lI
def KM:FT:=⟨⟨[.d OH],[]⟩,⟨[.d mb],[]⟩,dL [(18,(.j ⟨[],[1,2,3,6],⟨Ge,apx⟩,[.cel 3 0 123 kK,.cel 3 1 125 su,.cel 3 2 116 ma,.cel 3 3 9 .str]⟩)),(31,(.j ⟨[6],[1,2,3],⟨[.ptr 0 0,.ptr 1 0,.ptr 2 0],apx⟩,[]⟩)),(32,(.j ⟨[6,31],[1,2,3,7,39],⟨AA,amm⟩,[]⟩)),(42,(.j ⟨[6],[1,2,3,7,8],⟨[.ptr 0 0,.ptr 1 0,.ptr 2 0,.ptr 3 0,.d aM],amm⟩,[]⟩)),(53,(.j ⟨[6,31],[1,2,3,7,65],⟨AA,amm⟩,[]⟩)),(69,(.a [.cel 3 5 127 pj])),(71,(.j ⟨[],[1,2,3,9],⟨Ge,[.cells 151 [.d OH],.cells 31 aib,.cells 31 [.row 3,.row 4,.row 5,.row 6,.row 7,.row 8],.rows 123 ai kK,.rows 125 ai su,.rows 116 ai ma,.rows 9 ai .str,.rows 9 ai .str,.rows 127 ai pj]⟩,[.cel 3 4 9 .str]⟩))]⟩
def WE:cq:=cn KM uL
def KJ:FT:=⟨⟨[.d mb],[]⟩,⟨[.d (.sl .str),.d .bool],[]⟩,dL [(8,(.j ⟨[],[1,4,5],⟨Ng,aas⟩,[.nil 4 9 .str]⟩)),(15,(.j ⟨[],[1,4,5],⟨Ng,aas⟩,[]⟩)),(37,(.j ⟨[5],[1,4,6,51],⟨[.ptr 0 0,.row 1,.ptr 2 0,.d .bool],ama⟩,[]⟩)),(48,(.j ⟨[5],[1,4,6,7],⟨[.ptr 0 0,.row 1,.ptr 2 0,.d aM],ama⟩,[]⟩)),(59,(.j ⟨[5,7],[1,4,6,93],⟨[.ptr 0 0,.row 1,.ptr 2 0,.d .bool],ama⟩,[]⟩)),(72,(.j ⟨[],[1,4,9],⟨Ng,aas⟩,[]⟩)),(87,(.j ⟨[],[1,4,10],⟨Ng,aas⟩,[]⟩))]⟩
def WA:cq:=cn KJ pN
def yW:FT:=⟨⟨[.d mb],[]⟩,⟨[.d .bool],[]⟩,dL [(3,(.j ⟨[],[1,49],⟨ie,qy⟩,[]⟩)),(24,(.j ⟨[3],[1,5],⟨xA,qy⟩,[]⟩)),(33,(.j ⟨[3,5],[1,79],⟨ie,qy⟩,[]⟩)),(45,(.j ⟨[],[1,6],⟨xA,qy⟩,[]⟩)),(56,(.j ⟨[6],[1,109],⟨ie,qy⟩,[]⟩)),(68,(.j ⟨[],[1,8],⟨xA,qy⟩,[]⟩)),(76,(.j ⟨[8],[1],⟨[.ptr 0 0],qy⟩,[]⟩)),(80,(.j ⟨[8],[1,9,132],⟨rC,[.cells 31 [.d mb],.cells 127 [.d pj]]⟩,[]⟩)),(87,(.j ⟨[8],[1,9,146],⟨rC,[.cells 31 [.d mb],.cells 127 [.d pj]]⟩,[]⟩)),(90,(.j ⟨[8],[1,165],⟨ie,qy⟩,[]⟩))]⟩
def H4:cq:=cn yW ii
def Ai:FT:=⟨⟨[.d rA],[]⟩,⟨mT,[]⟩,dL [(6,(.j ⟨[4],[1,5],⟨ie,[.cells 201 [.d rA]]⟩,[]⟩)),(24,(.j ⟨[4],[1,13],⟨ie,[.cells 201 [.d rA]]⟩,[]⟩)),(46,(.j ⟨[4],[1,37],⟨ie,[.cells 201 [.d rA]]⟩,[]⟩))]⟩
def Lj:cq:=cn Ai jN
def Hk:FT:=⟨⟨[.d aM],[]⟩,⟨[.d .bool],[]⟩,dL [(2,(.j ⟨[],[2],⟨[.d .bool],[]⟩,[]⟩))]⟩
def T3:cq:=cn Hk qf
def KK:FT:=⟨⟨[.d (.sl rA),.d aM],[]⟩,⟨[.d .bool],[]⟩,dL [(6,(.j ⟨[0],[1,5],⟨vA,[]⟩,[]⟩)),(14,(.j ⟨[0,5],[1],⟨[.d aM],[]⟩,[]⟩)),(16,(.j ⟨[0,1,5],[19],⟨[.d .bool],[]⟩,[]⟩))]⟩
def WC:cq:=cn KK pO
def Yv:FT:=⟨⟨vA,[]⟩,⟨[.d .bool],[]⟩,dL [(2,(.j ⟨[],[4],⟨[.d .bool],[]⟩,[]⟩))]⟩
def ahh:cq:=cn Yv jx
def KL:FT:=⟨⟨[.d mb,.d aM,.d aM],[]⟩,⟨[.d .bool],[]⟩,dL [(2,(.j ⟨[],[6],⟨[.d .bool],[]⟩,[]⟩))]⟩
def WD:cq:=cn KL nI
def D_:FT:=⟨⟨[.d mb,.d rA],[]⟩,⟨[.d .bool],[]⟩,dL [(9,(.j ⟨[],[4],⟨[.d .bool],[]⟩,[]⟩)),(15,(.j ⟨[],[4],⟨[.d .bool],[]⟩,[]⟩)),(30,(.j ⟨[6],[2,3,59],⟨rC,aid⟩,[]⟩)),(37,(.j ⟨[],[4],⟨[.d .bool],[]⟩,[]⟩)),(40,(.j ⟨[6],[2,3,78],⟨rC,aid⟩,[]⟩)),(55,(.j ⟨[],[4],⟨[.d .bool],[]⟩,[]⟩)),(58,(.j ⟨[6],[2,3,98],⟨rC,aid⟩,[]⟩)),(72,(.j ⟨[6],[2,3,108],⟨rC,aid⟩,[]⟩)),(97,(.j ⟨[],[4],⟨[.d .bool],[]⟩,[]⟩)),(103,(.j ⟨[],[4],⟨[.d .bool],[]⟩,[]⟩))]⟩
def Qo:cq:=cn D_ lU
def xp:FT:=⟨⟨[.d mb,.d aM,.d xB],[]⟩,⟨[.d .bool],[]⟩,dL [(5,(.j ⟨[1,7],[3,5,26],⟨rC,af8⟩,[]⟩)),(16,(.j ⟨[1,7],[3,5,8],⟨wD,af8⟩,[]⟩)),(28,(.j ⟨[1,7,8],[3,5,9,67],⟨Gb,amb⟩,[]⟩)),(36,(.j ⟨[1,7,8],[3,5,9,100],⟨Gb,amb⟩,[]⟩)),(44,(.j ⟨[1,7,8],[3,5,9,122],⟨Gb,amb⟩,[]⟩)),(56,(.j ⟨[1,7,8,10],[3,5,11],⟨wD,af8⟩,[]⟩))]⟩
def FW:cq:=cn xp iz
def KN:FT:=⟨⟨[.d vi],[]⟩,⟨[.d .bool],[]⟩,dL [(3,(.j ⟨[],[1,17],⟨ie,[.cells 110 [.d vi]]⟩,[]⟩)),(14,(.j ⟨[],[1,3],⟨xA,[.cells 110 [.d vi]]⟩,[]⟩))]⟩
def WF:cq:=cn KN jM
def D':FT:=⟨⟨[.ptr 0 0,.d rA],La5⟩,⟨[],La4⟩,.leaf⟩
def Qp:cq:=cn D' cI
def rh:FT:=⟨⟨[.ptr 0 0,.d .ex,.d aM],La5⟩,⟨[],La4⟩,dL [(2,(.j ⟨[],[],⟨[],La4⟩,[]⟩))]⟩
def Lh:cq:=cn rh iQ
def JA (n:Nat):cq:=cn rh (iS n)
def yV:FT:=⟨⟨[.ptr 0 0,.d .sm],La5⟩,⟨[],La4⟩,.leaf⟩
def H3:cq:=cn yV mg
def BK:FT:=⟨⟨[.ptr 0 0,.d .str],La5⟩,⟨[.d aM],La5⟩,dL [(6,(.j ⟨[1],[0,5],⟨xA,La5⟩,[]⟩))]⟩
def MZ:cq:=cn BK jB
def ri:FT:=⟨⟨[.ptr 0 0,.d (.sl .sm)],La5⟩,⟨[],La4⟩,dL [(1,(.a [.ren 0 7])),(3,(.j ⟨[1],[0,4],⟨xA,La4⟩,[]⟩))]⟩
def Li:cq:=cn ri uK
def JB (n:Nat):cq:=cn ri (dS n)
def wB:FT:=⟨⟨[.ptr 0 0,.d .sm],La5⟩,⟨[],La4⟩,dL [(1,(.a [.ren 0 7])),(10,(.j ⟨[],[],⟨[],La4⟩,[]⟩)),(15,(.j ⟨[4,25],[0,3,31],⟨[.ptr 0 0,.ptr 2 0,.d .bool],[.cells 197 [.d (.sl kK),.d (.sl su),.d (.sl ma),.d (.sl .str),.d (.sl .str),.d (.sl pj),.d (.sl .str),.row 3,.d aM,.d aM],.gone,.cells 211 [.d .sm],.rows 201 ai rA]⟩,[]⟩))]⟩
def Mp (n:Nat):cq:=cn wB (eY n)
def rj:FT:=⟨⟨[.ptr 0 0,.d .sm],La5⟩,⟨[],La4⟩,.leaf⟩
def Du (n:Nat):cq:=cn rj (dk n)
def tI:FT:=⟨⟨[.ptr 0 0,.d .sm,.d aM,.d aM,.d aM],La5⟩,⟨[],La4⟩,.leaf⟩
def HN (n:Nat):cq:=cn tI (dO n)
def Ea:FT:=⟨⟨[.d OH],[]⟩,⟨[.d vi,.d aM,.d aM],[]⟩,dL [(20,(.j ⟨[],[1,2,7,8,9],⟨[.ptr 0 0,.ptr 1 0,.ptr 2 0,.d aM,.d aM],[.cells 151 [.d OH],.cells 110 af2,.cells 110 [.d (.sl kK),.d (.sl su),.d (.sl ma),.d (.sl .str),.d (.sl .str),.d (.sl pj),.row 3],.rows 184 ai xB]⟩,[.cel 7 6 184 xB]⟩)),(32,(.a [.cel 10 7 201 rA])),(45,(.j ⟨[8,9],[1,2,7,10,11,12],⟨am8,aq3⟩,[]⟩)),(59,(.j ⟨[8,9,12,13],[1,2,7,10,11,14],⟨am8,aq3⟩,[]⟩))]⟩
def Qq:cq:=cn Ea qR
def Tc:FT:=⟨⟨Ih,[]⟩,⟨[.d .bool],[]⟩,dL [(6,(.j ⟨[0,1],[5],⟨[.d aM],[]⟩,[]⟩))]⟩
def adx:cq:=cn Tc qQ
def Tb:FT:=⟨⟨Ih,[]⟩,⟨mT,[]⟩,dL [(6,(.j ⟨[0,1],[5],⟨[.d aM],[]⟩,[]⟩)),(8,(.j ⟨[0,1,5],[18],⟨[.d .bool],[]⟩,[]⟩)),(16,(.j ⟨[0,1,5],[32],⟨[.d .bool],[]⟩,[]⟩))]⟩
def adw:cq:=cn Tb wW
def KI:FT:=⟨⟨[.d (.sl aM),.d (.sl aM)],[]⟩,⟨mT,[]⟩,dL [(8,(.j ⟨[0,1],[5,6],⟨Ih,[]⟩,[]⟩)),(23,(.j ⟨[1],[5,7],⟨Ih,[]⟩,[]⟩))]⟩
def Wy:cq:=cn KI rT
def BJ:FT:=⟨⟨[.d aM],[]⟩,⟨[.d aM],[]⟩,dL [(3,(.j ⟨[0],[8],⟨[.d .bool],[]⟩,[]⟩))]⟩
def MY:cq:=cn BJ mC
def Of:FT:=⟨⟨[.d fe],[]⟩,⟨[.agg aia],afa⟩,dL [(8,(.j ⟨[],[1,2,3,4],⟨Ge,[.cells 188 [.d fe],.cells 188 YX,.cells 188 [.d aM,.row 3,.row 4,.d aM],.rows 2 ai aM,.rows 50 ai (.sl aM)]⟩,[.cel 3 2 50 (.sl aM)]⟩))]⟩
def Z2:cq:=cn Of cw
def Oe:FT:=⟨⟨[.d rA,.agg aia],afa⟩,⟨[.agg aia,.d .bool],afa⟩,dL [(8,(.j ⟨[6],[2,3,4,7],⟨[.ptr 2 0,.ptr 3 0,.ptr 4 0,.d aM],amj⟩,[]⟩)),(17,(.j ⟨[6,7],[2,3,4,33],⟨[.ptr 2 0,.ptr 3 0,.ptr 4 0,.d .bool],amj⟩,[]⟩)),(32,(.j ⟨[],[2,3,4,8,9,10],⟨[.ptr 2 0,.ptr 3 0,.ptr 4 0,.d aM,.d .bool,.d (.sl aM)],amj⟩,[]⟩))]⟩
def Z1:cq:=cn Oe wV
def Hi:FT:=⟨⟨[.d xB,.d fe],[]⟩,⟨[.d fe,.d .bool],[]⟩,dL [(3,(.j ⟨[],[2,3,4,23],⟨Gb,[.cells 184 [.d xB],.cells 188 [.d fe],.cells 188 YX]⟩,[]⟩)),(16,(.j ⟨[],[2,3,4,6],⟨Ge,apv⟩,[]⟩)),(26,(.j ⟨[6],[2,3,4,44],⟨Gb,apv⟩,[]⟩))]⟩
def TZ:cq:=cn Hi nG
def KF:FT:=⟨⟨[.d mb],[]⟩,⟨[.d Ij],[]⟩,dL [(8,(.j ⟨[],[1,2,3,4],⟨Ge,[.cells 31 [.d mb],.cells 94 CV,.cells 94 [.row 3,.d aM,.nil,.nil],.rows 167 ai eh]⟩,[.cel 3 0 167 eh]⟩)),(23,(.j ⟨[],[1,2,3,5],⟨Ge,[.cells 31 [.d mb],.cells 94 CV,.cells 94 [.row 3,.d aM,.row 4,.nil],.rows 167 ai eh,.rows 4 ai .bool]⟩,[.cel 3 2 4 .bool]⟩)),(38,(.j ⟨[],[1,2,3,6],⟨Ge,[.cells 31 [.d mb],.cells 94 CV,.cells 94 af5,.rows 167 ai eh,.rows 4 ai .bool,.rows 169 ai im]⟩,[.cel 3 3 169 im]⟩)),(49,(.j ⟨[6],[1,2,3,7],⟨af7,[.cells 31 [.d mb],.cells 94 CV,.cells 94 [.row 4,.d aM,.row 5,.row 6],.cells 169 [.d im],.rows 167 ai eh,.rows 4 ai .bool,.rows 169 ai im]⟩,[]⟩))]⟩
def Ww:cq:=cn KF rR
def Oc:FT:=⟨⟨[.d mb,.d Ij],[]⟩,⟨[.d .bool],[]⟩,dL [(6,(.j ⟨[],[2,3,5],⟨wD,Xu⟩,[]⟩)),(15,(.j ⟨[5],[2,3,31],⟨rC,Xu⟩,[]⟩)),(23,(.j ⟨[],[4],⟨[.d .bool],[]⟩,[]⟩))]⟩
def ZZ:cq:=cn Oc rS
def Yu:FT:=⟨⟨vA,[]⟩,⟨[.d .bool],[]⟩,dL [(2,(.j ⟨[],[4],⟨[.d .bool],[]⟩,[]⟩))]⟩
def ahg:cq:=cn Yu qP
def KE:FT:=⟨⟨[.d mb,.d aM,.d aM],[]⟩,⟨[.d .bool],[]⟩,dL [(6,(.j ⟨[2,7],[3,8],⟨ie,qy⟩,[]⟩)),(36,(.j ⟨[2,7],[3,18],⟨ie,qy⟩,[]⟩)),(46,(.j ⟨[2,7],[3,26],⟨ie,qy⟩,[]⟩)),(53,(.j ⟨[],[6],⟨[.d .bool],[]⟩,[]⟩)),(56,(.j ⟨[2,7],[3,43],⟨ie,qy⟩,[]⟩)),(71,(.j ⟨[],[6],⟨[.d .bool],[]⟩,[]⟩)),(74,(.j ⟨[2,7],[3,61],⟨ie,qy⟩,[]⟩)),(92,(.j ⟨[2,7],[3,71],⟨ie,qy⟩,[]⟩)),(102,(.j ⟨[2],[3,79],⟨ie,qy⟩,[]⟩))]⟩
def Wv:cq:=cn KE uJ
def D9:FT:=⟨⟨[.d mb,.d Ij,.d aM,.d aM,.d aM],[]⟩,⟨[.d .bool],[]⟩,dL [(3,(.j ⟨[2,3,4],[5,6,30],⟨rC,Xu⟩,[]⟩)),(25,(.j ⟨[],[10],⟨[.d .bool],[]⟩,[]⟩)),(50,(.j ⟨[],[10],⟨[.d .bool],[]⟩,[]⟩)),(56,(.j ⟨[],[10],⟨[.d .bool],[]⟩,[]⟩)),(59,(.j ⟨[2,4,70],[5,6,11,119],⟨Gb,[.cells 31 [.d mb],.cells 94 [.d Ij],.cells 169 [.d im]]⟩,[]⟩)),(99,(.j ⟨[2,4,70],[5,6,160],⟨rC,Xu⟩,[]⟩)),(116,(.j ⟨[],[10],⟨[.d .bool],[]⟩,[]⟩)),(122,(.j ⟨[],[10],⟨[.d .bool],[]⟩,[]⟩))]⟩
def Qn:cq:=cn D9 ku
def D8:FT:=⟨⟨[.d Ij,.d aM],[]⟩,⟨mT,[]⟩,dL [(8,(.j ⟨[1],[2,5,6],⟨Ng,af6⟩,[.nil 5 3 aM]⟩)),(16,(.j ⟨[1,6],[2,5],⟨[.ptr 0 0,.row 1],af6⟩,[]⟩)),(17,(.j ⟨[1,6],[2,5,30],⟨[.ptr 0 0,.row 1,.d .bool],af6⟩,[]⟩))]⟩
def Qm:cq:=cn D8 oh
def D7:FT:=⟨⟨Ih,[]⟩,⟨mT,[]⟩,dL [(8,(.j ⟨[0,1],[5,6],⟨[.row 0,.d aM],[.rows 3 ai aM]⟩,[.nil 5 3 aM]⟩)),(16,(.j ⟨[0,1,6],[5],⟨[.row 0],[.rows 3 ai aM]⟩,[]⟩))]⟩
def Ql:cq:=cn D7 qO
def Od:FT:=⟨⟨[.d Ij],[]⟩,⟨[.agg Ii],am9⟩,dL [(8,(.j ⟨[],[1,2,3,4],⟨Ge,[.cells 94 [.d Ij],.cells 94 CV,.cells 94 af5,.rows 167 ai eh,.rows 4 ai .bool,.rows 169 ai im]⟩,[.cel 3 0 167 eh]⟩))]⟩
def Z0:cq:=cn Od iy
def mJ:FT:=⟨⟨[.agg Ii,.d aM],am9⟩,⟨mT,am9⟩,dL [(8,(.j ⟨[1],[2,5,6],⟨[.ptr 3 0,.row 4,.d aM],amf⟩,[.nil 5 3 aM]⟩)),(16,(.j ⟨[1,6],[2,5],⟨[.ptr 3 0,.row 4],amf⟩,[]⟩)),(17,(.j ⟨[1,6],[2,5,30],⟨[.ptr 3 0,.row 4,.d .bool],amf⟩,[]⟩))]⟩
def MX:cq:=cn mJ mB
def Lg:cq:=⟨mJ.pre,⟨mJ.post.vs,[]⟩,jL⟩
def KH:FT:=⟨⟨[.d mb,.d Ij,.d aM,.d aM,.d aM,.d aM],[]⟩,⟨[.d Ij,.d aM,.d .bool],[]⟩,dL [(17,(.j ⟨[],[7,12,15],⟨wD,amh⟩,[]⟩)),(26,(.j ⟨[2,4,5,15,30],[6,7,12,45],⟨Gb,apw⟩,[]⟩)),(34,(.j ⟨[2,4,5,15,30],[6,7,12,54],⟨Gb,apw⟩,[]⟩)),(90,(.j ⟨[],[7,12,17],⟨wD,amh⟩,[]⟩)),(109,(.j ⟨[18],[7,12,19],⟨wD,amh⟩,[]⟩))]⟩
def Wx:cq:=cn KH pM
def KC:FT:=⟨⟨[.d vi],[]⟩,⟨[.d wF],[]⟩,dL [(16,(.j ⟨[],[1,2,3,4],⟨Ge,[.cells 110 [.d vi],.cells 105 wE,.cells 105 [.d (.sl eh),.d aM,.d qz,.d (.sl im),.row 3,.nil,.nil],.rows 2 ai aM]⟩,[.cel 3 4 2 aM]⟩)),(31,(.j ⟨[],[1,2,3,5],⟨Ge,[.cells 110 [.d vi],.cells 105 wE,.cells 105 [.d (.sl eh),.d aM,.d qz,.d (.sl im),.row 3,.row 4,.nil],.rows 2 ai aM,.rows 2 ai aM]⟩,[.cel 3 5 2 aM]⟩)),(46,(.j ⟨[],[1,2,3,6],⟨Ge,[.cells 110 [.d vi],.cells 105 wE,.cells 105 amg,.rows 2 ai aM,.rows 2 ai aM,.rows 188 ai fe]⟩,[.cel 3 6 188 fe]⟩))]⟩
def Wu:cq:=cn KC uI
def Ob:FT:=⟨⟨[.d vi,.d wF],[]⟩,⟨[.d .bool],[]⟩,dL [(3,(.j ⟨[],[2,3,46],⟨rC,af9⟩,[]⟩)),(14,(.j ⟨[],[2,3,5],⟨wD,af9⟩,[]⟩)),(25,(.j ⟨[5],[2,3,97],⟨rC,af9⟩,[]⟩))]⟩
def ZX:cq:=cn Ob wU
def N':FT:=⟨⟨[.d aM],[]⟩,⟨[.d aM],[]⟩,dL [(5,(.j ⟨[0],[3,10],⟨[.row 0,.d .bool],[.rows 3 aj aM]⟩,[]⟩))]⟩
def ZV:cq:=cn N' wS
def G0:FT:=⟨⟨[.d rA,.d fe],[]⟩,⟨[.d aM],[]⟩,dL [(6,(.j ⟨[6],[2,3,7],⟨rC,[.cells 201 [.d rA],.cells 188 [.d fe]]⟩,[]⟩)),(28,(.j ⟨[],[2,40],⟨ie,[.cells 201 [.d rA]]⟩,[]⟩))]⟩
def Ts:cq:=cn G0 sU
def D6:FT:=⟨⟨[.d vi,.d wF,.d aM],[]⟩,⟨[.d gr,.d .bool],[]⟩,dL [(3,(.j ⟨[2],[3,4,6,25],⟨Gb,[.cells 110 [.d vi],.cells 105 [.d wF],.cells 52 vB]⟩,[]⟩)),(54,(.j ⟨[],[6,8,9,10],⟨af7,apt⟩,[.cel 10 5 3 aM]⟩)),(59,(.j ⟨[],[6,8,9,10,98],⟨AA,[.cells 52 vB,.cells 188 [.d fe],.cells 201 [.d rA],.cells 52 vB]⟩,[]⟩)),(68,(.j ⟨[],[6,10],⟨[.ptr 0 0,.ptr 1 0],[.cells 52 vB,.cells 52 [.d aM,.d aM,.d aM,.d aM,.d aM,.row 2,.row 3],.rows 3 ai aM,.rows 3 ai aM]⟩,[.cel 10 6 3 aM]⟩)),(69,(.j ⟨[],[6,8,9,10,123],⟨AA,apt⟩,[]⟩))]⟩
def Qk:cq:=cn D6 og
def KA:FT:=⟨⟨[.d mb],[]⟩,⟨[.d i_],[]⟩,dL [(8,(.j ⟨[],[1,2,3,4],⟨Ge,[.cells 31 [.d mb],.cells 97 wE,.cells 97 amg,.rows 2 ai aM,.rows 2 aj aM,.rows 3 aj aM]⟩,[.cel 3 4 2 aM]⟩))]⟩
def Ws:cq:=cn KA nh
def N_:FT:=⟨⟨[.d mb,.d i_],[]⟩,⟨[.d .bool],[]⟩,dL [(2,(.j ⟨[],[4],⟨[.d .bool],[]⟩,[]⟩))]⟩
def ZU:cq:=cn N_ wR
def Yt:FT:=⟨⟨vA,[]⟩,⟨[.d .bool],[]⟩,dL [(2,(.j ⟨[],[4],⟨[.d .bool],[]⟩,[]⟩))]⟩
def ahf:cq:=cn Yt Dp
def D5:FT:=⟨⟨Ih,[]⟩,⟨[.d .bool],[]⟩,dL [(6,(.j ⟨[0,1],[5],⟨[.d aM],[]⟩,[]⟩)),(15,(.j ⟨[0,1,5],[40],⟨[.d .bool],[]⟩,[]⟩))]⟩
def Qj:cq:=cn D5 oe
def Ky:FT:=⟨⟨[.d i_,.d gr],[]⟩,⟨[.d .bool],[]⟩,dL [(21,(.j ⟨[],[4],⟨[.d .bool],[]⟩,[]⟩)),(24,(.j ⟨[7],[2,3,40],⟨rC,[.cells 97 [.d i_],.cells 52 [.d gr]]⟩,[]⟩)),(47,(.j ⟨[],[4],⟨[.d .bool],[]⟩,[]⟩))]⟩
def Wq:cq:=cn Ky uG
def N9:FT:=⟨⟨[.d mb,.d i_,.d gr],[]⟩,⟨[.d i_,.d .bool],[]⟩,dL [(3,(.j ⟨[],[3,4,5,6,46],⟨AA,LU⟩,[]⟩)),(10,(.j ⟨[],[3,4,5,6],⟨af7,LU⟩,[]⟩)),(11,(.j ⟨[],[3,4,5,6,55],⟨AA,LU⟩,[]⟩)),(21,(.j ⟨[],[3,4,5,6,78],⟨AA,LU⟩,[]⟩)),(28,(.j ⟨[],[3,4,5,6,8],⟨AA,LU⟩,[]⟩)),(31,(.j ⟨[],[3,4,5,6,110],⟨AA,LU⟩,[]⟩)),(39,(.j ⟨[],[3,4,5,6,125],⟨AA,LU⟩,[]⟩)),(47,(.j ⟨[],[3,4,5,6,154],⟨AA,LU⟩,[]⟩)),(58,(.j ⟨[],[3,4,5,6,9,10],⟨am8,[.cells 31 [.d mb],.cells 97 [.d i_],.cells 52 [.d gr],.cells 97 wE,.cells 97 [.nil,.d aM,.nil,.nil,.row 5,.row 6,.row 7],.rows 2 ai aM,.rows 2 ai aM,.rows 3 ai aM]⟩,[]⟩)),(66,(.j ⟨[],[5,6,9],⟨[.ptr 0 0,.ptr 1 0,.ptr 2 0],am6⟩,[]⟩)),(72,(.j ⟨[],[5,6,9],⟨[.ptr 0 0,.ptr 1 0,.ptr 2 0],am6⟩,[]⟩))]⟩
def ZT:cq:=cn N9 rQ
def Kz:FT:=⟨⟨[.d (.sl gr),.d aM,.d aM,.d (.sl aM)],[]⟩,⟨[.d .bool],[]⟩,dL [(6,(.j ⟨[0,1,2,3],[9],⟨[.d aM],[]⟩,[]⟩)),(23,(.j ⟨[0,1,2,3,9],[10,11,12],⟨[.d aM,.d .bool,.d aM],[]⟩,[]⟩)),(31,(.j ⟨[0,1,2,3,9,12],[10,11],⟨[.d aM,.d .bool],[]⟩,[]⟩)),(38,(.j ⟨[0,1,2,3,9,10,12],[11],⟨[.d .bool],[]⟩,[]⟩))]⟩
def Wr:cq:=cn Kz rP
def KB:FT:=⟨⟨[.d mU],[]⟩,⟨vA,[]⟩,dL [(24,(.j ⟨[],[1,4,5],⟨wD,[.cells 34 [.d mU],.cells 97 [.d i_]]⟩,[]⟩)),(38,(.j ⟨[5],[1,4,7,63],⟨Gb,[.cells 34 [.d mU],.cells 97 [.d i_],.cells 97 [.d i_]]⟩,[]⟩))]⟩
def Wt:cq:=cn KB uH
def Hh:FT:=⟨⟨[.d wF],[]⟩,⟨[.agg [.agg Ii,.row 3,.row 4,.csl 5 4 1]],[.rows 167 ai eh,.rows 4 ai .bool,.rows 169 ai im,.rows 2 ai aM,.rows 2 ai aM,.cells 188 [.d aM,.row 6,.row 7,.d aM],.rows 2 ai aM,.rows 50 ai (.sl aM)]⟩,dL [(8,(.u 2))]⟩
def TY:cq:=cn Hh nF
def G9:FT:=⟨⟨Nh,[]⟩,⟨Ni,[]⟩,dL [(27,(.s 5 0 0 1)),(37,(.j ⟨[],[3,4,5,6,7,9,14,15,16],⟨Nm,ams⟩,[]⟩)),(38,(.j ⟨[16,77],[3,4,5,6,7,9,14,15,78],⟨OG,ams⟩,[]⟩)),(83,(.j ⟨[16],[3,4,5,6,7,9,14],⟨Nk,[.cells 110 [.d vi],.cells 105 ak5,.cells 154 [.d gQ],.cells 105 wE,.cells 52 vB,.cells 52 [.d gr],.cells 188 LR,.rows 2 ai aM,.rows 2 ai aM,.cells 188 LR,.rows 2 ai aM,.rows 50 ai (.sl aM)]⟩,[]⟩)),(84,(.j ⟨[16],[3,4,5,6,7,9,14,15,154],⟨OG,ams⟩,[]⟩)),(95,(.j ⟨[],[4,5,6,7,9,14],⟨Nj,[.cells 105 [.d (.sl eh),.d aM,.d qz,.d (.sl im),.row 6,.row 7,.csl 8 4 1],.cells 154 [.d gQ],.cells 105 wE,.cells 52 vB,.cells 52 [.d gr],.cells 188 [.d fe],.rows 2 ai aM,.rows 2 ai aM,.cells 188 [.d fe]]⟩,[]⟩)),(96,(.j ⟨[],[3,4,5,6,7,9,14,183],⟨Nl,[.cells 110 [.d vi],.cells 105 ak5,.cells 154 [.d gQ],.cells 105 wE,.cells 52 vB,.cells 52 [.d gr],.cells 188 LS,.rows 2 ai aM,.rows 2 ai aM,.cells 188 LS]⟩,[]⟩)),(102,(.s 5 0 0 1)),(104,(.a [.pk 4 6 fe]))]⟩
def TE:cq:=cn G9 gq
def Hg:FT:=⟨⟨[.d wF],[]⟩,⟨[.agg [.agg Ii,.row 3,.row 4,.csl 5 4 2]],[.rows 167 ai eh,.rows 4 ai .bool,.rows 169 ai im,.rows 2 ai aM,.rows 2 ai aM,.cells 188 [.d aM,.row 6,.row 7,.d aM,.d fe],.rows 2 ai aM,.rows 50 ai (.sl aM)]⟩,dL [(8,(.u 3))]⟩
def TX:cq:=cn Hg nE
def G8:FT:=⟨⟨Nh,[]⟩,⟨Ni,[]⟩,dL [(27,(.s 5 0 0 1)),(37,(.j ⟨[],[3,4,5,6,7,9,14,15,16],⟨Nm,amu⟩,[]⟩)),(38,(.j ⟨[16,77],[3,4,5,6,7,9,14,15,78],⟨OG,amu⟩,[]⟩)),(83,(.j ⟨[16],[3,4,5,6,7,9,14],⟨Nk,[.cells 110 [.d vi],.cells 105 aih,.cells 154 [.d gQ],.cells 105 wE,.cells 52 vB,.cells 52 [.d gr],.cells 188 LR,.rows 2 ai aM,.rows 2 ai aM,.cells 188 [.d aM,.row 10,.row 11,.d aM,.d fe],.rows 2 ai aM,.rows 50 ai (.sl aM)]⟩,[]⟩)),(84,(.j ⟨[16],[3,4,5,6,7,9,14,15,154],⟨OG,amu⟩,[]⟩)),(95,(.j ⟨[],[4,5,6,7,9,14],⟨Nj,aq2⟩,[]⟩)),(96,(.j ⟨[],[3,4,5,6,7,9,14,183],⟨Nl,[.cells 110 [.d vi],.cells 105 aih,.cells 154 [.d gQ],.cells 105 wE,.cells 52 vB,.cells 52 [.d gr],.cells 188 LS,.rows 2 ai aM,.rows 2 ai aM,.cells 188 [.d aM,.d (.sl aM),.d kg,.d aM,.d fe]]⟩,[]⟩)),(102,(.s 5 0 0 1)),(104,(.a [.pk 4 6 fe]))]⟩
def TD:cq:=cn G8 gL
def Hf:FT:=⟨⟨[.d wF],[]⟩,⟨[.agg [.agg Ii,.row 3,.row 4,.csl 5 4 2]],[.rows 167 ai eh,.rows 4 ai .bool,.rows 169 ai im,.rows 2 ai aM,.rows 2 ai aM,.cells 188 [.d fe,.d aM,.row 6,.row 7,.d aM],.rows 2 ai aM,.rows 50 ai (.sl aM)]⟩,dL [(8,(.u 3))]⟩
def TW:cq:=cn Hf nD
def G7:FT:=⟨⟨Nh,[]⟩,⟨Ni,[]⟩,dL [(27,(.s 5 0 1 1)),(37,(.j ⟨[],[3,4,5,6,7,9,14,15,16],⟨Nm,amt⟩,[]⟩)),(38,(.j ⟨[16,77],[3,4,5,6,7,9,14,15,78],⟨OG,amt⟩,[]⟩)),(83,(.j ⟨[16],[3,4,5,6,7,9,14],⟨Nk,[.cells 110 [.d vi],.cells 105 aih,.cells 154 [.d gQ],.cells 105 wE,.cells 52 vB,.cells 52 [.d gr],.cells 188 LR,.rows 2 ai aM,.rows 2 ai aM,.cells 188 [.d fe,.d aM,.row 10,.row 11,.d aM],.rows 2 ai aM,.rows 50 ai (.sl aM)]⟩,[]⟩)),(84,(.j ⟨[16],[3,4,5,6,7,9,14,15,154],⟨OG,amt⟩,[]⟩)),(95,(.j ⟨[],[4,5,6,7,9,14],⟨Nj,aq2⟩,[]⟩)),(96,(.j ⟨[],[3,4,5,6,7,9,14,183],⟨Nl,[.cells 110 [.d vi],.cells 105 aih,.cells 154 [.d gQ],.cells 105 wE,.cells 52 vB,.cells 52 [.d gr],.cells 188 LS,.rows 2 ai aM,.rows 2 ai aM,.cells 188 [.d fe,.d aM,.d (.sl aM),.d kg,.d aM]]⟩,[]⟩)),(102,(.s 5 0 1 1)),(104,(.a [.pk 4 6 fe]))]⟩
def TB:cq:=cn G7 gp
def He:FT:=⟨⟨[.d wF],[]⟩,⟨am5,[.rows 167 ai eh,.rows 4 ai .bool,.rows 169 ai im,.rows 2 ai aM,.rows 2 ai aM,.cells 188 [.d aM,.row 6,.row 7,.d aM,.d fe,.d fe],.rows 2 ai aM,.rows 50 ai (.sl aM)]⟩,dL [(8,(.u 4))]⟩
def TU:cq:=cn He nC
def G6:FT:=⟨⟨Nh,[]⟩,⟨Ni,[]⟩,dL [(27,(.s 5 0 0 1)),(37,(.j ⟨[],[3,4,5,6,7,9,14,15,16],⟨Nm,amx⟩,[]⟩)),(38,(.j ⟨[16,77],[3,4,5,6,7,9,14,15,78],⟨OG,amx⟩,[]⟩)),(83,(.j ⟨[16],[3,4,5,6,7,9,14],⟨Nk,[.cells 110 [.d vi],.cells 105 aat,.cells 154 [.d gQ],.cells 105 wE,.cells 52 vB,.cells 52 [.d gr],.cells 188 LR,.rows 2 ai aM,.rows 2 ai aM,.cells 188 [.d aM,.row 10,.row 11,.d aM,.d fe,.d fe],.rows 2 ai aM,.rows 50 ai (.sl aM)]⟩,[]⟩)),(84,(.j ⟨[16],[3,4,5,6,7,9,14,15,154],⟨OG,amx⟩,[]⟩)),(95,(.j ⟨[],[4,5,6,7,9,14],⟨Nj,amn⟩,[]⟩)),(96,(.j ⟨[],[3,4,5,6,7,9,14,183],⟨Nl,[.cells 110 [.d vi],.cells 105 aat,.cells 154 [.d gQ],.cells 105 wE,.cells 52 vB,.cells 52 [.d gr],.cells 188 LS,.rows 2 ai aM,.rows 2 ai aM,.cells 188 [.d aM,.d (.sl aM),.d kg,.d aM,.d fe,.d fe]]⟩,[]⟩)),(102,(.s 5 0 0 1)),(104,(.a [.pk 4 6 fe]))]⟩
def TA:cq:=cn G6 jA
def Hd:FT:=⟨⟨[.d wF],[]⟩,⟨am5,[.rows 167 ai eh,.rows 4 ai .bool,.rows 169 ai im,.rows 2 ai aM,.rows 2 ai aM,.cells 188 [.d fe,.d aM,.row 6,.row 7,.d aM,.d fe],.rows 2 ai aM,.rows 50 ai (.sl aM)]⟩,dL [(8,(.u 4))]⟩
def TQ:cq:=cn Hd nB
def G5:FT:=⟨⟨Nh,[]⟩,⟨Ni,[]⟩,dL [(27,(.s 5 0 1 1)),(37,(.j ⟨[],[3,4,5,6,7,9,14,15,16],⟨Nm,amw⟩,[]⟩)),(38,(.j ⟨[16,77],[3,4,5,6,7,9,14,15,78],⟨OG,amw⟩,[]⟩)),(83,(.j ⟨[16],[3,4,5,6,7,9,14],⟨Nk,[.cells 110 [.d vi],.cells 105 aat,.cells 154 [.d gQ],.cells 105 wE,.cells 52 vB,.cells 52 [.d gr],.cells 188 LR,.rows 2 ai aM,.rows 2 ai aM,.cells 188 [.d fe,.d aM,.row 10,.row 11,.d aM,.d fe],.rows 2 ai aM,.rows 50 ai (.sl aM)]⟩,[]⟩)),(84,(.j ⟨[16],[3,4,5,6,7,9,14,15,154],⟨OG,amw⟩,[]⟩)),(95,(.j ⟨[],[4,5,6,7,9,14],⟨Nj,amn⟩,[]⟩)),(96,(.j ⟨[],[3,4,5,6,7,9,14,183],⟨Nl,[.cells 110 [.d vi],.cells 105 aat,.cells 154 [.d gQ],.cells 105 wE,.cells 52 vB,.cells 52 [.d gr],.cells 188 LS,.rows 2 ai aM,.rows 2 ai aM,.cells 188 [.d fe,.d aM,.d (.sl aM),.d kg,.d aM,.d fe]]⟩,[]⟩)),(102,(.s 5 0 1 1)),(104,(.a [.pk 4 6 fe]))]⟩
def Tz:cq:=cn G5 iP
def Hc:FT:=⟨⟨[.d wF],[]⟩,⟨am5,[.rows 167 ai eh,.rows 4 ai .bool,.rows 169 ai im,.rows 2 ai aM,.rows 2 ai aM,.cells 188 [.d fe,.d fe,.d aM,.row 6,.row 7,.d aM],.rows 2 ai aM,.rows 50 ai (.sl aM)]⟩,dL [(8,(.u 4))]⟩
def TO:cq:=cn Hc nA
def G4:FT:=⟨⟨Nh,[]⟩,⟨Ni,[]⟩,dL [(27,(.s 5 0 2 1)),(37,(.j ⟨[],[3,4,5,6,7,9,14,15,16],⟨Nm,amv⟩,[]⟩)),(38,(.j ⟨[16,77],[3,4,5,6,7,9,14,15,78],⟨OG,amv⟩,[]⟩)),(83,(.j ⟨[16],[3,4,5,6,7,9,14],⟨Nk,[.cells 110 [.d vi],.cells 105 aat,.cells 154 [.d gQ],.cells 105 wE,.cells 52 vB,.cells 52 [.d gr],.cells 188 LR,.rows 2 ai aM,.rows 2 ai aM,.cells 188 [.d fe,.d fe,.d aM,.row 10,.row 11,.d aM],.rows 2 ai aM,.rows 50 ai (.sl aM)]⟩,[]⟩)),(84,(.j ⟨[16],[3,4,5,6,7,9,14,15,154],⟨OG,amv⟩,[]⟩)),(95,(.j ⟨[],[4,5,6,7,9,14],⟨Nj,amn⟩,[]⟩)),(96,(.j ⟨[],[3,4,5,6,7,9,14,183],⟨Nl,[.cells 110 [.d vi],.cells 105 aat,.cells 154 [.d gQ],.cells 105 wE,.cells 52 vB,.cells 52 [.d gr],.cells 188 LS,.rows 2 ai aM,.rows 2 ai aM,.cells 188 [.d fe,.d fe,.d aM,.d (.sl aM),.d kg,.d aM]]⟩,[]⟩)),(102,(.s 5 0 2 1)),(104,(.a [.pk 4 6 fe]))]⟩
def Tx:cq:=cn G4 ig
def Hb:FT:=⟨⟨[.d wF],[]⟩,⟨aig,[.rows 167 ai eh,.rows 4 ai .bool,.rows 169 ai im,.rows 2 ai aM,.rows 2 ai aM,.cells 188 [.d aM,.row 6,.row 7,.d aM,.d fe,.d fe,.d fe],.rows 2 ai aM,.rows 50 ai (.sl aM)]⟩,dL [(8,(.u 5))]⟩
def TN:cq:=cn Hb nz
def dK:FT:=⟨⟨Nh,[]⟩,⟨Ni,[]⟩,dL [(27,(.s 5 0 0 1)),(37,(.j ⟨[],[3,4,5,6,7,9,14,15,16],⟨Nm,amr⟩,[]⟩)),(38,(.j ⟨[16,77],[3,4,5,6,7,9,14,15,78],⟨OG,amr⟩,[]⟩)),(83,(.j ⟨[16],[3,4,5,6,7,9,14],⟨Nk,[.cells 110 [.d vi],.cells 105 UC,.cells 154 [.d gQ],.cells 105 wE,.cells 52 vB,.cells 52 [.d gr],.cells 188 LR,.rows 2 ai aM,.rows 2 ai aM,.cells 188 [.d aM,.row 10,.row 11,.d aM,.d fe,.d fe,.d fe],.rows 2 ai aM,.rows 50 ai (.sl aM)]⟩,[]⟩)),(84,(.j ⟨[16],[3,4,5,6,7,9,14,15,154],⟨OG,amr⟩,[]⟩)),(95,(.j ⟨[],[4,5,6,7,9,14],⟨Nj,aij⟩,[]⟩)),(96,(.j ⟨[],[3,4,5,6,7,9,14,183],⟨Nl,[.cells 110 [.d vi],.cells 105 UC,.cells 154 [.d gQ],.cells 105 wE,.cells 52 vB,.cells 52 [.d gr],.cells 188 LS,.rows 2 ai aM,.rows 2 ai aM,.cells 188 [.d aM,.d (.sl aM),.d kg,.d aM,.d fe,.d fe,.d fe]]⟩,[]⟩)),(102,(.s 5 0 0 1)),(104,(.a [.pk 4 6 fe]))]⟩
def Tw:cq:=cn dK nk
def Ha:FT:=⟨⟨[.d wF],[]⟩,⟨aig,[.rows 167 ai eh,.rows 4 ai .bool,.rows 169 ai im,.rows 2 ai aM,.rows 2 ai aM,.cells 188 [.d fe,.d aM,.row 6,.row 7,.d aM,.d fe,.d fe],.rows 2 ai aM,.rows 50 ai (.sl aM)]⟩,dL [(8,(.u 5))]⟩
def TK:cq:=cn Ha ny
def G3:FT:=⟨⟨Nh,[]⟩,⟨Ni,[]⟩,dL [(27,(.s 5 0 1 1)),(37,(.j ⟨[],[3,4,5,6,7,9,14,15,16],⟨Nm,amq⟩,[]⟩)),(38,(.j ⟨[16,77],[3,4,5,6,7,9,14,15,78],⟨OG,amq⟩,[]⟩)),(83,(.j ⟨[16],[3,4,5,6,7,9,14],⟨Nk,[.cells 110 [.d vi],.cells 105 UC,.cells 154 [.d gQ],.cells 105 wE,.cells 52 vB,.cells 52 [.d gr],.cells 188 LR,.rows 2 ai aM,.rows 2 ai aM,.cells 188 [.d fe,.d aM,.row 10,.row 11,.d aM,.d fe,.d fe],.rows 2 ai aM,.rows 50 ai (.sl aM)]⟩,[]⟩)),(84,(.j ⟨[16],[3,4,5,6,7,9,14,15,154],⟨OG,amq⟩,[]⟩)),(95,(.j ⟨[],[4,5,6,7,9,14],⟨Nj,aij⟩,[]⟩)),(96,(.j ⟨[],[3,4,5,6,7,9,14,183],⟨Nl,[.cells 110 [.d vi],.cells 105 UC,.cells 154 [.d gQ],.cells 105 wE,.cells 52 vB,.cells 52 [.d gr],.cells 188 LS,.rows 2 ai aM,.rows 2 ai aM,.cells 188 [.d fe,.d aM,.d (.sl aM),.d kg,.d aM,.d fe,.d fe]]⟩,[]⟩)),(102,(.s 5 0 1 1)),(104,(.a [.pk 4 6 fe]))]⟩
def Tv:cq:=cn G3 nj
def G':FT:=⟨⟨[.d wF],[]⟩,⟨aig,[.rows 167 ai eh,.rows 4 ai .bool,.rows 169 ai im,.rows 2 ai aM,.rows 2 ai aM,.cells 188 [.d fe,.d fe,.d aM,.row 6,.row 7,.d aM,.d fe],.rows 2 ai aM,.rows 50 ai (.sl aM)]⟩,dL [(8,(.u 5))]⟩
def TJ:cq:=cn G' nu
def G2:FT:=⟨⟨Nh,[]⟩,⟨Ni,[]⟩,dL [(27,(.s 5 0 2 1)),(37,(.j ⟨[],[3,4,5,6,7,9,14,15,16],⟨Nm,amp⟩,[]⟩)),(38,(.j ⟨[16,77],[3,4,5,6,7,9,14,15,78],⟨OG,amp⟩,[]⟩)),(83,(.j ⟨[16],[3,4,5,6,7,9,14],⟨Nk,[.cells 110 [.d vi],.cells 105 UC,.cells 154 [.d gQ],.cells 105 wE,.cells 52 vB,.cells 52 [.d gr],.cells 188 LR,.rows 2 ai aM,.rows 2 ai aM,.cells 188 [.d fe,.d fe,.d aM,.row 10,.row 11,.d aM,.d fe],.rows 2 ai aM,.rows 50 ai (.sl aM)]⟩,[]⟩)),(84,(.j ⟨[16],[3,4,5,6,7,9,14,15,154],⟨OG,amp⟩,[]⟩)),(95,(.j ⟨[],[4,5,6,7,9,14],⟨Nj,aij⟩,[]⟩)),(96,(.j ⟨[],[3,4,5,6,7,9,14,183],⟨Nl,[.cells 110 [.d vi],.cells 105 UC,.cells 154 [.d gQ],.cells 105 wE,.cells 52 vB,.cells 52 [.d gr],.cells 188 LS,.rows 2 ai aM,.rows 2 ai aM,.cells 188 [.d fe,.d fe,.d aM,.d (.sl aM),.d kg,.d aM,.d fe]]⟩,[]⟩)),(102,(.s 5 0 2 1)),(104,(.a [.pk 4 6 fe]))]⟩
def Tu:cq:=cn G2 lH
def G_:FT:=⟨⟨[.d wF],[]⟩,⟨aig,[.rows 167 ai eh,.rows 4 ai .bool,.rows 169 ai im,.rows 2 ai aM,.rows 2 ai aM,.cells 188 [.d fe,.d fe,.d fe,.d aM,.row 6,.row 7,.d aM],.rows 2 ai aM,.rows 50 ai (.sl aM)]⟩,dL [(8,(.u 5))]⟩
def TI:cq:=cn G_ nl
def G1:FT:=⟨⟨Nh,[]⟩,⟨Ni,[]⟩,dL [(27,(.s 5 0 3 1)),(37,(.j ⟨[],[3,4,5,6,7,9,14,15,16],⟨Nm,amo⟩,[]⟩)),(38,(.j ⟨[16,77],[3,4,5,6,7,9,14,15,78],⟨OG,amo⟩,[]⟩)),(83,(.j ⟨[16],[3,4,5,6,7,9,14],⟨Nk,[.cells 110 [.d vi],.cells 105 UC,.cells 154 [.d gQ],.cells 105 wE,.cells 52 vB,.cells 52 [.d gr],.cells 188 LR,.rows 2 ai aM,.rows 2 ai aM,.cells 188 [.d fe,.d fe,.d fe,.d aM,.row 10,.row 11,.d aM],.rows 2 ai aM,.rows 50 ai (.sl aM)]⟩,[]⟩)),(84,(.j ⟨[16],[3,4,5,6,7,9,14,15,154],⟨OG,amo⟩,[]⟩)),(95,(.j ⟨[],[4,5,6,7,9,14],⟨Nj,aij⟩,[]⟩)),(96,(.j ⟨[],[3,4,5,6,7,9,14,183],⟨Nl,[.cells 110 [.d vi],.cells 105 UC,.cells 154 [.d gQ],.cells 105 wE,.cells 52 vB,.cells 52 [.d gr],.cells 188 LS,.rows 2 ai aM,.rows 2 ai aM,.cells 188 [.d fe,.d fe,.d fe,.d aM,.d (.sl aM),.d kg,.d aM]]⟩,[]⟩)),(102,(.s 5 0 3 1)),(104,(.a [.pk 4 6 fe]))]⟩
def Tt:cq:=cn G1 kr
def ZY:cq:=cn dK AM
def Oa:FT:=⟨⟨[.d vi,.d wF,.nil,.d (.sl gQ)],[]⟩,⟨[.d (.sl gr),.d wF],[]⟩,dL [(1,(.a [.nil 2 52 gr])),(6,(.j ⟨[3],[2,4,5,9,10],⟨[.row 0,.ptr 1 0,.ptr 2 0,.ptr 3 0,.d aM],ame⟩,[]⟩)),(8,(.j ⟨[3,10],[2,4,5,9,22],⟨[.row 0,.ptr 1 0,.ptr 2 0,.ptr 3 0,.d .bool],ame⟩,[]⟩)),(14,(.j ⟨[3,10],[2,4,5,9],⟨[.row 0,.ptr 1 0,.ptr 2 0,.ptr 3 0],ame⟩,[]⟩))]⟩
def ZW:cq:=cn Oa wT
def Ta:FT:=⟨⟨[.d vi,.d (.sl gQ)],[]⟩,⟨[.d mU,.d wF],[]⟩,.leaf⟩
def adv:cq:=cn Ta zN
def za:FT:=⟨⟨xA,UA⟩,⟨[.d aM],UA⟩,dL [(3,(.j ⟨[1],[0,18],⟨ie,aaq⟩,[]⟩))]⟩
def H_:cq:=cn za bB
def Oi:FT:=⟨⟨[.d aM],[]⟩,⟨[.d .ex],[]⟩,.leaf⟩
def Z7:cq:=cn Oi rY
def KZ:FT:=⟨⟨[.d .str],[]⟩,⟨[.d .ex],[]⟩,.leaf⟩
def WZ:cq:=cn KZ pR
def Ef:FT:=⟨⟨[.d aM,.d .ex,.d .ex],[]⟩,⟨[.d .ex],[]⟩,.leaf⟩
def Qz:cq:=cn Ef oo
def Eg:FT:=⟨⟨[.d .str,.d .ex],[]⟩,⟨[.d .sm],[]⟩,.leaf⟩
def QD:cq:=cn Eg jy
def Hs:FT:=⟨⟨[],[]⟩,⟨[.d (.sl HG)],[]⟩,.leaf⟩
def Ud:cq:=cn Hs sW
def BV:FT:=⟨⟨[.d EH],[]⟩,⟨[.d (.sl gQ)],[]⟩,dL [(8,(.j ⟨[0],[3,4],⟨[.row 0,.d aM],[.rows 154 ai gQ]⟩,[.nil 3 154 gQ]⟩))]⟩
def M':cq:=cn BV pg
def oG:FT:=⟨⟨xA,Xv⟩,⟨[.d .ex],Xv⟩,dL [(8,(.j ⟨[1,6],[0,4,5,14],⟨[.ptr 0 0,.ptr 3 0,.row 4,.d .bool],[.cells 205 ak4,.cells 89 [.d zA],.rowsP 9 .str,.cells 209 [.d aM,.d aM,.d .str,.nil],.rows 9 aj .str]⟩,[]⟩))]⟩
def F1:cq:=cn oG fy
def Fj (n:Nat):cq:=cn oG (iC n)
def v7:FT:=⟨⟨[.ptr 0 0,.d .str],Xv⟩,⟨[.d .bool],Xv⟩,.leaf⟩
def Ev:cq:=cn v7 eX
def mR:FT:=⟨⟨UD,Xv⟩,⟨[.row 4],[.cells 205 amc,.cells 89 Q1,.gone,.rowsP 9 .str,.rows 211 ai .sm]⟩,dL [(1,(.a [.ren 0 7])),(8,(.j ⟨[1,2],[0,7,8],⟨[.ptr 0 0,.row 3,.d aM],apu⟩,[.nil 7 211 .sm]⟩)),(10,(.j ⟨[1,2,8],[0,7,22],⟨[.ptr 0 0,.row 3,.d .bool],apu⟩,[]⟩)),(21,(.a [.nil 6 211 .sm]))]⟩
def Eu:cq:=cn mR qS
def Dv (n:Nat):cq:=cn mR (dP n)
def sj:FT:=⟨⟨xA,Xv⟩,⟨[.d .sm],[.cells 205 amc,.cells 89 Q1,.gone,.rowsP 9 .str]⟩,dL [(1,(.a [.ren 0 7])),(6,(.j ⟨[1,5],[0,4,6],⟨LQ,La2⟩,[]⟩)),(28,(.j ⟨[1,5,6],[0,4,74],⟨LQ,La2⟩,[]⟩)),(33,(.j ⟨[],[4,7],⟨[.ptr 3 0,.ptr 4 0],[.cells 205 [.ptr 1 0,.d aM,.d aM,.d .bool,.d .bool,.d .bool,.d .bool,.row 5],.cells 89 [.d zA],.gone,.cells 211 ak7,.cells 211 [.d aM,.d aM,.d .str,.d .str,.nil,.d aM,.d aM,.d .str,.d (.sl .ex),.row 6,.row 7],.rowsP 9 .str,.rows 211 ai .sm,.rows 211 ai .sm]⟩,[.cel 7 10 211 .sm]⟩)),(42,(.j ⟨[1,5,6],[0,4,100],⟨LQ,La2⟩,[]⟩)),(56,(.j ⟨[1,5,6],[0,4,133],⟨LQ,La2⟩,[]⟩)),(64,(.j ⟨[1,5,6],[0,4,165],⟨LQ,La2⟩,[]⟩)),(70,(.j ⟨[1,5,6],[0,4,188],⟨LQ,La2⟩,[]⟩)),(82,(.j ⟨[1,5,6],[0,4,210],⟨LQ,La2⟩,[]⟩)),(94,(.j ⟨[5,6],[0,4,235],⟨LQ,La2⟩,[]⟩)),(100,(.j ⟨[5],[0,4,258],⟨LQ,La2⟩,[]⟩)),(106,(.j ⟨[5],[0,4,278],⟨LQ,La2⟩,[]⟩)),(114,(.j ⟨[],[0,4,308],⟨LQ,La2⟩,[]⟩))]⟩
def Fi (n:Nat):cq:=cn sj (eO n)
def rk:FT:=⟨⟨[.ptr 0 0,.d .str,.d aM],Xv⟩,⟨[.d (.sl .sm)],[.cells 205 amc,.cells 89 Q1,.gone,.rowsP 9 .str]⟩,.leaf⟩
def Dw (n:Nat):cq:=cn rk (ec n)
def BU:FT:=⟨⟨[.d EH],[]⟩,⟨[.d OH],[]⟩,dL [(5,(.a [.cel 3 7 9 .str])),(14,(.j ⟨[5],[2,3,4,6,7],⟨[.ptr 0 0,.ptr 1 0,.ptr 2 0,.row 3,.d aM],[.cells 151 [.nil,.nil],.cells 205 [.ptr 4 0,.d aM,.d aM,.d .bool,.d .bool,.d .bool,.d .bool,.row 5],.cells 151 [.d (.sl HG),.row 6],.rows 9 aj .str,.cells 89 [.d zA],.rowsP 9 .str,.rows 195 ai tK]⟩,[.cel 4 1 195 tK]⟩)),(27,(.j ⟨[5,7],[2,3,4,6,8],⟨[.ptr 0 0,.ptr 1 0,.ptr 2 0,.row 3,.ptr 4 0],La7⟩,[.cel 8 3 211 .sm]⟩)),(34,(.j ⟨[5,7],[2,3,4,6,8,9],⟨[.ptr 0 0,.ptr 1 0,.ptr 2 0,.row 3,.ptr 4 0,.d aM],La7⟩,[.cel 8 3 211 .sm]⟩)),(48,(.j ⟨[5,7],[2,3,4,6,8],⟨[.ptr 0 0,.ptr 1 0,.ptr 2 0,.row 3,.ptr 4 0],La7⟩,[]⟩)),(49,(.j ⟨[5,7],[2,3,4,6,8,79],⟨[.ptr 0 0,.ptr 1 0,.ptr 2 0,.row 3,.ptr 4 0,.d .bool],La7⟩,[]⟩))]⟩
def M_:cq:=cn BU pf
def K0:FT:=⟨⟨[.d EH],[]⟩,⟨[.d vi],[]⟩,.leaf⟩
def W1:cq:=cn K0 xV
def Ht:FT:=⟨⟨[.d EH,.d EH],[]⟩,⟨[.d mU],[]⟩,.leaf⟩
def Ue:cq:=cn Ht sX
def DZ:FT:=⟨⟨[],[]⟩,⟨[.d mb],[]⟩,dL [(8,(.j ⟨[21],[0,1,22],⟨wD,aii⟩,[.cel 1 5 127 pj]⟩)),(22,(.j ⟨[2,21,22],[0,1,3],⟨wD,aii⟩,[]⟩))]⟩
def Qg:cq:=cn DZ oc
def Af:FT:=⟨⟨[.d i_],[]⟩,⟨mT,[]⟩,dL [(8,(.j ⟨[8,9],[3,10],⟨[.row 0,.d aM],[.rows 3 ai aM]⟩,[.nil 3 3 aM]⟩)),(16,(.j ⟨[8,9,10],[3],⟨[.row 0],[.rows 3 ai aM]⟩,[]⟩))]⟩
def La:cq:=cn Af lm
def DX:FT:=⟨⟨[],[]⟩,⟨mT,[]⟩,.leaf⟩
def Qe:cq:=cn DX t8
def BD:FT:=⟨⟨UD,UA⟩,⟨[.d aM],UA⟩,dL [(6,(.j ⟨[2,7],[0,8],⟨ie,aaq⟩,[]⟩)),(16,(.j ⟨[2,7],[0,16],⟨ie,aaq⟩,[]⟩)),(26,(.j ⟨[2,7],[0,21],⟨ie,aaq⟩,[]⟩)),(44,(.j ⟨[2,7],[0,26],⟨ie,aaq⟩,[]⟩)),(70,(.j ⟨[2],[0,33],⟨ie,aaq⟩,[]⟩))]⟩
def MR:cq:=cn BD o8
def DW:FT:=⟨⟨[.ptr 0 0,.d i_,.d aM,.d aM],UA⟩,⟨[.d aM],UA⟩,dL [(18,(.j ⟨[10],[0,5,24],⟨rC,[.cells 89 [.d zA],.cells 97 [.d i_]]⟩,[]⟩))]⟩
def Qd:cq:=cn DW qK
def GU:FT:=⟨⟨[.ptr 0 0,.row 1],[.cells 89 Q1,.rows 3 ai aM]⟩,⟨mT,[.cells 89 Q1,.rows 3 ai aM]⟩,dL [(8,(.j ⟨[9],[0,1,5,8,10],⟨[.ptr 0 0,.row 1,.row 2,.row 1,.d aM],am7⟩,[.nil 5 3 aM]⟩)),(16,(.j ⟨[9,10],[0,1,5,8],⟨[.ptr 0 0,.row 1,.row 2,.row 1],am7⟩,[]⟩)),(19,(.j ⟨[7,9,10],[0,1,5,8,24],⟨[.ptr 0 0,.row 1,.row 2,.row 1,.d .bool],am7⟩,[]⟩))]⟩
def Tn:cq:=cn GU gK
def DY:FT:=⟨⟨[.ptr 0 0,.d i_,.d mb,.csl 1 1 4],aps⟩,⟨[.d gr],aps⟩,dL [(8,(.j ⟨[9],[0,3,5,6,8,11],⟨[.ptr 0 0,.csl 1 1 4,.ptr 6 0,.ptr 7 0,.ptr 8 0,.ptr 9 0],apy⟩,[]⟩)),(9,(.j ⟨[9],[0,3,5,6,8,11,36],⟨[.ptr 0 0,.csl 1 1 4,.ptr 6 0,.ptr 7 0,.ptr 8 0,.ptr 9 0,.d .bool],apy⟩,[]⟩)),(18,(.j ⟨[9],[0,3,8,11],⟨[.ptr 0 0,.csl 1 1 4,.ptr 6 0,.ptr 7 0],apz⟩,[]⟩)),(19,(.j ⟨[9],[0,3,8,11,74],⟨[.ptr 0 0,.csl 1 1 4,.ptr 6 0,.ptr 7 0,.d .bool],[.cells 89 [.d zA],.cells 50 af1,.rows 3 ai aM,.rows 3 ai aM,.rows 3 ai aM,.rows 3 ai aM,.cells 52 vB,.cells 52 vB]⟩,[]⟩)),(22,(.s 9 0 0 4)),(24,(.j ⟨[],[8,11],⟨[.ptr 6 0,.ptr 7 0],[.cells 89 [.d zA],.cells 50 af1,.rows 3 ai aM,.rows 3 ai aM,.rows 3 ai aM,.rows 3 ai aM,.cells 52 vB,.cells 52 [.d aM,.d aM,.d aM,.d aM,.d aM,.d (.sl aM),.d (.sl aM)]]⟩,[]⟩)),(25,(.j ⟨[9],[0,3,8,11,89],⟨[.ptr 0 0,.csl 1 1 4,.ptr 6 0,.ptr 7 0,.d .bool],apz⟩,[]⟩)),(28,(.s 9 0 0 4))]⟩
def Qf:cq:=cn DY qL
def GV:FT:=⟨⟨[.ptr 0 0,.d i_,.d mb,.d aM,.d .bool],UA⟩,⟨[.d (.sl gr)],UA⟩,dL [(8,(.a [.cel 12 0 3 aM,.cel 12 1 3 aM,.cel 12 2 3 aM,.cel 12 3 3 aM])),(9,(.j ⟨[3,11],[0,6,7,12],⟨[.ptr 0 0,.ptr 1 0,.ptr 2 0,.csl 3 1 4],amk⟩,[]⟩)),(10,(.u 5)),(18,(.j ⟨[3,4,11,22,23],[0,6,7,12],⟨[.ptr 0 0,.ptr 1 0,.ptr 2 0,.csl 3 1 4],amk⟩,[]⟩)),(21,(.j ⟨[3,4,11,13,22,23],[0,6,7,12,39],⟨[.ptr 0 0,.ptr 1 0,.ptr 2 0,.csl 3 1 4,.d .bool],amk⟩,[]⟩)),(29,(.j ⟨[3],[0,6,7,11,12],⟨[.ptr 0 0,.ptr 1 0,.ptr 2 0,.row 3,.csl 4 1 4],aml⟩,[.nil 11 52 gr]⟩)),(31,(.j ⟨[3],[0,6,7,11,12,65],⟨[.ptr 0 0,.ptr 1 0,.ptr 2 0,.row 3,.csl 4 1 4,.d .bool],aml⟩,[]⟩)),(36,(.j ⟨[3],[0,6,7,11,12],⟨[.ptr 0 0,.ptr 1 0,.ptr 2 0,.row 3,.csl 4 1 4],aml⟩,[]⟩)),(47,(.j ⟨[3],[0,6,7,11,12,14,15],⟨[.ptr 0 0,.ptr 1 0,.ptr 2 0,.row 3,.csl 4 1 4,.ptr 5 0,.ptr 6 0],aq0⟩,[]⟩)),(48,(.j ⟨[3],[0,6,7,11,12,14,15,87],⟨[.ptr 0 0,.ptr 1 0,.ptr 2 0,.row 3,.csl 4 1 4,.ptr 5 0,.ptr 6 0,.d .bool],aq0⟩,[]⟩)),(51,(.s 14 0 0 4))]⟩
def To:cq:=cn GV sS
def D2:FT:=⟨⟨Q1,[]⟩,⟨[.d mU],[]⟩,dL [(2,(.j ⟨[1],[0,4],⟨[.d EH,.ptr 0 0],[.cells 34 af2]⟩,[]⟩)),(22,(.j ⟨[1,9],[4,5,6,7,8,10],⟨[.ptr 0 0,.ptr 1 0,.ptr 2 0,.ptr 3 0,.row 4,.d aM],[.cells 34 af2,.cells 89 [.d zA],.cells 34 [.d (.sl kK),.d (.sl su),.d (.sl ma),.d (.sl .str),.d (.sl .str),.d (.sl pj),.nil],.cells 97 [.d i_],.rows 52 aj gr]⟩,[]⟩)),(37,(.j ⟨[1,48],[4,5,6,7,47,49],⟨[.ptr 0 0,.ptr 1 0,.ptr 2 0,.ptr 3 0,.row 4,.d aM],aq1⟩,[.cel 6 6 52 gr]⟩)),(45,(.j ⟨[1,48,49],[4,5,6,7,47],⟨[.ptr 0 0,.ptr 1 0,.ptr 2 0,.ptr 3 0,.row 4],aq1⟩,[]⟩))]⟩
def Qh:cq:=cn D2 qM
def xn:FT:=⟨⟨[.d (.st (.pr EH (.pr EH EH))),.d aM],[]⟩,⟨[.d mU],[]⟩,.leaf⟩
def FR:cq:=cn xn lq
theorem MC:aH Pg 167 M4:=mk BP kF an b9
theorem JX:aH Pg 142 Lk:=mk Aj jO (ac MC an) b9
theorem Gz:aH Pg 141 T9:=mk Hq lJ an b9
theorem V8:aH Pg 168 WS:=mk KY rW an b9
theorem V7:aH Pg 143 WR:=mk KX pQ (ac Gz (ac V8 an)) b9
theorem sZ:aH Pg 113 T_:=mk Hr fA (ac Gz (ac JX (ac V7 an))) b9
theorem JW:aH Pg 220 WG:=mk KP gk an b9
theorem VZ:aH Pg 204 WH:=mk KQ uM (ac JW an) b9
theorem Ss:aH Pg 206 T5:=mk Hm sV (ac JW an) b9
theorem V0:aH Pg 203 WJ:=mk KU rU an b9
theorem MB:aH Pg 227 M3:=mk BO mF an b9
theorem xc:∀n:Nat,aH Pg 221 (HP n)
 |0=>RW pA
 |n+1=>mk pA (mm (ik n)) (ac sZ (ac (xc n) (ac MB an))) b9
theorem yN:aH Pg 221 H6:=(xc fuel)
theorem V6:aH Pg 222 WP:=mk KW pP an b9
theorem sa:∀n:Nat,aH Pg 207 (HO n)/\aH Pg 177 (Fh n)
 |0=>⟨RW tJ,RW oF⟩
 |n+1=>⟨mk tJ (ko (eK n) (dM n)) (ac sZ (ac (sa n).2 (ac yN (ac V6 an)))) b9,mk oF (jG (eK n) (dM n)) (ac (sa n).1 an) b9⟩
theorem Fv:aH Pg 177 FY:=(sa fuel).2
theorem HU:aH Pg 176 H5:=mk yX km (ac sZ an) b9
theorem Su:aH Pg 150 T8:=mk Hp qh (ac sZ (ac HU (ac Fv an))) b9
theorem vS:aH Pg 114 ahj:=mk Yx ji an b9
theorem vR:aH Pg 178 T7:=mk Ho ij an b9
theorem wy:aH Pg 179 M2:=mk BN g_ an b9
theorem St:aH Pg 223 T6:=mk Hn qg (ac vS (ac vR (ac wy an))) b9
theorem NQ:aH Pg 210 Z3:=mk Og gM (ac St an) b9
theorem GF:∀n:Nat,aH Pg 224 (Vz n)
 |0=>RW yq
 |n+1=>mk yq (uU (nN n)) (ac (GF n) an) b9
theorem V4:aH Pg 224 WN:=(GF fuel)
theorem GD:∀n:Nat,aH Pg 225 (Vy n)
 |0=>RW yp
 |n+1=>mk yp (uT (nM n)) (ac NQ (ac (GD n) an)) b9
theorem V2:aH Pg 225 WL:=(GD fuel)
theorem Zw:aH Pg 211 Z4:=mk Oh mE (ac yN (ac V4 (ac V2 an))) b9
theorem PO:aH Pg 212 Qs:=mk Ec dg an b9
theorem agv:aH Pg 209 ahi:=mk Yw jh an b9
theorem Fu:aH Pg 208 FX:=mk xq dZ an b9
theorem Mz:aH Pg 180 M0:=mk BL mD (ac vS (ac vR (ac wy (ac Fu (ac agv (ac NQ (ac Zw (ac PO an)))))))) b9
theorem zW:∀n:Nat,aH Pg 154 (Mq n)
 |0=>RW sJ
 |n+1=>mk sJ (mI (iM n)) (ac (zW n) (ac Mz an)) b9
theorem MA:aH Pg 154 M1:=(zW fuel)
theorem GG:∀n:Nat,aH Pg 153 (VB n)
 |0=>RW yr
 |n+1=>mk yr (uV (nO n)) (ac (GG n) an) b9
theorem V5:aH Pg 153 WO:=(GG fuel)
theorem V3:aH Pg 151 WM:=mk KV rV (ac vR an) b9
theorem PN:aH Pg 152 Qr:=mk Eb ol (ac vS (ac vR (ac wy an))) b9
theorem xZ:aH Pg 117 Qt:=mk Ed fD (ac Su (ac V3 (ac PN (ac V5 (ac MA an))))) b9
theorem GA:∀n:Nat,aH Pg 156 (Vx n)
 |0=>RW yo
 |n+1=>mk yo (ya (pZ n)) (ac (GA n) an) b9
theorem VU:aH Pg 156 Wz:=(GA fuel)
theorem Gw:aH Pg 155 T2:=mk Hj kw an b9
theorem Gy:aH Pg 213 T4:=mk Hl lI an b9
theorem VY:aH Pg 118 WE:=mk KM uL (ac xZ (ac Gw (ac VU an))) b9
theorem VV:aH Pg 112 WA:=mk KJ pN an b9
theorem yM:aH Pg 77 H4:=mk yW ii (ac VV (ac sZ (ac vS an))) b9
theorem uR:aH Pg 121 Lj:=mk Ai jN an b9
theorem Gx:aH Pg 170 T3:=mk Hk qf an b9
theorem VW:aH Pg 145 WC:=mk KK pO (ac Gx an) b9
theorem PK:aH Pg 146 ahh:=mk Yv jx an b9
theorem VX:aH Pg 169 WD:=mk KL nI (ac PK an) b9
theorem PI:aH Pg 144 Qo:=mk D_ lU (ac PK (ac VX an)) b9
theorem Ft:aH Pg 115 FW:=mk xp iz (ac uR (ac PI (ac VW (ac PK an)))) b9
theorem CD:aH Pg 79 WF:=mk KN jM (ac yM (ac Ft an)) b9
theorem oA:aH Pg 120 Qp:=mk D' cI an b9
theorem yP:∀n:Nat,aH Pg 185 (JA n)
 |0=>RW rh
 |n+1=>mk rh (qY (iS n)) (ac vS (ac oA (ac (yP n) (ac Gy an)))) b9
theorem uQ:aH Pg 185 Lh:=(yP fuel)
theorem HR:aH Pg 181 H3:=mk yV mg (ac vS (ac oA (ac uQ (ac Gy an)))) b9
theorem My:aH Pg 184 MZ:=mk BK jB an b9
theorem kn:∀n:Nat,aH Pg 119 (JB n)/\aH Pg 157 (Mp n)/\aH Pg 182 (Du n)/\aH Pg 183 (HN n)
 |0=>⟨RW ri,RW wB,RW rj,RW tI⟩
 |n+1=>⟨mk ri (qZ (dS n) (eY n) (dk n) (dO n)) (ac (kn n).2.1 an) b9,mk wB (sH (dS n) (eY n) (dk n) (dO n)) (ac vS (ac oA (ac Gw (ac HR (ac (kn n).2.2.1 (ac (kn n).2.2.2 (ac My (ac uQ an)))))))) b9,mk rj (mN (dS n) (eY n) (dk n) (dO n)) (ac (kn n).1 (ac oA (ac uQ an))) b9,mk tI (pw (dS n) (eY n) (dk n) (dO n)) (ac (kn n).1 (ac oA an)) b9⟩
theorem JV:aH Pg 119 Li:=(kn fuel).1
theorem PL:aH Pg 82 Qq:=mk Ea qR (ac xZ (ac VY (ac JV (ac oA (ac uR an))))) b9
theorem JU:aH Pg 103 adx:=mk Tc qQ an b9
theorem adb:aH Pg 139 adw:=mk Tb wW an b9
theorem JS:aH Pg 106 Wy:=mk KI rT (ac adb an) b9
theorem Mx:aH Pg 205 MY:=mk BJ mC an b9
theorem lz:aH Pg 174 Z2:=mk Of cw an b9
theorem Zv:aH Pg 175 Z1:=mk Oe wV (ac JS (ac uR (ac VZ (ac Mx (ac Ss an))))) b9
theorem jC:aH Pg 149 TZ:=mk Hi nG (ac Gx (ac lz (ac Zv an))) b9
theorem JR:aH Pg 69 Ww:=mk KF rR an b9
theorem Fs:aH Pg 100 ZZ:=mk Oc rS an b9
theorem Ye:aH Pg 101 ahg:=mk Yu qP an b9
theorem VS:aH Pg 102 Wv:=mk KE uJ (ac Ye an) b9
theorem DC:aH Pg 72 Qn:=mk D9 ku (ac Fs (ac Ye (ac VS (ac JU an)))) b9
theorem PH:aH Pg 104 Qm:=mk D8 oh an b9
theorem PF:aH Pg 107 Ql:=mk D7 qO an b9
theorem ly:aH Pg 105 Z0:=mk Od iy an b9
theorem Mw:aH Pg 104 MX:=mk mJ mB an b9
theorem JQ:aH Pg 104 Lg:= @aH.ro Pg 104 mJ.pre mJ.post.vs mB jL (Mw.holds rfl) rfl (λx _ h=>by rw[show jL x=obind (mB x) λy=>same y.2 x.2 (af y.1) from rfl]at h;exact h)
theorem jQ:aH Pg 75 Wx:=mk KH pM (ac DC (ac JU (ac JQ (ac ly (ac JS (ac PF an)))))) b9
theorem VR:aH Pg 81 Wu:=mk KC uI (ac JR (ac CD an)) b9
theorem Zt:aH Pg 171 ZX:=mk Ob wU (ac CD (ac Fs an)) b9
theorem Zr:aH Pg 172 ZV:=mk N' wS an b9
theorem R8:aH Pg 173 Ts:=mk G0 sU (ac V0 an) b9
theorem iL:aH Pg 147 Qk:=mk D6 og (ac Zt (ac Zr (ac R8 an))) b9
theorem JP:aH Pg 43 Ws:=mk KA nh (ac JR an) b9
theorem Zq:aH Pg 70 ZU:=mk N_ wR (ac Fs an) b9
theorem agu:aH Pg 71 ahf:=mk Yt Dp an b9
theorem PD:aH Pg 73 Qj:=mk D5 oe an b9
theorem VO:aH Pg 74 Wq:=mk Ky uG (ac JU (ac PH an)) b9
theorem Fr:aH Pg 45 ZT:=mk N9 rQ (ac Zq (ac agu (ac DC (ac PD (ac VO (ac jQ an)))))) b9
theorem VP:aH Pg 78 Wr:=mk Kz rP an b9
theorem VQ:aH Pg 47 Wt:=mk KB uH (ac JP (ac Fr (ac yM (ac VP an)))) b9
def Nq (t:TypeId):Option Ty:=if aC t 188 then af (.pr .un fe) else b9 t
theorem Sr:aH Pg 148 TY:=mk Hh nF (ac ly (ac lz an)) Nq
theorem Sh:aH Pg 116 TE:=mk G9 gq (ac jQ (ac iL (ac Sr (ac jC an)))) Nq
theorem Sq:aH Pg 148 TX:=mk Hg nE (ac ly (ac lz an)) Nq
theorem Sg:aH Pg 116 TD:=mk G8 gL (ac jQ (ac iL (ac Sq (ac jC an)))) Nq
theorem Sp:aH Pg 148 TW:=mk Hf nD (ac ly (ac lz an)) Nq
theorem Sf:aH Pg 116 TB:=mk G7 gp (ac jQ (ac iL (ac Sp (ac jC an)))) Nq
theorem So:aH Pg 148 TU:=mk He nC (ac ly (ac lz an)) Nq
theorem Se:aH Pg 116 TA:=mk G6 jA (ac jQ (ac iL (ac So (ac jC an)))) Nq
theorem Sn:aH Pg 148 TQ:=mk Hd nB (ac ly (ac lz an)) Nq
theorem Sd:aH Pg 116 Tz:=mk G5 iP (ac jQ (ac iL (ac Sn (ac jC an)))) Nq
theorem Sm:aH Pg 148 TO:=mk Hc nA (ac ly (ac lz an)) Nq
theorem Sc:aH Pg 116 Tx:=mk G4 ig (ac jQ (ac iL (ac Sm (ac jC an)))) Nq
theorem Sl:aH Pg 148 TN:=mk Hb nz (ac ly (ac lz an)) Nq
theorem Sb:aH Pg 116 Tw:=mk dK nk (ac jQ (ac iL (ac Sl (ac jC an)))) Nq
theorem Sk:aH Pg 148 TK:=mk Ha ny (ac ly (ac lz an)) Nq
theorem Sa:aH Pg 116 Tv:=mk G3 nj (ac jQ (ac iL (ac Sk (ac jC an)))) Nq
theorem Sj:aH Pg 148 TJ:=mk G' nu (ac ly (ac lz an)) Nq
theorem R_:aH Pg 116 Tu:=mk G2 lH (ac jQ (ac iL (ac Sj (ac jC an)))) Nq
theorem Si:aH Pg 148 TI:=mk G_ nl (ac ly (ac lz an)) Nq
theorem R9:aH Pg 116 Tt:=mk G1 kr (ac jQ (ac iL (ac Si (ac jC an)))) Nq
theorem Zu:aH Pg 116 ZY:=(aH.orE (pre:=dK.pre) (post:=dK.post) (m:=nk) (m':=(λx=>orE (nj x) ((λx=>orE (lH x) ((λx=>orE (kr x) ((λx=>orE (jA x) ((λx=>orE (iP x) ((λx=>orE (ig x) ((λx=>orE (gL x) ((λx=>orE (gp x) (gq x)) x)) x)) x)) x)) x)) x)) x))) rfl Sb (aH.orE (pre:=dK.pre) (post:=dK.post) (m:=nj) (m':=(λx=>orE (lH x) ((λx=>orE (kr x) ((λx=>orE (jA x) ((λx=>orE (iP x) ((λx=>orE (ig x) ((λx=>orE (gL x) ((λx=>orE (gp x) (gq x)) x)) x)) x)) x)) x)) x))) rfl Sa (aH.orE (pre:=dK.pre) (post:=dK.post) (m:=lH) (m':=(λx=>orE (kr x) ((λx=>orE (jA x) ((λx=>orE (iP x) ((λx=>orE (ig x) ((λx=>orE (gL x) ((λx=>orE (gp x) (gq x)) x)) x)) x)) x)) x))) rfl R_ (aH.orE (pre:=dK.pre) (post:=dK.post) (m:=kr) (m':=(λx=>orE (jA x) ((λx=>orE (iP x) ((λx=>orE (ig x) ((λx=>orE (gL x) ((λx=>orE (gp x) (gq x)) x)) x)) x)) x))) rfl R9 (aH.orE (pre:=dK.pre) (post:=dK.post) (m:=jA) (m':=(λx=>orE (iP x) ((λx=>orE (ig x) ((λx=>orE (gL x) ((λx=>orE (gp x) (gq x)) x)) x)) x))) rfl Se (aH.orE (pre:=dK.pre) (post:=dK.post) (m:=iP) (m':=(λx=>orE (ig x) ((λx=>orE (gL x) ((λx=>orE (gp x) (gq x)) x)) x))) rfl Sd (aH.orE (pre:=dK.pre) (post:=dK.post) (m:=ig) (m':=(λx=>orE (gL x) ((λx=>orE (gp x) (gq x)) x))) rfl Sc (aH.orE (pre:=dK.pre) (post:=dK.post) (m:=gL) (m':=(λx=>orE (gp x) (gq x))) rfl Sg (aH.orE (pre:=dK.pre) (post:=dK.post) (m:=gp) (m':=gq) rfl Sf Sh)))))))))
theorem Zs:aH Pg 80 ZW:=mk Oa wT (ac Zu an) b9
theorem ada:aH Pg 48 adv:=mk Ta zN (ac CD (ac Zs (ac VR an))) b9
theorem fU:aH Pg 44 H_:=mk za bB an b9
theorem Fx:aH Pg 125 Z7:=mk Oi rY an b9
theorem J3:aH Pg 188 WZ:=mk KZ pR an b9
theorem DJ:aH Pg 187 Qz:=mk Ef oo an b9
theorem DK:aH Pg 124 QD:=mk Eg jy an b9
theorem Sw:aH Pg 122 Ud:=mk Hs sW an b9
theorem MJ:aH Pg 50 M':=mk BV pg an b9
theorem vT:∀n:Nat,aH Pg 186 (Fj n)
 |0=>RW oG
 |n+1=>mk oG (oC (iC n)) (ac fU (ac Fx (ac (vT n) (ac DJ (ac J3 an))))) b9
theorem Fy:aH Pg 186 F1:=(vT fuel)
theorem DI:aH Pg 189 Ev:=mk v7 eX (ac vS an) b9
theorem jR:∀n:Nat,aH Pg 123 (Dv n)/\aH Pg 158 (Fi n)/\aH Pg 190 (Dw n)
 |0=>⟨RW mR,RW sj,RW rk⟩
 |n+1=>⟨mk mR (mP (dP n) (eO n) (ec n)) (ac (jR n).2.1 an) b9,mk sj (oB (dP n) (eO n) (ec n)) (ac fU (ac (jR n).1 (ac DK (ac Fx (ac Fy (ac DJ (ac J3 (ac DI (ac (jR n).2.2 an))))))))) b9,mk rk (mQ (dP n) (eO n) (ec n)) (ac fU (ac (jR n).1 an)) b9⟩
theorem DH:aH Pg 123 Eu:=(jR fuel).1
theorem MI:aH Pg 83 M_:=mk BU pf (ac fU (ac xZ (ac Sw (ac DH (ac DK (ac Fx an)))))) b9
theorem V_:aH Pg 49 W1:=mk K0 xV (ac PL (ac MI an)) b9
theorem Sy:aH Pg 22 Ue:=mk Ht sX (ac ada (ac V_ (ac MJ an))) b9
theorem Px:aH Pg 32 Qg:=mk DZ oc an b9
theorem JK:aH Pg 140 La:=mk Af lm an b9
theorem Pv:aH Pg 108 Qe:=mk DX t8 an b9
theorem Ms:aH Pg 109 MR:=mk BD o8 (ac fU an) b9
theorem Pu:aH Pg 110 Qd:=mk DW qK (ac fU (ac JK an)) b9
theorem R4:aH Pg 111 Tn:=mk GU gK (ac fU an) b9
theorem Pw:aH Pg 76 Qf:=mk DY qL (ac fU (ac Pv (ac Ms (ac Pu (ac R4 an))))) b9
def tv1 (t:TypeId):Option Ty:=if aC t 50 then af (.pr .un (.pr .un (.pr .un (.pr .un (.pr .un (.sl aM)))))) else b9 t
theorem R5:aH Pg 46 To:=mk GV sS (ac fU (ac Fr (ac Pw an))) tv1
theorem Py:aH Pg 21 Qh:=mk D2 qM (ac Px (ac JP (ac fU (ac Fr (ac R5 (ac VQ an)))))) b9
theorem Fp:aH Pg 8 FR:=mk xn lq (ac Py (ac Sy an)) b9
end
end Go.Proofs.YtgijlolllojpaaaGreatDoor.AI
