/-
  Texts of the proof, part 2 of 6: what is used to prove the statement. No condition.
-/
import Derived.Test.YtononplakadipaaGreatDoorFirstRacePredictedQ0
namespace Go.Proofs.YtononplakadipaaGreatDoor.AI
open Go.RowKit
set_option maxRecDepth 100000
set_option maxHeartbeats 4000000
set_option linter.unusedVariables false
set_option linter.unusedSimpArgs false
set_option linter.defProp false
open _root_.Array renaming replicate→lQ,mapM_eq_mapM_toList→Sf
open _root_.Bool renaming true→J,false→af,not_eq_true→tS
open Call renaming operands→AJ
open Deferred renaming ofValue→GW
open _root_.Int renaming toNat→aL,ofNat→aZ
open _root_.List renaming length→l!,length→ah,replicate→aA,take→cG,range→dV,cons_append→gj,length_cons→gQ,length_nil→jB,toArray→kw,nil_append→lP,replicate_succ→nV,drop→oR,take_succ_cons→zu,flatMap_append→zD,mem_replicate→BT,set→Eg
open _root_.Nat renaming beq→aB,testBit→aF,ble→di,blt→dE,add_zero→dR,mod_eq_of_lt→ml,min→mr,one_shiftLeft→Ed,mul_one→I7,testBit_two_pow→LY,blt_eq→QK,add_mul_mod_self_left→Se
open Oper renaming wp→Ec
open _root_.Option renaming some→Z,none→U,bind_some→aH,map_some→cj,map→jY
open Result renaming andThen_ok→cI
open Sem renaming run_bind→fA,run_pure→oA
open _root_.UInt8 renaming ofNat→Ct
open Value.bool renaming injEq→GR
open World renaming cell?→Ud
noncomputable section
variable {P:Program} {i m:Nat}
def ahz {call:xM} {inert:FuncId->Bool} (hcall:BS P call):∀(c:Code) (s:IS) (ex:Ex) (s':IS),run call inert m (bq P i c) s=Z (ex,s')->
 (∀nt,aF s'.wr nt=af->s'.h.get nt=s.h.get nt/\aF s.wr nt=af):=by
 intro c;induction c with
 |skip=>
  intro s ex s' h;simp[bq,run,al,aT]at h
  grind
 |region id ops dr=>
  intro s ex s' h;simp[bq]at h;split at h;split at h;simp[run]at h;split at h;rename_i sl hsl;split at h;simp[run]at h;split at h;rename_i I fs hr;let⟨h9,h⟩:=dO h;simp[al,aT]at h;obtain⟨rfl,rfl⟩:=h;let⟨l,hl⟩:=AS hcall ops.toList sl s I fs hsl hr;exact hl.frame;cases h;simp[run]at h;simp[run]at h;simp[run]at h
 |seq x y ihx ihy=>
  intro s ex s' h;simp[bq,run]at h
  grind
 |cond o x y ihx ihy=>
  intro s ex s' h;cases o with
  |tmp t=>
   simp[bq,run]at h
   grind
  |const v=>
   cases v with
   |bool b=>
    cases b with
    |true=>exact ihx s ex s' h
    |false=>exact ihy s ex s' h
   |_=>simp[bq,run]at h
  |_=>simp[bq,run]at h
 |block id x A=>
  intro s ex s' h;simp[bq,run]at h
  grind
 |loop x A=>
  intro s ex s' h;have key:∀(n:Nat) (q:IS),KK (run call inert m (bq P i x)) s.e n q=Z (ex,s')->∀nt,aF s'.wr nt=af->s'.h.get nt=q.h.get nt/\aF q.wr nt=af:=by
   intro n;induction n with
   |zero=>intro q h1;simp[KK]at h1
   |succ n ihn=>
    intro q h1;simp[KK]at h1;split at h1;rename_i e2 h2 nx2 wr2 hb;rw[yw]at h1;intro nt hi;let⟨q1,q2⟩:=ihn _ h1 nt hi;let⟨q3,q4⟩:=A q .normal _ hb nt q2;exact⟨q1.trans q3,q4⟩;exact A q ex s' h1
  exact key m s h
 |exit id|ret=>
  intro s ex s' h;simp[bq,run,al,aT]at h
  grind
 |rangeFunc f ps as b _ _|scope b _|label l|goto l|refuse y=>intro s ex s' h;simp[bq,run]at h
def UA (tmps:Array Value):ResultVar->Sem Value
 |.tmp t=>pure (tmps.getD t undef)
 |.cell a t=>do
  let q<-asAddr (tmps.getD a undef)
  loadVar t q
def Ns (fn:Func) (tmps:Array Value):results fn tmps=(do let vs<-fn.results.mapM (UA tmps);pure (if h:vs.size=1 then vs[0] else .tuple vs)):=by
 congr 2
variable {T:PM} {O:Nat->Prop} {F:Act} {W:World}
def aa4 {s:IS} (r:rA T O s.h.get W) (en:QF T (tot O T s.h.get) W s.e.get F):∀(rs:Y ResultVar) (rvs:Y RV) (l:Y AV),rx P rs=Z rvs->ai2 s.e s.h rvs=Z l->
 ∃vs,(rs.mapM (UA F.tmps)).run P W= .ok vs W/\km T (tot O T s.h.get) W l vs
 |[],rvs,l,I,A=>by
  cases I;cases A;exact⟨[],b8,trivial⟩
 |.tmp t::rs,rvs,l,I,A=>by
  simp[rx]at I;split at I;rename_i rvs' hrs;cases I;simp[ai2]at A;split at A;rename_i v l' hv hl';cases A;let⟨vs,h1,h2⟩:=aa4 r en rs rvs' l' hrs hl';refine ⟨F.tmps.getD t undef::vs,?_,en t v hv,h2⟩;simp[List.mapM_cons,fA,UA,oA,cI];simp_all;cases A;cases I
 |.cell ad t::rs,rvs,l,I,A=>by
  simp[rx]at I;split at I;rename_i rvs' sz ag hrs hsz hag;simp[al]at I;subst I;simp[ai2]at A;split at A;rename_i p hp;split at A;rename_i R l' hR hl';cases A;let⟨vs,h1,h2⟩:=aa4 r en rs rvs' l' hrs hl';let⟨_,_,_,h3⟩:=Ql hsz hag hR;let⟨q,v,h4,h5,h6⟩:=h3 T O s.h.get W _ (λ_ _=>rfl) r (en ad p hp);refine ⟨v::vs,?_,h6,h2⟩;have hone:(UA F.tmps (.cell ad t)).run P W= .ok v W:=by
   simp[UA,fA,h4,asAddr,oA,cI,h5]
  simp_all;cases A;cases A;cases I
def Bf {P:Program} {fn:Func} {tmps:Array Value} {R:Ending->World->Prop} {w:World} {v:Value} (q:(results fn tmps).run P w= .ok v w) (A:R (.returned v) w):∀(ds:Y Deferred),(∀d∈ds,ZQ P d)->Leaves P fn tmps R ds .returning w
 |[],_=>⟨v,q,A⟩
 |d::ds,h=>by
  let⟨fv,cap,f,args,h1,h2,I⟩:=h d (bU ..) w;refine ⟨b8,fv,cap,f,args,h1,h2,I.mono ?_⟩;rintro e u' w' ⟨⟨v',rfl⟩,rfl,rfl⟩;exact Bf q A ds λd hd=>h d (bx _ hd)
def Zt:∀(args:Y AV) (k t:Nat) (x:AV),(ady k args).get t=Z x->k<=t/\args[t-k]? =Z x
 |[],k,t,x,h=>by simp[ady,PT.get]at h
 |y::args,k,t,x,h=>by
  rw[ady,PT.get_set]at h;split at h
  grind
  let⟨h1,h2⟩:=Zt args (k+1) t x h
  grind
def km.get :∀{xs:Y AV} {vs:ξ},km T O W xs vs->∀(j:Nat) x,xs[j]? =Z x->∃v,vs[j]? =Z v/\cC T O W x v
 |[],_,_,j,x,q=>by simp at q
 |_::_,[],h,_,_,_=>h.elim
 |y::xs,u::vs,h,j,x,q=>by
  cases j with
  |zero=>simp at q;subst q;exact⟨u,rfl,h.1⟩
  |succ j=>exact km.get h.2 j x cf
def aDm (P:Program) (tbl:FuncId→aj SF):Prop:=∀f q,tbl f=Z q→∃fn c,P.funcs[f]? =Z fn∧fn.body=Z c∧(fn.name== "runtime.NumGoroutine")=af∧q.code=bq P fn.ntmps c∧rx P fn.results.toList=Z q.res∧q.nt=fn.ntmps
variable {f:FuncId}
def PY {q:SF} (h:Cn P f=Z q):∃fn c,P.funcs[f]? =Z fn∧fn.body=Z c∧(fn.name== "runtime.NumGoroutine")=af∧q.code=bq P fn.ntmps c∧rx P fn.results.toList=Z q.res∧q.nt=fn.ntmps:=by
 unfold Cn at h
 grind
variable {C:Y AV}
def Qe {call:xM} {inert:FuncId→Bool} (hm:P.follows .mixedOrders=J) (hcall:BS P call) (hin:D_ P inert) {sf:SF} {fn:Func} {c:Code} (hf:P.funcs[f]? =Z fn) (A:fn.body=Z c) (hnm:(fn.name== "runtime.NumGoroutine")=af) (hcode:sf.code=bq P fn.ntmps c) (hres:rx P fn.results.toList=Z sf.res)
 {h:iN} {ex:Ex} {s:IS} (hrun:run call inert i sf.code ⟨ady 0 C,h,m,0⟩=Z (ex,s)) (hex:ex= .ret∨ex= .normal) (hargs:l! C≤fn.ntmps) {r:Ub} (I:afu m (PT.dom 1 0 h 0) sf.res s=Z r):aus P f C h m r:=by
 rw[hcode]at hrun;have hfr:=ahz hcall c _ _ _ hrun;unfold afu at I;split at I;rename_i l hres';simp only[Vi,uP,yw]at I;generalize hids:(Su 1000000 s.h (AV.ids (Cu l) (PT.dom 1 0 h 0)) 0|||PT.dom 1 0 h 0)=ids at I;generalize hh':PT.only ids 1 0 s.h=h' at I;generalize hexx:((PT.dom 1 0 h' 0)>>>m)<<<m=ex' at I;let⟨hcond,I⟩:=dO I;simp only[ar]at hcond;let⟨⟨hlow,hall⟩,hallh⟩:=hcond;have hlow:PT.dom 1 0 h 0>>>m=0:=au hlow;cases I;have hdom:∀ii b,h.get ii=Z b→aF (PT.dom 1 0 h 0) ii=J∧ii<m:=λii b A=>by
  have h1:=PT.dom_get h 1 0 0 ii b A;rw[Nat.one_mul,dR]at h1;refine ⟨h1,?_⟩;rcases co ii m with h2|h2;exact h2;have:=Nat.testBit_shiftRight (PT.dom 1 0 h 0) (i:=m) (j:=ii-m);rw[hlow,show m+(ii-m)=ii from M,h1]at this;simp at this
 have hh'g:∀ii,h'.get ii=if aF ids ii then s.h.get ii else U:=λii=>by rw[← hh',PT.get_only];simp
 have hexb:∀ii,aF ex' ii=J↔m≤ii∧aF (PT.dom 1 0 h' 0) ii=J:=λii=>cf
 have hwr:∀ii,aF (s.wr%(1<<<m)|||ex') ii=J↔(ii<m∧aF s.wr ii=J)∨aF ex' ii=J:=λii=>by
  rw[bt,gm,Ed,Nat.testBit_mod_two_pow,ar,bl]
 refine ⟨⟨fn,hf,by rw[A];rfl,hnm⟩,λii hi=>?_,λii hi hge=>?_,?_,?_⟩;have hi1:¬(ii<m∧aF s.wr ii=J)∧¬aF ex' ii=J:=by
  rw[← not_or,←hwr ii,hi];simp
 show h'.get ii=h.get ii;rw[hh'g];rcases co ii m with h1|h1;have h2:aF s.wr ii=af:=by
  cases q:aF s.wr ii with
  |false=>rfl
  |true=>exact bi ⟨h1,q⟩ hi1.1
 have h3:=(hfr ii h2).1;simp only at h3;rw[h3];cases q:h.get ii with
 |none=>simp
 |some b=>
  rw[aD];rw[← hids,bt,(hdom ii b q).1,Bool.or_true]
 have h2:h.get ii=U:=by
  cases q:h.get ii with
  |none=>rfl
  |some b=>have:=(hdom ii b q).2;omega
 rw[h2,←hh'g];cases q:h'.get ii with
 |none=>rfl
 |some b=>
  have h4:=PT.dom_get h' 1 0 0 ii b q;rw[Nat.one_mul,dR]at h4;exact bi ((hexb ii).2 ⟨h1,h4⟩) hi1.2
 rcases (hwr ii).1 hi with h1|h1;omega;show ii<(if aB ex' 0 then m else Nat.log2 ex'+1)
 have h2:=Nat.ge_two_pow_of_testBit h1;have h3:ex'≠0:=by intro h0;rw[h0]at h1;simp at h1
 rw[av (by intro A;exact h3 (au A))];have:=(Nat.le_log2 h3).2 h2;omega;show m≤(if aB ex' 0 then m else Nat.log2 ex'+1)
 split;exact bg _;rename_i hne;have h3:ex'≠0:=λh0=>hne (by rw[h0];rfl)
 have hbit:=Nat.testBit_log2 h3;have:=((hexb _).1 hbit).1;omega;intro φ E w vs hrep hrel hnx;have hlen:=km.length hrel
 let args:Ctx:=⟨m,φ,E,h.get,w⟩
 refine calls_of_wp_defers hf A ?_;have hcfg:Cfg P args fn.ntmps ⟨ady 0 C,h,m,0⟩ {tmps:=vs.toArray++lQ (fn.ntmps-vs.toArray.size) undef,defers:=[]} w:=by
  refine ⟨⟨φ,iX.refl _ _ _,hrep,?_,hnx,λii k hk=>.inl hk⟩,bg _,b8,ye⟩;intro t x q;let⟨_,h2⟩:=Zt C 0 t x q;rw[Nat.sub_zero]at h2;let⟨v,h3,h4⟩:=hrel.get t x h2;have hlt:t<l! vs:=(bG.1 h3).1;have:(vs.toArray++lQ (fn.ntmps-vs.toArray.size) undef).getD t undef=v:=by
   rw[iK,Array.getElem?_append];simp only[List.size_toArray,hlt,bC,FU,h3,Option.getD_some]
  show cC φ _ w x ((vs.toArray++lQ (fn.ntmps-vs.toArray.size) undef).getD t undef);rw[this];exact h4
 refine wp_mono (ahy (C:=args) hm hcall hin c _ ex s hrun _ w hcfg) ?_;rintro e a' w' ⟨rfl,hc'⟩;let⟨φ1,m1,r1,en1,dm1,d01⟩:=hc'.ex;let⟨rvs,hrr,hrl⟩:=aa4 r1 en1 fn.results.toList sf.res l hres hres';have hresults:(results fn a'.tmps).run P w'= .ok (if h:rvs.toArray.size=1 then rvs.toArray[0] else .tuple rvs.toArray) w':=by
  rw[Ns,Sf];simp only[fA,Sem.run_map,hrr,cI,oA]
 have hval:cC φ1 (tot E φ1 s.h.get) w' (Cu l) (if h:rvs.toArray.size=1 then rvs.toArray[0] else .tuple rvs.toArray):=by
  have hll:=km.length hrl;cases l with
  |nil=>
   cases rvs with
   |nil=>exact cC.qd (vs:=[]) rfl (by intro j x v q;simp at q)
   |cons _ _=>exact hrl.elim
  |cons x l=>
   cases rvs with
   |nil=>exact hrl.elim
   |cons v rvs=>
    cases l with
    |nil=>
     cases rvs with
     |nil=>exact hrl.1
     |cons _ _=>exact hrl.2.elim
    |cons y l=>
     cases rvs with
     |nil=>exact hrl.2.elim
     |cons u rvs=>
      rw[dif_neg b8];refine cC.qd (vs:=v::u::rvs) (by simpa using hll) λj x' v' q hv=>?_
      let⟨v'',q1,q2⟩:=hrl.get j x' q;rw[hv]at q1;cases q1;exact q2
 have hp:∀ii,(dE ii m||aF ex' ii)=J→ii<m∨aF ex' ii=J:=λii hi=>by
  rw[gm]at hi;exact hi.imp aY id
 let φ2:PM:=λii=>if (dE ii m||aF ex' ii)=J then φ1 ii else U
 have φ2_of:∀ii k,(dE ii m||aF ex' ii)=J→φ1 ii=Z k→φ2 ii=Z k:=λii k h1 h2=>by simp only[φ2,h1,bC];exact h2
 have φ2_sub:∀ii k,φ2 ii=Z k→φ1 ii=Z k∧(ii<m∨aF ex' ii=J):=λii k hk=>by
  simp only[φ2]at hk;let⟨hi,hk⟩:=dO hk;exact⟨hk,hp ii hi⟩
 have hsubh:∀ii b,h'.get ii=Z b→s.h.get ii=Z b:=λii b A=>by
  rw[hh'g]at A;let⟨h9,A⟩:=dO A;exact A
 have own2:∀k,own φ2 h'.get k→own φ1 s.h.get k:=by
  rintro k ⟨ii,b,q1,q2⟩;exact⟨ii,b,hsubh ii b q1,(φ2_sub ii k q2).1⟩
 have tot2:∀k,tot E φ2 h'.get k→tot E φ1 s.h.get k:=λk hk=>hk.imp id (own2 k)
 have rel2:∀x v,x.all (λii=>dE ii m||aF ex' ii)=J→cC φ1 (tot E φ1 s.h.get) w' x v→cC φ2 (tot E φ2 h'.get) w' x v:=λx v q hr=>hr.restrict φ2_of tot2 q
 have final:∀R:Ending→World→Prop,R (.returned (if h:rvs.toArray.size=1 then rvs.toArray[0] else .tuple rvs.toArray)) w'→Leaves P fn a'.tmps R a'.defers .returning w':=λR hR=>Bf hresults hR a'.defers hc'.inert
 have post:∃v φ',Ending.returned (if h:rvs.toArray.size=1 then rvs.toArray[0] else .tuple rvs.toArray)= .returned v∧iX φ φ' h.get h'.get w w'∧rA φ' E h'.get w'∧cC φ' (tot E φ' h'.get) w' (Cu l) v∧∀ii k,φ' ii=Z k→φ ii=Z k∨(m≤ii∧aF (s.wr%(1<<<m)|||ex') ii=J):=by
  refine ⟨_,φ2,rfl,⟨λii k hk=>?_,m1.ext,λk hk ho=>m1.qr k hk (own2 k ho)⟩,⟨λii j b b' k q1 q2 q3 q4=>r1.inj ii j b b' k (hsubh ii b q1) (hsubh j b' q2) (φ2_sub ii k q3).1 (φ2_sub j k q4).1,λii b A=>?_,r1.el,λg cells hg=>(r1.gl g cells hg).ext (GP.refl _ w') λk _ hk=>tot2 k hk⟩,rel2 _ _ hall hval,λii k hk=>?_⟩;refine φ2_of ii k ?_ (m1.sub ii k hk);have:dE ii m=J:=bj (hnx ii k hk);rw[this];rfl;let⟨g1,g2⟩:=ag8 hallh A;let⟨k,q1,q2,ob,q3,q4⟩:=r1.at_ ii b (hsubh ii b A);exact⟨k,φ2_of ii k g1 q1,q2,ob,q3,q4.restrict rel2 g2⟩;let⟨q1,q2⟩:=φ2_sub ii k hk;rcases d01 ii k q1 with h1|h1;exact .inl h1;have h1:m≤ii:=h1;rcases q2 with h2|h2;omega;exact .inr ⟨h1,(hwr ii).2 (.inr h2)⟩
 rcases hex with rfl|rfl;exact final _ post;exact final _ post;cases I
def F3 {tbl:FuncId->aj SF} {intr:xM} {inert:FuncId->Bool} (hm:P.follows .mixedOrders=J) (htbl:aDm P tbl) (hintr:BS P intr) (hin:D_ P inert):∀n,BS P (am3 tbl intr inert i n)
 |0=>by intro f args h nx r q;simp[am3]at q
 |n+1=>by
  intro f args h nx r q;simp[am3]at q;split at q;rename_i r' hg;cases q;exact hintr f args h nx _ hg;split at q;rename_i sf hsf;let⟨fn,c,h1,h2,h3,h4,I,h6⟩:=htbl f sf hsf;let⟨hle,q⟩:=dO q;have hle:l! args<=fn.ntmps:=by simp_all
  rw[yw]at q;split at q;rename_i s A;exact Qe hm (F3 hm htbl hintr hin n) hin h1 h2 h3 h4 I A (.inl rfl) hle q;rename_i s A;exact Qe hm (F3 hm htbl hintr hin n) hin h1 h2 h3 h4 I A (.inr rfl) hle q;cases q;cases q
variable {v:Value}
def au7 {b:Value} (h:aze v b=J):v=b:=by
 unfold aze at h;split at h;simp at h;rw[h]
 grind
 rw[D5.1 h];simp_all;rfl
 grind
 cases h
variable {R:Type}
def PT.mapO {β:Type} (g:R->aj β):PT R->PT β
 |.leaf=>.leaf
 |.node v l r=>.node (v.bind g) (PT.mapO g l) (PT.mapO g r)
def PT.get_mapO {β:Type} (g:R->aj β):∀(t:PT R) (i:Nat),(PT.mapO g t).get i=(t.get i).bind g
 |.leaf,i|.node v l r,0=>by simp[PT.mapO,PT.get]
 |.node v l r,j+1=>by
  simp[PT.mapO,PT.get];split;exact PT.get_mapO g l _;exact PT.get_mapO g r _
def PT.get_updI (f:Nat->R->R):∀(t:PT R) (a b i:Nat),(PT.updI f a b t).get i=(t.get i).map (f (a*i+b))
 |.leaf,_,_,i=>by simp[PT.updI,PT.get]
 |.node v l r,a,b,0=>by cases v<;>simp[PT.updI,PT.get]
 |.node v l r,a,b,j+1=>by
  simp only[PT.updI,PT.get];split;rename_i hj;rw[PT.get_updI f l];have:2*a*(j/2)+(a+b)=a*(j+1)+b:=by
   have h2:j=2*(j/2):=by have:=au hj;omega
   grind
  rw[this];rename_i hj;rw[PT.get_updI f r];have:2*a*(j/2)+(2*a+b)=a*(j+1)+b:=by
   have h1:j%2≠0:=λh=>hj (by rw[h];rfl)
   have h2:j=2*(j/2)+1:=M
   grind
  rw[this]
def PT.bound :∀(t:PT R),∃B,∀i,B<=i->t.get i=U
 |.leaf=>⟨0,λi _=>rfl⟩
 |.node v l r=>by
  let⟨a,A⟩:=PT.bound l;let⟨b,q⟩:=PT.bound r;refine ⟨2*(a+b)+3,λi hi=>?_⟩;cases i with
  |zero=>omega
  |succ j=>
   simp[PT.get]
   grind
def PT.ofF (f:Nat->aj R):Nat->PT R
 |0=>.leaf
 |n+1=>(PT.ofF f n).set n (f n)
def PT.get_ofF (f:Nat->aj R):∀(n i:Nat),(PT.ofF f n).get i=if i<n then f i else U
 |0,i=>by simp[PT.ofF,PT.get]
 |n+1,i=>by
  rw[PT.ofF,PT.get_set,PT.get_ofF f n]
  grind
def uY (i k:Nat):Nat:=2^i*(2*k+1)-1
def nm (i:Nat):Nat:=uY i 0
def owA:Nat->Nat->Nat
 |0,_=>0
 |f+1,m=>if m%2=1 then 0 else owA f (m/2)+1
def ow (n:Nat):Nat:=owA (n+1) (n+1)
def ix (n:Nat):Nat:=(n+1)/2^ow n/2
def afd:∀(i f k:Nat),i<f->owA f (2^i*(2*k+1))=i
 |0,f+1,k,_=>by rw[owA,aD M]
 |i+1,f+1,k,h=>by
  have e:2^(i+1)*(2*k+1)=2*(2^i*(2*k+1)):=cf;rw[owA,av M,e,Nat.mul_div_cancel_left _ M,afd i f k M]
def afe:∀(f m:Nat),0<m->m<=f->2^owA f m*(2*(m/2^owA f m/2)+1)=m
 |0,m,h0,h=>M
 |f+1,m,h0,h=>by
  rw[owA];split;omega;have q:=afe f (m/2) M M;rw[Nat.pow_succ,Nat.mul_comm (2^owA f (m/2)) 2,<-Nat.div_div_eq_div_mul,Nat.mul_assoc,q];omega
def afn (i k:Nat):0<2^i*(2*k+1):=Nat.mul_pos (Nat.two_pow_pos i) M
def ou (i k:Nat):ow (uY i k)=i:=by
 have h:=afn i k;have h2:i<2^i*(2*k+1):=db Nat.lt_two_pow_self (Nat.le_mul_of_pos_right _ M);unfold ow uY;rw[Nat.sub_add_cancel h,afd _ _ _ h2]
def yS (i k:Nat):ix (uY i k)=k:=by
 have h:=afn i k;unfold ix;rw[ou];unfold uY;rw[Nat.sub_add_cancel h,Nat.mul_div_cancel_left _ (Nat.two_pow_pos i)];omega
def my (n:Nat):uY (ow n) (ix n)=n:=by
 have:=afe (n+1) (n+1) M (bg _);unfold uY ix ow;rw[this];rfl
def yP (h:ix i=0):i=nm (ow i):=by
 have:=my i;rw[h]at this;exact this.symm
def eH (i:Nat):ow (nm i)=i:=ou i 0
def aCz (i:Nat):ix (nm i)=0:=yS i 0
def yh {k l:Nat} (h:uY i k=uY m l):i=m/\k=l:=by
 have h1:=eZ ow h;have h2:=eZ ix h;rw[ou,ou]at h1;rw[yS,yS]at h2;exact⟨h1,h2⟩
def A_ (h:nm i=nm m):i=m:=(yh h).1
def eM (p:Bool) (id sz n:Nat):AV:=if p&&n==0 then .emp else .I (nm id) sz n
def obN (id:Nat) (j:Int):Nat:=uY id (3*j.toNat+1)
def wY (id:Nat) (j sz n:Nat):AV:=if n==0 then .emp else .I (uY id (j+1)) sz n
def erS:Sb->AV
 |.nr id j sz n=>wY id j.toNat sz n
 |.np id j sz i off=>.K (uY id (j.toNat+1)) (i.toNat*sz+off)
 |.nl q=>.f (.raw (match q with|true=>.map U|false=>.nilFunc))
mutual
def dg (h:ba):TV->aj AV
 |.f T v=>Z (.f (iu T v))
 |.zm T xs j _ off=>Z (.f (.K (xs.flatMap (bQ T)) (j.toNat*T.size+off)))
 |.ql id sz j off=>Z (.K (nm id) (j.toNat*sz+off))
 |.K id off=>Z (.K (nm id) off)
 |.qp id sz n=>Z (.I (nm id) sz n)
 |.I id=>match e_ h id with|some (p,sz,n)=>Z (eM p id sz n)|none=>U
 |.zh id j=>match e_ h id with|some (_,sz,n)=>Z (.sl (nm id) (j.toNat*sz) (n-j.toNat))|none=>U
 |.emp=>Z .emp
 |.nil=>Z (.f (.raw (.slice U 0 0)))
 |.mp id=>Z (.mp (nm id))
 |.agg l=>match dx h l with|some l'=>Z (.agg l')|none=>U
 |.qd l=>match dx h l with|some l'=>Z (.qd l')|none=>U
 |.qy g l=>match dx h l with|some l'=>Z (.qy g l')|none=>U
 |.undef=>Z (.f (.raw undef))
 |.np=>Z (.f (.raw (.pointer U)))
 |.qj=>Z .qj
 |.qn T xs=>Z (.qn (xs.flatMap (bQ T)) (ah xs))
 |.sb s=>Z (erS s)
def dx (h:ba):Y TV->aj (Y AV)
 |[]=>Z []
 |x::r=>match dg h x with
  |some y=>(match dx h r with|some l=>Z (y::l)|none=>U)
  |none=>U
end
def tf:(K:Ty)->K.den->Value
 |.int k,n=>.int k n
 |.str,s=>.string ⟨kw s⟩
 |_,_=>undef
def mpC:(K V:Ty)->Y (K.den×V.den)->BC
 |.st (.pr .str (.int .i64)),.un,q=>.it ⟨kw (QQ q)⟩ (Oa q)
 |K,V,q=>.mp (q.map λp=>(tf K p.1,.f (iu V p.2)))
variable {S:Ty}
def Jz {V:Ty} {q:Y (S.den×V.den)} (h:aic S=J):mpC S V q= .mp (q.map λp=>(tf S p.1,.f (iu V p.2))):=by
 unfold mpC;split;cases h;rfl
def aym {V:Ty} {q:Y (S.den×V.den)} {s:ζ} (h:itE S V q=Z (s,i)):mpC S V q= .it ⟨kw s⟩ i:=by
 unfold itE at h;split at h;cases h;rfl;cases h
variable {A:TypeId}
def aho {q:Y C!} {ents:Array MapEntry} (f:AV->AV):MpK A (q.map λp=>(p.1,f p.2)) ents=MpK A q ents:=by unfold MpK;rw[ya];rfl
def Z' {l:Y R} {x:R} (h:i<l! l):splice l i [x]=l.set i x:=by
 rw[List.set_eq_take_append_cons_drop,aD h];simp[splice]
def mm (a sz:Nat):Nat->η->Y AV
 |_,[]=>[]
 |k,l::r=>wY a k sz l.toNat::mm a sz (k+1) r
def Rv (a:Nat):(F:xL)->F.ty.den->aj ot
 |.rr ty sz,q=>Z ⟨ty,.mx (mm a sz 0 q)⟩
 |_,_=>U
def agr (a:Nat) (k:ν):(F:xL)->F.ty.den->aj (Nat×Bool×Nat)->aj ot
 |.rr ty sz,q,Z (r,b,n)=>Z ⟨ty,.mx ((mm a sz 0 q).set k.1.toNat (eM b r sz n))⟩
 |_,_,_=>U
def aj8 (ty:TypeId) (T:Ty) (xs:Y T.den):aj ot:=if (l! xs)==0 then U else Z ⟨ty,.fz (xs.flatMap (bQ T))⟩
def tF (k:Nat) (ty:TypeId) (T:Ty) (xss:Y (Y T.den)):aj ot:=(xss[k]?).bind (aj8 ty T)
def Mn (id:Nat) (k:Nat):(F:xL)->F.ty.den->aj ot
 |.ir ty T,xss=>tF k ty T xss
 |_,_=>U
def Bc (id k:Nat):gi->aj ot
 |.qf F _ x=>Mn id k F x
 |.zj F _ x j U=>if k=j.1.toNat then U else Mn id k F x
 |.zj F _ x _ (Z _)=>Mn id k F x
 |_=>U
def mT (h:ba):gi->aj ot
 |.H ty p T xs=>if p&&l! xs==0 then U else Z ⟨ty,.fz (xs.flatMap (bQ T))⟩
 |.G (Z ty) l=>match dx h l with|some q=>Z ⟨ty,.mx q⟩|none=>U
 |.G U l=>match dx h l with|some q=>Z ⟨0,.mp []⟩|none=>U
 |.qw _ _ _=>U
 |.mp K V A=>Z ⟨0,mpC K V A⟩
 |.qf F a x=>Rv a F x
 |.zj F a x k p=>agr a k F x p
def gV (e:iW) (h:ba):EF:=λt=>(e.get t).bind (dg h)
def Te (h:ba) (id:Nat):Nat->gi->aj ot
 |0,b=>mT h b
 |k+1,b=>Bc id k b
def erHF (h:ba):HF:=λn=>(h.get (ow n)).bind (Te h (ow n) (ix n))
def ct (h:ba) (i:Nat):erHF h (nm i)=(h.get i).bind (mT h):=by
 unfold erHF;rw[eH,aCz];rfl
def qT (h:ba) (i k:Nat):erHF h (uY i (k+1))=(h.get i).bind (Bc i k):=by
 unfold erHF;rw[ou,yS];rfl
variable {h:ba} {z:ot}
def jA (q:erHF h i=Z z):∃c,h.get (ow i)=Z c/\Te h (ow i) (ix i) c=Z z:=by
 unfold erHF at q;cases A:h.get (ow i) with
 |none=>rw[A]at q;cases q
 |some c=>rw[A]at q;exact⟨c,rfl,q⟩
def L8:gi->Nat
 |.qf (.ir _ _) _ x|.zj (.ir _ _) _ x _ _=>ah x
 |_=>0
def ags {id:Nat} {F:xL} {x:F.ty.den} (q:Mn id i F x=Z z) (a:Nat):i<L8 (.qf F a x):=by
 cases F with
 |ir ty T=>
  let⟨o,A,_⟩:=Option.bind_eq_some_iff.1 q;exact (bG.1 A).1
 |_=>cases q
def afr {c:gi} (A:Bc i m c=Z z):m<L8 c:=by
 cases c with
 |qf F a x=>exact ags (id:=i) A a
 |zj F a x j p=>
  have:Mn i m F x=Z z:=by
   cases p with
   |none=>simp only[Bc]at A;split at A;cases A;exact A
   |some q=>exact A
  have:=ags (id:=i) this a;cases F<;>exact this
 |_=>cases A
def GZ (e:iW) (h:ba):xY:=PT.mapO (dg h) e
def EE (e:iW) (h:ba):(GZ e h).get=gV e h:=by funext t;exact PT.get_mapO _ _ _
def atd (A:∀y c,h.get y=Z c->L8 c<=i) (q:erHF h m=Z z):ix m<=i:=by
 let⟨c,h1,h2⟩:=jA q;have:=A _ c h1;cases hk:ix m with
 |zero=>omega
 |succ k=>
  rw[hk]at h2;have:=afr h2;omega
def afq (h:ba):∃y,∀i c,h.get i=Z c->L8 c<=y:=by
 let⟨B,hB⟩:=PT.bound h;have:∀B,∃y,∀i c,i<B->h.get i=Z c->L8 c<=y:=by
  intro B;induction B with
  |zero=>exact⟨0,λi c hi=>M⟩
  |succ B I=>
   let⟨y,A⟩:=I;cases hb:h.get B with
   |none=>exact⟨y,λi c hi q=>by
     by_cases e:i=B
     grind
     exact A i c M q⟩
   |some b=>exact⟨max y (L8 b),λi c hi q=>by
     by_cases e:i=B
     grind
     have:=A i c M q;omega⟩
 let⟨y,A⟩:=this B;refine ⟨y,λi c q=>A i c ?_ q⟩
 grind
def jW (h:ba):∃H:iN,H.get=erHF h:=by
 let⟨B,hB⟩:=PT.bound h;let⟨y,A⟩:=afq h;refine ⟨PT.ofF (erHF h) (2^B*(2*y+2)),?_⟩;funext n;rw[PT.get_ofF];split;rfl;rename_i hn;cases q:erHF h n with
 |none=>rfl
 |some b=>
  let⟨c,h1,h2⟩:=jA q;have I:ow n<B:=cf;have hi:ix n<=y:=by
   have:=A _ c h1;cases hk:ix n with
   |zero=>omega
   |succ k=>
    rw[hk]at h2;have:=afr h2;omega
  have he:=my n;unfold uY at he;have h3:2^ow n*(2*ix n+1)<=2^B*(2*y+2):=Nat.mul_le_mul (Nat.pow_le_pow_right M M) M
  grind
variable {r:Y TV} {u:TV}
def c7 (he:dx h (u::r)=Z C):∃y q,C=y::q/\dg h u=Z y/\dx h r=Z q:=by
 simp[dx]at he
 grind
variable {y:AV}
def rq (h1:dg h u=Z y) (h2:dx h r=Z C):dx h (u::r)=Z (y::C):=by
 simp[dx,h1,h2]
def kW :∀{l:Y TV} {q:Y AV},dx h l=Z q->l! q=l! l
 |[],q,he=>by cases he;rfl
 |x::r,q,he=>by
  obtain⟨y,A,rfl,_,h2⟩:=c7 he;simp[kW h2]
def pm :∀{a b:Y TV} {q b':Y AV},dx h a=Z q->dx h b=Z b'->dx h (a++b)=Z (q++b')
 |[],b,q,b',I,A=>by cases I;exact A
 |x::r,b,q,b',I,A=>by
  obtain⟨y,l2,rfl,h1,h2⟩:=c7 I;exact rq h1 (pm h2 A)
def Gu :∀{a b:Y TV} {l:Y AV},dx h (a++b)=Z l->∃q b',l=q++b'/\dx h a=Z q/\dx h b=Z b'
 |[],b,l,he=>⟨[],l,rfl,rfl,he⟩
 |x::r,b,l,he=>by
  obtain⟨y,l2,rfl,h1,h2⟩:=c7 he;obtain⟨q,b',rfl,I,A⟩:=Gu h2;exact⟨y::q,b',rfl,rq h1 I,A⟩
def J8 :∀{l:Y TV} {q:Y AV} (n:Nat),dx h l=Z q->dx h (l.take n)=Z (q.take n)
 |[],q,n,he=>by cases he;simp[dx]
 |x::r,q,n,he=>by
  obtain⟨y,A,rfl,h1,h2⟩:=c7 he;cases n with
  |zero=>simp[dx]
  |succ n=>exact rq h1 (J8 n h2)
def J_ :∀{l:Y TV} {q:Y AV} (n:Nat),dx h l=Z q->dx h (l.drop n)=Z (q.drop n)
 |[],q,n,he=>by cases he;simp[dx]
 |x::r,q,n,he=>by
  obtain⟨y,A,rfl,h1,h2⟩:=c7 he;cases n with
  |zero=>exact he
  |succ n=>simpa using J_ n h2
def yz {vs:Y TV} {vs':Y AV} (off:Nat) (h1:dx h r=Z C) (h2:dx h vs=Z vs'):dx h (splice r off vs)=Z (splice C off vs'):=by
 unfold splice;rw[kW h2];exact pm (pm (J8 _ h1) h2) (J_ _ h1)
def nO :∀{l:Y TV} {q:Y AV},dx h l=Z q->∀(j:Nat) x,l[j]? =Z x->∃y,q[j]? =Z y/\dg h x=Z y
 |[],q,he,j,x,I=>by simp at I
 |x::r,q,he,j,z,A=>by
  obtain⟨y,l2,rfl,h1,h2⟩:=c7 he;cases j with
  |zero=>simp at A;subst A;exact⟨y,rfl,h1⟩
  |succ j=>simpa using nO h2 j z cf
mutual
def rE (h:ba):∀(u:TV),SD h u=J->∃y,dg h u=Z y
 |.f _ _,_|.zm _ _ _ _ _,_|.ql _ _ _ _,_|.K _ _,_|.qp _ _ _,_=>⟨_,rfl⟩
 |.I id,he|.zh id jj,he=>by
  simp[SD]at he;cases hr:e_ h id with
  |none=>rw[hr]at he;cases he
  |some r=>obtain⟨p,sz,n⟩:=r;exact⟨_,by simp[dg,hr];rfl⟩
 |.emp,_|.nil,_|.mp _,_=>⟨_,rfl⟩
 |.agg l,he|.qd l,he|.qy g l,he=>by obtain⟨y,hy⟩:=gY h l he;exact⟨_,by simp[dg,hy];rfl⟩
 |.undef,_|.np,_|.qj,_|.qn _ _,_|.sb _,_=>⟨_,rfl⟩
def gY (h:ba):∀(l:Y TV),mo h l=J->∃l',dx h l=Z l'
 |[],_=>⟨[],rfl⟩
 |x::r,he=>by
  simp[mo,ar]at he;obtain⟨y,hy⟩:=rE h x he.1;obtain⟨l',hl⟩:=gY h r he.2;exact⟨_,rq hy hl⟩
end
def cz (h h':ba):Prop:=∀id r,e_ h id=Z r->e_ h' id=Z r
mutual
def gP {h h':ba} (hk:cz h h'):∀(u:TV) (y:AV),dg h u=Z y->dg h' u=Z y
 |.f _ _,y,he=>he
 |.zm _ _ _ _ _,y,he=>he
 |.ql _ _ _ _,y,he=>he
 |.K _ _,y,he=>he
 |.qp _ _ _,y,he=>he
 |.I id,y,he|.zh id jj,y,he=>by
  simp[dg]at he ⊢;split at he;rename_i p sz n hr;rw[hk _ _ hr];exact he;cases he
 |.emp,y,he=>he
 |.nil,y,he=>he
 |.mp _,y,he=>he
 |.agg l,y,he|.qd l,y,he|.qy g l,y,he=>by
  simp[dg]at he ⊢;split at he;rename_i l' hl;rw[kB hk l l' hl];exact he;cases he
 |.undef,y,he=>he
 |.np,y,he=>he
 |.qj,y,he=>he
 |.qn _ _,y,he=>he
 |.sb _,y,he=>he
def kB {h h':ba} (hk:cz h h'):∀(l:Y TV) (l':Y AV),dx h l=Z l'->dx h' l=Z l'
 |[],l',he=>he
 |x::r,l',he=>by
  obtain⟨y,l2,rfl,h1,h2⟩:=c7 he;exact rq (gP hk x y h1) (kB hk r l2 h2)
end
mutual
def oW {h h':ba} (hk:cz h h'):∀(u:TV),SD h u=J->SD h' u=J
 |.f _ _,_|.zm _ _ _ _ _,_|.ql _ _ _ _,_|.K _ _,_|.qp _ _ _,_=>rfl
 |.I id,he|.zh id jj,he=>by
  simp[SD]at he ⊢;cases hr:e_ h id with
  |none=>rw[hr]at he;cases he
  |some r=>rw[hk _ _ hr];rfl
 |.emp,_|.nil,_|.mp _,_=>rfl
 |.agg l,he|.qd l,he|.qy g l,he=>io hk l he
 |.undef,_|.np,_|.qj,_|.qn _ _,_|.sb _,_=>rfl
def io {h h':ba} (hk:cz h h'):∀(l:Y TV),mo h l=J->mo h' l=J
 |[],_=>rfl
 |x::r,he=>by
  simp[mo,ar]at he ⊢;exact⟨oW hk x he.1,io hk r he.2⟩
end
mutual
def J7 (h:ba):∀(u:TV) (y:AV),dg h u=Z y->SD h u=J
 |.f _ _,_,_|.zm _ _ _ _ _,_,_|.ql _ _ _ _,_,_|.K _ _,_,_|.qp _ _ _,_,_=>rfl
 |.I id,y,he|.zh id jj,y,he=>by
  simp[SD,dg]at he ⊢;cases hr:e_ h id with
  |none=>rw[hr]at he;cases he
  |some r=>rfl
 |.emp,_,_|.nil,_,_|.mp _,_,_=>rfl
 |.agg l,y,he|.qd l,y,he|.qy g l,y,he=>by
  simp[dg]at he;split at he;rename_i l' hl;exact oH h l l' hl;cases he
 |.undef,_,_|.np,_,_|.qj,_,_|.qn _ _,_,_|.sb _,_,_=>rfl
def oH (h:ba):∀(l:Y TV) (l':Y AV),dx h l=Z l'->mo h l=J
 |[],_,_=>rfl
 |x::r,l',he=>by
  obtain⟨y,l2,rfl,h1,h2⟩:=c7 he;simp[mo,ar];exact⟨J7 h x y h1,oH h r l2 h2⟩
end
mutual
def Yl (h h':ba):∀(u:TV),xu u=J->dg h u=dg h' u
 |.f _ _,_|.zm _ _ _ _ _,_|.ql _ _ _ _,_|.K _ _,_|.qp _ _ _,_=>rfl
 |.I id,he=>by cases he
 |.emp,_|.nil,_|.mp _,_=>rfl
 |.agg l,he|.qd l,he=>by simp[dg];rw[J9 h h' l he]
 |.qy g l,he=>by cases he
 |.undef,_|.np,_|.qj,_|.qn _ _,_=>rfl
 |.sb _,he=>by cases he
def J9 (h h':ba):∀(l:Y TV),tq l=J->dx h l=dx h' l
 |[],_=>rfl
 |x::r,he=>by
  simp[tq,ar]at he;simp[dx];rw[Yl h h' x he.1,J9 h h' r he.2]
end
def UY (he:dg h u=Z y) (q:u.isC=J):y.isCell=J:=by
 cases u with
 |f T v=>cases T<;>simp[dg,al]at he<;>subst he<;>first|rfl|(simp [TV.isC,Ty.one]at q)
 |I id=>
  simp[dg]at he;split at he;cases he;unfold eM;split<;>rfl;cases he
 |zh id A|agg l|qd l|undef|qj|qn T xs=>cases q
 |qy g l=>
  simp[dg]at he;split at he;cases he;rfl;cases he
 |sb s=>cases he;cases s<;>first|rfl|(simp [erS,wY];split<;>rfl)
 |_=>cases he;rfl
def wI :∀{l:Y TV} {q:Y AV},dx h l=Z q->mi l=J->il q=J
 |[],q,he,_=>by cases he;rfl
 |x::r,q,he,A=>by
  obtain⟨y,I,rfl,h1,h2⟩:=c7 he;simp[mi,ar]at A;simp[il,ar];exact⟨UY h1 A.1,wI h2 A.2⟩
def Le (x y:AV):Prop:=∀(φ:PM) (O:Nat->Prop) (w:World) (v:Value),cC φ O w x v->cC φ O w y v
def Le.refl (x:AV):Le x x:=λ_ _ _ _ h=>h
def l7 (H H':HF) (x y:AV):Prop:=∀(φ:PM) (E:Nat->Prop) (w:World) (v:Value),rA φ E H w->cC φ (tot E φ H) w x v->cC φ (tot E φ H') w y v
def vF (H H':HF):Prop:=∀i b,H' i=Z b->∃b0,H i=Z b0
def vF.refl (H:HF):vF H H:=λ_ b h=>⟨b,h⟩
variable {N:HF}
def vF.own {H':HF} (d:vF N H') (h:own T H' i):own T N i:=by
 let⟨k,b,h1,h2⟩:=h;let⟨b0,q⟩:=d k b h1;exact⟨k,b0,q,h2⟩
def vF.tot {H':HF} (d:vF N H') (h:tot O T H' i):tot O T N i:=h.imp id d.own
def cC.dom {H':HF} (d:vF N H') (h:cC T (tot O T N) W y v):cC T (tot O T H') W y v:=
 h.ext (λ_ _ h=>h) (GP.refl _ W) λ_ _ hk=>d.tot hk
def oz.dom {H':HF} (d:vF N H') {x:FV} (h:oz (tot O T N) W x v):oz (tot O T H') W x v:=
 h.ext (GP.refl _ W) λ_ _ hk=>d.tot hk
def Le.toH {H':HF} (d:vF N H') {x:AV} (h:Le x y):l7 N H' x y:=λφ E w v _ q=>(h _ _ _ _ q).dom d
def l7.refl {H':HF} (d:vF N H') (x:AV):l7 N H' x x:=(Le.refl x).toH d
def iY (H H':HF):Y AV->Y AV->Prop
 |[],[]=>True
 |x::xs,y::q=>l7 H H' x y/\iY H H' xs q
 |_,_=>False
def iY.refl {H':HF} (d:vF N H'):∀l,iY N H' l l
 |[]=>trivial
 |x::r=>⟨l7.refl d x,iY.refl d r⟩
def iY.length {H':HF}:∀{l q:Y AV},iY N H' l q->l! q=l! l
 |[],[],_=>rfl
 |[],_::_,h|_::_,[],h=>h.elim
 |_::_,_::_,h=>by simp[iY.length h.2]
def iY.get {H':HF}:∀{l A:Y AV},iY N H' l A->∀(j:Nat) y,A[j]? =Z y->∃x,l[j]? =Z x/\l7 N H' x y
 |[],[],_,j,y,q=>by simp at q
 |[],_::_,h,_,_,_|_::_,[],h,_,_,_=>h.elim
 |x::xs,z::ys,h,j,y,q=>by
  cases j with
  |zero=>simp at q;subst q;exact⟨x,rfl,h.1⟩
  |succ j=>simpa using iY.get h.2 j y cf
def iY.append {H':HF}:∀{a q b b':Y AV},iY N H' a q->iY N H' b b'->iY N H' (a++b) (q++b')
 |[],[],_,_,_,h=>h
 |[],_::_,_,_,h,_|_::_,[],_,_,h,_=>h.elim
 |_::_,_::_,_,_,h,h'=>⟨h.1,iY.append h.2 h'⟩
def iY.take {H':HF}:∀{a q:Y AV} (n:Nat),iY N H' a q->iY N H' (a.take n) (q.take n)
 |[],[],n,_=>by simp[iY]
 |[],_::_,_,h|_::_,[],_,h=>h.elim
 |_::_,_::_,0,_=>trivial
 |_::_,_::_,n+1,h=>⟨h.1,iY.take n h.2⟩
def iY.drop {H':HF}:∀{a q:Y AV} (n:Nat),iY N H' a q->iY N H' (a.drop n) (q.drop n)
 |[],[],n,_=>by simp[iY]
 |[],_::_,_,h|_::_,[],_,h=>h.elim
 |_::_,_::_,0,h=>h
 |_::_,_::_,n+1,h=>iY.drop n h.2
def iY.splice {H':HF} {q b b':Y AV} (off:Nat) (h1:iY N H' C q) (h2:iY N H' b b'):iY N H' (splice C off b) (splice q off b'):=by
 unfold AI.splice;rw[h2.length];exact ((h1.take off).append h2).append (h1.drop _)
def iQ (H H':HF) (b b':ot):Prop:=∀(φ:PM) (E:Nat->Prop) (w:World) (o:Obj),rA φ E H w->kn φ (tot E φ H) w b o->kn φ (tot E φ H') w b' o
def iQ.refl {H':HF} (d:vF N H') (b:ot):iQ N H' b b:=λ_ _ _ _ _ h=>h.mono λ_ _ h=>h.dom d
def uX {c:BC} {o:Obj} (q:c.isCells=J):kn T O W ⟨A,c⟩ o↔∃arr,o= .cells arr A (0,0)/\yI T O W c arr:=by
 cases c<;>simp[BC.isCells]at q<;>rfl
def iQ.G {H':HF} {c ty:BC} (hc:c.isCells=J) (q:ty.isCells=J) (hl:iY N H' c.toMx ty.toMx) (hcell:∀x∈ty.toMx,x.isCell=J):iQ N H' ⟨A,c⟩ ⟨A,ty⟩:=by
 intro φ E w o hrep ho;rw[uX hc]at ho;rw[uX q];let⟨arr,h1,h2,h3⟩:=ho;refine ⟨arr,h1,by rw[BC.len_toMx q,hl.length,<-BC.len_toMx hc];exact h2,λj x I=>?_⟩;rw[BC.get_toMx q]at I;refine ⟨hcell x (bh I),?_⟩;let⟨y,hy,hle⟩:=hl.get j x I;let⟨_,v,h5,h6⟩:=h3 j y (by rw[BC.get_toMx hc];exact hy);exact⟨v,h5,hle _ _ _ _ hrep h6⟩
def ap8 (ty:aj TypeId) (l:Y AV):ot:=match ty with
 |some ty=>⟨ty,.mx l⟩
 |none=>⟨0,.mp []⟩
def iQ.none {H':HF}:iQ N H' ⟨0,.mp []⟩ ⟨0,.mp []⟩:=by
 intro φ E w o hrep A;let⟨ents,clock,h1,h2,I⟩:=A;exact⟨ents,clock,h1,h2,λj x q=>by cases q⟩
def iQ.eq {H':HF} (d:vF N H') {c I:BC} (ty:c.isCells=J) (q:I.isCells=J) (hl:c.toMx=I.toMx):iQ N H' ⟨A,c⟩ ⟨A,I⟩:=by
 intro φ E w o hrep ho;rw[uX ty]at ho;rw[uX q];let⟨arr,h1,h2,h3⟩:=ho;refine ⟨arr,h1,by rw[BC.len_toMx q,<-hl,<-BC.len_toMx ty];exact h2,λj x hx=>?_⟩;rw[BC.get_toMx q,<-hl,<-BC.get_toMx ty]at hx;let⟨h4,v,h5,h6⟩:=h3 j x hx;exact⟨h4,v,h5,h6.dom d⟩
structure Qp (H H':HF):Prop where
 dom:vF H H'
 jg:∀i b b',H i=Z b->H' i=Z b'->iQ H H' b b'
def Qp.refl (H:HF):Qp H H:=⟨vF.refl H,λi b b' h h'=>by rw[h]at h';cases h';exact iQ.refl (vF.refl H) b⟩
def Qp.zf {H':HF} (V:Qp N H') (r:rA T O N W):rA T O H' W:=by
 refine ⟨λi j b b' k q g2 g3 I=>?_,λi b q=>?_,r.el,λg cells A=>(r.gl g cells A).dom V.dom⟩;let⟨b0,q1⟩:=V.dom i b q;let⟨b1,q2⟩:=V.dom j b' g2;exact r.inj i j b0 b1 k q1 q2 g3 I;let⟨b0,q1⟩:=V.dom i b q;let⟨k,p1,p2,ob,p3,p4⟩:=r.at_ i b0 q1;exact⟨k,p1,p2,ob,p3,V.jg i b0 b q1 q T O W ob r p4⟩
variable {d:Oper}
def im.view {e:EF} {val':AV} {rd q wr' h:ι} {A nw':HF} (ht:im P d e N ⟨y,rd,q,A,h⟩) (hsub:∀i∈q,i∈wr'\/i∈rd)
 (hv:∀h':HF,(∀i∈rd,h' i=N i)->(∀i∈wr',h' i=N i)->Qp (eD h' q A) (eD h' wr' nw')/\l7 (eD h' q A) (eD h' wr' nw') y val'):im P d e N ⟨val',rd,wr',nw',h⟩:=by
 intro φ E h' w a h1 h2 h3 h4 h5;have I:=ht φ E h' w a h1 (λi hi=>(hsub i hi).elim (h2 i) (h1 i)) h3 h4 h5;let⟨V,hle⟩:=hv h' h1 h2;refine Wr ?_ I;rintro a' w' ⟨v,φ',rfl,mv,nm',rp,rel⟩;exact⟨v,φ',rfl,⟨mv.sub,mv.ext,λk hk ho=>mv.qr k hk (V.dom.own ho)⟩,nm',V.zf rp,hle _ _ _ _ rp rel⟩
def Le.nil:Le (.f (.raw (.slice U 0 0))) (.f (.sl [] 0)):=by
 intro φ O w v q;cases q with
 |f q=>cases q;exact .f (.nil U 0 b8)
def Le.emp:Le .emp (.f (.sl [] 0)):=by
 intro φ O w v q;cases q with
 |emp=>exact .f (.nil _ 0 (by unfold maxLen;omega))
def Le.nilEmp:Le (.f (.raw (.slice U 0 0))) .emp:=by
 intro φ O w v q;cases q with
 |f q=>cases q;exact .emp
def Le.aggF {l:Y FV}:Le (.f (.agg l)) (.agg (l.map .f)):=by
 intro φ O w v A;cases A with
 |f A=>
  cases A with
  |agg _ vs hl hcl hrr=>
   refine .agg cf (λx q=>?_) λj x u q hu=>?_
   obtain⟨y,hy,rfl⟩:=cF.1 q;exact hcl y hy;rw[bH]at q;cases I:l[j]? with
   |none=>rw[I]at q;cases q
   |some y=>rw[I]at q;simp at q;subst q;exact .f (hrr j y u I hu)
def amv (l:Y AV):Le (SJ l) (.agg l):=by
 unfold SJ;split;rename_i q h;rw[sC h];exact Le.aggF;exact Le.refl _
def l7.aggL {H':HF} {q:Y FV} (h:iY N H' C (q.map .f)) (hc:∀x∈q,x.isCell=J):l7 N H' (.agg C) (.f (.agg q)):=by
 intro φ E w v hrep hr;cases hr with
 |@agg _ vs hl hcl hrr=>
  refine .f (.agg q vs (by rw[hl,<-h.length];simp) hc λj y u hy I=>?_);let⟨x,A,hle⟩:=h.get j (.f y) cf;have:=hle φ E w u hrep (hrr j x u A I);cases this with
  |f h=>exact h
def l7.I {H':HF} (d:vF N H') {n:Nat} {cells:Y FV} (h1:N i=Z ⟨A,.fz cells⟩) (h2:H' i=U) (hl:l! cells=n*m):l7 N H' (.I i m n) (.f (.sl cells n)):=by
 intro φ E w v r hr;cases hr with
 |@I _ _ _ c k hφ hn hcap hsh=>
  let⟨k',q1,q2,_⟩:=r.at_ i _ h1;rw[hφ]at q1;cases q1;let⟨arr,p1,p2,p3⟩:=r.cs h1 hφ rfl;have hk:k<w.heap.size:=(c9.1 p1).1;have hlen:l! cells<=arr.size:=by simpa[BC.toMx] using p3
  have hnk:¬tot E φ H' k:=by
   rintro (hE|⟨j,b,g1,ty⟩);exact q2 hE;let⟨b0,g3⟩:=d j b g1;have:=r.inj j i b0 _ k g3 h1 ty hφ
   grind
  have hget:∀(j:Nat) x,cells[j]? =Z x->∃u,arr[j]? =Z u/\oz (tot E φ N) w x u:=λj x q=>by
   have hj:j<l! cells:=(bG.1 q).1;have hja:j<arr.size:=M;refine ⟨arr[j],by simp[hja],?_⟩;have:=p2.2.2 j (.f x) arr[j] (by simp[BC.toMx,q]) (by
    rw[dF,aD (by simpa[BC.toMx] using hj),eV];simp[hja])
   cases this with
   |f h=>exact h
  refine .f (.sl cells n c k 0 (λj=>(arr[j]?).getD undef) hn hcap hnk hk (λx q=>?_) (λj hj=>?_) (λj x q=>?_));have:=p2.2.1 (.f x) (by simp only[BC.toMx];exact cF.2 ⟨x,q,rfl⟩);exact this;have:j<arr.size:=M;simp[Ud,p1,this];let⟨u,g1,ty⟩:=hget j x q;rw[g1];exact ty.dom d
def vy:∀l:Y Xp,O3 l=l.flatMap Ah
 |[]=>rfl
 |x::r=>by rw[O3,vy r];rfl
def DC:∀l:Y Sx,O2 l=l.flatMap Ca
 |[]=>rfl
 |x::r=>by rw[O2,DC r];rfl
def O1 (e:Xp):bQ Td (Uk e)=Ah e:=by
 cases e with
 |mk op n name l=>simp only[Td,Uk,bQ,Ah,Xp.op,Xp.n,Xp.name,Xp.l,vy];rfl
def Ys (x:Td.den):Ah (fm x)=bQ Td x:=by
 simp only[Td,fm,bQ,Ah,vy];rfl
def O0 (e:Sx):bQ So (Uj e)=Ca e:=by
 cases e with
 |mk op line name arg index expr body els=>simp only[So,Uj,bQ,Ca,Sx.op,Sx.line,Sx.name,Sx.arg,Sx.index,Sx.expr,Sx.body,Sx.els,vy,DC];rfl
def Yr (x:So.den):Ca (pL x)=bQ So x:=by
 simp only[So,pL,bQ,Ca,vy,DC];rfl
def By (e:Xp):l! (Ah e)=4:=by cases e;simp[Ah]
def Ig (e:Sx):l! (Ca e)=11:=by cases e;simp[Ca,By]
def bA:∀(T:Ty) (v:T.den),l! (bQ T v)=T.size
 |.int _,_|.bool,_|.str,_|.sl _,_=>rfl
 |.st t,v=>bA t v
 |.pr a b,v=>by simp[bQ,Ty.size,bA a,bA b]
 |.un,_=>rfl
 |.ex,v=>By v
 |.sm,v=>Ig v
def O4 (e:Xp):∀x∈Ah e,x.isCell=J:=by
 cases e with
 |mk op n name l=>
  intro x q;simp[Ah,bc,cA,fM]at q;rcases q with rfl|rfl|rfl|rfl<;>rfl
def ac7 (e:Sx):∀x∈Ca e,x.isCell=J:=by
 cases e with
 |mk op line name arg index expr body els=>
  intro x q;simp only[Ca,bz,bc,cA,fM]at q;rcases q with (q|q)|q;rcases q with rfl|rfl|rfl|rfl|rfl<;>rfl;exact O4 _ _ q;rcases q with rfl|rfl<;>rfl
def pT:∀(T:Ty) (v:T.den),∀x∈bQ T v,x.isCell=J
 |.int _,_,x,q|.bool,_,x,q|.str,_,x,q|.sl _,_,x,q=>by simp[bQ,aG]at q;subst q;rfl
 |.st t,v,x,q=>pT t v x q
 |.pr a b,v,x,q=>by
  simp[bQ,bz]at q;exact q.elim (pT a v.1 x) (pT b v.2 x)
 |.un,_,x,q=>by simp[bQ]at q
 |.ex,v,x,q=>O4 v x q
 |.sm,v,x,q=>ac7 v x q
def O5:∀(T:Ty) (v:T.den),T.one=J->bQ T v=[iu T v]/\T.size=1
 |.int _,_,_|.bool,_,_|.str,_,_|.sl _,_,_=>⟨rfl,rfl⟩
 |.st _,_,h|.pr _ _,_,h|.un,_,h|.ex,_,h|.sm,_,h=>by cases h
def xG:∀(T:Ty) (v:T.den),T.one=af->iu T v= .agg (bQ T v)
 |.int _,_,h|.bool,_,h|.str,_,h|.sl _,_,h=>by cases h
 |.st _,_,_|.pr _ _,_,_|.un,_,_|.ex,_,_|.sm,_,_=>rfl
def EH (T:Ty) (v:T.den):(AV.f (iu T v)).cs=(bQ T v).map .f:=by
 cases h:T.one with
 |true=>
  cases T<;>simp[Ty.one]at h<;>first|rfl|cases h
 |false=>rw[xG T v h];rfl
def fe {f:R->Y FV} (hf:∀x,l! (f x)=i):∀(xs:Y R),l! (xs.flatMap f)=l! xs*i
 |[]=>b8
 |x::r=>by rw[fK,aQ,hf,fe hf r,gQ,lD];omega
def J4 {f:R->Y FV} (hf:∀x,l! (f x)=i):∀(xs:Y R) (j:Nat) (x:R),xs[j]? =Z x->∃r,(xs.flatMap f).drop (j*i)=f x++r
 |[],j,x,h=>by simp at h
 |y::r,j,x,h=>by
  cases j with
  |zero=>simp at h;subst h;exact⟨r.flatMap f,b8⟩
  |succ j=>
   let⟨q,A⟩:=J4 hf r j x cf;refine ⟨q,?_⟩;rw[fK,show (j+1)*i=l! (f y)+j*i from by rw[hf,lD];omega,yc];simp[A]
def Yf {f:R->Y FV} (hf:∀x,l! (f x)=i):∀(xs:Y R) (j:Nat) (x z:R),xs[j]? =Z x->∀(off:Nat) (vs:Y FV),off+l! vs<=i->f z=AI.splice (f x) off vs->(xs.set j z).flatMap f=AI.splice (xs.flatMap f) (j*i+off) vs
 |[],j,x,z,h,_,_,_,_=>by simp at h
 |y::r,j,x,z,h,off,vs,hle,q=>by
  cases j with
  |zero=>
   simp at h;subst h;simp only[List.set_cons_zero,fK,q,Nat.zero_mul,bV];unfold AI.splice;have I:=hf y;rw[List.take_append,yc];have e1:off-l! (f y)=0:=M;have e2:off+l! vs-l! (f y)=0:=M;rw[e1,e2];simp[bw]
  |succ j=>
   have A:=Yf hf r j x z (by simpa using h) off vs hle q;simp only[List.set_cons_succ,fK,A];unfold AI.splice;have I:=hf y;have e0:(j+1)*i=l! (f y)+j*i:=by rw[hf,lD];omega
   rw[e0,List.take_append,yc];have e1:l! (f y)+j*i+off-l! (f y)=j*i+off:=M;have e2:l! (f y)+j*i+off+l! vs-l! (f y)=j*i+off+l! vs:=M;rw[e1,e2,dZ (by omega:l! (f y)<=l! (f y)+j*i+off),Eh (by omega:l! (f y)<=l! (f y)+j*i+off+l! vs)];simp[bw]
def uF (T:Ty) (xs:Y T.den):∀x∈xs.flatMap (bQ T),x.isCell=J:=λx q=>by
 let⟨y,_,h⟩:=oP.1 q;exact pT T y x h
def iV {T:Ty} {v:S.den} {x:T.den} (h:wu T v=Z x):∃e:S=T,x=e▸v:=by
 unfold wu at h
 grind
def nG (h:ba):∀(n:Nat) (T:Ty) (v:T.den) (l:Y TV),cellsOf n T v=Z l->dx h l=Z ((bQ T v).map .f)/\mi l=J
 |0,_,_,_,he=>by simp[cellsOf]at he
 |n+1,.st t,v,l,he=>nG h n t v l he
 |n+1,.pr a b,v,l,he=>by
  simp[cellsOf]at he;split at he;rename_i x y A q;cases he;let⟨h1,h2⟩:=nG h n a v.1 x A;let⟨I,h4⟩:=nG h n b v.2 y q;refine ⟨by rw[bQ,b_];exact pm h1 I,?_⟩;clear h1 I A q;induction x with
  |nil=>exact h4
  |cons z r ih=>simp[mi,ar,gj]at h2 ⊢;exact⟨h2.1,ih h2.2⟩
  cases he
 |n+1,.un,v,l,he=>by cases he;exact⟨rfl,rfl⟩
 |n+1,.ex,v,l,he=>by rw[bQ,<-O1];exact nG h n Td (Uk v) l he
 |n+1,.sm,v,l,he=>by rw[bQ,<-O0];exact nG h n So (Uj v) l he
 |n+1,.int k,v,l,he|n+1,.bool,v,l,he|n+1,.str,v,l,he|n+1,.sl t,v,l,he=>by cases he;exact⟨rfl,rfl⟩
def UJ (h:y.isCell=J):y.cs=[y]:=by
 cases y with
 |f x=>cases x<;>first|rfl|cases h
 |agg l=>cases h
 |_=>rfl
def TJ (A:u.cs=Z r) (hy:dg h u=Z y):dx h r=Z y.cs/\mi r=J:=by
 have one:(if u.isC then Z [u] else U)=Z r->dx h r=Z y.cs/\mi r=J:=λA=>by
  let⟨hc,A⟩:=dO A;cases A;exact⟨by rw[UJ (UY hy hc)];exact rq hy rfl,by simp[mi,hc]⟩
 cases u with
 |agg q=>
  simp only[TV.cs]at A;let⟨hc,A⟩:=dO A;cases A;simp[dg]at hy;split at hy;rename_i l' hl;cases hy;exact⟨hl,hc⟩;cases hy
 |f T x=>
  cases hy;rw[EH];exact nG h 40 T x r A
 |_=>exact one A
def Jd (h:ba) (H H':HF) (m:Nat):Prop:=∀id,aF m id=J->H (nm id)=erHF h (nm id)/\H' (nm id)=U
def Jd.zero {H':HF}:Jd h N H' 0:=λid hid=>by simp at hid
def Jd.or {H':HF} (g:Jd h N H' (i|||m)):Jd h N H' i/\Jd h N H' m:=
 ⟨λid hid=>g id cf,λid hid=>g id cf⟩
def b7 :aF (kZ i) m=J↔i=m:=by
 unfold kZ;rw[Ed,LY];simp
section pack
variable {h:ba} {H H':HF}
def BI (d:vF H H') {x:S.den} (A:jD h S u=Z (x,m)) (hy:dg h u=Z y) (g:Jd h H H' m):l7 H H' y (.f (iu S x))/\l! y.cs=S.size/\(S.one=J->y.isCell=J)/\iY H H' y.cs ((bQ S x).map .f):=by
 cases u with
 |f T u=>
  simp[jD]at A;split at A;rename_i z hz;obtain⟨rfl,_⟩:=A;obtain⟨e,rfl⟩:=iV hz;subst e;cases hy;refine ⟨l7.refl d _,by rw[EH,bL,bA],λho=>?_,by rw[EH];exact iY.refl d _⟩;cases T<;>simp[Ty.one]at ho<;>first|rfl|cases ho
  cases A
 |emp=>
  simp[jD]at A;split at A;simp[al,aT]at A;obtain⟨rfl,_⟩:=A;cases hy;exact⟨Le.emp.toH d,rfl,λ_=>rfl,⟨Le.emp.toH d,trivial⟩⟩;cases A
 |nil=>
  simp[jD]at A;split at A;simp[al,aT]at A;obtain⟨rfl,_⟩:=A;cases hy;exact⟨Le.nil.toH d,rfl,λ_=>rfl,⟨Le.nil.toH d,trivial⟩⟩;cases A
 |I id=>
  simp[jD]at A;split at A;rename_i ty p T xs hb;split at A;rename_i z hz;obtain⟨rfl,rfl⟩:=A;obtain⟨e,rfl⟩:=iV hz;subst e;let⟨g1,g2⟩:=g id (b7.2 rfl);rw[ct,hb]at g1;simp[dg,e_,hb,al]at hy;subst hy;have key:l7 H H' (eM p id T.size (l! xs)) (.f (iu (.sl T) xs)):=by
   unfold eM;split;rename_i hp;simp only[ar,dz]at hp;have:xs=[]:=gg.1 hp.2;subst this;exact Le.emp.toH d;rename_i hp;simp only[aH,mT,av hp]at g1;exact l7.I d g1 g2 (fe (bA T) xs)
  have hc:(eM p id T.size (l! xs)).isCell=J:=by unfold eM;split<;>rfl
  refine ⟨key,by rw[UJ hc];rfl,λ_=>hc,?_⟩;rw[UJ hc];exact⟨key,trivial⟩;cases A;cases A
 |_=>simp[jD]at A
def uW (d:vF H H'):∀(n:Nat) (T:Ty) (l:Y TV) (x:T.den) (m:Nat) (r:Y TV) (I:Y AV),gG h n T l=Z (x,m,r)->dx h l=Z I->Jd h H H' m->∃l1 l2,I=l1++l2/\dx h r=Z l2/\iY H H' l1 ((bQ T x).map .f)
 |0,_,_,_,_,_,_,hp,_,_=>by simp[gG]at hp
 |n+1,.st t,l,x,m,r,I,hp,A,g=>uW d n t l x m r I hp A g
 |n+1,.pr a b,l,x,m,r,I,hp,A,g=>by
  simp[gG]at hp;split at hp;rename_i x1 m1 r1 h1;split at hp;rename_i x2 m2 r2 h2;simp[al,aT]at hp;obtain⟨rfl,rfl,rfl⟩:=hp;let⟨ga,gb⟩:=g.or;obtain⟨l1,l2,rfl,q1,q2⟩:=uW d n a l x1 m1 r1 I h1 A ga;obtain⟨l3,l4,rfl,q3,q4⟩:=uW d n b r1 x2 m2 r2 l2 h2 q1 gb;refine ⟨l1++l3,l4,b8,q3,?_⟩;rw[bQ,b_];exact q2.append q4;cases hp;cases hp
 |n+1,.un,l,x,m,r,I,hp,A,g=>by
  obtain⟨_,_,rfl⟩:=hp;exact⟨[],I,rfl,A,trivial⟩
 |n+1,.ex,l,x,m,r,I,hp,A,g=>by
  simp[gG]at hp;split at hp;rename_i x1 m1 r1 h1;simp[al,aT]at hp;obtain⟨rfl,rfl,rfl⟩:=hp;rw[bQ,Ys];exact uW d n Td l x1 m1 r1 I h1 A g;cases hp
 |n+1,.sm,l,x,m,r,I,hp,A,g=>by
  simp[gG]at hp;split at hp;rename_i x1 m1 r1 h1;simp[al,aT]at hp;obtain⟨rfl,rfl,rfl⟩:=hp;rw[bQ,Yr];exact uW d n So l x1 m1 r1 I h1 A g;cases hp
 |n+1,.int k,l,x,m,r,I,hp,A,g|n+1,.bool,l,x,m,r,I,hp,A,g|n+1,.str,l,x,m,r,I,hp,A,g|n+1,.sl t,l,x,m,r,I,hp,A,g=>by
  simp[gG]at hp;split at hp;rename_i c q;split at hp;rename_i x1 m1 h1;obtain⟨rfl,rfl,rfl⟩:=hp;obtain⟨y,l2,rfl,q1,q2⟩:=c7 A;exact⟨[y],l2,rfl,q2,⟨(BI d h1 q1 g).1,trivial⟩⟩;cases hp;cases hp
def aaa (d:vF H H') {x:S.den} (hp:gG h i S r=Z (x,m,[])) (A:dx h r=Z C) (g:Jd h H H' m):iY H H' C ((bQ S x).map .f):=by
 obtain⟨l1,I,rfl,q1,q2⟩:=uW d i S r x m [] C hp A g;cases q1;simpa using q2
def V6 (d:vF H H') {x:S.den} (A:GA h S u=Z (x,m)) (hy:dg h u=Z y) (g:Jd h H H' m):l7 H H' y (.f (iu S x))/\iY H H' y.cs ((bQ S x).map .f):=by
 have other:jD h S u=Z (x,m)->l7 H H' y (.f (iu S x))/\iY H H' y.cs ((bQ S x).map .f):=λA=>by
  let⟨h1,_,_,h2⟩:=BI d A hy g;exact⟨h1,h2⟩
 cases u with
 |agg l=>
  simp only[GA]at A;split at A;cases A;rename_i ho;split at A;rename_i x1 m1 h1;simp[al,aT]at A;obtain⟨rfl,rfl⟩:=A;simp[dg]at hy;split at hy;rename_i l' hl;cases hy;have:=aaa d h1 hl g;refine ⟨?_,this⟩;rw[xG S x1 cf];exact l7.aggL this (pT S x1);cases hy;cases A
 |_=>exact other A
def Hs (d:vF H H') :∀(n:Nat) (l:Y TV) (xs:Y S.den) (m:Nat) (q:Y AV),Fk h S n l=Z (xs,m)->dx h l=Z q->Jd h H H' m->iY H H' q ((xs.flatMap (bQ S)).map .f)/\l! xs=n
 |0,[],xs,m,q,hp,A,g=>by
  obtain⟨rfl,_⟩:=hp;cases A;exact⟨trivial,rfl⟩
 |0,_::_,xs,m,q,hp,A,g=>by simp[Fk]at hp
 |n+1,l,xs,m,q,hp,A,g=>by
  simp[Fk]at hp;split at hp;rename_i x1 I r1 h1;split at hp;rename_i x2 m2 h2;obtain⟨rfl,rfl⟩:=hp;let⟨ga,gb⟩:=g.or;obtain⟨l1,l2,rfl,q1,q2⟩:=uW d 40 S l x1 I r1 q h1 A ga;let⟨q3,q4⟩:=Hs d n r1 x2 m2 l2 h2 q1 gb;refine ⟨?_,by simp[q4]⟩;rw[fK,b_];exact q2.append q3;cases hp;cases hp
def Af (h:ba):∀(n:Nat) (T:Ty) (v:T.den) (off sz:Nat) (I:Bool) (u:TV),su n T v off sz I=Z u->off+sz<=T.size/\∃y,dg h u=Z (.f y)/\(I=af->sz=1/\(bQ T v)[off]? =Z y)/\(I=J->y= .agg (((bQ T v).drop off).take sz))
 |0,_,_,_,_,_,_,q=>by simp[su]at q
 |n+1,.st t,v,off,sz,I,u,q=>by
  simp only[su]at q;split at q;rename_i A;simp only[ar]at A;obtain⟨⟨h1,h2⟩,rfl⟩:=A;have h1:=au h1;have h2:=au h2;subst h1 h2;cases q;refine ⟨by simp[Ty.size],_,rfl,nofun,λ_=>?_⟩;simp only[iu,bQ,List.drop_zero];rw[<- bA t v,cO];exact Af h n t v off sz I u q
 |n+1,.pr a b,v,off,sz,I,u,q=>by
  simp only[su]at q;have hla:=bA a v.1;have hlb:=bA b v.2;split at q;rename_i hlt;have hlt:off<a.size:=aY hlt;let⟨h1,y,h2,h3,h4⟩:=Af h n a v.1 off sz I u q;refine ⟨by simp only[Ty.size];omega,y,h2,λe=>?_,λe=>?_⟩;let⟨h5,h6⟩:=h3 e;exact⟨h5,by rw[bQ,cZ M];exact h6⟩;rw[h4 e,bQ]
  grind
  rename_i hlt;have hlt:¬off<a.size:=λh=>hlt (bj h)
  let⟨h1,y,h2,h3,h4⟩:=Af h n b v.2 (off-a.size) sz I u q;refine ⟨by simp only[Ty.size];omega,y,h2,λe=>?_,λe=>?_⟩;let⟨h5,h6⟩:=h3 e;exact⟨h5,by rw[bQ,cL M,hla];exact h6⟩;rw[h4 e,bQ];have:(bQ a v.1++bQ b v.2).drop off=(bQ b v.2).drop (off-a.size):=by
   rw[yc,hla,Eh M];simp
  rw[this]
 |n+1,.un,v,off,sz,I,u,q=>by simp[su]at q
 |n+1,.ex,v,off,sz,I,u,q=>by
  simp only[su]at q;split at q;rename_i A;simp only[ar]at A;obtain⟨⟨h1,h2⟩,rfl⟩:=A;have h1:=au h1;have h2:=au h2;subst h1 h2;cases q;refine ⟨by simp[Ty.size],_,rfl,nofun,λ_=>?_⟩;simp only[iu,bQ,List.drop_zero];rw[<- By v,cO];let⟨h1,y,h2,h3,h4⟩:=Af h n Td (Uk v) off sz I u q;rw[O1]at h3 h4;exact⟨h1,y,h2,h3,h4⟩
 |n+1,.sm,v,off,sz,I,u,q=>by
  simp only[su]at q;split at q;rename_i A;simp only[ar]at A;obtain⟨⟨h1,h2⟩,rfl⟩:=A;have h1:=au h1;have h2:=au h2;subst h1 h2;cases q;refine ⟨by simp[Ty.size],_,rfl,nofun,λ_=>?_⟩;simp only[iu,bQ,List.drop_zero];rw[<- Ig v,cO];let⟨h1,y,h2,h3,h4⟩:=Af h n So (Uj v) off sz I u q;rw[O0]at h3 h4;exact⟨h1,y,h2,h3,h4⟩
 |n+1,.int k,v,off,sz,I,u,q=>by
  simp only[su]at q;split at q;rename_i A;simp only[ar,dj]at A;obtain⟨⟨h1,h2⟩,rfl⟩:=A;have h1:=au h1;have h2:=au h2;subst h1 h2;cases q;exact⟨by simp[Ty.size],_,rfl,λ_=>⟨rfl,rfl⟩,nofun⟩;cases q
 |n+1,.bool,v,off,sz,I,u,q|n+1,.str,v,off,sz,I,u,q|n+1,.sl t,v,off,sz,I,u,q=>by
  simp only[su]at q;split at q;rename_i A;simp only[ar,dj]at A;obtain⟨⟨h1,h2⟩,rfl⟩:=A;have h1:=au h1;have h2:=au h2;subst h1 h2;cases q;exact⟨by simp[Ty.size],_,rfl,λ_=>⟨rfl,rfl⟩,nofun⟩;cases q
def aa0 (l vs:Y R) (h:l! vs=l! l):AI.splice l 0 vs=vs:=by
 unfold AI.splice
 grind
def WF (a b vs:Y R) (off:Nat) (h:off+l! vs<=l! a):AI.splice (a++b) off vs=AI.splice a off vs++b:=by
 unfold AI.splice
 grind
def Ur (a b vs:Y R) (off:Nat) (h:l! a<=off):AI.splice (a++b) off vs=a++AI.splice b (off-l! a) vs:=by
 unfold AI.splice;rw[List.take_append,yc,dZ h,Eh M,show off+l! vs-l! a=off-l! a+l! vs from M];simp[bw]
def ahn (H H':HF) (y:AV) (T:Ty) (v z:T.den) (off sz:Nat):Prop:=∃q:Y FV,iY H H' y.cs (q.map .f)/\l! q=sz/\off+sz<=T.size/\bQ T z=AI.splice (bQ T v) off q/\∀x∈q,x.isCell=J
def ahn.whole {v z:S.den} (h0:i=0) (q:m=S.size) (A:iY H H' y.cs ((bQ S z).map .f)):ahn H H' y S v z i m:=by
 subst h0 q;exact⟨bQ S z,A,bA S z,M,(aa0 _ _ (by rw[bA,bA])).symm,pT S z⟩
def zL (d:vF H H') (hy:dg h u=Z y):∀(n:Nat) (T:Ty) (v:T.den) (off sz:Nat) (z:T.den) (m:Nat),iR h u n T v off sz=Z (z,m)->Jd h H H' m->ahn H H' y T v z off sz
 |0,_,_,_,_,_,_,A,_=>by simp[iR]at A
 |n+1,.st t,v,off,sz,z,m,A,g=>by
  simp only[iR]at A;split at A;rename_i q hq;let⟨I,hq⟩:=dO hq;simp only[ar]at I;cases A;exact .whole (au I.1) (au I.2) (V6 d hq hy g).2;exact zL d hy n t v off sz z m A g
 |n+1,.pr a b,v,off,sz,z,m,A,g=>by
  simp only[iR]at A;have hla:=bA a v.1;split at A;rename_i hlt;split at A;rename_i z1 m1 h1;simp only[al,aT]at A;obtain⟨rfl,rfl⟩:=A;let⟨fs,q1,q2,q3,q4,q5⟩:=zL d hy n a v.1 off sz z1 m1 h1 g;refine ⟨fs,q1,q2,by simp only[Ty.size];omega,?_,q5⟩;rw[bQ,bQ,WF _ _ _ _ M,q4];cases A;rename_i hlt;have hlt:¬off<a.size:=λh=>hlt (bj h)
  split at A;rename_i z1 m1 h1;simp only[al,aT]at A;obtain⟨rfl,rfl⟩:=A;let⟨fs,q1,q2,q3,q4,q5⟩:=zL d hy n b v.2 (off-a.size) sz z1 m1 h1 g;refine ⟨fs,q1,q2,by simp only[Ty.size];omega,?_,q5⟩;rw[bQ,bQ,Ur _ _ _ _ M,q4,hla];cases A
 |n+1,.un,v,off,sz,z,m,A,g=>by simp[iR]at A
 |n+1,.ex,v,off,sz,z,m,A,g=>by
  simp only[iR]at A;split at A;rename_i q hq;split at hq;rename_i I;simp only[ar]at I;cases A;exact .whole (au I.1) (au I.2) (V6 d hq hy g).2;cases hq;split at A;rename_i z1 m1 h1;simp only[al,aT]at A;obtain⟨rfl,rfl⟩:=A;let⟨fs,q1,q2,q3,q4,q5⟩:=zL d hy n Td (Uk v) off sz z1 m1 h1 g;exact⟨fs,q1,q2,q3,by rw[bQ,bQ,Ys,q4,O1],q5⟩;cases A
 |n+1,.sm,v,off,sz,z,m,A,g=>by
  simp only[iR]at A;split at A;rename_i q hq;split at hq;rename_i I;simp only[ar]at I;simp only[al]at A;subst A;exact .whole (au I.1) (au I.2) (V6 d hq hy g).2;cases hq;split at A;rename_i z1 m1 h1;simp only[al,aT]at A;obtain⟨rfl,rfl⟩:=A;let⟨fs,q1,q2,q3,q4,q5⟩:=zL d hy n So (Uj v) off sz z1 m1 h1 g;exact⟨fs,q1,q2,q3,by rw[bQ,bQ,Yr,q4,O0],q5⟩;cases A
 |n+1,.int k,v,off,sz,z,m,A,g=>by
  simp only[iR]at A;let⟨I,A⟩:=dO A;simp only[ar]at I;exact .whole (au I.1) (au I.2) (BI d A hy g).2.2.2
 |n+1,.bool,v,off,sz,z,m,A,g|n+1,.str,v,off,sz,z,m,A,g|n+1,.sl t,v,off,sz,z,m,A,g=>by
  simp only[iR]at A;split at A;rename_i I;simp only[ar]at I;exact .whole (au I.1) (au I.2) (BI d A hy g).2.2.2;cases A
def IU:∀{a b:ξ},TW a b=J->a=b
 |[],[],_=>rfl
 |[],_::_,h|_::_,[],h=>by cases h
 |x::xs,y::ys,h=>by
  simp[TW,ar]at h;rw[au7 h.1,IU h.2]
def zero_ok (d:vF H H'):∀T:Ty,iY H H' ((vX T).map raw) ((bQ T T.zero).map .f)
 |.int k|.bool|.str=>⟨l7.refl d _,trivial⟩
 |.sl t=>⟨Le.nil.toH d,trivial⟩
 |.st t=>zero_ok d t
 |.pr a b=>by
  simp[vX,Ty.zero,bQ,b_];exact (zero_ok d a).append (zero_ok d b)
 |.un=>trivial
 |.ex=>⟨l7.refl d _,l7.refl d _,l7.refl d _,Le.nil.toH d,trivial⟩
 |.sm=>⟨l7.refl d _,l7.refl d _,l7.refl d _,l7.refl d _,Le.nil.toH d,l7.refl d _,l7.refl d _,l7.refl d _,Le.nil.toH d,Le.nil.toH d,Le.nil.toH d,trivial⟩
def MQ (d:vF H H') (T:Ty):∀n,iY H H' ((repl (vX T) n).map .f) (((aA n T.zero).flatMap (bQ T)).map .f)
 |0=>trivial
 |n+1=>by
  rw[repl,nV,fK,b_,b_];have h1:=zero_ok (H:=H) (H':=H') d T;have:((vX T).map .raw).map AV.f=(vX T).map raw:=by rw[ya];rfl
  rw[this];exact h1.append (MQ d T n)
end pack
structure kR (h:ba) (nx:Nat):Prop where
 G:∀id ty l,h.get id=Z (.G ty l)->mo h l=J
 low:∀id b,h.get id=Z b->id<nx
def tZ (e:iW) (h:ba):Prop:=∀t v,e.get t=Z v->SD h v=J
structure iy (P:Program) (o:Oper) (still:Bool) (e:iW) (h:ba) (nx:Nat) (v:TV) (rd wr:Nat) (h':ba) (nx':Nat):Prop where
 ex:∃f:BQ,im P o (gV e h) (erHF h) f/\(∀y,dg h' v=Z y->f.val=y)/\eD (erHF h) f.wr f.nw=erHF h'/\(∀n∈f.rd,aF rd (ow n)=J)/\(∀n∈f.wr,aF wr (ow n)=J)/\(∀n∈f.N,nx<=ow n/\ow n<nx')
 H:cz h h'
 inv:kR h' nx'
 jw:nx<=nx'
 st:still=J->rd=0/\wr=0
def k_ (P:Program) (o:Oper) (still:Bool) (e:iW) (h:ba) (nx:Nat) (K:KO R) (r:R):Prop:=
 ∃v rd q h' nx',K v rd q h' nx'=Z r/\iy P o still e h nx v rd q h' nx'
variable {b:Bool}
def c8 {k:b=J->aj R} {r:R} (h:chk b k=Z r):∃q:b=J,k q=Z r:=by
 cases b with
 |true=>exact⟨rfl,h⟩
 |false=>cases h
def pq {t f:aj R} {r:R} (h:aK b t f=Z r):(b=J/\t=Z r)\/(b=af/\f=Z r):=by
 cases b with
 |true=>exact .inl ⟨rfl,h⟩
 |false=>exact .inr ⟨rfl,h⟩
def em {α:Type} {o:aj α} {k:α->aj R} {r:R} (h:aw o k=Z r):∃x,o=Z x/\k x=Z r:=by
 cases o with
 |some x=>exact⟨x,rfl,h⟩
 |none=>cases h
variable {a:Int}
def vM (h:fO a i=J):0<=a/\a<i/\a.toNat<i:=by
 simp[fO,cN,hY,ar,bl]at h;omega
def im.envLe {e e2:EF} {f:BQ} (ht:im P d e N f) (hle:∀t y,.tmp t∈d.op.operands->e t=Z y->∃A,e2 t=Z A/\Le A y):im P d e2 N f:=by
 intro φ E h' w a h1 h2 h3 h4 h5;refine ht φ E h' w a h1 h2 (λt q y I=>?_) h4 h5;let⟨A,g1,g2⟩:=hle t y q I;exact g2 _ _ _ _ (h3 t q A g1)
def PL (h:ba) (q:cst v=Z u):dg h u=Z (raw v)/\v.oneCell'=J/\u.isC=J:=by
 unfold cst at q;split at q<;>cases q<;>exact⟨rfl,rfl,rfl⟩
def yF (h:ba):∀{z:ξ} {l:Y TV},Ry z=Z l->dx h l=Z (z.map raw)/\(∀x∈z,x.oneCell'=J)/\mi l=J
 |[],l,q=>by cases q;exact⟨rfl,b8,rfl⟩
 |v::r,l,q=>by
  simp[Ry]at q;split at q;rename_i x l' A I;cases q;let⟨h1,h2,h3⟩:=PL h A;let⟨h4,h5,h6⟩:=yF h I;refine ⟨rq h1 h4,λy hy=>?_,by simp[mi,h3,h6]⟩
  grind
  cases q
variable {s:Operand}
def bD {e:iW} (hi:tZ e h) (q:fc e s=Z u):∃y,mN (GZ e h) s=Z y/\dg h u=Z y:=by
 cases s with
 |tmp t=>
  simp[fc]at q;let⟨y,I⟩:=rE h u (hi t u q);refine ⟨y,?_,I⟩;simp[mN];rw[EE];simp[gV,q,aH,I]
 |const c=>
  simp[fc]at q;unfold az5 at q;split at q;rename_i vs;let⟨h1,q⟩:=dO q;split at q;rename_i l hl;cases q;refine ⟨.agg (vs.toList.map raw),?_,by simp[dg,(yF h hl).1]⟩;simp only[mN,Ki,h1,bC];rfl;cases q;rename_i hn;refine ⟨raw c,?_,(PL h q).1⟩;simp[mN];unfold Ki;split
  grind
  rfl
 |func g=>
  cases q;exact⟨_,rfl,rfl⟩
 |global g=>
  simp[fc]at q;cases A:G g with
  |none=>rw[A]at q;cases q
  |some cells=>
   rw[A]at q;cases q;have hcells:cells=HH:=by
    unfold G at A
    grind
   subst hcells;exact⟨_,by simp[mN,A];rfl,rfl⟩
def Hw {e:iW} (hi:tZ e h):∀{xs:Y Operand} {l:Y TV},Sy e xs=Z l->∃A,evs (GZ e h) xs=Z A/\dx h l=Z A
 |[],l,q=>by cases q;exact⟨[],rfl,rfl⟩
 |x::xs,l,q=>by
  simp[Sy]at q;split at q;rename_i y hy;split at q;rename_i ys hys;cases q;let⟨I,h1,h2⟩:=bD hi hy;let⟨A,h3,h4⟩:=Hw hi hys;exact⟨I::A,by simp[evs,h1,h3],rq h2 h4⟩;cases q;cases q
section ops
variable {R:Type} {P:Program} {o:Oper} {e:iW} {h:ba} {nx:Nat} {K:KO R} {r:R}
def iy.pure {s:T5} (hinv:kR h nx) (hc:cY P o.op=Z s) {a:iN} (hH:a.get=erHF h) {k:Nat} {y0:AV} {rdl:ι} (ha:eE s (GZ e h) a k=Z ⟨y0,rdl,[],[],[]⟩) (I:∀y,dg h u=Z y->Le y0 y) (hrd:∀n∈rdl,aF i (ow n)=J) (hst:b=J->i=0):iy P o b e h nx u i 0 h nx:=by
 have ht:=Hx hc ha;rw[EE,hH]at ht;refine ⟨?_,λ_ _ h=>h,hinv,bg _,λhs=>⟨hst hs,rfl⟩⟩;have key:∀y,Le y0 y->im P o (gV e h) (erHF h) ⟨y,rdl,[],jZ [],[]⟩:=λy hle=>
  im.view ht (λrd hi=>by cases hi) λh' _ _=>⟨Qp.refl _,hle.toH (vF.refl _)⟩
 cases A:dg h u with
 |none=>exact⟨_,ht,λy q=>by simp at q,by simp[Cp.eff,uU],hrd,by simp[Cp.eff],by simp[Cp.eff]⟩
 |some y=>exact⟨_,key y (I y A),λy' q=>by simpa using q,by simp[uU],hrd,b8,b8⟩
def k_.q {s:T5} (hinv:kR h nx) (hc:cY P o.op=Z s) {k:Nat} {y0:AV} (ha:∀H:iN,H.get=erHF h->eE s (GZ e h) H k=rv y0) (I:∀y,dg h u=Z y->Le y0 y) (hk:K u 0 0 h nx=Z r):k_ P o b e h nx K r:=by
 let⟨H,A⟩:=jW h;exact⟨u,0,0,h,nx,hk,iy.pure hinv hc A (ha H A) I b8 λ_=>rfl⟩
def dk (A:dg h u=Z y):∀y0,dg h u=Z y0->Le y y0:=λy0 q=>by rw[A]at q;cases q;exact Le.refl _
def als {xs:Y S.den} (hj:fO a (l! xs)=J) (hg:su 40 S (aE _ xs a) i m b=Z u):
 ∃y,dg h u=Z (.f y)/\(BC.fz (xs.flatMap (bQ S))).sub? (a.toNat*S.size+i) m b=Z (.f y):=by
 let⟨h1,y,h2,h3,h4⟩:=Af h 40 S _ i m b u hg;refine ⟨y,h2,?_⟩;let⟨_,_,hlt⟩:=vM hj;have hx:xs[a.toNat]? =Z (aE _ xs a):=by
  unfold aE;rw[aC,aI hlt];rfl
 let⟨q,I⟩:=J4 (bA S) xs a.toNat _ hx;have hlen:=fe (bA S) xs;have hle:(a.toNat+1)*S.size<=l! xs*S.size:=cD _ hlt;rw[lD]at hle;have hl:=bA S (aE _ xs a);cases b with
 |false=>
  let⟨h5,h6⟩:=h3 rfl;subst h5;simp only[BC.sub?,BC.get];have:(xs.flatMap (bQ S))[a.toNat*S.size+i]? =Z y:=by
   rw[<- kH,I,cZ M];exact h6
  rw[this];rfl
 |true=>
  simp only[BC.sub?];rw[aD (bj M),h4 rfl,<-List.drop_drop,I,List.drop_append_of_le_length M,I8 cf]
def aw1 {l:Y TV} (I:dx h l=Z C) (q:alr l i m b=Z u):∃y,dg h u=Z y/\(BC.mx C).sub? i m b=Z y:=by
 cases b with
 |false=>
  simp only[alr]at q;let⟨h1,q⟩:=dO q;have h1:=au h1;subst h1;let⟨y,h2,h3⟩:=nO I i u q;exact⟨y,h3,by simp[BC.sub?,BC.get,h2]⟩
 |true=>
  simp only[alr]at q;let⟨h1,q⟩:=dO q;cases q;have h2:=J8 m (J_ i I);exact⟨.agg ((C.drop i).take m),by simp[dg,h2],by simp[BC.sub?,kW I,h1,bC]⟩
def Xq (A:lenOf h u=Z i) (I:dg h u=Z y):y.slen=Z i:=by
 unfold lenOf at A;split at A;cases A;cases I;rfl;cases A;cases I;rfl;cases A;cases I;rfl;rename_i id;simp[dg]at I;cases hr:e_ h id with
 |none=>rw[hr]at A;cases A
 |some q=>
  rw[hr]at A I;simp[al]at A I;subst A I;unfold eM;split;rename_i hp;simp[ar,dz]at hp;rw[hp.2];rfl;rfl
 cases A;cases I;rfl;cases A;cases I;simp only[erS,wY];split;rename_i hp;rw[dz]at hp;rw[hp];rfl;rfl;cases A
def IQ (a b:ζ):uS ⟨a.toArray⟩ ⟨b.toArray⟩=decide (a=b):=by
 unfold uS
 grind
def au6 {op:BinOp} {v:TV} {q:TV->aj R} (hk:azd op u v q=Z r):∃a b c t,dg h u=Z (raw a)/\dg h v=Z (raw b)/\xX op a b=Z c/\dg h t=Z (raw c)/\q t=Z r:=by
 unfold azd at hk;split at hk;rename_i k a I b;let⟨hkk,hk⟩:=dO hk;have hkk':k=I:=cf;subst hkk';refine ⟨.int k a,.int k b,?_⟩;cases op<;>simp[reduceCtorEq]at hk<;>first
  |cases hk
  |exact⟨_,_,rfl,rfl,(by simp[xX,dA,bC]<;>rfl),rfl,hk⟩
  |(let⟨hb,hk⟩:=c8 hk
    have A:(b==(0:Int))=af:=cf;exact⟨_,_,rfl,rfl,by simp[xX,dA,bC,A,cE,dQ],rfl,hk⟩)
 rename_i a b;refine ⟨.string ⟨kw a⟩,.string ⟨kw b⟩,?_⟩;split at hk;exact⟨.bool (decide ((a:ζ)=b)),_,rfl,rfl,by simp[xX,IQ],rfl,hk⟩;exact⟨.bool (!decide ((a:ζ)=b)),_,rfl,rfl,by simp[xX,IQ],rfl,hk⟩;cases hk;cases hk
def ahg :∀{l:Y TV} {xs:Y S.den},Aw S l=Z xs->∀k,k<l! l->l[k]? =Z (.f S (xs.getD k S.zero))
 |[],xs,_,k,hk=>by simp at hk
 |.f T v::r,xs,q,k,hk=>by
  simp[Aw]at q;split at q;rename_i x A;split at q;rename_i l hl;cases q;let⟨es,ex⟩:=iV A;cases es;subst ex;cases k with
  |zero=>rfl
  |succ k=>simpa using ahg hl k cf
  cases q;cases q
 |.zm _ _ _ _ _::r,xs,q,k,hk|.ql _ _ _ _::r,xs,q,k,hk|.K _ _::r,xs,q,k,hk|.qp _ _ _::r,xs,q,k,hk|.I _::r,xs,q,k,hk|.emp::r,xs,q,k,hk|.nil::r,xs,q,k,hk|.mp _::r,xs,q,k,hk|.agg _::r,xs,q,k,hk|.qd _::r,xs,q,k,hk|.qy _ _::r,xs,q,k,hk|.undef::r,xs,q,k,hk|.np::r,xs,q,k,hk|.qj::r,xs,q,k,hk|.qn _ _::r,xs,q,k,hk|.sb _::r,xs,q,k,hk=>by simp[Aw]at q
def ahf {l:Y TV} {xs:Y S.den} (q:apl l=Z ⟨S,xs⟩):∀k,k<l! l->l[k]? =Z (.f S (xs.getD k S.zero)):=by
 unfold apl at q;split at q;split at q;rename_i I A;cases q;exact ahg A;cases q;cases q
variable (hinv:kR h nx) (hi:tZ e h)
include hinv hi
variable {X:FuncId->aj cu} {V:TypeId->aj Ty}
def K_mv (I:cY P o.op=Z (.mv s)) (hk:fh X V (.op (.mv s)) e h nx K=Z r):k_ P o b e h nx K r:=by
 simp[fh]at hk;split at hk;rename_i v A;let⟨y,h1,h2⟩:=bD hi A;exact k_.q (k:=0) hinv I (λH _=>by simp[eE,h1]) (dk h2) hk;cases hk
def aBf {a st:Operand} (hc:cY P o.op=Z (.pick s a st)) (hk:fh X V (.op (.pick s a st)) e h nx K=Z r):k_ P o b e h nx K r:=by
 simp[fh]at hk;split at hk;rename_i t hv;let⟨y,h1,h2⟩:=bD hi hv;cases h2;rcases pq hk with ⟨rfl,A⟩|⟨rfl,A⟩;split at A;rename_i v I;let⟨y2,h3,h4⟩:=bD hi I;exact k_.q (k:=0) hinv hc (λH _=>by simp[eE,h1,iu,bC,h3]) (dk h4) A;cases A;split at A;rename_i v I;let⟨y2,h3,h4⟩:=bD hi I;exact k_.q (k:=0) hinv hc (λH _=>by simp[eE,h1,iu,h3,cE,dQ]) (dk h4) A;cases A;cases hk
def aBg (hc:cY P o.op=Z (.jz s)) (hk:fh X V (.op (.jz s)) e h nx K=Z r):k_ P o b e h nx K r:=by
 simp[fh]at hk;split at hk;all_goals first
  |(rename_i I
    let⟨y,h1,h2⟩:=bD hi I;have A:=h2;cases h2;exact k_.q (k:=0) hinv hc (λH _=>by simp[eE,h1]) (dk A) hk)
  |skip
 rename_i g cap I;let⟨y,h1,h2⟩:=bD hi I;have A:=h2;simp[dg]at h2;split at h2;cases h2;exact k_.q (k:=0) hinv hc (λH _=>by simp[eE,h1]) (dk A) hk;cases h2;cases hk
def aF6 (I:cY P o.op=Z (.not s)) (hk:fh X V (.op (.not s)) e h nx K=Z r):k_ P o b e h nx K r:=by
 simp[fh]at hk;split at hk;rename_i st A;let⟨y,h1,h2⟩:=bD hi A;cases h2;exact k_.q (k:=0) hinv I (λH _=>by simp[eE,h1,iu];rfl) (dk rfl) hk;cases hk
def aBm {k:IntKind} (I:cY P o.op=Z (.conv k s)) (hk:fh X V (.op (.conv k s)) e h nx K=Z r):k_ P o b e h nx K r:=by
 simp[fh]at hk;split at hk;rename_i k' n A;let⟨y,h1,h2⟩:=bD hi A;cases h2;exact k_.q (k:=0) hinv I (λH _=>by simp[eE,h1,iu];rfl) (dk rfl) hk;cases hk
def aFj {y:Operand} {st:Bool} (hc:cY P o.op=Z (.jr b s y)) (hk:fh X V (.op (.jr b s y)) e h nx K=Z r):k_ P o st e h nx K r:=by
 simp[fh]at hk;split at hk;rename_i a neg hv A;let⟨y,h1,h2⟩:=bD hi hv;let⟨y2,h3,I⟩:=bD hi A;simp[dg,al]at h2 I;subst h2 I;exact k_.q (k:=0) hinv hc (λH _=>by simp[eE,h1,h3,iu];rfl) (dk rfl) hk;cases hk
def avj {st:Bool} (hc:cY P o.op=Z (.zt b s)) (hk:fh X V (.op (.zt b s)) e h nx K=Z r):k_ P o st e h nx K r:=by
 simp[fh]at hk;split at hk;rename_i A;let⟨y,h1,h2⟩:=bD hi A;cases h2;exact k_.q (k:=0) hinv hc (λH _=>by simp[eE,h1,Ez,bC];rfl) (dk rfl) hk;rename_i A;let⟨y,h1,h2⟩:=bD hi A;simp[dg,al]at h2;subst h2;exact k_.q (k:=0) hinv hc (λH _=>by simp[eE,h1]) (dk rfl) hk;rename_i T xs A;let⟨y,h1,h2⟩:=bD hi A;cases h2;rcases pq hk with ⟨h3,I⟩|⟨h3,I⟩;have h3:=au h3;exact k_.q (k:=0) (y0:=.qj) hinv hc (λH _=>by simp[eE,h1,iu,h3]) (dk rfl) I;have h3:=gw h3;let⟨n,hn⟩:=Nat.exists_eq_succ_of_ne_zero h3;exact k_.q (k:=0) (y0:=raw (.bool b)) hinv hc (λH _=>by simp[eE,h1,iu,hn]) (dk rfl) I;rename_i id A;split at hk;rename_i ty T xs hb;let⟨y,h1,h2⟩:=bD hi A;simp[dg,e_,hb,eM,tU,cE,dQ,al]at h2;subst h2;exact k_.q (k:=0) (y0:=raw (.bool b)) hinv hc (λH _=>by simp[eE,h1]) (dk rfl) hk;cases hk;cases hk
def aFb {y:Operand} (hc:cY P o.op=Z (.max s y)) (hk:fh X V (.op (.max s y)) e h nx K=Z r):k_ P o b e h nx K r:=by
 simp[fh]at hk;split at hk;rename_i k a k' st hv A;let⟨y,h1,h2⟩:=bD hi hv;let⟨y2,h3,I⟩:=bD hi A;simp[dg,al]at h2 I;subst h2 I;split at hk;exact k_.q (k:=0) hinv hc (λH _=>by simp[eE,h1,h3,iu];rfl) (dk rfl) hk;cases hk;cases hk
def aFa {y:Operand} (hc:cY P o.op=Z (.min s y)) (hk:fh X V (.op (.min s y)) e h nx K=Z r):k_ P o b e h nx K r:=by
 simp[fh]at hk;split at hk;rename_i k a k' st hv A;let⟨y,h1,h2⟩:=bD hi hv;let⟨y2,h3,I⟩:=bD hi A;simp[dg,al]at h2 I;subst h2 I;split at hk;exact k_.q (k:=0) hinv hc (λH _=>by simp[eE,h1,h3,iu];rfl) (dk rfl) hk;cases hk;cases hk
def aFg (I:cY P o.op=Z (.jb i s)) (hk:fh X V (.op (.jb i s)) e h nx K=Z r):k_ P o b e h nx K r:=by
 simp[fh]at hk;split at hk;all_goals first
  |(rename_i A
    let⟨y,h1,h2⟩:=bD hi A;cases h2;exact k_.q (k:=0) hinv I (λH _=>by simp[eE,h1,mw]) (dk rfl) hk)
  |cases hk
def aFe {n:Operand} {st:Bool} (hc:cY P o.op=Z (.idx i m b s n)) (hk:fh X V (.op (.idx i m b s n)) e h nx K=Z r):k_ P o st e h nx K r:=by
 simp[fh]at hk;split at hk
 .rename_i v0 k j hv hv2;split at hk
  .rename_i T xs hA;let⟨hb,hk⟩:=c8 hk;cases b with
   |true=>cases hA
   |false=>
   simp only[aD3]at hA;split at hA
   .rename_i hsz;simp only[ar,dj]at hsz;have hsz1:=au hsz.1;subst hsz1;split at hA
    .rename_i l hl;let⟨hn,hA⟩:=dO hA;have hn:=au hn;let⟨y,h1,h2⟩:=bD hi hv;let⟨y2,h5,h6⟩:=bD hi hv2;cases h6;have hj:j.toNat<l! l:=by
      simp[ar,cN,hY,bl]at hb;omega
     have hg:=ahf hA j.toNat hj;let⟨he,_⟩:=TJ hl h2;let⟨z,A,I⟩:=nO he j.toNat _ hg;refine k_.q (k:=0) hinv hc (λH _=>?_) (dk I) hk;cases v0 with
     |agg q=>
      simp[dg]at h2;split at h2
      next l' _=>cases h2;have A:l'[j.toNat]? =Z z:=A;simp[eE,h1,h5,iu,hb,bC,BC.sub?,BC.get,I7,A]
      .cases h2
     |f S u=>
      have ho:S.one=af:=by
       have:=hsz.2;simpa[TV.isC] using this
      simp[dg,al]at h2;rw[xG S u ho]at h2;subst h2;have A:((bQ S u).map AV.f)[j.toNat]? =Z z:=A;rw[bH]at A;simp[eE,h1,h5,iu,hb,bC,BC.sub?,BC.get,I7,A]
     |_=>simp[TV.cs,TV.isC]at hl hsz
    .cases hA
   .cases hA
  .cases hk
 .cases hk
def aBk {n:Operand} (hc:cY P o.op=Z (.jk i m s n)) (hk:fh X V (.op (.jk i m s n)) e h nx K=Z r):k_ P o b e h nx K r:=by
 simp[fh]at hk;split at hk;rename_i id off k j hv A;let⟨y,h1,h2⟩:=bD hi hv;let⟨y2,h5,I⟩:=bD hi A;simp[dg,al]at I h2;subst I h2;have pel:(chk (cN 0 j&&hY j i) λ_=>K (.ql id m j off) 0 0 h nx)=Z r->k_ P o b e h nx K r:=λhk=>by
  let⟨hb,hk⟩:=c8 hk;exact k_.q (k:=0) (y0:=.K (nm id) (off+j.toNat*m)) hinv hc (λH _=>by simp[eE,h1,h5,iu,hb,bC]) (dk (by simp[dg];rw[Nat.add_comm])) hk
 split at hk;exact pel hk;split at hk;exact pel hk;cases hk;cases hk
def aF3 {lo:Operand} (hc:cY P o.op=Z (.sla i m s lo)) (hk:fh X V (.op (.sla i m s lo)) e h nx K=Z r):k_ P o b e h nx K r:=by
 simp only[fh]at hk;split at hk;rename_i id off k j hv A;split at hk;rename_i ty p T xs hb;split at hk;rename_i hs;simp only[ar]at hs;have hs1:=au hs.1;have I:=au hs.2;subst hs1 I;let⟨y,h1,h2⟩:=bD hi hv;let⟨y2,h5,h6⟩:=bD hi A;simp[dg,al]at h6 h2;subst h6 h2;let⟨hj,hk⟩:=c8 hk;simp only[ar]at hj;have hn:=au hj.2.2;exact k_.q (k:=0) (y0:=.sl (nm id) (0+j.toNat*T.size) (i-j.toNat)) hinv hc (λH _=>by simp[eE,h1,h5,iu,hj.1,hj.2.1]) (dk (by simp[dg,e_,hb,hn])) hk;cases hk;cases hk;cases hk
def aFh (hc:cY P o.op=Z (.ext s i)) (hk:fh X V (.op (.ext s i)) e h nx K=Z r):k_ P o b e h nx K r:=by
 simp[fh]at hk;split at hk;rename_i l A;split at hk;rename_i u I;let⟨y,h1,h2⟩:=bD hi A;simp[dg]at h2;split at h2;rename_i l' hl;cases h2;let⟨y,h3,h4⟩:=nO hl i u I;exact k_.q (k:=0) hinv hc (λH _=>by simp[eE,h1,h3]) (dk h4) hk;cases h2;cases hk;cases hk
def aFd (hc:cY P o.op=Z (.len s)) (hk:fh X V (.op (.len s)) e h nx K=Z r):k_ P o b e h nx K r:=by
 simp[fh]at hk;split at hk;rename_i v A;split at hk;rename_i n I;let⟨y,h1,h2⟩:=bD hi A;have h3:=Xq I h2;exact k_.q (k:=0) hinv hc (λH _=>by simp[eE,h1,h3];rfl) (dk rfl) hk;cases hk;cases hk
def aBj (I:cY P o.op=Z (.lens s)) (hk:fh X V (.op (.lens s)) e h nx K=Z r):k_ P o b e h nx K r:=by
 simp[fh]at hk;split at hk;rename_i x A;let⟨y,h1,h2⟩:=bD hi A;cases h2;exact k_.q (k:=0) hinv I (λH _=>by simp[eE,h1,iu];rfl) (dk rfl) hk;cases hk
def aBe {i:Operand} (hc:cY P o.op=Z (.jv s i)) (hk:fh X V (.op (.jv s i)) e h nx K=Z r):k_ P o b e h nx K r:=by
 simp[fh]at hk;split at hk;rename_i x k j hv A;let⟨hj,hk⟩:=c8 hk;let⟨y,h1,h2⟩:=bD hi hv;let⟨y2,h3,I⟩:=bD hi A;simp[dg,al]at h2 I;subst h2 I;let⟨j0,j1,j2⟩:=vM hj;have e1:cN 0 j=J:=by simp[cN,j0]
 have e2:(⟨kw x⟩:ByteArray).data.toList[j.toNat]? =Z (List.getD x j.toNat 0):=cf;exact k_.q (k:=0) (y0:=raw (.int .u8 (aZ (List.getD x j.toNat 0).toNat))) hinv hc (λH _=>by simp only[eE,h1,h3,iu,e1,bC,e2];rfl) (dk rfl) hk;cases hk
def aFf {sz:Operand} (hc:cY P o.op=Z (.jf i s sz)) (hk:fh X V (.op (.jf i s sz)) e h nx K=Z r):k_ P o b e h nx K r:=by
 simp only[fh]at hk;split at hk;rename_i id k j hv A;split at hk;rename_i ty p T xs hb;let⟨I,hk⟩:=dO hk;have I:=au I;let⟨hj,hk⟩:=c8 hk;let⟨y,h1,h2⟩:=bD hi hv;let⟨y2,h3,h4⟩:=bD hi A;cases h4;let⟨j0,j1,j2⟩:=vM hj;have hne:¬((p&&l! xs==0)=J):=cf;simp only[dg,e_,hb,eM,av hne,al]at h2;subst h2;have hc1:(T.size==i&&cN 0 j&&hY j (l! xs))=J:=by
  simp[fO,ar]at hj;simp[I,hj.1,hj.2]
 exact k_.q (k:=0) hinv hc (λH _=>by simp[eE,h1,h3,iu,hc1,bC,dR]) (dk rfl) hk;cases hk;rename_i T xs k j hv A;let⟨I,hk⟩:=dO hk;have I:=au I;let⟨hj,hk⟩:=c8 hk;let⟨y,h1,h2⟩:=bD hi hv;let⟨y2,h3,h4⟩:=bD hi A;simp[dg,al]at h4 h2;subst h4 h2;have hj':(cN 0 j&&hY j (ah xs))=J:=hj;exact k_.q (k:=0) hinv hc (λH _=>by simp[eE,h1,h3,iu,hj',bC,dR,I]) (dk rfl) hk;rename_i id sz' n k j hv A;let⟨I,hk⟩:=dO hk;have I:=au I;subst I;let⟨hj,hk⟩:=c8 hk;let⟨y,h1,h2⟩:=bD hi hv;let⟨y2,h3,h4⟩:=bD hi A;simp[dg,al]at h4 h2;subst h4 h2;have hj':(sz'==sz'&&cN 0 j&&hY j n)=J:=cf;exact k_.q (k:=0) hinv hc (λH _=>by simp only[eE,h1,h3,iu,hj',bC]) (dk rfl) hk;cases hk
def aF9 {caps:Y Operand} (hc:cY P o.op=Z (.mkf f caps)) (hk:fh X V (.op (.mkf f caps)) e h nx K=Z r):k_ P o b e h nx K r:=by
 simp[fh]at hk;split at hk;rename_i l I;let⟨A,h1,h2⟩:=Hw hi I;exact k_.q (k:=0) hinv hc (y0:=.qy f A) (λH _=>by simp[eE,h1]) (dk (by simp[dg,h2])) hk;cases hk
def aFn {op:BinOp} {y:Operand} (hc:cY P o.op=Z (.bin op s y)) (hk:fh X V (.op (.bin op s y)) e h nx K=Z r):k_ P o b e h nx K r:=by
 simp[fh]at hk;split at hk;rename_i u v hv A;let⟨a,st,c,t,h1,h2,h3,h4,h5⟩:=au6 (h:=h) hk;let⟨y,g1,g2⟩:=bD hi hv;let⟨y2,g3,I⟩:=bD hi A;rw[h1]at g2;cases g2;rw[h2]at I;cases I;simp[raw]at g1 g3;exact k_.q (k:=0) hinv hc (λH _=>by simp[eE,g1,g3,h3]) (dk h4) h5;cases hk
end ops
def lj:gi->aj (Bool×n!)
 |.H _ p T xs=>Z (p,T.size,l! xs)
 |.qw p sz n=>Z (p,sz,n)
 |.qf F _ x|.zj F _ x _ _=>DA F x
 |_=>U
def bS (h:ba) (i:Nat):e_ h i=(h.get i).bind lj:=by
 unfold e_;cases h.get i with
 |none=>rfl
 |some b=>cases b<;>rfl
def cz.refl (h:ba):cz h h:=λ_ _ h=>h
def cz.trans {b c:ba} (h1:cz h b) (h2:cz b c):cz h c:=λi r a=>h2 i r (h1 i r a)
def cz.set {b:gi} (q:∀r,e_ h i=Z r->lj b=Z r):cz h (h.set i (Z b)):=λj r hj=>by
 rw[bS,PT.get_set];by_cases e:j=i
 grind
 rw[av e,<-bS];exact hj
def Ss {b:gi} {r:Bool×n!} (h:lj b=Z r):lj (vZ b)=Z r:=by
 cases b with
 |qf F a x|zj F a x k p=>simp[lj]at h;simp[vZ,h,lj]
 |_=>first|exact h|cases h
def De {b:gi} {ty:aj TypeId} (h:vZ b= .G ty r):False:=by
 cases b<;>simp[vZ]at h<;>first|cases h|(split at h<;>cases h)
def N7 (b:gi):∃p s n,vZ b= .qw p s n:=by
 cases b with
 |qf F a x|zj F a x k p=>simp only[vZ];split<;>exact⟨_,_,_,rfl⟩
 |_=>exact⟨_,_,_,rfl⟩
def aoh {b:gi} (q:Te h i m (vZ b)=Z z):False:=by
 let⟨p,s,n,e⟩:=N7 b;rw[e]at q;cases m<;>cases q
def jU (m:Nat) (h:ba) (i:Nat):(eP m h).get i=if aF m i then (h.get i).map vZ else h.get i:=by
 unfold eP;split;simp_all;rw[PT.get_updI];simp[Nat.one_mul,dR];cases h.get i with
 |none=>simp
 |some b=>simp[cj];split<;>rfl
def cz.kill (m:Nat) (h:ba):cz h (eP m h):=λi r q=>by
 rw[bS]at q ⊢;rw[jU];split;cases A:h.get i with
 |none=>rw[A]at q;cases q
 |some b=>rw[A]at q;exact Ss q
 exact q
def kR.set {nx':Nat} {b:gi} (hi:kR h m) (q:cz h (h.set i (Z b))) (hlt:i<nx') (hle:m<=nx') (A:∀ty l,b= .G ty l->mo (h.set i (Z b)) l=J):kR (h.set i (Z b)) nx':=by
 refine ⟨λj ty l hj=>?_,λj c hj=>?_⟩;rw[PT.get_set]at hj;split at hj
 grind
 exact io q l (hi.G j _ l hj);rw[PT.get_set]at hj;split at hj;omega;exact db (hi.low j c hj) hle
def kR.kill (hi:kR h i) (m:Nat):kR (eP m h) i:=by
 refine ⟨λj ty l hj=>?_,λj c hj=>?_⟩;rw[jU]at hj;refine io (cz.kill m h) l (hi.G j ty l ?_);split at hj;cases q:h.get j with
 |none=>rw[q]at hj;cases hj
 |some b=>rw[q]at hj;exact (De (gH hj)).elim
 exact hj;rw[jU]at hj;split at hj;cases q:h.get j with
 |none=>rw[q]at hj;cases hj
 |some b=>exact hi.low j b q
 exact hi.low j c hj
def Yn {h':ba} (I:cz h h') {b:gi} (hb:∀ty l,b= .G ty l->mo h l=J):mT h' b=mT h b:=by
 cases b with
 |G ty l=>
  let⟨A,q⟩:=gY h l (hb ty l rfl);cases ty<;>simp[mT,q,kB I l A q]
 |_=>rfl
def xF {h':ba} (q:cz h h') {b:gi} (A:∀ty l,b= .G ty l->mo h l=J) (i:Nat):∀k,Te h' i k b=Te h i k b
 |0=>Yn q A
 |_+1=>rfl
def ajc {h':ba} (hi:kR h m) (q:cz h h') (A:h'.get i=h.get i):erHF h' (nm i)=erHF h (nm i):=by
 rw[ct,ct,A];cases I:h.get i with
 |none=>rfl
 |some b=>exact Yn q λty l e=>hi.G i _ l (by rw[I,e])
def jM (h h':ba):Prop:=∀i k,(h'.get i).bind (Bc i k)=(h.get i).bind (Bc i k)
def jM.refl (h:ba):jM h h:=λ_ _=>rfl
def jM.trans {b c:ba} (h1:jM h b) (h2:jM b c):jM h c:=λi k=>(h2 i k).trans (h1 i k)
def noM:aj gi->Bool
 |some (.qf _ _ _)=>af
 |some (.zj _ _ _ _ _)=>af
 |_=>J
def MT {c:aj gi} (q:noM c=J) (i k:Nat):c.bind (Bc i k)=U:=by
 cases c with
 |none=>rfl
 |some b=>cases b<;>first|rfl|cases q
def jM.set {b:aj gi} (h1:noM (h.get i)=J) (h2:noM b=J):jM h (h.set i b):=λj k=>by
 rw[PT.get_set];by_cases e:j=i;subst e;rw[aD rfl,MT h1,MT h2];rw[av e]
def jM.at_ {b:aj gi} (h1:∀k,b.bind (Bc i k)=(h.get i).bind (Bc i k)):jM h (h.set i b):=λj k=>by
 rw[PT.get_set]
 grind
def jM.of {h':ba} (q:∀i,h'.get i=h.get i\/(noM (h.get i)=J/\noM (h'.get i)=J)):jM h h':=λj k=>by
 rcases q j with e|⟨e1,e2⟩;rw[e];rw[MT e1,MT e2]
def jM.kill (hm:∀i,aF m i=J->∃ty p T xs,h.get i=Z (.H ty p T xs)):jM h (eP m h):=λj k=>by
 rw[jU];split;rename_i A;let⟨ty,p,T,xs,q⟩:=hm j A;rw[q];rfl;rfl
def nF {h':ba} (hi:kR h i) (A:cz h h') (hm:jM h h') (I:∀nx,m=nm nx->h'.get nx=h.get nx):erHF h' m=erHF h m:=by
 cases q:ix m with
 |zero=>rw[yP q];exact ajc hi A (I _ (yP q))
 |succ k=>
  have e:=my m;rw[q]at e;rw[<- e,qT,qT];exact hm _ k
def OZ {h':ba} (hme:jM h h') (I:erHF h' i=Z z):erHF h i=Z z\/∃q A,i=nm q/\h'.get q=Z A/\mT h' A=Z z:=by
 cases hk:ix i with
 |zero=>
  let⟨A,h1,h2⟩:=jA I;rw[hk]at h2;exact .inr ⟨ow i,A,yP hk,h1,h2⟩
 |succ k=>
  have e:=my i;rw[hk]at e;rw[<- e,qT]at I ⊢;exact .inl ((hme _ _).symm.trans I)
def KJ (m:Nat):ι:=(TU m).map nm
def pO :i∈KJ m↔∃n,i=nm n/\aF m n=J:=by
 unfold KJ;rw[cF];constructor;rintro⟨n,h1,rfl⟩;exact⟨n,rfl,mH.1 h1⟩;rintro⟨n,rfl,h1⟩;exact⟨n,mH.2 h1,rfl⟩
def ng :nm i∈KJ m↔aF m i=J:=by
 rw[pO];constructor;rintro⟨j,h1,h2⟩;rw[A_ h1];exact h2
 grind
def eh (h:ba) (m:Nat):Prop:=∀i,aF m i=J->∃ty p T xs,h.get i=Z (.H ty p T xs)
def eh.zero (h:ba):eh h 0:=λi hi=>by simp at hi
def eh.or (A:eh h i) (q:eh h m):eh h (i|||m):=λa hi=>by
 rw[bt,gm]at hi;exact hi.elim (A a) (q a)
def nR {v:TV} {x:S.den} (A:jD h S v=Z (x,m)):eh h m:=by
 cases v with
 |f T v|emp|nil=>
  simp[jD]at A;split at A;simp[al,aT]at A;rw[<- A.2];exact eh.zero h;cases A
 |I id=>
  simp[jD]at A;split at A;rename_i ty p T xs hb;split at A;simp[al,aT]at A;rw[<- A.2];intro i hi;have:=b7.1 hi
  grind
  cases A;cases A
 |_=>simp[jD]at A
def yg :∀(n:Nat) (T:Ty) (l:Y TV) (x:T.den) (m:Nat) (r:Y TV),gG h n T l=Z (x,m,r)->eh h m
 |0,_,_,_,_,_,hp=>by simp[gG]at hp
 |n+1,.st t,l,x,m,r,hp=>yg n t l x m r hp
 |n+1,.pr a b,l,x,m,r,hp=>by
  simp[gG]at hp;split at hp;rename_i x1 q r1 h1;split at hp;rename_i x2 m2 r2 h2;simp[al,aT]at hp;obtain⟨_,rfl,_⟩:=hp;exact (yg n a l x1 q r1 h1).or (yg n b r1 x2 m2 r2 h2);cases hp;cases hp
 |n+1,.un,l,x,m,r,hp=>by
  obtain⟨_,rfl,_⟩:=hp;exact eh.zero h
 |n+1,.ex,l,x,m,r,hp=>by
  simp[gG]at hp;split at hp;rename_i x1 q r1 h1;simp[al,aT]at hp;obtain⟨_,rfl,_⟩:=hp;exact yg n Td l x1 q r1 h1;cases hp
 |n+1,.sm,l,x,m,r,hp=>by
  simp[gG]at hp;split at hp;rename_i x1 q r1 h1;simp[al,aT]at hp;obtain⟨_,rfl,_⟩:=hp;exact yg n So l x1 q r1 h1;cases hp
 |n+1,.int k,l,x,m,r,hp|n+1,.bool,l,x,m,r,hp|n+1,.str,l,x,m,r,hp|n+1,.sl t,l,x,m,r,hp=>by
  simp[gG]at hp;split at hp;split at hp;rename_i x1 q h1;obtain⟨_,rfl,_⟩:=hp;exact nR h1;cases hp;cases hp
def ahe {x:S.den} (A:GA h S u=Z (x,m)):eh h m:=by
 cases u with
 |agg l=>
  simp only[GA]at A;split at A;cases A;split at A;rename_i x1 m1 h1;simp[al,aT]at A;obtain⟨_,rfl⟩:=A;exact yg 40 S l x1 m1 [] h1;cases A
 |f T u=>exact nR (v:=.f T u) A
 |zm S xs j hj off=>exact nR (v:=.zm S xs j hj off) A
 |ql id sz j off=>exact nR (v:=.ql id sz j off) A
 |K id off=>exact nR (v:=.K id off) A
 |qp id off z=>exact nR (v:=.qp id off z) A
 |I id=>exact nR (v:=.I id) A
 |emp=>exact nR (v:=.emp) A
 |nil=>exact nR (v:=.nil) A
 |mp id=>exact nR (v:=.mp id) A
 |zh id jj=>exact nR (v:=.zh id jj) A
 |qd q=>exact nR (v:=.qd q) A
 |qy g q=>exact nR (v:=.qy g q) A
 |undef=>exact nR (v:=.undef) A
 |np=>exact nR (v:=.np) A
 |qj=>exact nR (v:=.qj) A
 |qn T q=>exact nR (v:=.qn T q) A
 |sb q=>exact nR (v:=.sb q) A
def UG :∀(n:Nat) (l:Y TV) (xs:Y S.den) (m:Nat),Fk h S n l=Z (xs,m)->eh h m
 |0,[],xs,m,hp=>by simp[Fk,al,aT]at hp;rw[<- hp.2];exact eh.zero h
 |0,_::_,xs,m,hp=>by simp[Fk]at hp
 |n+1,l,xs,m,hp=>by
  simp[Fk]at hp;split at hp;rename_i x1 q r1 h1;split at hp;rename_i x2 m2 h2;obtain⟨_,rfl⟩:=hp;exact (yg 40 S l x1 q r1 h1).or (UG n r1 x2 m2 h2);cases hp;cases hp
def Em :∀(n:Nat) (T:Ty) (v:T.den) (off sz:Nat) (z:T.den) (m:Nat),iR h u n T v off sz=Z (z,m)->eh h m
 |0,_,_,_,_,_,_,A=>by simp[iR]at A
 |n+1,.st t,v,off,sz,z,m,A=>by
  simp[iR]at A;split at A;rename_i q I;let⟨h9,I⟩:=dO I;cases A;exact ahe I;exact Em n t v off sz z m A
 |n+1,.pr a b,v,off,sz,z,m,A=>by
  simp[iR]at A;split at A;split at A;rename_i z1 m1 h1;simp[al,aT]at A;obtain⟨_,rfl⟩:=A;exact Em n a v.1 off sz z1 m1 h1;cases A;split at A;rename_i z1 m1 h1;simp[al,aT]at A;obtain⟨_,rfl⟩:=A;exact Em n b v.2 _ sz z1 m1 h1;cases A
 |n+1,.un,v,off,sz,z,m,A=>by simp[iR]at A
 |n+1,.ex,v,off,sz,z,m,A=>by
  simp[iR]at A;split at A;rename_i q I;split at I;cases A;exact ahe I;cases I;split at A;rename_i z1 m1 h1;simp[al,aT]at A;obtain⟨_,rfl⟩:=A;exact Em n Td _ off sz z1 m1 h1;cases A
 |n+1,.sm,v,off,sz,z,m,A=>by
  simp[iR]at A;split at A;rename_i q I;split at I;simp[al]at A;subst A;exact ahe I;cases I;split at A;rename_i z1 m1 h1;simp[al,aT]at A;obtain⟨_,rfl⟩:=A;exact Em n So _ off sz z1 m1 h1;cases A
 |n+1,.int k,v,off,sz,z,m,A|n+1,.bool,v,off,sz,z,m,A|n+1,.str,v,off,sz,z,m,A|n+1,.sl t,v,off,sz,z,m,A=>by
  simp only[iR]at A;split at A;exact nR A;cases A
def wV (hm:eh h m) (q:aF m i=J):∃p sz n,(eP m h).get i=Z (.qw p sz n):=by
 let⟨ty,p,T,xs,h1⟩:=hm i q;exact⟨p,T.size,l! xs,by rw[jU,aD q,h1];rfl⟩
section ops
variable {R:Type} {P:Program} {o:Oper} {e:iW} {h:ba} {nx:Nat} {K:KO R} {r:R}
def gz (n:Nat) (b:ot):jZ [(n,b)] n=Z b:=by simp[jZ]
def iy.mk' {s:T5} (hc:cY P o.op=Z s) {a:iN} (hH:a.get=erHF h) {k:Nat} {rdl Wk N:ι} {nw:NW} (ha:eE s (GZ e h) a k=Z ⟨y,rdl,Wk,nw,N⟩) {h':ba} {wr:Nat} (wr':ι)
 (hsub:∀nx'∈Wk,nx'∈wr') (hsame:∀n,n∉wr'->erHF h' n=erHF h n)
 (hdom:∀nx'∈wr',∀b',erHF h' nx'=Z b'->∃b,(if nx'∈Wk then jZ nw nx' else erHF h nx')=Z b)
 (hblk:∀(H1 H2:HF),vF H1 H2->(∀nx'∈Wk,H1 nx'=jZ nw nx')->(∀nx'∈wr',nx'∉Wk->H1 nx'=erHF h nx')->(∀nx'∈wr',H2 nx'=erHF h' nx')->(∀nx'∈wr',∀b b',H1 nx'=Z b->H2 nx'=Z b'->iQ H1 H2 b b')/\∀y0,dg h' u=Z y0->l7 H1 H2 y y0)
 (hrd:∀n∈rdl,aF m (ow n)=J) (hwr:∀n∈wr',aF wr (ow n)=J) (hN:∀n∈N,nx<=ow n/\ow n<i) (hrows:cz h h') (hinv':kR h' i) (hg:nx<=i):iy P o af e h nx u m wr h' i:=by
 have ht:=Hx hc ha;rw[EE,hH]at ht;refine ⟨?_,hrows,hinv',hg,nofun⟩;have base:∀(val:AV),(∀y0,dg h' u=Z y0->y0=val)->(dg h' u=U->val=y)->im P o (gV e h) (erHF h) ⟨val,rdl,wr',erHF h',N⟩:=by
  intro val hval hnone;refine im.view ht (λnx' hi=>.inl (hsub nx' hi)) λh1 hr1 hw1=>?_
  have hd:vF (eD h1 Wk (jZ nw)) (eD h1 wr' (erHF h')):=by
   intro nx' b hb;unfold eD at hb ⊢
   grind
  let⟨q1,q2⟩:=hblk _ _ hd (λnx' hi=>by unfold eD;rw[aD hi]) (λnx' hi hw=>by unfold eD;rw[av hw];exact hw1 nx' hi) (λnx' hi=>by unfold eD;rw[aD hi]);refine ⟨⟨hd,λnx' b b' hb I=>?_⟩,?_⟩;by_cases hi:nx'∈wr'
  grind
  unfold eD at hb I;rw[av (λhw=>hi (hsub nx' hw))]at hb;rw[av hi,hb]at I;cases I;exact iQ.refl hd b;cases A:dg h' u with
  |none=>rw[hnone A];exact l7.refl hd _
  |some y0=>rw[<- hval y0 A];exact q2 y0 A
 have hu:eD (erHF h) wr' (erHF h')=erHF h':=by
  unfold eD
  grind
 cases A:dg h' u with
 |none=>exact⟨_,base y (λy0 q=>by rw[A]at q;cases q) (λ_=>rfl),λy0 q=>(by cases q),hu,hrd,hwr,hN⟩
 |some y0=>exact⟨_,base y0 (λy' q=>by rw[A]at q;cases q;rfl) (λhn=>by rw[A]at hn;cases hn),λy' q=>by cases q;rfl,hu,hrd,hwr,hN⟩
def Ic (hi:tZ e h):∀(parts:Y j?) (cells cs:Y TV) (cells':Y AV),S_ cells e parts=Z cs->dx h cells=Z cells'->∃cs',Fq cells' (GZ e h) parts=Z cs'/\dx h cs=Z cs'/\(mi cells=J->mi cs=J)
 |[],cells,cs,cells',hf,he=>by cases hf;exact⟨cells',rfl,he,id⟩
 |(off,sz,x)::rest,cells,cs,cells',hf,he=>by
  simp only[S_]at hf;split at hf;rename_i v hv;split at hf;rename_i q hq;let⟨hc,hf⟩:=dO hf;simp only[ar,dz]at hc;let⟨y,h1,h2⟩:=bD hi hv;let⟨h3,h4⟩:=TJ hq h2;let⟨cs',h5,h6,h7⟩:=Ic hi rest (splice cells off q) cs (splice cells' off y.cs) hf (yz off he h3);refine ⟨cs',?_,h6,λI=>h7 ?_⟩;simp only[Fq,h1];rw[aD,h5];simp only[ar,dz];exact⟨⟨by rw[kW h3];exact hc.1,by rw[kW he];exact hc.2⟩,wI h3 h4⟩;clear h5 h6 h7 hf;have app:∀a b:Y TV,mi a=J->mi b=J->mi (a++b)=J:=by
   intro a b I hb;induction a with
   |nil=>exact hb
   |cons z r A=>simp only[mi,ar,gj]at I ⊢;exact⟨I.1,A I.2⟩
  have tk:∀(a:Y TV) n,mi a=J->mi (a.take n)=J:=by
   intro a;induction a with
   |nil=>intro n h;simp[mi]
   |cons z r A=>
    intro n h;cases n with
    |zero=>rfl
    |succ n=>simp only[mi,ar,zu]at h ⊢;exact⟨h.1,A n h.2⟩
  have dr:∀(a:Y TV) n,mi a=J->mi (a.drop n)=J:=by
   intro a;induction a with
   |nil=>intro n h;simp[mi]
   |cons z r A=>
    intro n h;cases n with
    |zero=>exact h
    |succ n=>simp only[mi,ar,LZ]at h ⊢;exact A n h.2
  unfold splice
  grind
  cases hf;cases hf
variable (hinv:kR h nx) (hi:tZ e h)
include hinv hi
variable {X:FuncId->aj cu} {V:TypeId->aj Ty} {k:ξ}
def avk {parts:Y j?} (hc:cY P o.op=Z (.build k parts)) (hk:fh X V (.op (.build k parts)) e h nx K=Z r):k_ P o b e h nx K r:=by
 simp[fh]at hk;split at hk;rename_i l I;split at hk;rename_i cs hf;let⟨h1,_,_⟩:=yF h I;let⟨cs',h2,h3,_⟩:=Ic hi parts l cs _ hf h1;refine k_.q (k:=0) (y0:=SJ cs') hinv hc (λH _=>by simp[eE,h2]) (λy A=>?_) hk;simp[dg,h3,al]at A;subst A;exact amv cs';cases hk;cases hk
def aBi (hc:cY P o.op=Z (.load i b s)) (hk:fh X V (.op (.load i b s)) e h nx K=Z r):k_ P o af e h nx K r:=by
 let⟨H,hH⟩:=jW h;simp only[fh]at hk;split at hk;rename_i id off hv;let⟨y,h1,h2⟩:=bD hi hv;cases h2;split at hk;rename_i ty l I;split at hk;rename_i v hs;let⟨l',hl⟩:=gY h l (hinv.G id _ l I);let⟨y,h3,h4⟩:=aw1 hl hs;have hg:H.get (nm id)=Z ⟨ty,.mx l'⟩:=by rw[hH,ct,I];simp[aH,mT,hl]
 exact⟨v,kZ id,0,h,nx,hk,iy.pure (k:=0) hinv hc hH (y0:=y) (rdl:=[nm id]) (by simp[eE,h1,Ax,hg,h4]) (dk h3) (λn A=>by simp[aG]at A;subst A;rw[eH];exact b7.2 rfl) nofun⟩;cases hk;cases hk;rename_i id sz' j off hv;let⟨y,h1,h2⟩:=bD hi hv;cases h2;split at hk;rename_i ty p T xs I;let⟨hsz,hk⟩:=dO hk;have hsz:=au hsz;let⟨hj,hk⟩:=c8 hk;split at hk;rename_i v hs;let⟨y,h3,h4⟩:=als (h:=h) hj hs;have hne:¬((p&&l! xs==0)=J):=by
  have:=vM hj
  grind
 have hg:H.get (nm id)=Z ⟨ty,.fz (xs.flatMap (bQ T))⟩:=by rw[hH,ct,I];simp only[aH,mT,av hne]
 exact⟨v,kZ id,0,h,nx,hk,iy.pure (k:=0) hinv hc hH (y0:=.f y) (rdl:=[nm id]) (by simp[eE,h1,Ax,hg,hsz,h4]) (dk h3) (λn A=>by simp[aG]at A;subst A;rw[eH];exact b7.2 rfl) nofun⟩;cases hk;rename_i ty l I;split at hk;cases hk;split at hk;rename_i hsz;simp only[ar]at hsz;have e1:=au hsz.1.1;have e2:=au hsz.1.2;have e3:=au hsz.2;subst e1 e2 e3;split at hk;rename_i T xs hA;let⟨hj,hk⟩:=c8 hk;let⟨l',hl⟩:=gY h l (hinv.G id _ l I);have hg:H.get (nm id)=Z ⟨ty,.mx l'⟩:=by rw[hH,ct,I];simp[aH,mT,hl]
 have hlt:j.toNat<l! l:=by
  simp[fO,ar,cN,hY,bl]at hj;omega
 let⟨z,hz1,hz2⟩:=nO hl j.toNat _ (ahf hA j.toNat hlt);exact⟨_,kZ id,0,h,nx,hk,iy.pure (k:=0) hinv hc hH (y0:=z) (rdl:=[nm id]) (by simp[eE,h1,Ax,hg,BC.sub?,BC.get,I7,dR,hz1]) (dk hz2) (λn A=>by simp[aG]at A;subst A;rw[eH];exact b7.2 rfl) nofun⟩;cases hk;cases hk;cases hk;rename_i T xs j hj off hv;let⟨y,h1,h2⟩:=bD hi hv;cases h2;split at hk;rename_i v hs;let⟨y,h3,h4⟩:=als (h:=h) hj hs;exact k_.q (k:=0) (y0:=.f y) hinv hc (λH _=>by simp[eE,h1,Ax,h4]) (dk h3) hk;cases hk;cases hk
def aFm (hc:cY P o.op=Z (.box A s)) (hk:fh X V (.op (.box A s)) e h nx K=Z r):k_ P o af e h nx K r:=by
 let⟨H,hH⟩:=jW h;simp[fh]at hk;split at hk;rename_i v hv;split at hk;rename_i l hl;let⟨y,h1,h2⟩:=bD hi hv;let⟨h3,h4⟩:=TJ hl h2;have hcell:=wI h3 h4;have hnone:h.get nx=U:=by
  cases hb:h.get nx with
  |none=>rfl
  |some b=>have:=hinv.low nx b hb;omega
 have q:cz h (h.set nx (Z (.G (Z A) l))):=cz.set λr q=>by rw[bS,hnone]at q;cases q
 have h5:=kB q l _ h3;have hb':erHF (h.set nx (Z (.G (Z A) l))) (nm nx)=Z ⟨A,.mx y.cs⟩:=by rw[ct,PT.get_set,aD rfl];simp[aH,mT,h5]
 refine ⟨_,_,_,_,_,hk,iy.mk' hc hH (k:=nm nx) (by simp only[eE,h1,hcell,bC];rfl) [nm nx] (λi hi=>hi) (λn ty=>?_) (λi hi b' _=>⟨⟨A,qB y.cs⟩,?_⟩) (λH1 H2 d hw1 _ hw2=>⟨λi hi b b' hb I=>?_,λy hy=>?_⟩) b8 ?_ ?_ q (hinv.set q M M λty' l' he=>?_) M⟩;refine nF hinv q (jM.set (by rw[hnone];rfl) rfl) λi e=>?_
 rw[PT.get_set,av (λe=>ty cf)];simp[aG]at hi;subst hi;simp[jZ];simp[aG]at hi;subst hi;rw[hw1 _ b8]at hb;rw[hw2 _ b8,hb']at I;rw[gz]at hb;simp[al]at hb I;subst hb I;let⟨q1,q2⟩:=pM y.cs;refine iQ.G q2 rfl ?_ λs hx=>nH hcell s hx
 rw[q1];exact iY.refl d _;cases hy;exact l7.refl d _;intro n ty;simp[aG]at ty;subst ty;rw[eH];exact b7.2 rfl;intro n ty;simp[aG]at ty;subst ty;rw[eH];omega;cases he;exact oH _ _ _ h5;cases hk;cases hk
def avi {c:Operand} (hcm:IH (V A)=U) (hc:cY P o.op=Z (.zd A i m k s c)) (hk:fh X V (.op (.zd A i m k s c)) e h nx K=Z r):k_ P o af e h nx K r:=by
 let⟨H,hH⟩:=jW h;simp only[fh,hcm]at hk;split at hk;rename_i T z a k' b hT hv hv2;split at hk;rename_i hsz;simp only[ar]at hsz;have hs:=au hsz.1;have hz:=IU hsz.2;subst hs hz;let⟨hck,hk⟩:=c8 hk;let⟨y,h1,h2⟩:=bD hi hv;let⟨y2,h3,h4⟩:=bD hi hv2;simp[dg,al]at h2 h4;subst h2 h4;have hnone:h.get nx=U:=by
  cases hb:h.get nx with
  |none=>rfl
  |some b=>have:=hinv.low nx b hb;omega
 generalize hB:gi.H A af T (aA (aL a) T.zero)=B at hk;have hr:cz h (h.set nx (Z B)):=cz.set λr hr=>by rw[bS,hnone]at hr;cases hr
 have hb':erHF (h.set nx (Z B)) (nm nx)=Z ⟨A,.fz ((aA (aL a) T.zero).flatMap (bQ T))⟩:=by rw[ct,PT.get_set,aD rfl,<-hB];simp[mT]
 refine ⟨_,_,_,_,_,hk,iy.mk' hc hH (k:=nm nx) (by simp only[eE,h1,h3,iu,hck,bC];rfl) [nm nx] (λsz hi=>hi) (λn ty=>?_) (λsz hi b' _=>⟨⟨A,.fz (repl (vX T) (aL a))⟩,?_⟩) (λH1 H2 d hw1 _ hw2=>⟨λsz hi b b' hb I=>?_,λy hy=>?_⟩) b8 ?_ ?_ hr (hinv.set hr M M λty' l' he=>cf) M⟩;refine nF hinv hr (jM.set (by rw[hnone];rfl) (by rw[<- hB];rfl)) λsz e=>?_
 rw[PT.get_set,av (λe=>ty cf)];simp[aG]at hi;subst hi;simp[jZ];simp[aG]at hi;subst hi;rw[hw1 _ b8]at hb;rw[hw2 _ b8,hb']at I;rw[gz]at hb;simp[al]at hb I;subst hb I;refine iQ.G rfl rfl (MQ d T _) λx hx=>?_
 obtain⟨q,hq,rfl⟩:=cF.1 hx;exact uF T _ q hq;simp[dg,bS,PT.get_set,bC,<-hB,aH,lj,eM,tU,cE,dQ,al,cQ]at hy;subst hy;exact l7.refl d _;intro n ty;simp[aG]at ty;subst ty;rw[eH];exact b7.2 rfl;intro n ty;simp[aG]at ty;subst ty;rw[eH];omega;cases hk;cases hk
end ops
def wU {f:R->Y FV} (hf:∀x,l! (f x)=i):∀(xs:Y R) (j:Nat),(xs.take j).flatMap f=(xs.flatMap f).take (j*i)
 |[],j=>b8
 |x::r,0=>b8
 |x::r,j+1=>by
  rw[zu,fK,fK,wU hf r j,show (j+1)*i=l! (f x)+j*i from by rw[hf,lD];omega,List.take_length_add_append]
def Bw {f:R->Y FV} (hf:∀x,l! (f x)=i):∀(xs:Y R) (j:Nat),(xs.drop j).flatMap f=(xs.flatMap f).drop (j*i)
 |[],j=>b8
 |x::r,0=>b8
 |x::r,j+1=>by
  rw[LZ,fK,Bw hf r j,show (j+1)*i=l! (f x)+j*i from by rw[hf,lD];omega,List.drop_length_add_append]
variable {k:ξ}
def W0 :∀(n:Nat) (x:FV),x∈repl k n->∃v∈k,x= .raw v
 |0,x,h=>by simp[repl]at h
 |n+1,x,h=>by
  rw[repl,bz]at h;rcases h with h|h
  grind
  exact W0 n x h
def LP:∀l:Y FV,(∀x∈l,x.isCell=J)->il (l.map .f)=J
 |[],_=>rfl
 |z::r,h=>by simp[d5,il,ar];exact⟨h z b8,LP r λx q=>h x cf⟩
section ops
variable {R:Type} {P:Program} {o:Oper} {e:iW} {h:ba} {nx:Nat} {K:KO R} {r:R}
def kR.fresh (hinv:kR h nx):h.get nx=U:=by
 cases q:h.get nx with
 |none=>rfl
 |some b=>have:=hinv.low nx b q;omega
def vF.kill (hinv:kR h nx) (hm:eh h m):vF (erHF h) (erHF (eP m h)):=λn b hb=>by
 let⟨c,q,A⟩:=jA hb;rw[jU]at q;by_cases ht:aF m (ow n)=J;let⟨pp,ss,nn,I⟩:=wV hm ht;rw[jU]at I;rw[I]at q;cases q;cases hk:ix n with
 |_=>rw[hk]at A;cases A
 rw[av ht]at q;refine ⟨b,?_⟩;unfold erHF;rw[q];simp[aH];rw[<- xF (cz.kill m h) (λty l e=>hinv.G (ow n) _ l (by rw[q,e]))];exact A
def eh.lt (hinv:kR h nx) (hm:eh h m) (hi:aF m i=J):i<nx:=by
 let⟨_,_,_,_,q⟩:=hm i hi;exact hinv.low i _ q
def iy.new {s:T5} (hinv:kR h nx) (hc:cY P o.op=Z s) {a:iN} (hH:a.get=erHF h) {y0:AV} {rdl:ι} {b0:ot} (ha:eE s (GZ e h) a (nm nx)=Z ⟨y0,rdl,[nm nx],[(nm nx,b0)],[nm nx]⟩) {B:gi} {v:TV} {rd:Nat} (hm:eh h m)
 (hB:∀ty l,B= .G ty l->mo ((eP m h).set nx (Z B)) l=J)
 (hblk:∀A q,vF A q->Jd h A q m->∀b',mT ((eP m h).set nx (Z B)) B=Z b'->iQ A q b0 b')
 (hval:∀A q y,vF A q->Jd h A q m->dg ((eP m h).set nx (Z B)) v=Z y->l7 A q y0 y)
 (hrd:∀n∈rdl,aF rd (ow n)=J) (hMem:∀i k,Bc i k B=U:=by exact λ_ _=>rfl):iy P o af e h nx v rd (m|||kZ nx) ((eP m h).set nx (Z B)) (nx+1):=by
 have hk:=hinv.kill m;have hme:jM h ((eP m h).set nx (Z B)):=(jM.kill hm).trans (jM.at_ λk=>by rw[hk.fresh];exact hMem nx k);have hr0:=cz.kill m h;have hr1:cz (eP m h) ((eP m h).set nx (Z B)):=cz.set λr hr=>by rw[bS,hk.fresh]at hr;cases hr
 have hr:=hr0.trans hr1;have hgiv:∀i,aF m i=J->erHF ((eP m h).set nx (Z B)) (nm i)=U:=λi hi=>by
  have hlt:=hm.lt hinv hi;let⟨p,sz,n,hd⟩:=wV hm hi;rw[ct,PT.get_set,av M,hd];rfl
 refine iy.mk' hc hH ha (nm nx::KJ m) (λi hi=>by simp[aG]at hi;subst hi;simp) (λn I=>?_) (λi hi b' hb'=>?_) (λA q d hw1 hw0 hw2=>?_) hrd ?_ ?_ hr (hk.set hr1 M M hB) M;refine nF hinv hr hme λi e=>?_
 subst e;rw[PT.get_set,av (λe=>I cf),jU,av];intro hb;exact I (bx _ (ng.2 hb));rcases bc.1 hi with rfl|hi;exact⟨b0,by rw[aD b8,gz]⟩;obtain⟨j,rfl,hj⟩:=pO.1 hi
 grind
 have g:Jd h A q m:=λi hi=>by
  have hlt:=hm.lt hinv hi;have hmem:nm i∈nm nx::KJ m:=bx _ (ng.2 hi);exact⟨hw0 _ hmem (λhc=>by simp[aG]at hc;have:=A_ hc;omega),by rw[hw2 _ hmem,hgiv i hi]⟩
 refine ⟨λi hi b b' hb hb2=>?_,λy hy=>hval A q y d g hy⟩;rcases bc.1 hi with rfl|hi';rw[hw1 _ b8,gz]at hb;rw[hw2 _ hi,ct,PT.get_set,aD rfl]at hb2
 grind
 obtain⟨j,rfl,hj⟩:=pO.1 hi'
 grind
 intro n I;rw[bt];rcases bc.1 I with rfl|I;rw[eH,b7.2 rfl];simp;obtain⟨j,rfl,hj⟩:=pO.1 I;rw[eH,hj];rfl;intro n I;simp[aG]at I;subst I;rw[eH];omega
def iy.wrt {s:T5} (hinv:kR h nx) (hc:cY P o.op=Z s) {a:iN} (hH:a.get=erHF h) {y0:AV} {rdl:ι} {b0:ot} {k:Nat} (ha:eE s (GZ e h) a k=Z ⟨y0,rdl,[nm i],[(nm i,b0)],[]⟩) {B0 B:gi} (hb0:h.get i=Z B0) {v:TV} {rd:Nat} (hm:eh h m) (hmid:aF m i=af)
 (hrow:lj B=lj B0) (hB:∀ty l,B= .G ty l->mo ((eP m h).set i (Z B)) l=J)
 (hblk:∀A q,vF A q->Jd h A q m->∀b',mT ((eP m h).set i (Z B)) B=Z b'->iQ A q b0 b')
 (hval:∀A q y,vF A q->Jd h A q m->dg ((eP m h).set i (Z B)) v=Z y->l7 A q y0 y)
 (hrd:∀n∈rdl,aF rd (ow n)=J) (hMem:∀k,Bc i k B=Bc i k B0:=by exact λ_=>rfl):iy P o af e h nx v rd (m|||kZ i) ((eP m h).set i (Z B)) nx:=by
 have hk:=hinv.kill m;have hr0:=cz.kill m h;have hkid:(eP m h).get i=Z B0:=by rw[jU,hmid];simpa using hb0
 have hr1:cz (eP m h) ((eP m h).set i (Z B)):=cz.set λr hr=>by rw[bS,hkid]at hr;rw[hrow];exact hr
 have hme:jM h ((eP m h).set i (Z B)):=(jM.kill hm).trans (jM.at_ λk=>by rw[hkid];exact hMem k);have hr:=hr0.trans hr1;have hgiv:∀id,aF m id=J->erHF ((eP m h).set i (Z B)) (nm id)=U:=λid hi=>by
  have hne:id≠i:=λe=>cf
  let⟨p,sz,n,hd⟩:=wV hm hi;rw[ct,PT.get_set,av hne,hd];rfl
 refine iy.mk' hc hH ha (nm i::KJ m) (λid hi=>by simp[aG]at hi;subst hi;simp) (λn I=>?_) (λid hi b' hb'=>?_) (λA q d hw1 hw0 hw2=>?_) hrd ?_ b8 hr (hk.set hr1 (hinv.low i B0 hb0) M hB) M;refine nF hinv hr hme λid e=>?_
 subst e;rw[PT.get_set,av (λe=>I cf),jU,av];intro hb;exact I (bx _ (ng.2 hb));rcases bc.1 hi with rfl|hi;exact⟨b0,by rw[aD b8,gz]⟩;obtain⟨j,rfl,hj⟩:=pO.1 hi
 grind
 have g:Jd h A q m:=λid hi=>by
  have hne:id≠i:=λe=>cf
  have hmem:nm id∈nm i::KJ m:=bx _ (ng.2 hi);exact⟨hw0 _ hmem (λhc=>by simp[aG]at hc;exact hne (A_ hc)),by rw[hw2 _ hmem,hgiv id hi]⟩
 refine ⟨λid hi b b' hb hb2=>?_,λy hy=>hval A q y d g hy⟩;rcases bc.1 hi with rfl|hi';rw[hw1 _ b8,gz]at hb;rw[hw2 _ hi,ct,PT.get_set,aD rfl]at hb2
 grind
 obtain⟨j,rfl,hj⟩:=pO.1 hi'
 grind
 intro n I;rw[bt];rcases bc.1 I with rfl|I;rw[eH,b7.2 rfl];simp;obtain⟨j,rfl,hj⟩:=pO.1 I;rw[eH,hj];rfl
def St (h:ba) {q:Y TV} (A:Ry k=Z q):∀len,dx h (aA len q).flatten=Z ((repl k len).map .f)
 |0=>rfl
 |n+1=>by
  rw[nV,List.flatten_cons,repl,b_];refine pm ?_ (St h A n);rw[(yF h A).1];simp only[ya];rfl
def MP {H:iN} (hH:H.get=erHF h) {ys:Y S.den} (A:GA h (.sl S) u=Z (ys,m)) (hy:dg h u=Z y):∃rd,y.row? H S.size=Z ((ys.flatMap (bQ S)).map .f,l! ys,rd)/\∀n∈rd,∃i,n=nm i/\aF m i=J:=by
 have fl:=λzs:Y S.den=>fe (bA S) zs
 have tk:∀zs:Y S.den,(zs.flatMap (bQ S)).take (l! zs*S.size)=zs.flatMap (bQ S):=λzs=>cf
 cases u with
 |f T x=>
  simp[GA,jD]at A;split at A;rename_i z hz;obtain⟨e,rfl⟩:=iV hz;subst e;cases hy;simp only[iu,AV.row?];simp_all;cases A
 |emp|nil=>
  obtain⟨rfl,_⟩:=A;cases hy;exact⟨[],rfl,b8⟩
 |I id=>
  simp[GA,jD]at A;split at A;rename_i ty p T xs hb;split at A;rename_i z hz;obtain⟨rfl,rfl⟩:=A;obtain⟨e,rfl⟩:=iV hz;cases e;simp[dg,e_,hb,al]at hy;subst hy;unfold eM;split;rename_i hp;simp only[ar,dz]at hp;have:xs=[]:=gg.1 hp.2;subst this;exact⟨[],rfl,b8⟩;rename_i hp;have hg:H.get (nm id)=Z ⟨ty,.fz (xs.flatMap (bQ S))⟩:=by rw[hH,ct,hb];simp only[aH,mT,av hp]
  refine ⟨[nm id],?_,λn hn=>?_⟩;simp only[AV.row?,hg,dA,bC,BC.isCells,BC.len,du];rw[aD (bj cf)];simp[BC.toMx,<-lh,tk];simp[aG]at hn;exact⟨id,hn,b7.2 rfl⟩;cases A;cases A
 |agg l=>simp[GA,Ty.one]at A
 |_=>simp[GA,jD]at A
def aay (q:dg h u=Z y) (A:u.isC=J):il y.cs=J:=by
 rw[UJ (UY q A)];simp[il,Bool.and_true];exact UY q A
def ajg (T:Ty) (x:T.den):il ((bQ T x).map .f)=J:=by
 have:∀l:Y FV,(∀x∈l,x.isCell=J)->il (l.map .f)=J:=by
  intro l q;induction l with
  |nil=>rfl
  |cons z r A=>simp[d5,il,ar];exact⟨q z b8,A λx I=>q x cf⟩
 exact this _ (pT T x)
def iv {v:TV} {x:S.den} (A:jD h S v=Z (x,m)) (hy:dg h v=Z y):il y.cs=J:=by
 cases v with
 |f T v=>cases hy;rw[EH];exact ajg T v
 |emp|nil|I id=>exact aay hy rfl
 |_=>simp[jD]at A
def M_ (hT:S.one=J) {x:S.den} (A:jD h S u=Z (x,m)):u.isC=J:=by
 cases u with
 |f T u=>
  simp[jD]at A;split at A;rename_i z hz;let⟨e,_⟩:=iV hz;subst e;exact hT;cases A
 |emp|nil|I id=>rfl
 |_=>simp[jD]at A
def Zw {a b:Y TV} (q:mi a=J) (I:mi b=J):mi (a++b)=J:=by
 induction a with
 |nil=>exact I
 |cons z r A=>simp[mi,ar,gj]at q ⊢;exact⟨q.1,A q.2⟩
def wP:∀(n:Nat) (T:Ty) (l:Y TV) (x:T.den) (m:Nat) (r:Y TV),gG h n T l=Z (x,m,r)->∃a,l=a++r/\mi a=J
 |0,_,_,_,_,_,hp=>by simp[gG]at hp
 |n+1,.st t,l,x,m,r,hp=>wP n t l x m r hp
 |n+1,.pr a b,l,x,m,r,hp=>by
  simp[gG]at hp;split at hp;rename_i x1 A r1 h1;split at hp;rename_i x2 m2 r2 h2;simp[al,aT]at hp;obtain⟨_,_,rfl⟩:=hp;obtain⟨a1,rfl,g1⟩:=wP n a l x1 A r1 h1;obtain⟨a2,rfl,I⟩:=wP n b r1 x2 m2 r2 h2;exact⟨a1++a2,b8,Zw g1 I⟩;cases hp;cases hp
 |n+1,.un,l,x,m,r,hp=>by
  obtain⟨_,_,rfl⟩:=hp;exact⟨[],rfl,rfl⟩
 |n+1,.ex,l,x,m,r,hp=>by
  simp[gG]at hp;split at hp;rename_i x1 A r1 h1;simp[al,aT]at hp;obtain⟨_,_,rfl⟩:=hp;exact wP n Td l x1 A r1 h1;cases hp
 |n+1,.sm,l,x,m,r,hp=>by
  simp[gG]at hp;split at hp;rename_i x1 A r1 h1;simp[al,aT]at hp;obtain⟨_,_,rfl⟩:=hp;exact wP n So l x1 A r1 h1;cases hp
 |n+1,.int k,l,x,m,r,hp|n+1,.bool,l,x,m,r,hp|n+1,.str,l,x,m,r,hp|n+1,.sl t,l,x,m,r,hp=>by
  simp[gG]at hp;split at hp;rename_i c q;split at hp;rename_i x1 A h1;obtain⟨_,_,rfl⟩:=hp;exact⟨[c],rfl,by simp[mi,M_ rfl h1]⟩;cases hp;cases hp
def Qh {x:S.den} (A:GA h S u=Z (x,m)) (hy:dg h u=Z y):il y.cs=J:=by
 cases u with
 |agg l=>
  simp only[GA]at A;split at A;cases A;split at A;rename_i x1 m1 h1;let⟨a,e,ga⟩:=wP 40 S l x1 m1 [] h1;rw[cS]at e;subst e;simp[dg]at hy;split at hy;rename_i l' hl;cases hy;exact wI hl ga;cases hy;cases A
 |f T u=>exact iv (v:=.f T u) A hy
 |zm S xs j hj off=>exact iv (v:=.zm S xs j hj off) A hy
 |ql id sz j off=>exact iv (v:=.ql id sz j off) A hy
 |K id off=>exact iv (v:=.K id off) A hy
 |qp id off z=>exact iv (v:=.qp id off z) A hy
 |I id=>exact iv (v:=.I id) A hy
 |emp=>exact iv (v:=.emp) A hy
 |nil=>exact iv (v:=.nil) A hy
 |mp id=>exact iv (v:=.mp id) A hy
 |zh id jj=>exact iv (v:=.zh id jj) A hy
 |qd q=>exact iv (v:=.qd q) A hy
 |qy g q=>exact iv (v:=.qy g q) A hy
 |undef=>exact iv (v:=.undef) A hy
 |np=>exact iv (v:=.np) A hy
 |qj=>exact iv (v:=.qj) A hy
 |qn T q=>exact iv (v:=.qn T q) A hy
 |sb q=>exact iv (v:=.sb q) A hy
def ui (I:dg h u=Z y):∀(n:Nat) (T:Ty) (v:T.den) (off sz:Nat) (z:T.den) (m:Nat),iR h u n T v off sz=Z (z,m)->il y.cs=J
 |0,_,_,_,_,_,_,A=>by simp[iR]at A
 |n+1,.st t,v,off,sz,z,m,A=>by
  simp[iR]at A;split at A;rename_i q hq;let⟨h9,hq⟩:=dO hq;exact Qh hq I;exact ui I n t v off sz z m A
 |n+1,.pr a b,v,off,sz,z,m,A=>by
  simp[iR]at A;split at A;split at A;rename_i z1 m1 h1;exact ui I n a v.1 off sz z1 m1 h1;cases A;split at A;rename_i z1 m1 h1;exact ui I n b v.2 _ sz z1 m1 h1;cases A
 |n+1,.un,v,off,sz,z,m,A=>by simp[iR]at A
 |n+1,.ex,v,off,sz,z,m,A=>by
  simp[iR]at A;split at A;rename_i q hq;split at hq;exact Qh hq I;cases hq;split at A;rename_i z1 m1 h1;exact ui I n Td _ off sz z1 m1 h1;cases A
 |n+1,.sm,v,off,sz,z,m,A=>by
  simp[iR]at A;split at A;rename_i q hq;split at hq;exact Qh hq I;cases hq;split at A;rename_i z1 m1 h1;exact ui I n So _ off sz z1 m1 h1;cases A
 |n+1,.int k,v,off,sz,z,m,A|n+1,.bool,v,off,sz,z,m,A|n+1,.str,v,off,sz,z,m,A|n+1,.sl t,v,off,sz,z,m,A=>by
  simp only[iR]at A;split at A;exact iv A I;cases A
def Qm (l:Y FV):CP (l.map .f)=Z l:=by
 induction l with
 |nil=>rfl
 |cons x r q=>simp[d5,CP,q]
def xo (l:Y FV):qB (l.map .f)= .fz l:=by unfold qB;rw[Qm]
def LQ:∀{a b:Y TV},mi a=J->mi b=J->mi (a++b)=J
 |[],_,_,q=>q
 |x::r,b,A,q=>by
  simp[mi,ar]at A;simp[gj,mi,ar];exact⟨A.1,LQ A.2 q⟩
def Ks {q:Y TV} (A:mi q=J):∀n,mi (aA n q).flatten=J
 |0=>rfl
 |n+1=>by exact LQ A (Ks A n)
def atm {H:iN} (hH:H.get=erHF h) {l:Y TV} (hb:h.get i=Z (.G (Z m) l)) (A:dx h l=Z C) {n sz:Nat} (hn:l! l=n*sz):AV.row? H sz (.I (nm i) sz n)=Z (C,n,[nm i]):=by
 have hg:H.get (nm i)=Z ⟨m,.mx C⟩:=by rw[hH,ct,hb];simp[aH,mT,A]
 have hln:=kW A;simp only[AV.row?,dA,bC,hg,BC.isCells,du,BC.len,BC.toMx];rw[aD (bj M),dZ M]
def arl {H:iN} (hH:H.get=erHF h) {xs:Y S.den} (q:ay4 h S u=Z (a,xs,i)) (I:dg h u=Z y) (hj:(cN 0 a&&hY a (ah xs))=J):y.row? H S.size=Z (((oR (aL a) xs).flatMap (bQ S)).map .f,l! (oR (aL a) xs),[nm i])/\∀n∈[nm i],aF (kZ i) (ow n)=J:=by
 refine ⟨?_,λn hn=>by simp only[aG]at hn;subst hn;rw[eH];exact b7.2 rfl⟩;unfold ay4 at q;split at q;rename_i id' A;split at q;rename_i ty p T xs0 hb;split at q;rename_i xs1 hxs;obtain⟨ee,rfl⟩:=iV hxs;cases ee;simp only[al,aT]at q;obtain⟨rfl,rfl,rfl⟩:=q;simp only[cN,hY,ar,bl]at hj;have hj2:(ah xs0:Int)=((l! xs0:Nat):Int):=rfl;have hlt:A.toNat<l! xs0:=M;simp only[dg,bS,hb,aH,lj,al]at I;subst I;have hp:¬((p&&l! xs0==0)=J):=cf;have fl:=fe (bA S) xs0;have hg:H.get (nm id')=Z ⟨ty,.fz (xs0.flatMap (bQ S))⟩:=by rw[hH,ct,hb];simp only[aH,mT,av hp]
 have hoff:A.toNat*S.size+(l! xs0-A.toNat)*S.size=l! xs0*S.size:=by rw[<- ue];congr 1;omega
 simp only[AV.row?,hg];rw[aD (by simp only[BC.isCells,BC.len,du];exact bj M)];simp only[BC.toMx,fG,al,aT,and_true,<-List.map_drop,<-lh];rw[Bw (bA S),dZ (by rw[fG];omega)];cases q;cases q;cases q
def TQ:∀q:η,Gy ((q.flatMap (bQ (.int .u8))).map .f)=Z (oL q)
 |[]=>rfl
 |y::r=>by
  rw[fK];show (match Gy ((r.flatMap (bQ (.int .u8))).map .f) with|some l=>Z (Ct y.toNat::l)|none=>U)=_;rw[TQ r];rfl
variable (hinv:kR h nx) (hi:tZ e h)
include hinv hi
variable {X:FuncId->aj cu} {V:TypeId->aj Ty}
def avl (hc:cY P o.op=Z (.alloc A k)) (hk:fh X V (.op (.alloc A k)) e h nx K=Z r):k_ P o af e h nx K r:=by
 have _:=hi;let⟨H,hH⟩:=jW h;simp only[fh]at hk;split at hk;rename_i hz;simp only[ar]at hz;have hz:=IU hz.2;exact⟨_,_,_,_,_,hk,iy.new (rd:=0) hinv hc hH (b0:=⟨A,.fz (k.map .raw)⟩) (by rfl) (B:=.H A af (.int .u8) (aA (ah k) (0:Int))) (v:=.K nx 0) (eh.zero h) (λ_ _ he=>by cases he) (λH1 H2 d g b' hb'=>by
  cases hb';have:(aA (ah k) (0:Int)).flatMap (bQ (.int .u8))=k.map .raw:=by
   conv=>rhs;rw[hz]
   generalize ah k=n;induction n with
   |zero=>rfl
   |succ n ih=>rw[nV,fK,ih,nV,d5];rfl
  rw[this];exact iQ.refl d _) (λH1 H2 y d g hy=>by cases hy;exact l7.refl d _) b8⟩
 split at hk;rename_i l hl;let⟨_,hz,_⟩:=yF h hl;have hnone:h.get nx=U:=by
  cases hb:h.get nx with
  |none=>rfl
  |some b=>have:=hinv.low nx b hb;omega
 have hr:cz h (h.set nx (Z (.G (Z A) l))):=cz.set λr hr=>by rw[bS,hnone]at hr;cases hr
 let⟨h1,_,_⟩:=yF (h.set nx (Z (.G (Z A) l))) hl;have hb':erHF (h.set nx (Z (.G (Z A) l))) (nm nx)=Z ⟨A,.mx (k.map raw)⟩:=by rw[ct,PT.get_set,aD rfl];simp[aH,mT,h1]
 refine ⟨_,_,_,_,_,hk,iy.mk' hc hH (k:=nm nx) (by rfl) [nm nx] (λi hi=>hi) (λn ty=>?_) (λi hi b' _=>⟨⟨A,.fz (k.map .raw)⟩,?_⟩) (λH1 H2 d hw1 _ hw2=>⟨λi hi b b' hb I=>?_,λy hy=>?_⟩) b8 ?_ ?_ hr (hinv.set hr M M λty' l' he=>?_) M⟩;refine nF hinv hr (jM.set (by rw[hnone];rfl) rfl) λi e=>?_
 rw[PT.get_set,av (λe=>ty cf)];simp[aG]at hi;subst hi;simp[jZ];simp[aG]at hi;subst hi;rw[hw1 _ b8]at hb;rw[hw2 _ b8,hb']at I;rw[gz]at hb;simp[al]at hb I;subst hb I;refine iQ.G rfl rfl ?_ λx hx=>?_
 simp[BC.toMx,ya];exact iY.refl d _;simp only[BC.toMx]at hx;obtain⟨q,hq,rfl⟩:=cF.1 hx;exact hz q hq;cases hy;exact l7.refl d _;intro n ty;simp[aG]at ty;subst ty;rw[eH];exact b7.2 rfl;intro n ty;simp[aG]at ty;subst ty;rw[eH];omega;cases he;exact oH _ _ _ h1;cases hk
def aBn {parts:Y j?} (hcm:IH (V A)=U) (hc:cY P o.op=Z (.xq A i m k parts)) (hk:fh X V (.op (.xq A i m k parts)) e h nx K=Z r):k_ P o af e h nx K r:=by
 let⟨H,hH⟩:=jW h;simp only[fh,hcm]at hk;split at hk;rename_i T zc hT hz;split at hk;rename_i hs;have hs:=au hs;subst hs;split at hk;rename_i cs hf;split at hk;rename_i xs len hp;let⟨cs',h1,h2,_⟩:=Ic hi parts _ cs _ hf (St h hz m);have hm:=UG m cs xs len hp;refine ⟨_,_,_,_,_,hk,iy.new hinv hc hH (y0:=if m=0 then .emp else .I (nm nx) T.size m) (rdl:=[]) (b0:=⟨A,qB cs'⟩) (by simp[eE,h1]) hm (λ_ _ he=>by cases he) (λH1 H2 d g b' ty=>?_) (λH1 H2 y d g hy=>?_) b8⟩;simp only[mT]at ty;split at ty;cases ty;rw[al]at ty;subst ty;let⟨q1,q2⟩:=pM cs';refine iQ.G q2 rfl ?_ λx hx=>?_
 rw[q1];exact (Hs d m cs xs len cs' hp h2 g).1;simp only[BC.toMx]at hx;obtain⟨q,hq,rfl⟩:=cF.1 hx;exact uF T _ q hq;simp only[dg,bS,PT.get_set,bC,aH,lj,eM,al]at hy;rw[(Hs d m cs xs len cs' hp h2 g).2]at hy;split at hy;rename_i hq;simp only[ar,dz]at hq;subst hy;rw[aD hq.2];exact l7.refl d _;rename_i hq;subst hy;rw[av (λh0=>hq (by simp_all))];exact l7.refl d _;cases hk;cases hk;cases hk;cases hk
def aF1 (hc:cY P o.op=Z (.tos s)) (hk:fh X V (.op (.tos s)) e h nx K=Z r):k_ P o af e h nx K r:=by
 let⟨H,I⟩:=jW h;simp only[fh]at hk;split at hk;rename_i v hv;split at hk;rename_i q m hys;let⟨yy,h3,h4⟩:=bD hi hv;let⟨rdl,A,h6⟩:=MP I hys h4;exact⟨_,_,_,_,_,hk,iy.pure (k:=nm nx) hinv hc I (y0:=.f (.raw (.string ⟨(oL q).toArray⟩))) (rdl:=rdl) (by
  have A:yy.row? H 1=Z ((q.flatMap (bQ (.int .u8))).map .f,l! q,rdl):=A;simp only[eE,h3,A];rw[TQ];rfl) (dk rfl) (λn hn=>by obtain⟨i,rfl,hm⟩:=h6 n hn;rw[eH];exact hm) nofun⟩
 cases hk;cases hk
def ahh {H:iN} (hH:H.get=erHF h) {x:Operand} {q:Y S.den} {yy:AV} {rdl:ι} (hc:cY P o.op=Z (.app A S.size i s x)) (h1:mN (GZ e h) s=Z y) (h2:dg h u=Z y) (h3:mN (GZ e h) x=Z yy) (h5:yy.row? H S.size=Z ((q.flatMap (bQ S)).map .f,l! q,rdl)) (h6:∀n∈rdl,aF m (ow n)=J) (hk:au9 A S.size i S u q m h nx K=Z r):k_ P o af e h nx K r:=by
 have hfr:=hinv.fresh;have _:=hi;unfold au9 at hk;have onEmp:∀(rd':Nat),(∀n∈rdl,aF rd' (ow n)=J)->JL y=J->Le y .emp->bk (ah q) i=J->iy P o af e h nx (.I nx) rd' (kZ nx) (h.set nx (Z (.H A J S q))) (nx+1):=by
  intro rd' hrd' he hle hroom;have hr1:cz h (h.set nx (Z (.H A J S q))):=cz.set λr hr=>by rw[bS,hfr]at hr;cases hr
  have hyb:∀id sz' n,y≠ .I id sz' n:=by rintro id sz' n rfl;cases he
  have ty:eE (.app A S.size i s x) (GZ e h) H (nm nx)=if ah q==0 then Z ⟨y,rdl,[],[],[]⟩ else Z ⟨.I (nm nx) S.size (ah q),rdl,[nm nx],[(nm nx,⟨A,qB ((q.flatMap (bQ S)).map .f)⟩)],[nm nx]⟩:=by
   simp only[eE,h1,h3,h5];cases y with
   |I id sz' n=>exact bi rfl (hyb id sz' n)
   |qn l n=>cases he
   |_=>simp only[he,hroom,r8,bC]
  by_cases hl:ah q=0;rw[hl]at ty;simp only[dA,bC]at ty;have hnil:q=[]:=gg.1 hl;subst hnil;refine iy.mk' hc hH ty [] b8 (λn _=>?_) b8 (λH1 H2 d _ _ _=>⟨b8,λyb hy=>?_⟩) hrd' b8 b8 hr1 (hinv.set hr1 M M λ_ _ he=>by cases he) M;by_cases hn:n=nm nx;subst hn;rw[ct,ct,PT.get_set,aD rfl,hfr];rfl;refine nF hinv hr1 (jM.set (by rw[hfr];rfl) rfl) λbytes e=>?_
  subst e;rw[PT.get_set,av (λe=>hn (by rw[e]))];simp only[dg,bS,PT.get_set,bC,aH,lj,eM,jB,dA,r8,al]at hy;subst hy;exact hle.toH d;rw[av (by simpa using hl)]at ty;rw[xo]at ty;have key:=iy.new (m:=0) (rd:=rd') hinv hc hH ty (B:=.H A J S q) (v:=.I nx) (eh.zero h) (λ_ _ he=>by cases he) (λH1 H2 d g b' hb'=>by
   simp only[mT]at hb';rw[av (by simpa using hl)]at hb';cases hb';exact iQ.refl d _) (λH1 H2 yb d g hy=>by
   simp only[dg,bS,PT.get_set,bC,aH,lj,eM]at hy;rw[av (by simpa using hl)]at hy;cases hy;exact l7.refl d _) hrd'
  rw[I6]at key;exact key
 split at hk;rename_i id;split at hk;rename_i ty' p T xs0 hb;split at hk;rename_i xs hxs;obtain⟨ee,rfl⟩:=iV hxs;cases ee;let⟨hcond,hk⟩:=dO hk;simp only[ar,dz,dj]at hcond;obtain⟨rfl,hmid⟩:=hcond;let⟨hroom,hk⟩:=c8 hk;simp only[dg,e_,hb,al]at h2;have hidlt:=hinv.low id _ hb;have hne:nx≠id:=M;have hrd:∀n∈rdl,aF (kZ id|||m) (ow n)=J:=λn hn=>by
  rw[bt,h6 n hn];simp
 generalize hh':(h.set id (Z (.qw p S.size (ah xs0)))).set nx (Z (.H ty' p S (xs0++q)))=h' at hk;have hrA:cz h (h.set id (Z (.qw p S.size (ah xs0)))):=cz.set λr hr=>by rw[bS,hb]at hr;exact hr
 have hg2:∀bytes,h'.get bytes=if bytes=nx then Z (.H ty' p S (xs0++q)) else if bytes=id then Z (.qw p S.size (ah xs0)) else h.get bytes:=λbytes=>by rw[<- hh',PT.get_set,PT.get_set]
 have hr:cz h h':=by
  rw[<- hh'];refine hrA.trans (cz.set λr hr=>?_);rw[bS,PT.get_set,av hne,hfr]at hr;cases hr
 have hinv':kR h' (nx+1):=by
  refine ⟨λbytes A l hil=>?_,λbytes c hic=>?_⟩;rw[hg2]at hil;split at hil;cases hil;split at hil;cases hil;exact io hr l (hinv.G bytes _ l hil);rw[hg2]at hic;split at hic;omega;split at hic;omega;have:=hinv.low bytes c hic;omega
 have hme:jM h h':=(jM.of λbytes=>by
  rw[hg2];by_cases e1:bytes=nx;rw[aD e1,e1,hfr];exact .inr ⟨rfl,rfl⟩;rw[av e1];by_cases e2:bytes=id;rw[aD e2,e2,hb];exact .inr ⟨rfl,rfl⟩;rw[av e2];exact .inl rfl)
 have hsame:∀n,n≠nm nx->n≠nm id->erHF h' n=erHF h n:=λn h1 h2=>nF hinv hr hme λbytes e=>by
  subst e;rw[hg2,av (λe=>h1 (by rw[e])),av (λe=>h2 (by rw[e]))]
 have hdead:erHF h' (nm id)=U:=by rw[ct,hg2,av M,aD rfl];rfl
 have hnew:erHF h' (nm nx)=if p&&l! (xs0++q)==0 then U else Z ⟨ty',.fz ((xs0++q).flatMap (bQ S))⟩:=by rw[ct,hg2,aD rfl];rfl
 have hval:dg h' (.I nx)=Z (eM p nx S.size (l! (xs0++q))):=by simp only[dg,bS,hg2,bC,aH,lj]
 have hwm:∀n,n=nm nx\/n=nm id->aF (kZ id|||kZ nx) (ow n)=J:=λn hn=>by
  rcases hn with rfl|rfl<;>rw[eH,bt,b7.2 rfl]<;>simp
 refine ⟨_,_,_,_,_,hk,?_⟩;by_cases hp:(p&&l! xs0==0)=J;have hyb:y= .emp:=by rw[<- h2];unfold eM;rw[aD hp]
 subst hyb;simp only[ar,dz]at hp;obtain⟨rfl,hl0⟩:=hp;have hnil:xs0=[]:=gg.1 hl0;subst hnil;have hroom':bk (ah q) i=J:=by simpa using hroom
 have ty:eE (.app ty' S.size i s x) (GZ e h) H (nm nx)=if ah q==0 then Z ⟨.emp,rdl,[],[],[]⟩ else Z ⟨.I (nm nx) S.size (ah q),rdl,[nm nx],[(nm nx,⟨ty',qB ((q.flatMap (bQ S)).map .f)⟩)],[nm nx]⟩:=by
  simp only[eE,h1,h3,h5,JL,hroom',r8,bC]
 have hdead0:erHF h (nm id)=U:=by rw[ct,hb];rfl
 by_cases hl:ah q=0;rw[hl]at ty;simp only[dA,bC]at ty;have hnil:q=[]:=gg.1 hl;subst hnil;refine iy.mk' hc hH ty [] b8 (λn _=>?_) b8 (λH1 H2 d _ _ _=>⟨b8,λyb hy=>?_⟩) hrd b8 b8 hr hinv' M;by_cases hn:n=nm nx;subst hn;rw[hnew,ct,hfr];rfl;by_cases hn2:n=nm id;subst hn2;rw[hdead,hdead0];exact hsame n hn hn2;rw[hval]at hy;cases hy;exact l7.refl d _;rw[av (by simpa using hl),xo]at ty;refine iy.mk' hc hH ty [nm nx] (λbytes hi=>hi) (λn hn=>?_) (λbytes hi b' _=>⟨_,by rw[aD hi];simp only[aG]at hi;subst hi;exact gz _ _⟩) (λH1 H2 d hw1 _ hw2=>⟨λbytes hi u b' hb1 hb2=>?_,λyb hy=>?_⟩) hrd (λn hn=>hwm n (.inl (by simpa using hn))) (λn hn=>by simp only[aG]at hn;subst hn;rw[eH];omega) hr hinv' M;have hn1:n≠nm nx:=by simpa using hn
 by_cases hn2:n=nm id;subst hn2;rw[hdead,hdead0];exact hsame n hn1 hn2;simp only[aG]at hi;subst hi;rw[hw1 _ b8,gz]at hb1;rw[hw2 _ b8,hnew,av (by simpa using hl)]at hb2;simp only[al,lP]at hb1 hb2;subst hb1 hb2;exact iQ.refl d _;rw[hval]at hy;simp only[eM,lP]at hy;rw[av (by simpa using hl)]at hy;cases hy;exact l7.refl d _;have hyb:y= .I (nm id) S.size (l! xs0):=by rw[<- h2];unfold eM;rw[av hp]
 subst hyb;have hg:H.get (nm id)=Z ⟨ty',.fz (xs0.flatMap (bQ S))⟩:=by rw[hH,ct,hb];simp only[aH,mT,av hp]
 have fl:=fe (bA S) xs0;have tk:(xs0.flatMap (bQ S)).take (l! xs0*S.size)=xs0.flatMap (bQ S):=by rw[<- fl,cO]
 have hmem:mem (nm id) rdl=af:=by
  cases hx:mem (nm id) rdl with
  |false=>rfl
  |true=>
   have hm:=h6 _ (asd.1 hx);rw[eH,hmid]at hm;cases hm
 have ty:eE (.app ty' S.size i s x) (GZ e h) H (nm nx)=Z ⟨.I (nm nx) S.size (l! xs0+l! q),nm id::rdl,[nm nx,nm id],[(nm nx,⟨ty',.fz ((xs0++q).flatMap (bQ S))⟩)],[nm nx]⟩:=by
  have hcnd:(S.size==S.size&& !(mem (nm id) rdl)&&(BC.fz (xs0.flatMap (bQ S))).isCells&&di (l! xs0*S.size) (BC.fz (xs0.flatMap (bQ S))).len&&ty'==ty'&&bk (l! xs0+l! q) i)=J:=by
   have:di (l! xs0*S.size) (BC.fz (xs0.flatMap (bQ S))).len=J:=bj (by simp only[BC.len];omega);rw[this,hmem,hroom];simp[BC.isCells]
  simp only[eE,h1,h3,h5,hg,hcnd,bC,BC.toMx,<-lh,tk,<-b_,xo,zD]
 have hne2:¬((p&&l! (xs0++q)==0)=J):=by
  simp only[ar,dz,aQ]at hp ⊢;intro hh;exact hp ⟨hh.1,M⟩
 refine iy.mk' hc hH ty [nm nx,nm id] (λbytes hi=>hi) (λn hn=>?_) (λbytes hi b' hb'=>?_) (λH1 H2 d hw1 _ hw2=>⟨λbytes hi u b' hb1 hb2=>?_,λyb hy=>?_⟩) (λn hn=>?_) (λn hn=>hwm n (by simpa using hn)) (λn hn=>by simp only[aG]at hn;subst hn;rw[eH];omega) hr hinv' M;simp only[bc,cA,fM,not_or]at hn;exact hsame n hn.1 hn.2;simp only[bc,cA,fM]at hi;rcases hi with rfl|rfl;exact⟨_,by rw[aD b8];exact gz _ _⟩;rw[hdead]at hb';cases hb';simp only[bc,cA,fM]at hi;rcases hi with rfl|rfl;rw[hw1 _ b8,gz]at hb1;rw[hw2 _ b8,hnew,av hne2]at hb2;simp only[al]at hb1 hb2;subst hb1 hb2;exact iQ.refl d _;rw[hw2 _ b8,hdead]at hb2;cases hb2;rw[hval]at hy;simp only[eM]at hy;rw[av hne2]at hy;simp only[aQ,al]at hy;subst hy;exact l7.refl d _;rcases bc.1 hn with rfl|hn;rw[eH,bt,b7.2 rfl];rfl;exact hrd n hn;cases hk;cases hk;rename_i T xs1;split at hk;rename_i xs hxs;obtain⟨ee,rfl⟩:=iV hxs;cases ee;let⟨hroom,hk⟩:=c8 hk;cases h2;have fl:=fe (bA S) xs1;have tk:(xs1.flatMap (bQ S)).take (l! xs1*S.size)=xs1.flatMap (bQ S):=by rw[<- fl,cO]
 have hcnd:(di (l! xs1*S.size) (l! (xs1.flatMap (bQ S)))&&bk (l! xs1+l! q) i)=J:=by
  have hroom:bk (l! xs1+l! q) i=J:=hroom;rw[hroom,Bool.and_true];exact bj M
 rcases pq hk with ⟨hl,hk⟩|⟨hl,hk⟩;have hl:=au hl;have hl':(ah q==0)=J:=by rw[hl];rfl
 have ty:eE (.app A S.size i s x) (GZ e h) H (nm nx)=Z ⟨.f (.sl (xs1.flatMap (bQ S)) (l! xs1)),rdl,[],[],[]⟩:=by simp only[eE,h1,h3,h5,hcnd,bC,hl']
 exact⟨_,m,0,h,nx,hk,iy.mk' hc hH ty [] b8 (λn _=>rfl) b8 (λH1 H2 d _ _ _=>⟨b8,λyb hy=>by cases hy;exact l7.refl d _⟩) h6 b8 b8 (cz.refl h) hinv M⟩;have hl':¬(ah q==0)=J:=λe=>by
  have e:ah q=0:=by simpa using e
  rw[e]at hl;cases hl
 exact⟨_,_,_,_,_,hk,iy.new hinv hc hH (y0:=.I (nm nx) S.size (l! xs1+l! q)) (rdl:=rdl) (b0:=⟨A,.fz ((xs1++q).flatMap (bQ S))⟩) (by
  simp only[eE,h1,h3,h5,hcnd,bC];rw[av hl',tk,<-b_,xo,<-zD]) (B:=.H A af S (xs1++q)) (v:=.I nx) (eh.zero h) (λ_ _ he=>by cases he) (λH1 H2 d g b' hb'=>by
  cases hb';exact iQ.refl d _) (λH1 H2 yb d g hy=>by
  simp only[dg,bS,PT.get_set,bC,aH,lj,eM,tU,cE,dQ,aQ,al]at hy;subst hy;exact l7.refl d _) h6⟩
 cases hk;let⟨hroom,hk⟩:=c8 hk;cases h2;exact⟨_,_,_,_,_,hk,onEmp m h6 rfl (Le.refl _) hroom⟩;let⟨hroom,hk⟩:=c8 hk;cases h2;exact⟨_,_,_,_,_,hk,onEmp m h6 rfl Le.nilEmp hroom⟩;cases hk
def aBo {x:Operand} (hcm:IH (V A)=U) (hc:cY P o.op=Z (.app A i m s x)) (hk:fh X V (.op (.app A i m s x)) e h nx K=Z r):k_ P o af e h nx K r:=by
 let⟨H,q⟩:=jW h;simp only[fh,hcm]at hk;split at hk;rename_i T b y hT hv ty;let⟨I,hk⟩:=dO hk;have I:=au I;subst I;let⟨yb,h1,h2⟩:=bD hi hv;let⟨yy,h3,h4⟩:=bD hi ty;split at hk;rename_i j xs id hq;let⟨hj,hk⟩:=c8 hk;let⟨h5,h6⟩:=arl q hq h4 hj;exact ahh hinv hi q hc h1 h2 h3 h5 h6 hk;split at hk;rename_i ys bytes hys;let⟨rdl,h5,h6⟩:=MP q hys h4;exact ahh hinv hi q hc h1 h2 h3 h5 (λn hn=>by obtain⟨sz,rfl,hm⟩:=h6 n hn;rw[eH];exact hm) hk;cases hk;cases hk
def aot (xs A:Y S.den):(ZZ xs A).flatMap (bQ S)=AI.splice (xs.flatMap (bQ S)) 0 ((A.flatMap (bQ S)).take (mr (l! A) (l! xs)*S.size)):=by
 have _:=hinv;have _:=hi;have fl:=λq:Y S.den=>fe (bA S) q
 have tk:∀(q:Y S.den) n,(q.flatMap (bQ S)).take (n*S.size)=(q.take n).flatMap (bQ S):=by
  intro q;induction q with
  |nil=>intro n;simp
  |cons z r I=>
   intro n;cases n with
   |zero=>simp
   |succ n=>rw[fK,zu,fK,lD,List.take_append,bA,dZ (by rw[bA];omega),show n*S.size+S.size-S.size=n*S.size from M,I n]
 have dp:∀(q:Y S.den) n,(q.flatMap (bQ S)).drop (n*S.size)=(q.drop n).flatMap (bQ S):=by
  intro q;induction q with
  |nil=>intro n;simp
  |cons z r I=>
   intro n;cases n with
   |zero=>simp
   |succ n=>rw[fK,LZ,lD,yc,bA,Eh (by rw[bA];omega),show n*S.size+S.size-S.size=n*S.size from M,I n,lP]
 unfold ZZ AI.splice;rw[tk,zD,fl,bm];have e1:A.take (mr (l! A) (l! xs))=A.take (l! xs):=cf;have e2:min (mr (l! A) (l! xs)) (l! A)=mr (l! A) (l! xs):=AM (Nat.min_le_left _ _);rw[e2];simp[List.take_zero,lP,bV];rw[dp]
 grind
def aBl {x:Operand} (hc:cY P o.op=Z (.copy i s x)) (hk:fh X V (.op (.copy i s x)) e h nx K=Z r):k_ P o af e h nx K r:=by
 let⟨H,hH⟩:=jW h;simp only[fh]at hk;split at hk;rename_i id y hv I;split at hk;rename_i ty p T xs hb;split at hk;rename_i hs;have hs:=au hs;subst hs;split at hk;rename_i q m hys;let⟨hcond,hk⟩:=dO hk;simp[ar,dj]at hcond;obtain⟨hmid,rfl⟩:=hcond;let⟨yb,h1,h2⟩:=bD hi hv;let⟨yy,h3,h4⟩:=bD hi I;let⟨rdl,h5,h6⟩:=MP hH hys h4;simp[dg,e_,hb,eM,tU,cE,dQ,al]at h2;subst h2;have fl:=fe (bA T) xs;have hg:H.get (nm id)=Z ⟨ty,.fz (xs.flatMap (bQ T))⟩:=by rw[hH,ct,hb];simp[mT]
 have hmem:mem (nm id) rdl=af:=by
  cases A:mem (nm id) rdl with
  |false=>rfl
  |true=>
   let⟨sz,e,hm⟩:=h6 _ (asd.1 A);rw[<- A_ e,hmid]at hm;cases hm
 have hle:mr (l! q) (l! xs)*T.size<=l! xs*T.size:=cD _ (Nat.min_le_right _ _);have ha0:eE (.copy T.size s x) (GZ e h) H (nm nx)=Z ⟨raw (.int .i64 (mr (l! q) (l! xs))),nm id::rdl,[nm id],[(nm id,⟨ty,.fz ((ZZ xs q).flatMap (bQ T))⟩)],[]⟩:=by
  have hcnd:(T.size==T.size&& !(mem (nm id) rdl)&&di (l! xs*T.size) (BC.fz (xs.flatMap (bQ T))).len)=J:=by
   have:di (l! xs*T.size) (BC.fz (xs.flatMap (bQ T))).len=J:=bj (by simp only[BC.len];omega);rw[this,hmem];simp
  have hput:(BC.fz (xs.flatMap (bQ T))).put 0 (((q.flatMap (bQ T)).map .f).take (mr (l! q) (l! xs)*T.size))=Z (.fz ((ZZ xs q).flatMap (bQ T))):=by
   rw[<- lh];unfold BC.put;rw[aD];simp only[Qm];rw[aot hinv hi];simp only[ar];refine ⟨⟨rfl,bj ?_⟩,?_⟩;simp only[BC.len,bL,bm];omega;have:∀l:Y FV,(∀x∈l,x.isCell=J)->il (l.map .f)=J:=by
    intro l hl;induction l with
    |nil=>rfl
    |cons z r ih=>simp[d5,il,ar];exact⟨hl z b8,ih λx A=>hl x cf⟩
   exact this _ λx A=>uF T q x (dL A)
  simp only[eE,h1,h3,hg,h5,hcnd,bC,hput]
 have hrow:lj (.H ty af T (ZZ xs q))=lj (.H ty af T xs):=by
  have:l! (ZZ xs q)=l! xs:=by unfold ZZ;rw[aQ,bm,fG];omega
  simp[lj,this]
 have key:=iy.wrt (m:=0) (v:=.f (.int .i64) (aZ (mr (ah q) (ah xs)))) (rd:=kZ id|||m) hinv hc hH ha0 (B:=.H ty af T (ZZ xs q)) hb (eh.zero h) b8 hrow (λ_ _ he=>by cases he) (λH1 H2 s g b' hb'=>by
  cases hb';exact iQ.refl s _) (λH1 H2 y s g hy=>by
  cases hy;exact l7.refl s _) (λn hn=>by
  rcases bc.1 hn with rfl|hn;rw[eH,bt,b7.2 rfl];rfl;obtain⟨sz,rfl,hm⟩:=h6 n hn;rw[eH,bt,hm];simp)
 rw[I6]at key;exact⟨_,_,_,_,_,hk,key⟩;cases hk;cases hk;cases hk;cases hk
def avh {v:Operand} (hc:cY P o.op=Z (.store i s v)) (hk:fh X V (.op (.store i s v)) e h nx K=Z r):k_ P o af e h nx K r:=by
 let⟨H,hH⟩:=jW h;simp only[fh]at hk;split at hk;rename_i id off y hv hv2;let⟨yb,h1,h2⟩:=bD hi hv;let⟨A,h3,h4⟩:=bD hi hv2;cases h2;split at hk;rename_i ty l hb;split at hk;rename_i cs hcs;let⟨hcond,hk⟩:=dO hk;simp only[ar,dz]at hcond;let⟨h5,h6⟩:=TJ hcs h4;let⟨l',hl⟩:=gY h l (hinv.G id _ l hb);have hg:H.get (nm id)=Z ⟨ty,.mx l'⟩:=by rw[hH,ct,hb];simp only[aH,mT,hl]
 have hcell:=wI h5 h6;have hlen:A.cs.length=i:=by rw[kW h5];exact hcond.1
 have hput:(BC.mx l').put off A.cs=Z (.mx (splice l' off A.cs)):=by
  unfold BC.put;rw[aD];rfl;simp only[ar];exact⟨⟨rfl,by simp only[BC.len];rw[hlen,kW hl];exact hcond.2⟩,hcell⟩
 have ha0:eE (.store i s v) (GZ e h) H (nm nx)=Z ⟨raw undef,[nm id],[nm id],[(nm id,⟨ty,.mx (splice l' off A.cs)⟩)],[]⟩:=by
  simp only[eE,h1,h3,Kq,hg,hlen,dA,bC,hput]
 have hspl:∀h',cz h h'->dx h' (splice l off cs)=Z (splice l' off A.cs):=λh' hr=>yz off (kB hr l l' hl) (kB hr cs _ h5)
 have hr1:cz h (h.set id (Z (.G (Z ty) (splice l off cs)))):=cz.set λr hr=>by rw[bS,hb]at hr;cases hr
 have key:=iy.wrt (m:=0) (v:=.undef) (rd:=kZ id) hinv hc hH ha0 (B:=.G (Z ty) (splice l off cs)) hb (eh.zero h) b8 rfl (λty' l2 he=>by cases he;exact oH _ _ _ (hspl _ hr1)) (λH1 H2 d g b' I=>by
  have:=hspl _ hr1;simp only[eP,x_,bC,mT,this,al]at I;subst I;exact iQ.refl d _) (λH1 H2 y d g hy=>by
  cases hy;exact l7.refl d _) (λn hn=>by simp only[aG]at hn;subst hn;rw[eH];exact b7.2 rfl)
 rw[I6]at key;exact⟨_,_,_,_,_,hk,key⟩;cases hk;cases hk;rename_i id sz' j off y hv hv2;let⟨yb,h1,h2⟩:=bD hi hv;let⟨A,h3,h4⟩:=bD hi hv2;cases h2;split at hk;rename_i ty p T xs hb;split at hk;rename_i hsz;have hsz:=au hsz;subst hsz;let⟨hj,hk⟩:=c8 hk;split at hk;rename_i z m hset;split at hk;cases hk;rename_i hmid;have hmid:aF m id=af:=by simpa using hmid
 have hm:=Em 40 T _ off i z m hset;let⟨j0,j1,j2⟩:=vM hj;have hne:¬((p&&xs.length==0)=J):=cf;have hne2:¬((p&&(bW xs j z).length==0)=J):=by unfold bW;rw[c_];exact hne
 have hg:H.get (nm id)=Z ⟨ty,.fz (xs.flatMap (bQ T))⟩:=by rw[hH,ct,hb];simp only[aH,mT,av hne]
 have fl:=fe (bA T) xs;have hx:xs[j.toNat]? =Z (aE _ xs j):=by
  unfold aE;rw[aC,aI j2];rfl
 have hle:(j.toNat+1)*T.size<=xs.length*T.size:=cD _ j2;rw[lD]at hle;have hso:∀H1 H2,vF H1 H2->Jd h H1 H2 m->ahn H1 H2 A T (aE _ xs j) z off i:=λH1 H2 d g=>zL d h4 40 T _ off i z m hset g
 have hshape:A.cs.length=i/\off+i<=T.size/\il A.cs=J:=by
  have d0:vF (erHF h) (erHF (eP m h)):=vF.kill hinv hm;let⟨fs,q1,q2,q3,q4,q5⟩:=hso _ _ d0 (λsz hi=>⟨rfl,by
   let⟨pp,ss,nn,g3⟩:=wV hm hi;rw[ct,g3];rfl⟩)
  refine ⟨by rw[<- q2,<-bL (f:=AV.f),q1.length],q3,?_⟩;exact ui h4 40 T _ off i z m hset
 let⟨hlen,hoff,hcell⟩:=hshape;obtain⟨c',hput,hc1,hc2⟩:∃c',(BC.fz (xs.flatMap (bQ T))).put (j.toNat*T.size+off) A.cs=Z c'/\c'.toMx=splice ((xs.flatMap (bQ T)).map .f) (j.toNat*T.size+off) A.cs/\c'.isCells=J:=by
  unfold BC.put;rw[aD];split;rename_i l ys hl hys;cases hl;refine ⟨_,rfl,?_,rfl⟩;rw[sC hys];simp only[BC.toMx];unfold splice;simp[lh,List.map_drop];exact⟨_,rfl,rfl,rfl⟩;simp only[ar];exact⟨⟨rfl,bj (by simp only[BC.len];omega)⟩,hcell⟩
 have ha0:eE (.store i s v) (GZ e h) H (nm nx)=Z ⟨raw undef,[nm id],[nm id],[(nm id,⟨ty,c'⟩)],[]⟩:=by
  simp only[eE,h1,h3,Kq,hg,hlen,dA,bC,hput]
 have hrow:lj (.H ty p T (bW xs j z))=lj (.H ty p T xs):=by
  unfold bW;simp only[lj,c_]
 refine ⟨_,_,_,_,_,hk,iy.wrt hinv hc hH ha0 (B:=.H ty p T (bW xs j z)) hb hm hmid hrow (λ_ _ he=>by cases he) (λH1 H2 d g b' I=>?_) (λH1 H2 y d g hy=>?_) (λn hn=>?_)⟩;simp only[mT,av hne2,al]at I;subst I;let⟨fs,q1,q2,q3,q4,q5⟩:=hso H1 H2 d g;have hfl:(bW xs j z).flatMap (bQ T)=AI.splice (xs.flatMap (bQ T)) (j.toNat*T.size+off) fs:=Yf (bA T) xs j.toNat _ z hx off fs M q4;refine iQ.G hc2 rfl ?_ λs hx=>?_
 rw[hc1];simp only[BC.toMx];rw[hfl];have:(AI.splice (xs.flatMap (bQ T)) (j.toNat*T.size+off) fs).map AV.f=AI.splice ((xs.flatMap (bQ T)).map .f) (j.toNat*T.size+off) (fs.map .f):=by unfold AI.splice;simp[lh,List.map_drop]
 rw[this];exact (iY.refl d _).splice _ q1;simp only[BC.toMx]at hx;obtain⟨q,hq,rfl⟩:=cF.1 hx;exact uF T _ q hq;cases hy;exact l7.refl d _;simp only[aG]at hn;subst hn;rw[eH,bt,b7.2 rfl];simp;cases hk;cases hk;cases hk;cases hk
def aBh {c:Operand} (hc:cY P o.op=Z (.zd A i m k s c)) (hk:fh X V (.op (.zd A i m k s c)) e h nx K=Z r):k_ P o af e h nx K r:=by
 cases hcm:IH (V A) with
 |none=>exact avi hinv hi hcm hc hk
 |some n=>
  let⟨H,hH⟩:=jW h;simp only[fh,hcm]at hk;split at hk;rename_i zc z a k' b ty hv hv2;let⟨hck,hk⟩:=c8 hk;rw[ar]at hck;let⟨hcond,hn⟩:=hck;let⟨y,h1,h2⟩:=bD hi hv;let⟨y2,h3,h4⟩:=bD hi hv2;simp[dg,al]at h2 h4;subst h2 h4;have han:aL a=n:=cf;let⟨_,_,hzc⟩:=yF h ty;refine ⟨_,_,_,_,_,hk,iy.new hinv hc hH (y0:=.I (nm nx) i n) (rdl:=[]) (b0:=⟨A,.fz (repl k n)⟩) (by simp[eE,h1,h3,iu,hcond,bC,han]) (eh.zero h) (λty' l' he=>?_) (λH1 H2 d g b' q=>?_) (λH1 H2 y d g hy=>?_) b8⟩;cases he;exact oH _ _ _ (St _ ty n);simp[mT,St _ ty n,al]at q;subst q;refine iQ.G rfl rfl (iY.refl d _) λx hx=>?_
  exact nH (wI (St h ty n) (Ks hzc n)) x hx;cases hy;exact l7.refl d _;cases hk
def aFl {parts:Y j?} (hc:cY P o.op=Z (.xq A i m k parts)) (hk:fh X V (.op (.xq A i m k parts)) e h nx K=Z r):k_ P o af e h nx K r:=by
 cases hcm:IH (V A) with
 |none=>exact aBn hinv hi hcm hc hk
 |some n=>
  let⟨H,hH⟩:=jW h;simp only[fh,hcm]at hk;split at hk;rename_i zc hz;split at hk;rename_i cs hf;split at hk;cases hk;rename_i hl;have hl:m≠0:=λe=>hl (by rw[e];rfl)
  let⟨cs',h1,h2,h3⟩:=Ic hi parts _ cs _ hf (St h hz m);let⟨_,_,hzc⟩:=yF h hz;have hcs:=h3 (Ks hzc m);have hr:cz h ((eP 0 h).set nx (Z (.G (Z A) cs))):=(cz.kill 0 h).trans (cz.set λr hr=>by rw[bS,(hinv.kill 0).fresh]at hr;cases hr);have ty:=kB hr _ _ h2;refine ⟨_,_,_,_,_,hk,iy.new hinv hc hH (y0:=.I (nm nx) i m) (rdl:=[]) (b0:=⟨A,qB cs'⟩) (by simp[eE,h1,av hl]) (eh.zero h) (λty' l' he=>?_) (λH1 H2 d g b' q=>?_) (λH1 H2 y d g hy=>?_) b8⟩;cases he;exact oH _ _ _ ty;simp[mT,ty,al]at q;subst q;let⟨q1,q2⟩:=pM cs';refine iQ.G q2 rfl ?_ λx hx=>nH (wI h2 hcs) x hx
  rw[q1];exact iY.refl d _;cases hy;exact l7.refl d _;cases hk;cases hk
def aFo {x:Operand} (hc:cY P o.op=Z (.app A i m s x)) (hk:fh X V (.op (.app A i m s x)) e h nx K=Z r):k_ P o af e h nx K r:=by
 cases hcm:IH (V A) with
 |none=>exact aBo hinv hi hcm hc hk
 |some n0=>
  let⟨H,hH⟩:=jW h;have hfr:=hinv.fresh;simp only[fh,hcm]at hk;split at hk;rename_i b y hv hv2;let⟨yb,h1,h2⟩:=bD hi hv;let⟨yy,h3,h4⟩:=bD hi hv2;unfold awx at hk;split at hk;rename_i id2 sz2 bytes;cases h4;split at hk;rename_i ty2 l2 hb2;split at hk;rename_i ty;simp only[ar,dj]at ty;let⟨⟨q1,q2⟩,q3⟩:=ty;have q1:=au q1;have q2:=au q2;have q3:bytes≠0:=λe=>cf
  subst q1;let⟨l2',hl2⟩:=gY h l2 (hinv.G id2 _ l2 hb2);have hrow:=atm hH hb2 hl2 q2;split at hk;rename_i id sz1 n;cases h2;split at hk;rename_i ty1 l1 hb1;let⟨ty,hk⟩:=dO hk;simp only[ar,dj]at ty;let⟨⟨⟨p1,p2⟩,p3⟩,p4⟩:=ty;have p1:=au p1;have p2:=eq_of_beq p2;have p3:=au p3;have p4:id≠id2:=λe=>by simp_all
  subst p1 p2;let⟨hroom,hk⟩:=c8 hk;let⟨l1',hl1⟩:=gY h l1 (hinv.G id _ l1 hb1);have hln:=kW hl1;have hg:H.get (nm id)=Z ⟨ty1,.mx l1'⟩:=by rw[hH,ct,hb1];simp only[aH,mT,hl1]
  have hidlt:id<nx:=hinv.low id _ hb1;generalize hB:gi.G (Z ty1) (l1++l2)=B at hk;have hd1:cz h (h.set id (Z (.qw J 0 0))):=cz.set λr hr=>by rw[bS,hb1]at hr;cases hr
  have hd2:cz (h.set id (Z (.qw J 0 0))) ((h.set id (Z (.qw J 0 0))).set nx (Z B)):=cz.set λr hr=>by
   rw[bS,PT.get_set,av M,hfr]at hr;cases hr
  have hr:=hd1.trans hd2;have hsp:dx ((h.set id (Z (.qw J 0 0))).set nx (Z B)) (l1++l2)=Z (l1'++l2'):=kB hr _ _ (pm hl1 hl2);have hb':erHF ((h.set id (Z (.qw J 0 0))).set nx (Z B)) (nm nx)=Z ⟨ty1,.mx (l1'++l2')⟩:=by rw[ct,PT.get_set,aD rfl,<-hB]at *;simp only[aH,mT,hsp]
  have hbd:erHF ((h.set id (Z (.qw J 0 0))).set nx (Z B)) (nm id)=U:=by rw[ct,PT.get_set,av M,PT.get_set,aD rfl];rfl
  have hinv1:kR (h.set id (Z (.qw J 0 0))) nx:=hinv.set hd1 hidlt (bg _) (λ_ _ he=>by cases he);have ha:eE (.app ty1 sz1 m s x) (GZ e h) H (nm nx)=Z ⟨.I (nm nx) sz1 (n+bytes),[nm id,nm id2],[nm nx,nm id],[(nm nx,⟨ty1,qB (l1'++l2')⟩)],[nm nx]⟩:=by
   simp only[eE,h1,h3,hrow,hg];rw[aD (by
    simp only[dA,du,Bool.and_true,BC.isCells,BC.len,hroom,ar,dj];refine ⟨?_,bj M⟩;simp only[mem,Bool.or_false];cases ty:aB (nm id2) (nm id) with
    |false=>rfl
    |true=>exact bi (A_ (au ty)).symm p4)]
   simp only[BC.toMx,dZ (show (l! l1')<=n*sz1 by omega)]
  refine ⟨_,_,_,_,_,hk,iy.mk' hc hH ha [nm nx,nm id] (λsz hi=>hi) (λq ty=>?_) (λsz hi b' hbb=>?_) (λH1 H2 d hw1 _ hw2=>⟨λsz hi b b' hb hb2=>?_,λy hy=>?_⟩) (λq ty=>?_) (λq ty=>?_) (λq ty=>?_) hr (hinv1.set hd2 M M λty' l' he=>?_) M⟩;simp only[bc,cA,fM,not_or]at ty;refine nF hinv hr (jM.of λsz=>by
   by_cases e1:sz=nx;rw[e1,hfr,PT.get_set,aD rfl];exact .inr ⟨rfl,by rw[<- hB];rfl⟩;rw[PT.get_set,av e1];by_cases e2:sz=id;rw[e2,hb1,PT.get_set,aD rfl];exact .inr ⟨rfl,rfl⟩;rw[PT.get_set,av e2];exact .inl rfl) λsz ei=>?_
  subst ei;rw[PT.get_set,av (λe=>ty.1 (by rw[e])),PT.get_set,av (λe=>ty.2 (by rw[e]))];simp only[bc,cA,fM]at hi;rcases hi with rfl|rfl;rw[aD b8];exact⟨_,gz _ _⟩
  grind
  simp only[bc,cA,fM]at hi;rcases hi with rfl|rfl;rw[hw1 _ b8,gz]at hb;rw[hw2 _ b8,hb']at hb2;simp only[al]at hb hb2;subst hb hb2;let⟨m1,m2⟩:=pM (l1'++l2');exact iQ.eq d m2 rfl m1
  grind
  cases hy;exact l7.refl d _;simp only[bc,cA,fM]at ty;rw[bt,gm];rcases ty with rfl|rfl;rw[eH];exact .inl (b7.2 rfl);rw[eH];exact .inr (b7.2 rfl);simp only[bc,cA,fM]at ty;rw[bt,gm];rcases ty with rfl|rfl;rw[eH];exact .inr (b7.2 rfl);rw[eH];exact .inl (b7.2 rfl);simp only[aG]at ty;subst ty;rw[eH];omega;rw[<- hB]at he;cases he;exact oH _ _ _ hsp;cases hk;cases h2;let⟨hroom,hk⟩:=c8 hk;have hr:cz h ((eP 0 h).set nx (Z (.G (Z A) l2))):=(cz.kill 0 h).trans (cz.set λr hr=>by rw[bS,(hinv.kill 0).fresh]at hr;cases hr);have h2':=kB hr _ _ hl2;refine ⟨_,_,_,_,_,hk,iy.new hinv hc hH (y0:=.I (nm nx) sz2 bytes) (rdl:=[nm id2]) (b0:=⟨A,qB l2'⟩) (by simp only[eE,h1,h3,hrow];simp[JL,Ez,hroom,q3]) (eh.zero h) (λty' l' he=>?_) (λH1 H2 d g b' hb'=>?_) (λH1 H2 y d g hy=>?_) (λn hn=>?_)⟩;cases he;exact oH _ _ _ h2';simp only[mT,h2',al]at hb';subst hb';let⟨p1,p2⟩:=pM l2';exact iQ.eq d p2 rfl p1;cases hy;exact l7.refl d _;simp only[aG]at hn;subst hn;rw[eH];exact b7.2 rfl;cases hk;cases hk;cases hk;cases hk;cases hk
def aF2 {lo hi' mx:aj Operand} (hc:cY P o.op=Z (.slc i s lo hi' mx)) (hk:fh X V (.op (.slc i s lo hi' mx)) e h nx K=Z r):k_ P o af e h nx K r:=by
 have hfr:=hinv.fresh;simp only[fh]at hk;split at hk;rename_i v hv;let⟨y,h1,h2⟩:=bD hi hv;split at hk;let⟨hn,hk⟩:=dO hk;let⟨n,hn⟩:=kq.1 hn;have h3:=Xq hn h2;exact k_.q (k:=0) hinv hc (λH _=>by simp only[eE,h1,h3,Option.isSome_some,bC]) (dk rfl) hk;rename_i b;split at hk;rename_i T xs k j hb;let⟨y2,h3,h4⟩:=bD hi hb;simp only[dg,al]at h2 h4;subst h2 h4;split at hk;rename_i A;have A:=au A;subst A;let⟨hj,hk⟩:=c8 hk;have hfl:=fe (bA T) xs;have hcond:(cN 0 j&&cN j (ah xs)&&di (ah xs*T.size) (l! (xs.flatMap (bQ T))))=J:=by
  rw[hj,du];exact bj M
 simp only[cN,ar,bl]at hj;have hlen:l! (xs.take j.toNat)=j.toNat:=by rw[bm];omega
 exact k_.q (k:=0) (y0:=.f (.sl ((xs.flatMap (bQ T)).take (j.toNat*T.size)) j.toNat)) hinv hc (λH _=>by simp only[eE,h1,h3,iu,hcond,bC]) (dk (by simp only[dg,iu];rw[wU (bA T),hlen])) hk;cases hk;rename_i id k j hb;let⟨y2,h3,h4⟩:=bD hi hb;cases h4;split at hk;rename_i ty p T xs hr0;let⟨A,hk⟩:=dO hk;have A:=au A;subst A;let⟨hj,hk⟩:=c8 hk;let⟨H,hH⟩:=jW h;have hj0:=hj;simp only[cN,hY,ar,bl]at hj;have hp:¬((p&&l! xs==0)=J):=by
  simp only[ar,dz];omega
 simp only[dg,bS,hr0,aH,lj,eM,av hp,al]at h2;subst h2;have hidlt:=hinv.low id _ hr0;have hne:nx≠id:=M;have hg:H.get (nm id)=Z ⟨ty,.fz (xs.flatMap (bQ T))⟩:=by rw[hH,ct,hr0];simp only[aH,mT,av hp]
 have fl:=fe (bA T) xs;have hcond:(T.size==T.size&&cN 0 j&&cN j (ah xs))=J:=by
  simp only[cN,ar,bl,dA,FW];omega
 have hlen:l! (xs.take j.toNat)=j.toNat:=by rw[bm];omega
 have ha0:eE (.slc T.size s U (Z b) U) (GZ e h) H (nm nx)=Z ⟨.I (nm nx) T.size j.toNat,[nm id],[nm nx,nm id],[(nm nx,⟨ty,.fz ((xs.take j.toNat).flatMap (bQ T))⟩)],[nm nx]⟩:=by
  have hc2:((BC.fz (xs.flatMap (bQ T))).isCells&&di (ah xs*T.size) (BC.fz (xs.flatMap (bQ T))).len)=J:=by
   simp only[BC.isCells,du,BC.len];exact bj M
  simp only[eE,h1,h3,iu,hcond,bC,hg,hc2,BC.toMx,<-lh,xo,wU (bA T)]
 generalize hh':(h.set id (Z (.qw p T.size (ah xs)))).set nx (Z (.H ty af T (cG j.toNat xs)))=h' at hk;have hrA:cz h (h.set id (Z (.qw p T.size (ah xs)))):=cz.set λr hr=>by rw[bS,hr0]at hr;exact hr
 have hg2:∀sz,h'.get sz=if sz=nx then Z (.H ty af T (cG j.toNat xs)) else if sz=id then Z (.qw p T.size (ah xs)) else h.get sz:=λsz=>by rw[<- hh',PT.get_set,PT.get_set]
 have hr:cz h h':=by
  rw[<- hh'];refine hrA.trans (cz.set λr hr=>?_);rw[bS,PT.get_set,av hne,hfr]at hr;cases hr
 have hinv':kR h' (nx+1):=by
  refine ⟨λsz ty l hil=>?_,λsz c hic=>?_⟩;rw[hg2]at hil;split at hil;cases hil;split at hil;cases hil;exact io hr l (hinv.G sz _ l hil);rw[hg2]at hic;split at hic;omega;split at hic;omega;have:=hinv.low sz c hic;omega
 have hme:jM h h':=(jM.of λsz=>by
  rw[hg2];by_cases e1:sz=nx;rw[aD e1,e1,hfr];exact .inr ⟨rfl,rfl⟩;rw[av e1];by_cases e2:sz=id;rw[aD e2,e2,hr0];exact .inr ⟨rfl,rfl⟩;rw[av e2];exact .inl rfl)
 have hsame:∀n,n≠nm nx->n≠nm id->erHF h' n=erHF h n:=λn h1 h2=>nF hinv hr hme λsz e=>by
  subst e;rw[hg2,av (λe=>h1 (by rw[e])),av (λe=>h2 (by rw[e]))]
 have hdead:erHF h' (nm id)=U:=by rw[ct,hg2,av M,aD rfl];rfl
 have hnew:erHF h' (nm nx)=Z ⟨ty,.fz ((xs.take j.toNat).flatMap (bQ T))⟩:=by rw[ct,hg2,aD rfl];rfl
 have hval:dg h' (.I nx)=Z (.I (nm nx) T.size j.toNat):=by simp only[dg,bS,hg2,bC,aH,lj,eM,tU,cE,dQ,hlen]
 refine ⟨_,_,_,_,_,hk,?_⟩;refine iy.mk' hc hH ha0 [nm nx,nm id] (λsz hi=>hi) (λn hn=>?_) (λsz hi b' hb'=>?_) (λH1 H2 d hw1 _ hw2=>⟨λsz hi b b' hb1 hb2=>?_,λy hy=>?_⟩) (λn hn=>?_) (λn hn=>?_) (λn hn=>by simp only[aG]at hn;subst hn;rw[eH];omega) hr hinv' M;simp only[bc,cA,fM,not_or]at hn;exact hsame n hn.1 hn.2;simp only[bc,cA,fM]at hi;rcases hi with rfl|rfl;exact⟨_,by rw[aD b8];exact gz _ _⟩;rw[hdead]at hb';cases hb';simp only[bc,cA,fM]at hi;rcases hi with rfl|rfl;rw[hw1 _ b8,gz]at hb1;rw[hw2 _ b8,hnew]at hb2;simp only[al]at hb1 hb2;subst hb1 hb2;exact iQ.refl d _;rw[hw2 _ b8,hdead]at hb2;cases hb2;rw[hval]at hy;cases hy;exact l7.refl d _;simp only[aG]at hn;subst hn;rw[eH];exact b7.2 rfl;simp only[bc,cA,fM]at hn;rcases hn with rfl|rfl<;>rw[eH,bt,b7.2 rfl]<;>simp;cases hk;cases hk;rename_i b;split at hk;rename_i T xs k j hb;let⟨y2,h3,h4⟩:=bD hi hb;simp only[dg,al]at h2 h4;subst h2 h4;split at hk;rename_i A;have A:=au A;subst A;let⟨hj,hk⟩:=c8 hk;have hfl:=fe (bA T) xs;have hcond:(cN 0 j&&cN j (ah xs)&&di (ah xs*T.size) (l! (xs.flatMap (bQ T))))=J:=by
  rw[hj,du];exact bj M
 simp only[cN,ar,bl]at hj;have hlen:l! (xs.drop j.toNat)=ah xs-j.toNat:=by rw[fG]
 have htk:((xs.flatMap (bQ T)).drop (j.toNat*T.size)).take ((ah xs-j.toNat)*T.size)=(xs.flatMap (bQ T)).drop (j.toNat*T.size):=by
  refine dZ ?_;rw[fG,hfl,Nat.sub_mul];exact bg _
 exact k_.q (k:=0) (y0:=.f (.sl ((xs.flatMap (bQ T)).drop (j.toNat*T.size)) (ah xs-j.toNat))) hinv hc (λH _=>by simp only[eE,h1,h3,iu,hcond,bC,htk]) (dk (by simp only[dg,iu];rw[Bw (bA T),hlen])) hk;cases hk;rename_i id k j hb;let⟨y2,h3,h4⟩:=bD hi hb;simp only[dg,al]at h4;subst h4;split at hk;rename_i ty p T xs hr0;split at hk;rename_i A;have A:=au A;subst A;let⟨hj,hk⟩:=c8 hk;have hcond:(T.size==T.size&&cN 0 j&&hY j (ah xs))=J:=by
  simp only[ar]at hj;rw[hj.1,hj.2,dA];rfl
 simp only[cN,hY,ar,bl]at hj;have hp:¬((p&&l! xs==0)=J):=by
  simp only[ar,dz];omega
 simp only[dg,bS,hr0,aH,lj,eM,av hp,al]at h2;subst h2;exact k_.q (k:=0) (y0:=.sl (nm id) (j.toNat*T.size) (ah xs-j.toNat)) hinv hc (λH _=>by simp only[eE,h1,h3,iu,hcond,bC]) (dk (by simp only[dg,bS,hr0,aH,lj])) hk;cases hk;cases hk;cases hk;rename_i b b' hne;split at hk;rename_i T xs k j k' j' hb hb';let⟨y2,h3,h4⟩:=bD hi hb;let⟨y3,h5,h6⟩:=bD hi hb';simp only[dg,al]at h2 h4 h6;subst h2 h4 h6;split at hk;rename_i A;have A:=au A;subst A;let⟨hj,hk⟩:=c8 hk;have hfl:=fe (bA T) xs;have hcond:(decide (j=j')&&cN 0 j&&cN j (ah xs)&&di (ah xs*T.size) (l! (xs.flatMap (bQ T))))=J:=by
  rw[hj,du];exact bj M
 simp only[cN,ar,bl]at hj;have hlen:l! (xs.take j.toNat)=j.toNat:=by rw[bm];omega
 refine k_.q (k:=0) (y0:=.qn ((xs.flatMap (bQ T)).take (j.toNat*T.size)) j.toNat) hinv hc (λH _=>?_) (dk (by simp only[dg];rw[wU (bA T),hlen])) hk;simp only[eE,h1,h3,h5,iu,hcond,bC];cases hk;cases hk;rename_i b b';split at hk;rename_i T xs k j k' m hb hb';let⟨y2,h3,h4⟩:=bD hi hb;let⟨y3,h5,h6⟩:=bD hi hb';simp only[dg,al]at h2 h4 h6;subst h2 h4 h6;split at hk;rename_i A;have A:=au A;subst A;let⟨hj,hk⟩:=c8 hk;have hfl:=fe (bA T) xs;have hcond:(cN 0 j&&cN j m&&cN m (ah xs)&&di (ah xs*T.size) (l! (xs.flatMap (bQ T))))=J:=by
  simp only[ar]at hj ⊢;exact⟨⟨⟨hj.1,hj.2.1⟩,hj.2.2⟩,bj M⟩
 simp only[cN,ar,bl]at hj;have hlen:l! ((xs.drop j.toNat).take (m.toNat-j.toNat))=m.toNat-j.toNat:=by rw[bm,fG];omega
 exact k_.q (k:=0) (y0:=.f (.sl (((xs.flatMap (bQ T)).drop (j.toNat*T.size)).take ((m.toNat-j.toNat)*T.size)) (m.toNat-j.toNat))) hinv hc (λH _=>by simp only[eE,h1,h3,h5,iu,hcond,bC]) (dk (by simp only[dg,iu];rw[wU (bA T),Bw (bA T),hlen])) hk;cases hk;cases hk;cases hk;cases hk
def aFk (hc:cY P o.op=Z (.clr i k s)) (hk:fh X V (.op (.clr i k s)) e h nx K=Z r):k_ P o af e h nx K r:=by
 let⟨H,hH⟩:=jW h;simp only[fh]at hk;split at hk;rename_i id j hv;split at hk;rename_i ty p T xs hb;split at hk;rename_i A;simp only[ar]at A;let⟨⟨A,hz⟩,hco⟩:=A;have A:=au A;have hz:=IU hz;subst A hz;let⟨hj,hk⟩:=c8 hk;simp[cN,hY,ar,bl]at hj;let⟨y,h1,h2⟩:=bD hi hv;simp[dg,bS,hb,aH,lj,al]at h2;subst h2;have hp:¬((p&&xs.length==0)=J):=cf;have fl:=fe (bA T) xs;have hg:H.get (nm id)=Z ⟨ty,.fz (xs.flatMap (bQ T))⟩:=by rw[hH,ct,hb];simp only[aH,mT,av hp]
 have hrl:(repl (vX T) (xs.length-j.toNat)).length=(xs.length-j.toNat)*T.size:=by
  have h9:=(MQ (H:=λ_=>U) (H':=λ_=>U) (λn b hb=>by cases hb) T (xs.length-j.toNat)).length;rw[bL,bL,fe (bA T),cQ]at h9;exact h9.symm
 have hoff:j.toNat*T.size+(xs.length-j.toNat)*T.size=xs.length*T.size:=by rw[<- ue];congr 1;omega
 have hput:(BC.fz (xs.flatMap (bQ T))).put (j.toNat*T.size) ((repl (vX T) (xs.length-j.toNat)).map .f)=Z (.fz (splice (xs.flatMap (bQ T)) (j.toNat*T.size) (repl (vX T) (xs.length-j.toNat)))):=by
  unfold BC.put;rw[aD];simp[Qm];simp only[ar];refine ⟨⟨rfl,bj ?_⟩,LP _ λq hq=>?_⟩;simp only[BC.len,bL];omega;obtain⟨v,hv,rfl⟩:=W0 _ q hq;exact eS.1 hco v hv
 have hblt:dE 0 (xs.length-j.toNat)=J:=bj M;have ha0:eE (.clr T.size (vX T) s) (GZ e h) H (nm nx)=Z ⟨.qd [],[nm id],[nm id],[(nm id,⟨ty,.fz (splice (xs.flatMap (bQ T)) (j.toNat*T.size) (repl (vX T) (xs.length-j.toNat)))⟩)],[]⟩:=by
  simp[eE,h1,hg,hblt,bC,hput]
 have hlen:(cG j.toNat xs++aA (ah xs-j.toNat) T.zero).length=xs.length:=cf;have hrow:lj (.H ty p T (cG j.toNat xs++aA (ah xs-j.toNat) T.zero))=lj (.H ty p T xs):=by simp[lj,hlen]
 refine ⟨_,_,_,_,_,hk,iy.wrt (m:=0) (v:=.qd []) (rd:=kZ id) hinv hc hH ha0 hb (eh.zero h) b8 hrow (λ_ _ he=>by cases he) (λH1 H2 d g b' I=>?_) (λH1 H2 y d g hy=>?_) (λn hn=>?_)⟩;have hp2:¬((p&&(cG j.toNat xs++aA (ah xs-j.toNat) T.zero).length==0)=J):=by rw[hlen];exact hp
 simp only[mT,av hp2,al]at I;subst I;refine iQ.G rfl rfl ?_ λq hq=>?_
 simp only[BC.toMx];unfold splice;rw[hrl,hoff,<-fl,List.drop_length,cS,zD,wU (bA T),b_,b_];exact (iY.refl d _).append (MQ d T _);simp only[BC.toMx]at hq;obtain⟨q',hq',rfl⟩:=cF.1 hq;exact uF T _ q' hq';cases hy;exact l7.refl d _;simp[aG]at hn;subst hn;rw[eH];exact b7.2 rfl;cases hk;cases hk;cases hk
end ops
def aam {V:Ty} {A:Y (S.den×V.den)} (q:mpE S V A=J):A.map (λp=>(tf S p.1,AV.f (iu V p.2)))=[]:=by
 unfold mpE at q;split at q;rfl;cases q
def ayg {V:Ty} {A:Y (S.den×V.den)} (q:mpE S V A=J):aic S=J:=by
 unfold mpE at q;split at q;rfl;cases q
def ag1 (q:aig b S=J):aic S=J:=by
 cases S<;>cases b<;>first|rfl|cases q
def UU (A:aig b S=J) (k q:S.den):xX .eql (tf S k) (tf S q)=Z (.bool (QV S k q))/\Df b (tf S k)=J/\iu S k= .raw (tf S k):=by
 cases S<;>cases b<;>first|cases A|skip
 exact⟨by simp[xX,tf,QV,dA,bC,al,GR];exact Bool.beq_eq_decide_eq _ _,rfl,rfl⟩;exact⟨by simp[xX,tf,QV,IQ],rfl,rfl⟩
def Xl {V:Ty} (A:aig b S=J) (k:S.den):∀I:Y (S.den×V.den),wy (tf S k) (I.map λp=>(tf S p.1,AV.f (iu V p.2)))=Z ((qR k I).map λv=>AV.f (iu V v))
 |[]=>rfl
 |(q,v)::r=>by
  simp[d5,wy,(UU A k q).1,qR];cases hb:QV S k q with
  |true=>rfl
  |false=>simp[cE,dQ];exact Xl A k r
def afo {V:Ty} (A:aig b S=J) (k:S.den) (v:V.den):∀I:Y (S.den×V.den),C' (tf S k) (.f (iu V v)) (I.map λp=>(tf S p.1,AV.f (iu V p.2)))=Z ((Cw k v I).map λp=>(tf S p.1,AV.f (iu V p.2)))
 |[]=>rfl
 |(q,v')::r=>by
  simp[d5,C',(UU A k q).1,Cw];cases hb:QV S k q with
  |true=>rfl
  |false=>simp[afo A k v r,cE,dQ,d5]
def awb {ok:Bool} (q:dg h u=Z y):dg h (pkT ok u (.f .bool b))=Z (pkV ok y b):=by
 cases ok with
 |false=>exact q
 |true=>simp[pkT,pkV,dg,dx,q];rfl
section ops
variable {R:Type} {P:Program} {o:Oper} {e:iW} {h:ba} {nx:Nat} {K:KO R} {r:R}
def Le.aggOf {l:Y FV} (I:∀x∈l,x.isCell=J):Le (.agg (l.map .f)) (.f (.agg l)):=by
 intro φ O w v A;cases A with
 |@agg _ vs hl hcl hrr=>
  refine .f (.agg l vs cf I λj y u hy q=>?_);have:=hrr j (.f y) u cf q;cases this with
  |f h=>exact h
def Xc (S:Ty) (l:Y TV):aj (S.den×Nat×Y TV):=match l with
 |c::r=>(match jD PT.leaf S c with|some (x,m)=>Z (x,m,r)|none=>U)
 |[]=>U
def SU:∀{l q:Y FV},l.map AV.f=q.map AV.f->l=q
 |[],[],_=>rfl
 |[],_::_,h|_::_,[],h=>by simp at h
 |x::r,y::r',h=>by
  simp[d5,jC,AV.f.injEq]at h;rw[h.1,SU h.2]
def NG (h:ba):∀(ds:Y TypeDesc) (T:Ty),v_ ds=Z T->∀(n:Nat) (l:Y TV) (x:T.den) (m:Nat) (r:Y TV),gG PT.leaf n T l=Z (x,m,r)->∀l',dx h l=Z l'->∃l2,dx h r=Z l2/\l'=(bQ T x).map .f++l2
 |[],T,hd,n,l,x,m,r,hp,l',hl=>by
  cases hd;cases n with
  |zero=>simp[gG]at hp
  |succ n=>
   obtain⟨_,_,rfl⟩:=hp;exact⟨l',hl,rfl⟩
 |d::ds,T,hd,n,l,x,m,r,hp,l',hl=>by
  have plain:∀(S:Ty),S.one=J->(∀t,S≠ .sl t)->∀(v:TV) (a:S.den) (m:Nat) (y:AV),jD PT.leaf S v=Z (a,m)->dg h v=Z y->y= .f (iu S a):=by
   intro S hS hns v a m y ha hy;cases v with
   |f Q q=>
    simp[jD]at ha;split at ha;rename_i z hz;obtain⟨rfl,_⟩:=ha;obtain⟨e,rfl⟩:=iV hz;subst e;simp[dg,al]at hy;exact hy.symm;cases ha
   |emp|nil=>
    cases S with
    |sl t=>exact bi rfl (hns t)
    |_=>simp[jD]at ha
   |I id=>simp[jD,PT.get]at ha
   |_=>simp[jD]at ha
  have one:∀(S:Ty),S.one=J->(∀t,S≠ .sl t)->∀(n:Nat) (l:Y TV) (a:S.den) (m:Nat) (r:Y TV),gG PT.leaf n S l=Z (a,m,r)->∀l',dx h l=Z l'->∃l2,dx h r=Z l2/\l'=(bQ S a).map .f++l2:=by
   intro S hS hns n l a m r hp l' hl;cases n with
   |zero=>simp[gG]at hp
   |succ n=>
    cases l with
    |nil=>
     cases S with
     |int k|bool|str=>cases hp
     |sl t=>exact bi rfl (hns t)
     |_=>cases hS
    |cons c q=>
     have hpp:Xc S (c::q)=Z (a,m,r):=by
      cases S with
      |int k=>simp[gG]at hp;simp[Xc];cases hq:jD PT.leaf (.int k) c with
       |none=>rw[hq]at hp;cases hp
       |some z=>rw[hq]at hp;exact hp
      |bool=>simp[gG]at hp;simp[Xc];cases hq:jD PT.leaf .bool c with
       |none=>rw[hq]at hp;cases hp
       |some z=>rw[hq]at hp;exact hp
      |str=>simp[gG]at hp;simp[Xc];cases hq:jD PT.leaf .str c with
       |none=>rw[hq]at hp;cases hp
       |some z=>rw[hq]at hp;exact hp
      |sl t=>exact bi rfl (hns t)
      |_=>cases hS
     simp[Xc]at hpp;split at hpp;rename_i a1 m1 h1;simp[al,aT]at hpp;obtain⟨rfl,rfl,rfl⟩:=hpp;obtain⟨y,l2,rfl,g1,g2⟩:=c7 hl;have:=plain S hS hns c a1 m1 y h1 g1;subst this;exact⟨l2,g2,by rw[(O5 S a1 hS).1];rfl⟩;cases hpp
  have two:∀(S A:Ty),S.one=J->(∀t,S≠ .sl t)->v_ ds=Z A->T= .pr S A->∃l2,dx h r=Z l2/\l'=(bQ T x).map .f++l2:=by
   intro S A hS hns hU e;subst e;cases n with
   |zero=>simp[gG]at hp
   |succ n=>
    simp[gG]at hp;split at hp;rename_i x1 m1 r1 h1;split at hp;rename_i x2 m2 r2 h2;simp[al,aT]at hp;obtain⟨rfl,rfl,rfl⟩:=hp;let⟨l2,g1,g2⟩:=one S hS hns n l x1 m1 r1 h1 l' hl;let⟨l3,g3,g4⟩:=NG h ds A hU n r1 x2 m2 r2 h2 l2 g1;exact⟨l3,g3,by rw[g2,g4,bQ,b_,bw]⟩;cases hp;cases hp
  cases d with
  |int k=>
   simp[v_]at hd;split at hd;rename_i A hU;simp[al]at hd;exact two (.int k) A rfl (λt h=>by cases h) hU hd.symm;cases hd
  |bool=>
   simp[v_]at hd;split at hd;rename_i A hU;simp[al]at hd;exact two .bool A rfl (λt h=>by cases h) hU hd.symm;cases hd
  |string=>
   simp[v_]at hd;split at hd;rename_i A hU;simp[al]at hd;exact two .str A rfl (λt h=>by cases h) hU hd.symm;cases hd
  |_=>simp[v_]at hd
def If:∀(ds:Y TypeDesc) (T:Ty),v_ ds=Z T->∀a b:T.den,tH ds (bQ T a) (bQ T b)=Z (QV T a b)
 |[],T,hd,a,b=>by cases hd;rfl
 |d::ds,T,hd,a,b=>by
  cases d with
  |int k=>
   simp[v_]at hd;split at hd;rename_i y q;cases hd;have A:=If ds y q a.2 b.2;simp[bQ,gj,lP,tH,Bx,dA,bC,QV];cases he:((a.1:Int)==b.1) with
   |true=>have I:(a.1:Int)=b.1:=by simpa using he
          grind
   |false=>have I:¬(a.1:Int)=b.1:=by simpa using he
           grind
   cases hd
  |bool=>
   simp[v_]at hd;split at hd;rename_i y q;simp[al]at hd;subst hd;have A:=If ds y q a.2 b.2;simp[bQ,gj,lP,tH,Bx,QV]
   grind
   cases hd
  |string=>
   simp[v_]at hd;split at hd;rename_i y q;simp[al]at hd;subst hd;have A:=If ds y q a.2 b.2;simp[bQ,gj,lP,tH,Bx,QV,IQ];cases he:decide ((a.1:ζ)=b.1) with
   |true=>simp[A,du]
   |false=>simp[tU]
   cases hd
  |_=>simp[v_]at hd
def T2 (A:u.isC=af) {lu:Y TV} (hl:u.cs=Z lu) {ds:Y TypeDesc} (hd:v_ ds=Z S) {a:S.den} (hp:gG PT.leaf 40 S lu=Z (a,m,[])) (hy:dg h u=Z y):Le y (.f (.agg (bQ S a))):=by
 let⟨h1,_⟩:=TJ hl hy;let⟨l2,h2,h3⟩:=NG h ds S hd 40 lu a m [] hp _ h1;cases h2;rw[cS]at h3;cases u with
 |agg l=>
  simp[dg]at hy;split at hy;rename_i l' _;cases hy;have:l'=(bQ S a).map .f:=h3;rw[this];exact Le.aggOf (pT S a);cases hy
 |f T x=>
  cases hy;have ho:T.one=af:=A;rw[EH]at h3;have:bQ T x=bQ S a:=SU h3;rw[xG T x ho,this];exact Le.refl _
 |qd l|undef|qj|qn T q=>simp[TV.cs,TV.isC]at hl
 |zh id jj=>cases hl
 |_=>cases A
variable (hinv:kR h nx) (hi:tZ e h)
include hinv hi
variable {X:FuncId->aj cu} {V:TypeId->aj Ty}
def aFi {ds:Y TypeDesc} {y:Operand} {st:Bool} (hc:cY P o.op=Z (.jm b ds s y)) (hk:fh X V (.op (.jm b ds s y)) e h nx K=Z r):k_ P o st e h nx K r:=by
 let⟨H,hH⟩:=jW h;simp[fh]at hk;split at hk;rename_i T u v hd hu hv;split at hk;cases hk;rename_i hcc;simp[gm,not_or,tS]at hcc;split at hk;rename_i lu lv hlu hlv;split at hk;rename_i a m1 neg m2 hpa hpb;let⟨yu,h1,h2⟩:=bD hi hu;let⟨yv,h3,h4⟩:=bD hi hv;let⟨⟨⟨hc1,hc2⟩,hc3⟩,hc4⟩:=hcc;have l1:=T2 hc1 hlu hd hpa h2;have l2:=T2 hc2 hlv hd hpb h4;have tmp:∀(z:Operand) (q:TV),fc e z=Z q->q.isC=af->aaz z=af->∃t,z= .tmp t:=by
  intro z q A hq hg;cases z with
  |tmp t=>exact⟨t,rfl⟩
  |const c=>
   have A:cst c=Z q:=by
    simp[fc,az5]at A;split at A;cases hg;exact A
   have:=(PL h A).2.2;rw[hq]at this;cases this
  |func g=>cases A;cases hq
  |global g=>
   simp[fc]at A;split at A;cases A;cases hq;cases A
 obtain⟨t,rfl⟩:=tmp s u hu hc1 hc3;obtain⟨t',rfl⟩:=tmp y v hv hc2 hc4;have same:t=t'->bQ T a=bQ T neg:=cf
 let I:xY:=((GZ e h).set t (Z (.f (.agg (bQ T a))))).set t' (Z (.f (.agg (bQ T neg))))
 have e1:mN I (.tmp t)=Z (.f (.agg (bQ T a))):=by
  simp[mN,I,PT.get_set]
  grind
 have e2:mN I (.tmp t')=Z (.f (.agg (bQ T neg))):=by simp[mN,I,PT.get_set,bC]
 have ha:eE (.jm b ds (.tmp t) (.tmp t')) I H 0=Z ⟨raw (.bool (QV T a neg !=b)),[],[],[],[]⟩:=by
  simp[eE,e1,e2,If ds T hd a neg];rfl
 have ht:=Hx hc ha;rw[hH]at ht;have ht2:im P o (gV e h) (erHF h) _:=ht.envLe (e2:=gV e h) λx z _ A=>by
  simp[I,PT.get_set]at A;rw[<- EE];simp[mN]at h1 h3;split at A
  grind
  split at A
  grind
  exact⟨z,A,Le.refl _⟩
 refine ⟨_,0,0,h,nx,hk,⟨⟨_,ht2,λy hy=>?_,by simp[Cp.eff,uU],by simp[Cp.eff],by simp[Cp.eff],by simp[Cp.eff]⟩,λ_ _ h=>h,hinv,bg _,λ_=>⟨rfl,rfl⟩⟩⟩;simp[dg,al]at hy;exact hy;cases hk;cases hk;cases hk
def aF8 (I:cY P o.op=Z .mkm) (hk:fh X V (.op .mkm) e h nx K=Z r):k_ P o af e h nx K r:=by
 have _:=hi;let⟨H,hH⟩:=jW h;refine ⟨_,_,_,_,_,hk,iy.new hinv I hH (y0:=.mp (nm nx)) (rdl:=[]) (b0:=⟨0,.mp []⟩) rfl (eh.zero h) (λ_ _ he=>by cases he) (λH1 H2 d g b' q=>?_) (λH1 H2 y d g A=>?_) b8⟩;cases q;exact iQ.refl d _;cases A;exact l7.refl d _
def aFc {ok:Bool} {k:Operand} (hc:cY P o.op=Z (.lku b ok v s k)) (hk:fh X V (.op (.lku b ok v s k)) e h nx K=Z r):k_ P o af e h nx K r:=by
 let⟨H,hH⟩:=jW h;simp only[fh]at hk;split at hk;rename_i id KT kv hv hv2;split at hk;rename_i K' b9 q hb;split at hk;rename_i hK;let⟨y,h1,h2⟩:=bD hi hv;let⟨y2,h3,h4⟩:=bD hi hv2;simp[dg,al]at h2 h4;subst h2 h4;simp[ar]at hK;have hg:H.get (nm id)=Z ⟨0,.mp (q.map λp=>(tf K' p.1,.f (iu b9 p.2)))⟩:=by rw[hH,ct,hb];show Z (ot.mk 0 (mpC K' b9 q))=_;rw[Jz hK.2]
 let⟨_,hok,henc⟩:=UU hK.1 kv kv;rw[henc]at h3;have hrd:∀n∈[nm id],aF (kZ id) (ow n)=J:=λn hn=>by simp[aG]at hn;subst hn;rw[eH];exact b7.2 rfl
 split at hk;rename_i hE;split at hk;rename_i z hz;have hzz:=(PL h hz).1;exact⟨_,_,_,_,_,hk,iy.pure (k:=0) hinv hc hH (y0:=pkV ok (raw v) af) (rdl:=[nm id]) (by simp[eE,h1,h3,hg,hok,bC,aam hE,wy]) (λy I=>by rw[awb hzz]at I;cases I;exact Le.refl _) hrd nofun⟩;cases hk;split at hk;rename_i kv' A zv hkv hz;split at hk;rename_i zv' hzv;let⟨e1,e2⟩:=iV hkv;cases e1;subst e2;let⟨e3,e4⟩:=iV hzv;cases e3;subst e4;have hzz:=(PL h hz).1;simp[dg,al]at hzz;refine ⟨_,_,_,_,_,hk,iy.pure (k:=0) hinv hc hH (y0:=pkV ok (.f (iu _ (vp kv' q zv'))) (ayi kv' q)) (rdl:=[nm id]) ?_ (λy I=>by rw[awb (y:=.f (iu _ (vp kv' q zv'))) rfl]at I;cases I;exact Le.refl _) hrd nofun⟩;simp[eE,h1,h3,hg,hok,bC,Xl hK.1];unfold vp ayi;cases hf:qR kv' q with
 |none=>simp[Option.map_none];rw[hzz]
 |some z=>rfl
 cases hk;cases hk;cases hk;cases hk;cases hk
def aF7 {k v:Operand} (hc:cY P o.op=Z (.mup b s k v)) (hk:fh X V (.op (.mup b s k v)) e h nx K=Z r):k_ P o af e h nx K r:=by
 let⟨H,hH⟩:=jW h;simp only[fh]at hk;split at hk;rename_i id KT I VT vv hv hv2 hv3;split at hk;rename_i K' b9 es hb;split at hk;rename_i A;simp[ar]at A;let⟨y,h1,h2⟩:=bD hi hv;let⟨y2,h3,h4⟩:=bD hi hv2;let⟨y3,h5,h6⟩:=bD hi hv3;simp[dg,al]at h2 h4 h6;subst h2 h4 h6;have hg:H.get (nm id)=Z ⟨0,.mp (es.map λp=>(tf K' p.1,.f (iu b9 p.2)))⟩:=by rw[hH,ct,hb];show Z (ot.mk 0 (mpC K' b9 es))=_;rw[Jz A.2]
 let⟨_,hok,henc⟩:=UU A.1.1 I I;rw[henc]at h3;have hrd:∀n∈[nm id],aF (kZ id) (ow n)=J:=λn hn=>by simp[aG]at hn;subst hn;rw[eH];exact b7.2 rfl
 split at hk;rename_i hE;exact⟨_,_,_,_,_,hk,iy.wrt (k:=0) (m:=0) (v:=.undef) (rd:=kZ id) hinv hc hH (y0:=raw undef) (b0:=⟨0,.mp [(tf KT I,.f (iu VT vv))]⟩) (rdl:=[nm id]) (by simp[eE,h1,h3,h5,hg,hok,bC,aam hE,C']) (B:=.mp KT VT [(I,vv)]) hb (eh.zero h) b8 rfl (λty' l2 he=>by cases he) (λH1 H2 d g b' q=>by simp[mT,Jz (ag1 A.1.1),al]at q;subst q;exact iQ.refl d _) (λH1 H2 y d g hy=>by cases hy;exact l7.refl d _) hrd⟩;split at hk;rename_i kv' vv' hkv hvv;let⟨e1,e2⟩:=iV hkv;cases e1;subst e2;let⟨e3,e4⟩:=iV hvv;cases e3;subst e4;exact⟨_,_,_,_,_,hk,iy.wrt (k:=0) (m:=0) (v:=.undef) (rd:=kZ id) hinv hc hH (y0:=raw undef) (b0:=⟨0,.mp ((Cw kv' vv' es).map λp=>(tf _ p.1,.f (iu _ p.2)))⟩) (rdl:=[nm id]) (by simp[eE,h1,h3,h5,hg,hok,bC,afo A.1.1]) (B:=.mp _ _ (Cw kv' vv' es)) hb (eh.zero h) b8 rfl (λty' l2 he=>by cases he) (λH1 H2 d g b' q=>by simp[mT,Jz (ag1 A.1.1),al]at q;subst q;exact iQ.refl d _) (λH1 H2 y d g hy=>by cases hy;exact l7.refl d _) hrd⟩;cases hk;cases hk;cases hk;cases hk
def aF4 (hc:cY P o.op=Z (.rng s)) (hk:fh X V (.op (.rng s)) e h nx K=Z r):k_ P o af e h nx K r:=by
 let⟨H,hH⟩:=jW h;simp only[fh]at hk;split at hk;rename_i x I;let⟨y,h1,h2⟩:=bD hi I;cases h2;refine ⟨_,_,_,_,_,hk,iy.new hinv hc hH (y0:=.K (nm nx) 0) (rdl:=[]) (b0:=⟨0,.it ⟨kw x⟩ 0⟩) (by simp[eE,h1];rfl) (eh.zero h) (λ_ _ he=>by cases he) (λH1 H2 d g b' q=>?_) (λH1 H2 y d g A=>?_) b8⟩;cases q;exact iQ.refl d _;cases A;exact l7.refl d _;cases hk
def aF5 (hc:cY P o.op=Z (.nxt s)) (hk:fh X V (.op (.nxt s)) e h nx K=Z r):k_ P o af e h nx K r:=by
 let⟨H,hH⟩:=jW h;simp only[fh]at hk;split at hk;rename_i id hv;split at hk;rename_i K' b9 es hb;split at hk;rename_i x p hI;let⟨y,h1,h2⟩:=bD hi hv;cases h2;have hg:H.get (nm id)=Z ⟨0,.it ⟨kw x⟩ p⟩:=by rw[hH,ct,hb];show Z (ot.mk 0 (mpC K' b9 es))=_;rw[aym hI]
 have hrd:∀n∈[nm id],aF (kZ id) (ow n)=J:=λn hn=>by simp[aG]at hn;subst hn;rw[eH];exact b7.2 rfl
 rcases pq hk with ⟨hp,hk⟩|⟨hp,hk⟩;have hp:=aY hp;have e2:(⟨kw x⟩:ByteArray).data.toList[p]? =Z (List.getD x p 0):=cf;exact⟨_,_,_,_,_,hk,iy.wrt (k:=0) (m:=0) (rd:=kZ id) hinv hc hH (y0:=.qd [raw (.bool J),raw (.int .i64 p),raw (.int .i32 (rnP x p))]) (b0:=⟨0,.it ⟨kw x⟩ (p+wdP x p)⟩) (rdl:=[nm id]) (by simp only[eE,h1,hg,e2];rfl) (B:=.mp itK .un [((x,aZ (p+wdP x p)),())]) hb (eh.zero h) b8 rfl (λty' l2 he=>by cases he) (λH1 H2 d g b' A=>by cases A;exact iQ.refl d _) (λH1 H2 y d g I=>by cases I;exact l7.refl d _) hrd⟩;have hp:l! x<=p:=Nat.not_lt.1 λq=>by rw[show dE p (l! x)=J from bj q]at hp;cases hp
 have e2:(⟨kw x⟩:ByteArray).data.toList[p]? =U:=cf;exact⟨_,_,_,_,_,hk,iy.wrt (k:=0) (m:=0) (rd:=kZ id) hinv hc hH (y0:=.qd [raw (.bool af)]) (b0:=⟨0,.it ⟨kw x⟩ p⟩) (rdl:=[nm id]) (by simp[eE,h1,hg,e2]) (B:=.mp itK .un [((x,aZ p),())]) hb (eh.zero h) b8 rfl (λty' l2 he=>by cases he) (λH1 H2 d g b' A=>by cases A;exact iQ.refl d _) (λH1 H2 y d g I=>by cases I;exact l7.refl d _) hrd⟩;cases hk;cases hk;cases hk
def K_op {s:T5} (q:cY P o.op=Z s) (hk:fh X V (.op s) e h nx K=Z r):k_ P o s.still e h nx K r:=by
 cases s with
 |mv x=>exact K_mv hinv hi q hk
 |pick c a b=>exact aBf hinv hi q hk
 |alloc ty z=>exact avl hinv hi q hk
 |box ty x=>exact aFm hinv hi q hk
 |build z parts=>exact avk hinv hi q hk
 |xq ty sz len z parts=>exact aFl hinv hi q hk
 |load sz ag x=>exact aBi hinv hi q hk
 |store sz x v=>exact avh hinv hi q hk
 |jz x=>exact aBg hinv hi q hk
 |bin op x y=>exact aFn hinv hi q hk
 |jm neg ds x y=>exact aFi hinv hi q hk
 |jr neg x y=>exact aFj hinv hi q hk
 |zt neg x=>exact avj hinv hi q hk
 |not x=>exact aF6 hinv hi q hk
 |conv k x=>exact aBm hinv hi q hk
 |zd ty sz bytes z l c=>exact aBh hinv hi q hk
 |slc sz x A I mx=>exact aF2 hinv hi q hk
 |jb off x=>exact aFg hinv hi q hk
 |jf sz x i=>exact aFf hinv hi q hk
 |idx n sz ag x i=>exact aFe hinv hi q hk
 |jk n sz x i=>exact aBk hinv hi q hk
 |ext x i=>exact aFh hinv hi q hk
 |len x=>exact aFd hinv hi q hk
 |lens x=>exact aBj hinv hi q hk
 |max x y=>exact aFb hinv hi q hk
 |min x y=>exact aFa hinv hi q hk
 |jv x i=>exact aBe hinv hi q hk
 |tos x=>exact aF1 hinv hi q hk
 |sla n sz x A=>exact aF3 hinv hi q hk
 |app ty sz bytes s x=>exact aFo hinv hi q hk
 |copy sz d x=>exact aBl hinv hi q hk
 |clr sz z x=>exact aFk hinv hi q hk
 |mkf f caps=>exact aF9 hinv hi q hk
 |mkm=>exact aF8 hinv hi q hk
 |rng x=>exact aF4 hinv hi q hk
 |nxt x=>exact aF5 hinv hi q hk
 |lku str ok z x k=>exact aFc hinv hi q hk
 |mup str x k v=>exact aF7 hinv hi q hk
 |_=>simp[fh]at hk
end ops
mutual
def AV.qz (g:Nat->Nat):AV->AV
 |.f x=>.f x
 |.K id off=>.K (g id) off
 |.sl id off n=>.sl (g id) off n
 |.I id sz n=>.I (g id) sz n
 |.mp id=>.mp (g id)
 |.emp=>.emp
 |.qj=>.qj
 |.qn l n=>.qn l n
 |.agg l=>.agg (AV.renL g l)
 |.qd l=>.qd (AV.renL g l)
 |.qy q l=>.qy q (AV.renL g l)
def AV.renL (g:Nat->Nat):Y AV->Y AV
 |[]=>[]
 |x::r=>x.qz g::AV.renL g r
end
def oV (g:Nat->Nat):∀l,AV.renL g l=l.map (AV.qz g)
 |[]=>rfl
 |x::r=>by rw[AV.renL,oV g r];rfl
def Hm (g:Nat->Nat) (x:AV):(x.qz g).isCell=x.isCell:=by cases x<;>rfl
variable {g:Nat->Nat}
def cC.renTo {φ':PM} (hk:∀i k,T i=Z k->φ' (g i)=Z k) (h:cC T O W y v):cC φ' O W (y.qz g) v:=by
 induction h with
 |f h=>exact .f h
 |K h=>exact .K (hk _ _ h)
 |sl h A hc=>exact .sl (hk _ _ h) A hc
 |I h A hc hsh=>exact .I (hk _ _ h) A hc hsh
 |emp=>exact .emp
 |qj=>exact .qj
 |qn h=>exact .qn h
 |mp h=>exact .mp (hk _ _ h)
 |agg hl hcl hr ih=>
  simp[AV.qz,oV];refine .agg cf (λy q=>?_) λj y v q hv=>cf
  obtain⟨x,hy,rfl⟩:=cF.1 q;rw[Hm];exact hcl x hy
 |qd hl hr ih=>
  simp[AV.qz,oV];refine .qd cf λj y v q hv=>?_
  grind
 |qy hl hr ih=>
  simp[AV.qz,oV];refine .qy cf λj y v q hv=>?_
  grind
variable {p:Nat->Bool}
def cC.renFrom {φ':PM} (hk:∀i k,p i=J->T (g i)=Z k->φ' i=Z k) (h:cC T O W y v):∀x:AV,x.all p=J->y=x.qz g->cC φ' O W x v:=by
 induction h with
 |f h=>intro x hp e;cases x<;>simp[AV.qz,reduceCtorEq]at e;cases e;exact .f h
 |K h=>intro x hp e;cases x<;>simp only[AV.qz,reduceCtorEq]at e;cases e;exact .K (hk _ _ hp h)
 |sl h hn hc=>intro x hp e;cases x<;>simp only[AV.qz,reduceCtorEq]at e;cases e;exact .sl (hk _ _ hp h) hn hc
 |I h hn hc hsh=>intro x hp e;cases x<;>simp only[AV.qz,reduceCtorEq]at e;cases e;exact .I (hk _ _ hp h) hn hc hsh
 |emp=>intro x hp e;cases x<;>simp[AV.qz,reduceCtorEq]at e;exact .emp
 |qj=>intro x hp e;cases x<;>simp[AV.qz,reduceCtorEq]at e;exact .qj
 |qn h=>intro x hp e;cases x<;>simp only[AV.qz,reduceCtorEq]at e;cases e;exact .qn h
 |mp h=>intro x hp e;cases x<;>simp[AV.qz,reduceCtorEq]at e;cases e;exact .mp (hk _ _ hp h)
 |agg hl hcl hr q=>
  intro x hp e;cases x<;>simp[AV.qz,reduceCtorEq]at e;cases e;rw[oV]at hl hcl hr q;refine .agg cf (λx A=>?_) λj x v A hv=>q j (x.qz g) v cf hv x (nS hp x (bh A)) rfl
  have:=hcl (x.qz g) (cF.2 ⟨x,A,rfl⟩);rwa [Hm]at this
 |qd hl hr q=>
  intro x hp e;cases x<;>simp[AV.qz,reduceCtorEq]at e;cases e;rw[oV]at hl hr q;refine .qd cf λj x v A hv=>?_
  exact q j (x.qz g) v cf hv x (nS hp x (bh A)) rfl
 |qy hl hr q=>
  intro x hp e;cases x<;>simp only[AV.qz,reduceCtorEq]at e;cases e;rw[oV]at hl hr q;refine .qy cf λj x v A hv=>?_
  exact q j (x.qz g) v cf hv x (nS hp x (bh A)) rfl
def BC.qz (g:Nat->Nat):BC->BC
 |.fz l=>.fz l
 |.mx l=>.mx (l.map (AV.qz g))
 |.mp q=>.mp (q.map λp=>(p.1,p.2.qz g))
 |.it s p=>.it s p
def ot.qz (g:Nat->Nat) (b:ot):ot:=⟨b.ty,b.c.qz g⟩
def kn.renTo {φ':PM} {O':Nat->Prop} (hk:∀x v,cC T O W x v->cC φ' O' W (x.qz g) v) {o:Obj} (h:kn T O W z o):kn φ' O' W (z.qz g) o:=by
 let⟨ty,c⟩:=z;simp[ot.qz];cases c with
 |fz l=>
  let⟨arr,h1,h2,I⟩:=h;refine ⟨arr,h1,h2,λj x A=>?_⟩;let⟨a,v,c,d⟩:=I j x A;obtain⟨q,_,rfl⟩:=uJ.1 A;exact⟨a,v,c,hk _ _ d⟩
 |mx l=>
  simp[BC.qz];let⟨arr,h1,h2,I⟩:=h;refine ⟨arr,h1,by simpa[BC.len] using h2,λj x A=>?_⟩;simp only[BC.get,bH]at A;obtain⟨q,hq,rfl⟩:=uJ.1 A;let⟨a,v,c,d⟩:=I j q hq;exact⟨by rw[Hm];exact a,v,c,hk _ _ d⟩
 |mp es=>
  let⟨e,c,h1,h2,I⟩:=h;refine ⟨e,c,h1,by rw[aho];exact h2,λj x A=>?_⟩
  grind
 |it s p=>exact h
def kn.renFrom {φ':PM} {O':Nat->Prop} (hk:∀x v,x.all p=J->cC T O W (x.qz g) v->cC φ' O' W x v) (hb:z.c.all p=J) {o:Obj} (h:kn T O W (z.qz g) o):kn φ' O' W z o:=by
 let⟨ty,c⟩:=z;simp[ot.qz]at h;cases c with
 |fz l=>
  let⟨arr,h1,h2,I⟩:=h;refine ⟨arr,h1,h2,λj x A=>?_⟩;let⟨a,v,c,d⟩:=I j x A;obtain⟨q,_,rfl⟩:=uJ.1 A;exact⟨a,v,c,hk _ _ rfl d⟩
 |mx l=>
  simp[BC.qz]at h;let⟨arr,h1,h2,I⟩:=h;refine ⟨arr,h1,by simpa[BC.len] using h2,λj x A=>?_⟩;simp[BC.get]at A;let⟨a,v,c,d⟩:=I j (x.qz g) (by simp only[BC.get,bH,A];rfl);rw[Hm]at a;exact⟨a,v,c,hk _ _ (nS hb x (bh A)) d⟩
 |mp es=>
  let⟨e,c,h1,h2,I⟩:=h;refine ⟨e,c,h1,by rw[aho]at h2;exact h2,λj x A=>?_⟩;let⟨m,a,z⟩:=I j (x.1,x.2.qz g) cf;exact⟨m,a,hk _ _ (nS hb x.2 (cF.2 ⟨x,bh A,rfl⟩)) z⟩
 |it s p=>exact h
mutual
def C1 (g:Nat->Nat):TV->TV
 |.I i=>.I (g i)
 |.zh i j=>.zh (g i) j
 |.agg l=>.agg (l_ g l)
 |.qd l=>.qd (l_ g l)
 |.qy q l=>.qy q (l_ g l)
 |.f T v=>.f T v
 |.zm T xs j h off=>.zm T xs j h off
 |.ql a b c d=>.ql (g a) b c d
 |.K a b=>.K (g a) b
 |.qp a b c=>.qp (g a) b c
 |.emp=>.emp
 |.nil=>.nil
 |.mp i=>.mp (g i)
 |.undef=>.undef
 |.np=>.np
 |.qj=>.qj
 |.qn T xs=>.qn T xs
 |.sb s=>.sb (s.to (g s.id))
def l_ (g:Nat->Nat):Y TV->Y TV
 |[]=>[]
 |x::r=>C1 g x::l_ g r
end
def wN (g:Nat->Nat):∀l,l_ g l=l.map (C1 g)
 |[]=>rfl
 |x::r=>by rw[l_,wN g r];rfl
def lJ (g:Nat->Nat):gi->gi
 |.G ty l=>.G ty (l_ g l)
 |.H ty p T xs=>.H ty p T xs
 |.qw p sz n=>.qw p sz n
 |.mp K V A=>.mp K V A
 |.qf F a x=>.qf F (F.aid (g a)) x
 |.zj F a x k p=>.zj F (F.aid (g a)) x k (p.map λq=>(g q.1,q.2))
def Nr (g:Nat->Nat) (b:gi):lj (lJ g b)=lj b:=by cases b<;>rfl
def sF (g:Nat->Nat) (n:Nat):Nat:=uY (g (ow n)) (ix n)
def H_ (g:Nat->Nat) (i k:Nat):sF g (uY i k)=uY (g i) k:=by unfold sF;rw[ou,yS]
def Gq (g:Nat->Nat) (i:Nat):sF g (nm i)=nm (g i):=H_ g i 0
def asy (g:Nat->Nat) (i:Nat) (j:Int):sF g (obN i j)=obN (g i) j:=H_ g i _
def yL (g:Nat->Nat) (n:Nat):ow (sF g n)=g (ow n):=ou _ _
def Bj (g:Nat->Nat) (n:Nat):ix (sF g n)=ix n:=yS _ _
def WV (g:Nat->Nat) (id j sz n:Nat):(wY id j sz n).qz (sF g)=wY (g id) j sz n:=by
 unfold wY;split;rfl;simp[AV.qz,H_]
def atb (g:Nat->Nat) (s:Sb):erS (s.to (g s.id))=(erS s).qz (sF g):=by
 cases s with
 |nr id j sz n=>simp[Sb.to,Sb.id,erS,WV]
 |_=>simp[Sb.to,Sb.id,erS,AV.qz,asy,H_]
mutual
def az3 {g:Nat->Nat} {h1 h2:ba} (hrow:∀i r,e_ h1 i=Z r->e_ h2 (g i)=Z r):∀(v:TV) (y:AV),dg h1 v=Z y->dg h2 (C1 g v)=Z (y.qz (sF g))
 |.f _ _,y,he|.zm _ _ _ _ _,y,he=>by cases he;rfl
 |.ql _ _ _ _,y,he|.K _ _,y,he|.qp _ _ _,y,he=>by cases he;simp[C1,dg,AV.qz,Gq]
 |.I id,y,he=>by
  simp[dg]at he;split at he;rename_i p sz n hr;cases he;simp[C1,dg,hrow id _ hr];unfold eM;split;rfl;simp[AV.qz,Gq];cases he
 |.zh id jj,y,he=>by
  simp[dg]at he;split at he;rename_i p sz n hr;cases he;simp[C1,dg,hrow id _ hr,AV.qz,Gq];cases he
 |.emp,y,he|.nil,y,he=>by cases he;rfl
 |.mp _,y,he=>by cases he;simp[C1,dg,AV.qz,Gq]
 |.agg l,y,he=>by
  simp[dg]at he;split at he;rename_i l' hl;cases he;simp[C1,dg,rn hrow l l' hl,AV.qz];cases he
 |.qd l,y,he|.qy q l,y,he=>by
  simp[dg]at he;split at he;rename_i l' hl;simp[al]at he;subst he;simp[C1,dg,rn hrow l l' hl,AV.qz];cases he
 |.undef,y,he|.np,y,he|.qj,y,he|.qn _ _,y,he=>by cases he;rfl
 |.sb s,y,he=>by cases he;simp[C1,dg,atb]
def rn {g:Nat->Nat} {h1 h2:ba} (hrow:∀i r,e_ h1 i=Z r->e_ h2 (g i)=Z r):∀(l:Y TV) (l':Y AV),dx h1 l=Z l'->dx h2 (l_ g l)=Z (AV.renL (sF g) l')
 |[],l',he=>by cases he;rfl
 |x::r,l',he=>by
  obtain⟨y,l2,rfl,e1,e2⟩:=c7 he;exact rq (az3 hrow x y e1) (rn hrow r l2 e2)
end
def Jl (g:Nat->Nat) (a sz:Nat):∀(q:η) (k:Nat),(mm a sz k q).map (AV.qz (sF g))=mm (g a) sz k q
 |[],_=>rfl
 |l::r,k=>by simp[mm,d5,WV,Jl g a sz r (k+1)]
def ai0 (g:Nat->Nat) (p:Bool) (id sz n:Nat):(eM p id sz n).qz (sF g)=eM p (g id) sz n:=by
 unfold eM;split;rfl;simp[AV.qz,Gq]
def Yj (g:Nat->Nat) (a:Nat) (F:xL) (x:F.ty.den):Rv (F.aid (g a)) F x=(Rv a F x).map (ot.qz (sF g)):=by
 cases F with
 |rr ty sz=>exact (eZ (λz=>Z (ot.mk ty (.mx z))) (Jl g a sz x 0)).symm
 |ir ty T=>rfl
def aj7 (g:Nat->Nat) (a:Nat) (k:ν) (F:xL) (x:F.ty.den) (p:aj (Nat×Bool×Nat)):agr (F.aid (g a)) k F x (p.map λq=>(g q.1,q.2))=(agr a k F x p).map (ot.qz (sF g)):=by
 cases F with
 |rr ty sz=>
  cases p with
  |none=>rfl
  |some q=>
   have:=Jl g a sz x 0;simp[agr,xL.aid,cj,ot.qz,BC.qz,List.map_set,ai0]
   grind
 |ir ty T=>rfl
def aja (g:Nat->Nat) (k:Nat) (ty:TypeId) (T:Ty) (xss:Y (Y T.den)):tF k ty T xss=(tF k ty T xss).map (ot.qz (sF g)):=by
 unfold tF;cases xss[k]? with
 |none=>rfl
 |some xs=>
  simp[aH,aj8];split<;>rfl
def OU (g:Nat->Nat) (i k:Nat) (F:xL) (x:F.ty.den):Mn (g i) k F x=(Mn i k F x).map (ot.qz (sF g)):=by
 cases F with
 |ir ty T=>
  exact aja g k ty T x
 |rr ty sz=>rfl
def Xn (g:Nat->Nat) (i k:Nat) (b:gi):Bc (g i) k (lJ g b)=(Bc i k b).map (ot.qz (sF g)):=by
 cases b with
 |qf F a x=>exact OU g i k F x
 |zj F a x j p=>
  cases p with
  |none=>
   simp[lJ,Bc,Option.map_none];split;rfl;exact OU g i k F x
  |some q=>exact OU g i k F x
 |_=>rfl
def ate {h2:ba} (hrow:∀i r,e_ h i=Z r->e_ h2 (g i)=Z r) {b:gi} (he:mT h b=Z z):mT h2 (lJ g b)=Z (z.qz (sF g)):=by
 cases b with
 |H ty p T xs=>
  simp only[mT]at he;split at he;cases he;rename_i I;cases he;simp only[lJ,mT,av I];rfl
 |G ty l=>
  cases ty with
  |some ty=>
   simp[mT]at he;split at he;rename_i q A;cases he;simp[lJ,mT,rn hrow l q A,oV];rfl;cases he
  |none=>
   simp[mT]at he;split at he;rename_i q A;simp[al]at he;subst he;simp[lJ,mT,rn hrow l q A,oV,ot.qz,BC.qz];cases he
 |qw p sz n=>cases he
 |mp K V es=>
  cases he;simp[lJ,mT,ot.qz,al,ot.mk.injEq,FW];unfold mpC;split;rfl;simp only[BC.qz,ya];rfl
 |qf F a x=>
  simp[mT]at he;simp[lJ,mT,Yj,he,cj]
 |zj F a x k p=>
  simp[mT]at he;simp[lJ,mT,aj7,he,cj]
def ED {h2:ba} (hrow:∀i r,e_ h i=Z r->e_ h2 (g i)=Z r) {b:gi} :∀{k:Nat},Te h i k b=Z z->Te h2 (g i) k (lJ g b)=Z (z.qz (sF g))
 |0,he=>ate hrow he
 |k+1,he=>by
  simp[Te]at he ⊢;rw[Xn,he];rfl
def Hn (g:Nat->Nat) (a b:Y TV):l_ g (a++b)=l_ g a++l_ g b:=by
 rw[wN,wN,wN,b_]
def sB (g:Nat->Nat):∀(n:Nat) (T:Ty) (v:T.den) (l:Y TV),cellsOf n T v=Z l->l_ g l=l
 |0,_,_,_,he=>by simp[cellsOf]at he
 |n+1,.st t,v,l,he=>sB g n t v l he
 |n+1,.pr a b,v,l,he=>by
  simp[cellsOf]at he;split at he;rename_i x y A q;cases he;rw[Hn,sB g n a v.1 x A,sB g n b v.2 y q];cases he
 |n+1,.un,v,l,he=>by cases he;rfl
 |n+1,.ex,v,l,he=>sB g n Td (Uk v) l he
 |n+1,.sm,v,l,he=>sB g n So (Uj v) l he
 |n+1,.int k,v,l,he|n+1,.bool,v,l,he|n+1,.str,v,l,he|n+1,.sl t,v,l,he=>by cases he;rfl
abbrev MY:Nat->Nat:=λi=>i
mutual
def ame (g:Nat->Nat):∀(p:PV) (x:p.ty.den),C2 g p x=(C2 MY p x).map (l_ g)
 |.d T,x=>by
  simp only[C2];cases h:cellsOf 40 T x with
  |none=>rfl
  |some l=>simp only[cj,sB g 40 T x l h]
 |.K i o,x|.qp i o z,x=>rfl
 |.qy q ps,x=>by simp only[C2,cj,l_,C1,wN,ya];rfl
 |.nr i s,x|.I i,x|.mp i,x|.nil,x|.emp,x=>rfl
 |.agg ps,x=>Eo g ps x
def Eo (g:Nat->Nat):∀(ps:Y PV) (x:(PV.tyL ps).den),wZ g ps x=(wZ MY ps x).map (l_ g)
 |[],x=>rfl
 |p::r,x=>by
  simp only[wZ];rw[ame g p,Eo g r];cases C2 MY p (Vh p.ty (PV.tyL r) x) with
  |none=>rfl
  |some a=>
   cases wZ MY r (Us p.ty (PV.tyL r) x) with
   |none=>rfl
   |some b=>simp only[cj,Hn]
end
def azi (o:aj (Y TV)):aj TV:=match o with|some l=>Z (.agg l)|none=>U
def apr (g:Nat->Nat) (o:aj (Y TV)):azi (o.map (l_ g))=(azi o).map (C1 g):=by cases o<;>rfl
def amc (g:Nat->Nat) (p:PV) (x:p.ty.den):EQ g p x=(EQ MY p x).map (C1 g):=by
 cases p with
 |agg A=>exact (eZ azi (Eo g A x)).trans (apr g _)
 |qy q A=>simp only[EQ,cj,C1,wN,ya];rfl
 |_=>rfl
def wO (g:Nat->Nat):∀(q:Y PV) (x:(PV.tyL q).den),sP g q x=(sP MY q x).map (l_ g)
 |[],x=>rfl
 |p::r,x=>by
  simp[sP];rw[amc g p,wO g r];cases EQ MY p (Vh p.ty (PV.tyL r) x) with
  |none=>rfl
  |some a=>
   cases sP MY r (Us p.ty (PV.tyL r) x) with
   |_=>rfl
def ado (ty:aj TypeId) (o:aj (Y TV)):aj (aj gi):=match o with|some l=>Z (Z (.G ty l))|none=>U
def adn (g:Nat->Nat) (ty:aj TypeId) (o:aj (Y TV)):ado ty (o.map (l_ g))=(ado ty o).map (jY (lJ g)):=by cases o<;>rfl
def amf (g:Nat->Nat) (b:PB) (x:b.ty.den):Jr g b x=(Jr MY b x).map (jY (lJ g)):=by
 cases b with
 |G ty q=>exact (eZ (ado ty) (Eo g q x)).trans (adn g ty _)
 |qf F a=>cases F<;>rfl
 |_=>rfl
def zO (g:Nat->Nat):∀(bs:Y PB) (x:(PB.tyL bs).den),uV g bs x=(uV MY bs x).map (List.map (jY (lJ g)))
 |[],x=>rfl
 |b::r,x=>by
  simp[uV];rw[amf g b,zO g r];cases Jr MY b (Vh b.ty (PB.tyL r) x) with
  |none=>rfl
  |some a=>grind
def Hp (g:Nat->Nat):∀(bs:Y PB) (x:(PB.tyL bs).den) (l:Y (aj gi)),uV g bs x=Z l->l! l=l! bs
 |[],x,l,h=>by cases h;rfl
 |b::r,x,l,h=>by
  simp[uV]at h;split at h;split at h;rename_i q A;cases h;simp[Hp g r _ q A];cases h;cases h
def OG (h:ba) (i j:Nat):(kill h i).get j=if j=i then (h.get i).map vZ else h.get j:=by
 unfold kill;cases q:h.get i with
 |none=>grind
 |some b=>rw[PT.get_set];rfl
def ym (g:Nat->Nat):∀(l:Y (aj gi)) (i:Nat) (h:ba) (j:Nat),(∀k,k<l! l->j≠g (i+k))->(EY g i l h).get j=h.get j
 |[],i,h,j,_=>rfl
 |some c::r,i,h,j,hj=>by
  rw[EY,ym g r (i+1) _ j (λk hk=>by have:=hj (k+1) cf;rwa [show i+1+k=i+(k+1) from M]),PT.get_set,av];exact hj 0 b8
 |none::r,i,h,j,hj=>by
  rw[EY,ym g r (i+1) _ j (λk hk=>by have:=hj (k+1) cf;rwa [show i+1+k=i+(k+1) from M]),OG,av];exact hj 0 b8
def yn (g:Nat->Nat):∀(l:Y (aj gi)) (i:Nat) (h:ba),(∀a b,a<l! l->b<l! l->g (i+a)=g (i+b)->a=b)->∀(k:Nat) (c:aj gi),l[k]? =Z c->(EY g i l h).get (g (i+k))=(match c with|some b=>Z b|none=>(h.get (g (i+k))).map vZ)
 |[],i,h,_,k,c,hk=>by simp at hk
 |o::r,i,h,hinj,k,c,hk=>by
  have hinj':∀a b,a<l! r->b<l! r->g (i+1+a)=g (i+1+b)->a=b:=λa b I A e=>by
   have:=hinj (a+1) (b+1) cf cf cf;omega
  cases k with
  |zero=>
   simp at hk;subst hk;have hne:∀k,k<l! r->g (i+0)≠g (i+1+k):=λk hk e=>by
    have:=hinj 0 (k+1) b8 cf cf;omega
   cases o with
   |some b=>rw[EY,ym g r (i+1) _ _ hne];simp[dR];rw[PT.get_set,aD rfl]
   |none=>rw[EY,ym g r (i+1) _ _ hne];simp[dR];rw[OG,aD rfl]
  |succ k=>
   have q:r[k]? =Z c:=cf;have hne:g (i+(k+1))≠g i:=λe=>by
    have:=hinj (k+1) 0 cf b8 M;omega
   rw[show i+(k+1)=i+1+k from M]at hne ⊢;cases o with
   |some b=>
    rw[EY,yn g r (i+1) _ hinj' k c q];cases c with
    |some _=>rfl
    |none=>simp[PT.get_set,av hne]
   |none=>
    rw[EY,yn g r (i+1) _ hinj' k c q];cases c with
    |some _=>rfl
    |none=>simp[OG,av hne]
def BK (h' h:ba):Prop:=∀i r,e_ h' i=Z r->e_ h i=Z r
section get
variable {h h':ba} {H H':HF} {g:Nat->Nat}
def l7.agg {q:Y AV} (A:iY H H' C q) (hc:∀x∈q,x.isCell=J):l7 H H' (.agg C) (.agg q):=by
 intro φ E w v hrep hr;cases hr with
 |@agg _ vs hlen hcl hrr=>
  refine .agg (by rw[hlen,<-A.length]) hc λj y u I hu=>?_
  let⟨x,hx,hle⟩:=A.get j y I;exact hle φ E w u hrep (hrr j x u hx hu)
def WU (hr:BK h' h) {A:AV} (hy:dg h (.I i)=Z y) (q:dg h' (.I i)=Z A):A=y:=by
 simp[dg]at hy q;cases h1:e_ h' i with
 |none=>rw[h1]at q;cases q
 |some r=>
  rw[hr i r h1]at hy
  grind
def Ny {g:Nat->Nat}:∀{q:Y n!} {vs:Y TV},Nz g q vs=J->vs=q.map λp=>.K (g p.1) p.2
 |[],[],_=>rfl
 |[],_::_,h|_::_,[],h=>by simp[Nz]at h
 |(i,o)::r,v::vs,h=>by
  cases v with
  |K I A=>
   simp only[Nz,ar]at h;rw[d5,<-Ny h.2,au h.1.1,au h.1.2]
  |_=>simp[Nz]at h
def MR (h:ba) (g:Nat->Nat):∀q:Y n!,dx h (q.map λp=>.K (g p.1) p.2)=Z (q.map λp=>.K (nm (g p.1)) p.2)
 |[]=>rfl
 |p::r=>by simp[d5,dx,dg,MR h g r]
mutual
def asw (d:vF H H') (hr:BK h' h):∀(p:PV) (l:Y TV) (x:p.ty.den) (m:Nat) (r:Y TV) (cs:Y TV) (l' cs':Y AV),pe g h p l=Z (x,m,r)->C2 g p x=Z cs->dx h l=Z l'->dx h' cs=Z cs'->Jd h H H' m->∃l1 l2,l'=l1++l2/\dx h r=Z l2/\iY H H' l1 cs'
 |.d T,l,x,m,r,cs,l',cs',hg,hp,hl,hc,gv=>by
  obtain⟨l1,l2,e1,e2,e3⟩:=uW d 40 T l x m r l' hg hl gv;have:=(nG h' 40 T x cs hp).1;rw[hc]at this;cases this;exact⟨l1,l2,e1,e2,e3⟩
 |.K i q,l,x,m,r,cs,l',cs',hg,hp,hl,hc,gv=>by
  simp only[pe]at hg;split at hg;rename_i i' o' r';split at hg;rename_i hb;simp only[ar]at hb;have e1:=au hb.1;have e2:=au hb.2;subst e1 e2;simp only[al,aT]at hg;obtain⟨_,_,rfl⟩:=hg;cases hp;obtain⟨y,l2,rfl,g1,g2⟩:=c7 hl;cases g1;cases hc;exact⟨[_],l2,rfl,g2,l7.refl d _,trivial⟩;cases hg;cases hg
 |.qp i q z,l,x,m,r,cs,l',cs',hg,hp,hl,hc,gv=>by
  simp only[pe]at hg;split at hg;rename_i i' o' z' r';split at hg;rename_i hb;simp only[ar]at hb;have e1:=au hb.1.1;have e2:=au hb.1.2;have e3:=au hb.2;subst e1 e2 e3;simp only[al,aT]at hg;obtain⟨_,_,rfl⟩:=hg;simp only[C2,al]at hp;subst hp;obtain⟨y,l2,rfl,g1,g2⟩:=c7 hl;simp only[dg,al]at g1;subst g1;simp only[dx,dg,al]at hc;subst hc;exact⟨[_],l2,rfl,g2,l7.refl d _,trivial⟩;cases hg;cases hg
 |.qy q ps,l,x,m,r,cs,l',cs',hg,hp,hl,hc,gv=>by
  simp only[pe]at hg;split at hg;rename_i q' vs r';split at hg;rename_i hb;simp only[ar]at hb;have e1:=au hb.1;have e2:=Ny hb.2;subst e1 e2;simp only[al,aT]at hg;obtain⟨_,_,rfl⟩:=hg;simp only[C2,al]at hp;subst hp;obtain⟨y,l2,rfl,g1,g2⟩:=c7 hl;simp only[dg,MR,al]at g1;subst g1;simp only[dx,dg,MR,al]at hc;subst hc;exact⟨[_],l2,rfl,g2,l7.refl d _,trivial⟩;cases hg;cases hg
 |.nr i q,l,x,m,r,cs,l',cs',hg,hp,hl,hc,gv=>by
  simp only[pe]at hg;split at hg;rename_i i' j' o' n' r';split at hg;rename_i hb;simp only[ar]at hb;have e1:=au hb.1;have e2:=au hb.2;subst e1 e2;simp only[al,aT]at hg;obtain⟨rfl,_,rfl⟩:=hg;simp only[C2,al]at hp;subst hp;obtain⟨y,l2,rfl,g1,g2⟩:=c7 hl;simp only[dg,al]at g1;subst g1;simp only[dx,dg,al]at hc;subst hc;exact⟨[_],l2,rfl,g2,l7.refl d _,trivial⟩;cases hg;cases hg
 |.I i,l,x,m,r,cs,l',cs',hg,hp,hl,hc,gv=>by
  simp only[pe]at hg;split at hg;rename_i i' r';split at hg;rename_i hb;have e1:=au hb;subst e1;simp only[al,aT]at hg;obtain⟨_,_,rfl⟩:=hg;simp only[C2,al]at hp;subst hp;obtain⟨y,l2,rfl,g1,g2⟩:=c7 hl;obtain⟨y',l3,rfl,g3,g4⟩:=c7 hc;cases g4;rw[WU hr g1 g3];exact⟨[_],l2,rfl,g2,l7.refl d _,trivial⟩;cases hg;cases hg
 |.mp i,l,x,m,r,cs,l',cs',hg,hp,hl,hc,gv=>by
  simp only[pe]at hg;split at hg;rename_i i' r';split at hg;rename_i hb;have e1:=au hb;subst e1;simp only[al,aT]at hg;obtain⟨_,_,rfl⟩:=hg;simp only[C2,al]at hp;subst hp;obtain⟨y,l2,rfl,g1,g2⟩:=c7 hl;simp only[dg,al]at g1;subst g1;simp only[dx,dg,al]at hc;subst hc;exact⟨[_],l2,rfl,g2,l7.refl d _,trivial⟩;cases hg;cases hg
 |.nil,l,x,m,r,cs,l',cs',hg,hp,hl,hc,gv=>by
  simp only[pe]at hg;split at hg;simp only[al,aT]at hg;obtain⟨_,_,rfl⟩:=hg;cases hp;obtain⟨y,l2,rfl,g1,g2⟩:=c7 hl;cases g1;cases hc;exact⟨[_],l2,rfl,g2,l7.refl d _,trivial⟩;cases hg
 |.emp,l,x,m,r,cs,l',cs',hg,hp,hl,hc,gv=>by
  simp only[pe]at hg;split at hg;simp only[al,aT]at hg;obtain⟨_,_,rfl⟩:=hg;simp only[C2,al]at hp;subst hp;obtain⟨y,l2,rfl,g1,g2⟩:=c7 hl;cases g1;cases hc;exact⟨[_],l2,rfl,g2,Le.nilEmp.toH d,trivial⟩;simp only[al,aT]at hg;obtain⟨_,_,rfl⟩:=hg;simp only[C2,al]at hp;subst hp;obtain⟨y,l2,rfl,g1,g2⟩:=c7 hl;simp only[dg,al]at g1;subst g1;simp only[dx,dg,al]at hc;subst hc;exact⟨[_],l2,rfl,g2,l7.refl d _,trivial⟩;cases hg
 |.agg ps,l,x,m,r,cs,l',cs',hg,hp,hl,hc,gv=>H8 d hr ps l x m r cs l' cs' hg hp hl hc gv
def H8 (d:vF H H') (hr:BK h' h):∀(ps:Y PV) (l:Y TV) (x:(PV.tyL ps).den) (m:Nat) (r:Y TV) (cs:Y TV) (l' cs':Y AV),Dx g h ps l=Z (x,m,r)->wZ g ps x=Z cs->dx h l=Z l'->dx h' cs=Z cs'->Jd h H H' m->∃l1 l2,l'=l1++l2/\dx h r=Z l2/\iY H H' l1 cs'
 |[],l,x,m,r,cs,l',cs',hg,hp,hl,hc,gv=>by
  simp only[Dx,al,aT]at hg;obtain⟨_,_,rfl⟩:=hg;cases hp;cases hc;exact⟨[],l',rfl,hl,trivial⟩
 |p::ps,l,x,m,r,cs,l',cs',hg,hp,hl,hc,gv=>by
  simp only[Dx]at hg;split at hg;rename_i x1 m1 r1 h1;split at hg;rename_i x2 m2 r2 h2;cases hg;simp only[wZ,wF,yf]at hp;split at hp;rename_i a ha;split at hp;rename_i b hb;cases hp;obtain⟨a',b',rfl,ea,eb⟩:=Gu hc;obtain⟨ga,gb⟩:=gv.or;obtain⟨l1,l2,rfl,q1,q2⟩:=asw d hr p l _ _ _ a l' a' h1 ha hl ea ga;obtain⟨l3,l4,rfl,q3,q4⟩:=H8 d hr ps _ _ _ _ b l2 b' h2 hb q1 eb gb;exact⟨l1++l3,l4,by simp,q3,q2.append q4⟩;cases hp;cases hp;cases hg;cases hg
end
mutual
def ai6:∀(p:PV) (x:p.ty.den) (cs:Y TV),C2 g p x=Z cs->mi cs=J
 |.d T,x,cs,hp=>(nG PT.leaf 40 T x cs hp).2
 |.K i q,x,cs,hp|.qp i q z,x,cs,hp|.qy q ps,x,cs,hp|.nr i q,x,cs,hp|.I i,x,cs,hp|.mp i,x,cs,hp|.nil,x,cs,hp|.emp,x,cs,hp=>by cases hp;rfl
 |.agg ps,x,cs,hp=>AW ps x cs hp
def AW:∀(ps:Y PV) (x:(PV.tyL ps).den) (cs:Y TV),wZ g ps x=Z cs->mi cs=J
 |[],x,cs,hp=>by cases hp;rfl
 |p::ps,x,cs,hp=>by
  simp only[wZ]at hp;split at hp;rename_i a ha;split at hp;rename_i b hb;cases hp;exact Zw (ai6 p _ a ha) (AW ps _ b hb);cases hp;cases hp
end
def asv (d:vF H H') (hr:BK h' h) {p:PV} {v:TV} {x:p.ty.den} {y':AV} (hg:yX g h p v=Z (x,m)) (hp:EQ g p x=Z u) (hy:dg h v=Z y) (A:dg h' u=Z y') (gv:Jd h H H' m):l7 H H' y y':=by
 cases p with
 |d T=>
  cases hp;cases A;exact (V6 d hg hy gv).1
 |agg ps=>
  simp only[yX]at hg;split at hg;cases hg;rename_i hc;split at hg;rename_i l hl;split at hg;rename_i x1 m1 h1;cases hg;simp only[EQ]at hp;split at hp;rename_i cs hcs;cases hp;simp only[dg]at A;split at A;rename_i cs' hcs';cases A;let⟨e1,e2⟩:=TJ hl hy;let⟨l1,l2,q1,q2,q3⟩:=H8 d hr ps l _ _ [] cs y.cs cs' h1 hcs e1 hcs' gv;cases q2;rw[cS]at q1;subst q1;have hcell:∀x∈cs',x.isCell=J:=nH (wI hcs' (AW ps _ cs hcs));cases v with
  |agg q=>
   simp only[dg]at hy;split at hy;cases hy;exact l7.agg q3 hcell;cases hy
  |f S z=>
   cases hy;have ho:S.one=af:=by simpa[TV.isC] using hc
   rw[EH]at q3;rw[xG S z ho];intro φ E w v hrep hrel;exact l7.agg q3 hcell φ E w v hrep (Le.aggF _ _ _ _ hrel)
  |qd q|undef|qj|qn S q=>simp[TV.cs,TV.isC]at hl
  |sb q=>exact bi rfl hc
  |zh id jj=>cases hl
  |_=>simp[TV.isC]at hc
  cases A;cases hp;cases hg;cases hg
 |K i q=>
  cases hp;simp only[yX]at hg;split at hg;rename_i h1;simp only[pe]at h1;split at h1;rename_i e;simp only[jC]at e;obtain⟨rfl,_⟩:=e;let⟨hb,h1⟩:=dO h1;simp only[ar]at hb;have e1:=au hb.1;have e2:=au hb.2;subst e1 e2;simp only[dg,al]at hy A;subst hy A;exact l7.refl d _;cases h1;cases hg
 |qp i q z=>
  simp only[EQ,al]at hp;subst hp;simp only[yX]at hg;split at hg;rename_i h1;simp only[pe]at h1;split at h1;rename_i e;simp only[jC]at e;obtain⟨rfl,_⟩:=e;let⟨hb,h1⟩:=dO h1;simp only[ar]at hb;have e1:=au hb.1.1;have e2:=au hb.1.2;have e3:=au hb.2;subst e1 e2 e3;simp only[dg,al]at hy A;subst hy A;exact l7.refl d _;cases h1;cases hg
 |qy q ps=>
  simp only[EQ,al]at hp;subst hp;simp only[yX]at hg;split at hg;rename_i h1;simp only[pe]at h1;split at h1;rename_i e;simp only[jC]at e;obtain⟨rfl,_⟩:=e;let⟨hb,h1⟩:=dO h1;simp only[ar]at hb;have e1:=au hb.1;have e2:=Ny hb.2;subst e1 e2;simp only[dg,MR,al]at hy A;subst hy A;exact l7.refl d _;cases h1;cases hg
 |nr i q=>
  simp only[EQ,al]at hp;subst hp;simp only[yX]at hg;split at hg;rename_i h1;simp only[pe]at h1;split at h1;rename_i e;simp only[jC]at e;obtain⟨rfl,_⟩:=e;split at h1;rename_i hb;simp only[ar]at hb;have e1:=au hb.1;have e2:=au hb.2;subst e1 e2;simp only[al,aT]at h1 hg;obtain⟨rfl,_⟩:=hg;obtain⟨rfl,_⟩:=h1;simp only[dg,al]at hy A;subst hy A;exact l7.refl d _;cases h1;cases h1;cases hg
 |I i=>
  simp only[EQ,al]at hp;subst hp;simp only[yX]at hg;split at hg;rename_i h1;simp only[pe]at h1;split at h1;rename_i e;simp only[jC]at e;obtain⟨rfl,_⟩:=e;let⟨hb,h1⟩:=dO h1;have e1:=au hb;subst e1;rw[WU hr hy A];exact l7.refl d _;cases h1;cases hg
 |mp i=>
  simp only[EQ,al]at hp;subst hp;simp only[yX]at hg;split at hg;rename_i h1;simp only[pe]at h1;split at h1;rename_i e;simp only[jC]at e;obtain⟨rfl,_⟩:=e;let⟨hb,h1⟩:=dO h1;have e1:=au hb;subst e1;simp only[dg,al]at hy A;subst hy A;exact l7.refl d _;cases h1;cases hg
 |nil=>
  simp only[EQ,al]at hp;subst hp;simp only[yX]at hg;split at hg;rename_i h1;simp only[pe]at h1;split at h1;rename_i e;simp only[jC]at e;obtain⟨rfl,_⟩:=e;simp only[dg,al]at hy A;subst hy A;exact l7.refl d _;cases h1;cases hg
 |emp=>
  simp only[EQ,al]at hp;subst hp;simp only[yX]at hg;split at hg;rename_i h1;simp only[pe]at h1;split at h1;rename_i e;simp only[jC]at e;obtain⟨rfl,_⟩:=e;simp only[dg,al]at hy A;subst hy A;exact Le.nilEmp.toH d;rename_i e;simp only[jC]at e;obtain⟨rfl,_⟩:=e;simp only[dg,al]at hy A;subst hy A;exact l7.refl d _;cases h1;cases hg
def H7 (d:vF H H') (hr:BK h' h):∀(ps:Y PV) (vs:Y TV) (x:(PV.tyL ps).den) (m:Nat) (I:Y TV) (l l':Y AV),Dw g h ps vs=Z (x,m)->sP g ps x=Z I->dx h vs=Z l->dx h' I=Z l'->Jd h H H' m->iY H H' l l'
 |[],[],x,m,I,l,l',q,hp,hl,A,gv=>by
  cases hp;simp[dx,al]at hl A;subst hl A;trivial
 |[],_::_,x,m,I,l,l',q,_,_,_,_|_::_,[],x,m,I,l,l',q,_,_,_,_=>by simp[Dw]at q
 |p::ps,v::vs,x,m,I,l,l',q,hp,hl,A,gv=>by
  simp[Dw]at q;split at q;rename_i x1 m1 h1;split at q;rename_i x2 m2 h2;obtain⟨rfl,rfl⟩:=q;simp[sP,wF,yf]at hp;split at hp;rename_i a ha;split at hp;rename_i b hb;cases hp;obtain⟨y,l2,rfl,e1,e2⟩:=c7 hl;obtain⟨y',l3,rfl,e3,e4⟩:=c7 A;let⟨ga,gb⟩:=gv.or;exact⟨asv d hr h1 ha e1 e3 ga,H7 d hr ps vs _ _ b l2 l3 h2 hb e2 e4 gb⟩;cases hp;cases hp;cases q;cases q
inductive BM (g:Nat->Nat) (h:ba) (m:Nat):gi->gi->Prop
 |H (ty:TypeId) (p:Bool) (T:Ty) (xs:List T.den):BM g h m (.H ty p T xs) (.H ty p T xs)
 |mp (K V:Ty) (es:List (K.den×V.den)):BM g h m (.mp K V es) (.mp K V es)
 |qf (F:xL) (a:Nat) (x:F.ty.den):BM g h m (.qf F a x) (.qf F a x)
 |G (ty:Option TypeId) (ps:List PV) (x:(PV.tyL ps).den) (l l2:List TV) (m':Nat) (hg:Dx g h ps l=Z (x,m',[])) (hp:wZ g ps x=Z l2) (hm:∀i,aF m' i=J->aF m i=J):BM g h m (.G ty l) (.G ty l2)
def BM.mono (hm:∀m2,aF m m2=J->aF i m2=J) {b c:gi} (h1:BM g h m b c):BM g h i b c:=by
 cases h1 with
 |H ty p T xs=>exact .H ty p T xs
 |mp K V es=>exact .mp K V es
 |qf F a x=>exact .qf F a x
 |G ty A x l I m' hg hp q=>exact .G ty A x l I m' hg hp λm2 hi=>hm m2 (q m2 hi)
def asx {b:PB} {x:b.ty.den} {c:gi} (q:Gp g h i b=Z (x,m)) (hp:Jr g b x=Z (Z c)):∃b0,h.get (g i)=Z b0/\BM g h m b0 c:=by
 cases b with
 |H ty p T=>
  simp only[Gp]at q;split at q;rename_i ty' p' S xs A;split at q;rename_i I;simp[ar,dz]at I;obtain⟨rfl,rfl⟩:=I;split at q;rename_i z hz;obtain⟨rfl,rfl⟩:=q;obtain⟨e,rfl⟩:=iV hz;cases e;cases hp;exact⟨_,A,.H _ _ _ _⟩;cases q;cases q;cases q
 |qg ty T=>
  simp[Gp]at q;split at q;rename_i ty' p' S xs A;split at q;rename_i I;have I:ty=ty':=cf;subst I;split at q;rename_i z hz;obtain⟨rfl,rfl⟩:=q;obtain⟨e,rfl⟩:=iV hz;cases e;simp[Jr,al]at hp;subst hp;exact⟨_,A,.H _ _ _ _⟩;cases q;cases q;cases q
 |G ty ps=>
  simp[Gp]at q;split at q;rename_i ty' l A;split at q;rename_i I;have I:ty=ty':=cf;subst I;split at q;rename_i z m1 hz;obtain⟨rfl,rfl⟩:=q;simp[Jr]at hp;split at hp;rename_i l2 hl2;cases hp;exact⟨_,A,.G ty ps _ l l2 _ hz hl2 λ_ h=>h⟩;cases hp;cases q;cases q;cases q
 |mp K V=>
  simp[Gp]at q;split at q;rename_i K' V' es A;split at q;rename_i z hz;obtain⟨rfl,rfl⟩:=q;obtain⟨e,rfl⟩:=iV hz;cases e;cases hp;exact⟨_,A,.mp _ _ _⟩;cases q;cases q
 |qf F a=>
  simp only[Gp]at q;split at q;rename_i F' a' z A;split at q;rename_i hF;subst hF;let⟨ha,q⟩:=dO q;obtain⟨rfl,rfl⟩:=q;cases hp;rw[au ha];exact⟨_,A,.qf _ _ _⟩;cases q;cases q
 |qm=>simp[Jr]at hp
def OK:∀(bs:Y PB) (i:Nat) (x:(PB.tyL bs).den) (m:Nat) (I:Y (aj gi)),H9 g h i bs=Z (x,m)->uV g bs x=Z I->∀(k:Nat) c,I[k]? =Z (Z c)->∃b0,h.get (g (i+k))=Z b0/\BM g h m b0 c
 |[],i,x,m,I,A,hp,k,c,hk=>by
  cases hp;simp at hk
 |b::r,i,x,m,I,A,hp,k,c,hk=>by
  simp[H9]at A;split at A;rename_i x1 m1 h1;split at A;rename_i x2 m2 h2;obtain⟨rfl,rfl⟩:=A;simp[uV,wF,yf]at hp;split at hp;rename_i a ha;split at hp;rename_i q hq;cases hp;cases k with
  |zero=>
   simp at hk;subst hk;let⟨b0,e1,e2⟩:=asx h1 ha;exact⟨b0,e1,e2.mono λi hi=>by rw[bt,hi];rfl⟩
  |succ k=>
   let⟨b0,e1,e2⟩:=OK r (i+1) _ _ q h2 hq k c cf;rw[show i+1+k=i+(k+1) from M]at e1;exact⟨b0,e1,e2.mono λi hi=>by rw[bt,hi];simp⟩
  cases hp;cases hp;cases A;cases A
end get
def X8 {σ:PT Nat} (h:σ.get i=Z m):ju σ i=m:=by unfold ju;rw[h]
def aet {σ:PT Nat}:∀(n i acc sm:Nat),aly σ n i acc=Z sm->
 (∀k,k<n->aF acc (ju σ (i+k))=af)/\(∀a b,a<n->b<n->ju σ (i+a)=ju σ (i+b)->a=b)/\∀q,aF sm q=J↔aF acc q=J\/∃k,k<n/\ju σ (i+k)=q
 |0,i,acc,sm,h=>by
  simp[aly,al]at h
  grind
 |n+1,i,acc,sm,h=>by
  simp[aly]at h;split at h;rename_i a ha;split at h;cases h;rename_i hna;have hna:aF acc a=af:=cf;have hga:=X8 ha;let⟨h1,h2,h3⟩:=aet n (i+1) (acc|||kZ a) sm h;have hne:∀k,k<n->ju σ (i+1+k)≠a/\aF acc (ju σ (i+1+k))=af:=λk hk=>by
   have:=h1 k hk;rw[bt,Bool.or_eq_false_iff]at this;refine ⟨λe=>?_,this.1⟩;have I:=this.2;rw[e]at I;rw[b7.2 rfl]at I;cases I
  refine ⟨λk hk=>?_,λx y hx hy hxy=>?_,λq=>?_⟩;cases k with
  |zero=>rw[dR,hga];exact hna
  |succ k=>rw[show i+(k+1)=i+1+k from M];exact (hne k M).2
  cases x with
  |zero=>
   cases y with
   |zero=>rfl
   |succ y=>grind
  |succ x=>
   cases y with
   |_=>grind
  rw[h3,bt,gm];constructor;rintro ((A|A)|⟨k,hk,A⟩);exact .inl A;exact .inr ⟨0,M,by rw[dR,hga];exact b7.1 A⟩;exact .inr ⟨k+1,M,by rw[show i+(k+1)=i+1+k from M];exact A⟩;rintro (A|⟨k,hk,A⟩);exact .inl (.inl A);cases k with
  |zero=>rw[dR,hga]at A;exact .inl (.inr (b7.2 A))
  |succ k=>exact .inr ⟨k,M,by rw[show i+1+k=i+(k+1) from M];exact A⟩
  cases h
def Yg {σ:PT Nat}:∀(n:Nat),ago σ n=J->∀i,i<n->ju σ i=i
 |0,_,i,hi=>M
 |n+1,h,i,hi=>by
  simp[ago,ar]at h;by_cases e:i=n;subst e;cases q:σ.get i with
  |none=>rw[q]at h;exact bi h.1 b8
  |some a=>rw[q]at h;rw[X8 q];exact au h.1
  exact Yg n h.2 i M
structure Nb (np:Nat) (t:Tm) (vs:List TV) (h:ba) (z:t.ty.den) (m:Nat) (σ:PT Nat) (sm:Nat):Prop where
 ex:∃x m1 y m2,z=mkp _ _ x y/\m=m1|||m2/\Dw (ju σ) h t.vs vs=Z (x,m1)/\H9 (ju σ) h 0 t.bs=Z (y,m2)
 inj:∀a b,a<l! t.bs->b<l! t.bs->ju σ a=ju σ b->a=b
 sig:∀q,aF sm q=J↔∃k,k<l! t.bs/\ju σ k=q
 disj:∀i,aF m i=J->aF sm i=af
 fix:∀i,i<np->ju σ i=i
def zX {t:Tm} {z:t.ty.den} {σ:PT Nat} {sm:Nat} (hm:Gh i t r h=Z ⟨z,m,σ,sm⟩):Nb i t r h z m σ sm:=by
 unfold Gh at hm;rw[yw]at hm;split at hm;rename_i sm' hs;split at hm;rename_i x m1 h1;split at hm;rename_i y m2 h2;let⟨A,hm⟩:=dO hm;simp[ar]at A;obtain⟨rfl,rfl,rfl,rfl⟩:=hm;let⟨g1,g2,I⟩:=aet _ _ _ _ hs;simp only[bV]at g1 g2 I;exact⟨⟨x,m1,y,m2,rfl,rfl,h1,h2⟩,g2,λq=>by rw[I];simp,λnp hi=>BE A.1 np hi,Yg i A.2⟩;cases hm;cases hm;cases hm
mutual
def Bu {g:Nat->Nat} {h:ba}:∀(p:PV) (l:Y TV) (x:p.ty.den) (m:Nat) (r:Y TV),pe g h p l=Z (x,m,r)->eh h m
 |.d T,l,x,m,r,hg=>yg 40 T l x m r hg
 |.K i q,l,x,m,r,hg=>by
  simp only[pe]at hg;split at hg;obtain⟨h9,hg⟩:=dO hg;simp only[al,aT]at hg;obtain⟨_,rfl,_⟩:=hg;exact eh.zero h;cases hg
 |.qp i q z,l,x,m,r,hg|.nr i q,l,x,m,r,hg|.qy q ps,l,x,m,r,hg|.I i,l,x,m,r,hg|.mp i,l,x,m,r,hg=>by
  simp only[pe]at hg;split at hg;split at hg;simp only[al,aT]at hg;obtain⟨_,rfl,_⟩:=hg;exact eh.zero h;cases hg;cases hg
 |.nil,l,x,m,r,hg=>by
  simp only[pe]at hg;split at hg;simp only[al,aT]at hg;obtain⟨_,rfl,_⟩:=hg;exact eh.zero h;cases hg
 |.emp,l,x,m,r,hg=>by
  simp only[pe]at hg;split at hg;simp only[al,aT]at hg;obtain⟨_,rfl,_⟩:=hg;exact eh.zero h;simp only[al,aT]at hg;obtain⟨_,rfl,_⟩:=hg;exact eh.zero h;cases hg
 |.agg ps,l,x,m,r,hg=>M1 ps l x m r hg
def M1 {g:Nat->Nat} {h:ba}:∀(ps:Y PV) (l:Y TV) (x:(PV.tyL ps).den) (m:Nat) (r:Y TV),Dx g h ps l=Z (x,m,r)->eh h m
 |[],l,x,m,r,hg=>by
  simp only[Dx,al,aT]at hg;obtain⟨_,rfl,_⟩:=hg;exact eh.zero h
 |p::ps,l,x,m,r,hg=>by
  simp only[Dx]at hg;split at hg;rename_i x1 m1 r1 h1;split at hg;rename_i x2 m2 r2 h2;simp only[al,aT]at hg;obtain⟨_,rfl,_⟩:=hg;exact (Bu p l x1 m1 r1 h1).or (M1 ps r1 _ _ _ h2);cases hg;cases hg
end
def ayr {p:PV} {x:p.ty.den} (A:yX g h p u=Z (x,m)):eh h m:=by
 cases p with
 |d T=>exact ahe A
 |agg ps=>
  simp only[yX]at A;split at A;cases A;split at A;split at A;rename_i x1 m1 h1;simp only[al,aT]at A;obtain⟨_,rfl⟩:=A;exact M1 ps _ _ _ _ h1;cases A;cases A
 |_=>
  simp only[yX]at A;split at A;rename_i h1;simp only[al,aT]at A;obtain⟨_,rfl⟩:=A;exact Bu _ _ _ _ _ h1;cases A
def Ve :∀(A:Y PV) (vs:Y TV) (x:(PV.tyL A).den) (m:Nat),Dw g h A vs=Z (x,m)->eh h m
 |[],[],x,m,q=>by obtain⟨_,rfl⟩:=q;exact eh.zero h
 |[],_::_,x,m,q|_::_,[],x,m,q=>by simp[Dw]at q
 |p::A,v::vs,x,m,q=>by
  simp[Dw]at q;split at q;rename_i x1 I h1;split at q;rename_i x2 m2 h2;obtain⟨_,rfl⟩:=q;exact (ayr h1).or (Ve A vs x2 m2 h2);cases q;cases q
def ays {b:PB} {x:b.ty.den} (q:Gp g h i b=Z (x,m)):eh h m:=by
 cases b with
 |H ty p T=>
  simp[Gp]at q;split at q;let⟨I,q⟩:=dO q;split at q;obtain⟨_,rfl⟩:=q;exact eh.zero h;cases q;cases q
 |G ty A=>
  simp[Gp]at q;split at q;let⟨I,q⟩:=dO q;split at q;rename_i h1;obtain⟨_,rfl⟩:=q;exact M1 A _ _ _ _ h1;cases q;cases q
 |mp K V=>
  simp[Gp]at q;split at q;split at q;obtain⟨_,rfl⟩:=q;exact eh.zero h;cases q;cases q
 |qm=>simp[Gp,al,aT]at q;obtain⟨_,rfl⟩:=q;exact eh.zero h
 |_=>
  simp[Gp]at q;split at q;split at q;split at q;obtain⟨_,rfl⟩:=q;exact eh.zero h;cases q;cases q;cases q
def Vf :∀(bs:Y PB) (i:Nat) (x:(PB.tyL bs).den) (m:Nat),H9 g h i bs=Z (x,m)->eh h m
 |[],i,x,m,q=>by obtain⟨_,rfl⟩:=q;exact eh.zero h
 |b::r,i,x,m,q=>by
  simp[H9]at q;split at q;rename_i x1 A h1;split at q;rename_i x2 m2 h2;obtain⟨_,rfl⟩:=q;exact (ays h1).or (Vf r (i+1) x2 m2 h2);cases q;cases q
structure pw (t:Tm) (x:t.ty.den) (vs:List TV) (h1:ba) (l1:List (Option gi)):Prop where
 pv:sP MY t.vs (Vh _ _ x)=Z vs
 pb:uV MY t.bs (Us _ _ x)=Z l1
 len:l! l1=l! t.bs
 at_:∀i b,h1.get i=Z b↔l1[i]? =Z (Z b)
 ok:mo h1 vs=J
 lt:s_ (l! t.bs) vs=J
 G:∀i ty l,h1.get i=Z (.G ty l)->mo h1 l=J/\s_ (l! t.bs) l=J
 qf:∀i F a x,h1.get i=Z (.qf F a x)->a<l! t.bs
 nox:∀i F a x k p,h1.get i≠Z (.zj F a x k p)
def an4 (l:Y (aj gi)) (i:Nat) (b:gi):(EY MY 0 l PT.leaf).get i=Z b↔l[i]? =Z (Z b):=by
 by_cases hi:i<l! l;obtain⟨c,q⟩:∃c,l[i]? =Z c:=⟨l[i],aI hi⟩
 have:=yn MY l 0 PT.leaf (λa b _ _ e=>by simp[MY]at e;omega) i c q;rw[show MY (0+i)=i from by simp only[MY];omega]at this;rw[this,q];cases c with
 |some b'=>simp
 |none=>simp[PT.get]
 rw[ym MY l 0 PT.leaf i (λk hk=>by simp[MY];omega),eT M];simp[PT.get]
def Ab {t:Tm} {x:t.ty.den} {vs:Y TV} {h1:ba} (hi:Fn t x=Z (vs,h1)):∃I,pw t x vs h1 I:=by
 unfold Fn at hi;split at hi;rename_i us hus;split at hi;rename_i h hh;let⟨q,hi⟩:=dO hi;simp[ar]at q;simp[al,aT]at hi;obtain⟨rfl,rfl⟩:=hi;unfold Sw at hh;split at hh;rename_i I A;simp[al]at hh;refine ⟨I,hus,A,Hp _ _ _ _ A,λi b=>?_,q.1.1,q.1.2,λi ty l hil=>?_,λi F a x hil=>?_,λi F a x k p hil=>?_⟩;rw[<- hh];exact an4 I i b;have:=PT.get_all _ h 1 0 i _ q.2 hil
 grind
 have:=PT.get_all _ h 1 0 i _ q.2 hil;simp_all;have:=PT.get_all _ h 1 0 i _ q.2 hil;cases this;cases hh;cases hi;cases hi
def UF (nb:Nat) (n:Nat):Bool:=dE (ow n) nb
def Hr :UF i m=J↔ow m<i:=⟨λh=>aY h,λh=>bj h⟩
def af7 {k:Nat}:UF m (uY i k)=J↔i<m:=by rw[Hr,ou]
def Js :UF m (nm i)=J↔i<m:=by
 rw[Hr,eH]
def WY (h:m<i) (j sz n:Nat):(wY m j sz n).all (UF i)=J:=by
 unfold wY;split;rfl;exact af7.2 h
def atc {s:Sb} (h:s.id<i):(erS s).all (UF i)=J:=by
 cases s with
 |nr id j sz n=>exact WY h _ _ _
 |nl q=>rfl
 |_=>exact af7.2 h
mutual
def ayj {nb:Nat} {h:ba}:∀(v:TV) (y:AV),MW nb v=J->dg h v=Z y->y.all (UF nb)=J
 |.f _ _,y,_,he|.zm _ _ _ _ _,y,_,he=>by cases he;rfl
 |.ql id _ _ _,y,hl,he|.K id _,y,hl,he|.qp id _ _,y,hl,he=>by cases he;exact Js.2 (aY hl)
 |.I id,y,hl,he=>by
  simp[dg]at he;split at he;cases he;unfold eM;split;rfl;exact Js.2 (aY hl);cases he
 |.zh id jj,y,hl,he=>by
  simp[dg]at he;split at he;cases he;exact Js.2 (aY hl);cases he
 |.emp,y,_,he|.nil,y,_,he=>by cases he;rfl
 |.mp id,y,hl,he=>by cases he;exact Js.2 (aY hl)
 |.agg l,y,hl,he|.qd l,y,hl,he|.qy q l,y,hl,he=>by
  simp[dg]at he;split at he;rename_i l' hl';cases he;exact wA l l' hl hl';cases he
 |.undef,y,_,he|.np,y,_,he|.qj,y,_,he|.qn _ _,y,_,he=>by cases he;rfl
 |.sb s,y,hl,he=>by cases he;exact atc (aY hl)
def wA {nb:Nat} {h:ba}:∀(l:Y TV) (l':Y AV),s_ nb l=J->dx h l=Z l'->AV.allL (UF nb) l'=J
 |[],l',_,he=>by cases he;rfl
 |x::r,l',hl,he=>by
  obtain⟨y,l2,rfl,e1,e2⟩:=c7 he;simp[s_,ar]at hl;simp[AV.allL,ar];exact⟨ayj x y hl.1 e1,wA r l2 hl.2 e2⟩
end
def ahi :∀{l:Y AV},(∀x∈l,x.all p=J)->AV.allL p l=J
 |[],_=>rfl
 |x::r,h=>by
  simp[AV.allL,ar];exact⟨h x (bU ..),ahi λy q=>h y (bx _ q)⟩
def Sr (h:m<i) (sz:Nat):∀(A:η) (k:Nat),∀x∈mm m sz k A,x.all (UF i)=J
 |[],_,x,q=>by cases q
 |l::r,k,x,q=>by
  rcases bc.1 q with rfl|q;exact WY h _ _ _;exact Sr h sz r (k+1) x q
def aoe (h:m<i) {F:xL} {x:F.ty.den} (q:Rv m F x=Z z):z.c.all (UF i)=J:=by
 cases F with
 |rr ty sz=>
  cases q;exact ahi (Sr h sz x 0)
 |ir ty T=>cases q
def aod (h:i<m) {k:Nat} {F:xL} {x:F.ty.den} (A:Mn i k F x=Z z):z.c.all (UF m)=J:=by
 cases F with
 |ir ty T=>
  let⟨o,_,q⟩:=Option.bind_eq_some_iff.1 A;unfold aj8 at q;split at q;cases q;cases q;rfl
 |_=>cases A
def pw.blk_all {t:Tm} {x:t.ty.den} {l1:Y (aj gi)} (I:pw t x r h l1) {b:gi} (A:h.get i=Z b) (q:mT h b=Z z):z.c.all (UF (l! t.bs))=J:=by
 cases b with
 |H ty p T xs=>
  simp only[mT]at q;split at q;cases q;cases q;rfl
 |G ty l=>
  cases ty with
  |some ty=>
   simp[mT]at q;split at q;rename_i l' hl;cases q;exact wA l l' (I.G i _ l A).2 hl;cases q
  |none=>
   simp[mT]at q;split at q;rename_i l' hl;cases q;rfl;cases q
 |qw p sz n=>cases q
 |mp K V es=>
  cases q;unfold mpC;split;rfl;simp[BC.all,ya];have key:∀l:Y (K.den×V.den),AV.allL (UF (l! t.bs)) (l.map ((λx=>x.2)∘λp=>(tf K p.1,AV.f (iu V p.2))))=J:=λl=>by
   induction l with
   |nil=>rfl
   |cons e vs ih=>simp[d5,AV.allL,ar];exact⟨rfl,ih⟩
  exact key es
 |qf F a y=>exact aoe (I.qf i F a y A) q
 |zj F a y k p=>exact bi A (I.nox i F a y k p)
def pw.lt_len {t:Tm} {x:t.ty.den} {q:Y (aj gi)} (I:pw t x r h q) {b:gi} (A:h.get i=Z b):i<l! t.bs:=by
 rw[<- I.len];exact (bG.1 ((I.at_ i b).1 A)).1
def φ1 (nb:Nat) (g:Nat->Nat) (φ:PM):PM:=λn=>if UF nb n then φ (sF g n) else U
def al5 (hi:ow m<i):φ1 i g T m=T (sF g m):=by
 unfold φ1;rw[aD (Hr.2 hi)]
def AO {k:Nat} (h:φ1 i g T m=Z k):ow m<i/\T (sF g m)=Z k:=by
 unfold φ1 at h;let⟨hp,h⟩:=dO h;exact⟨Hr.1 hp,h⟩
def asz (inj:∀a b,a<i->b<i->g a=g b->a=b) {q:Nat} (h:ow m<i) (h':ow q<i) (e:sF g m=sF g q):m=q:=by
 let⟨e1,e2⟩:=yh e;rw[<- my m,<-my q,inj _ _ h h' e1,e2]
def pw.erHF {t:Tm} {x:t.ty.den} {A:Y (aj gi)} (I:pw t x r h A) (hn:AI.erHF h i=Z z):ow i<l! t.bs/\z.c.all (UF (l! t.bs))=J:=by
 let⟨c,h2,q⟩:=jA hn;have hi:=I.lt_len h2;refine ⟨hi,?_⟩;cases hk:ix i with
 |zero=>rw[hk]at q;exact I.blk_all h2 q
 |succ k=>
  rw[hk]at q;cases c with
  |qf F a y=>exact aod hi q
  |zj F a y k p=>exact bi h2 (I.nox _ F a y k p)
  |_=>cases q
structure auj (t:Tm) (x:t.ty.den) (vs:List TV) (h1:ba) (g:Nat->Nat) (φ:PM) (E E':Nat->Prop) (Hv:HF) (w:World):Prop where
 zf:rA (φ1 (l! t.bs) g φ) E' (erHF h1) w
 val:∀x v,x.all (UF (l! t.bs))=J->cC φ (tot E φ Hv) w (x.qz (sF g)) v->cC (φ1 (l! t.bs) g φ) (tot E' (φ1 (l! t.bs) g φ) (erHF h1)) w x v
 qr:∀k,own (φ1 (l! t.bs) g φ) (erHF h1) k->own φ Hv k
 tot_:∀k,tot E' (φ1 (l! t.bs) g φ) (erHF h1) k->tot E φ Hv k
def rA.toId {t:Tm} {x:t.ty.den} {l1:Y (aj gi)} (I:pw t x r h l1) (inj:∀a b,a<l! t.bs->b<l! t.bs->g a=g b->a=b) {E':Nat->Prop} (vs:rA T O N W)
 (hat:∀n y,AI.erHF h n=Z y->N (sF g n)=Z (y.qz (sF g)))
 (hE:∀k,E' k->tot O T N k) (hne:∀n k y,AI.erHF h n=Z y->T (sF g n)=Z k->¬E' k) (hel:∀k,E' k->k<W.heap.size):auj t x r h g T O E' N W:=by
 have own1:∀k,own (φ1 (l! t.bs) g T) (erHF h) k->own T N k:=by
  rintro k ⟨n,y,h2,h3⟩;let⟨hi,A⟩:=AO h3;exact⟨sF g n,_,hat n y h2,A⟩
 have tot1:∀k,tot E' (φ1 (l! t.bs) g T) (erHF h) k->tot O T N k:=λk hk=>hk.elim (hE k) λh1=>.inr (own1 k h1)
 have val:∀x v,x.all (UF (l! t.bs))=J->cC T (tot O T N) W (x.qz (sF g)) v->cC (φ1 (l! t.bs) g T) (tot E' (φ1 (l! t.bs) g T) (erHF h)) W x v:=λx v hx hr=>by
  have h2:cC (φ1 (l! t.bs) g T) (tot O T N) W x v:=cC.renFrom (λi k hp hk=>by unfold φ1;rw[aD hp];exact hk) hr x hx rfl;exact h2.ext (λ_ _ h1=>h1) (GP.refl _ W) λk _ hk=>tot1 k hk
 refine ⟨⟨λn n' b b' k q g2 g3 g4=>?_,λn y q=>?_,hel,λg' cells hg=>(vs.gl g' cells hg).ext (GP.refl _ W) λk _ hk=>tot1 k hk⟩,val,own1,tot1⟩;let⟨hi,A⟩:=AO g3;let⟨hj,h5⟩:=AO g4;exact asz inj hi hj (vs.inj _ _ _ _ k (hat n _ q) (hat n' _ g2) A h5);let⟨hi,hall⟩:=I.erHF q;let⟨k,p1,p2,ob,p3,p4⟩:=vs.at_ _ _ (hat n y q);exact⟨k,by rw[al5 hi];exact p1,hne n k y q p1,ob,p3,kn.renFrom val hall p4⟩
def BM.view {hv:ba} {Hz':HF} (d:vF N Hz') (gv:Jd h N Hz' m) (hr:BK hv h) {b0 c:gi} (hb:BM g h m b0 c) {y':ot} (e0:mT h b0=Z z) (e1:mT hv c=Z y'):iQ N Hz' z y':=by
 cases hb with
 |H ty p T xs=>
  simp only[mT]at e0 e1;rw[e0]at e1;cases e1;exact iQ.refl d z
 |G ty ps x l l2 m' hg hp hm=>
  have key:∀q cs',dx h l=Z q->dx hv l2=Z cs'->iY N Hz' q cs'/\∀x∈cs',x.isCell=J:=λq cs' I A=>by
   let⟨l1,l3,q1,q2,q3⟩:=H8 d hr ps l x m' [] l2 q cs' hg hp I A λi hi=>gv i (hm i hi)
   cases q2;rw[cS]at q1;subst q1;exact⟨q3,nH (wI A (AW ps x l2 hp))⟩
  cases ty with
  |some ty=>
   simp[mT]at e0 e1;split at e0;rename_i q I;cases e0;split at e1;rename_i cs' A;cases e1;exact iQ.G rfl rfl (key _ _ I A).1 (key _ _ I A).2;cases e1;cases e0
  |none=>
   simp[mT]at e0 e1;split at e0;rename_i q I;simp[al]at e0;subst e0;split at e1;rename_i cs' A;cases e1;exact iQ.none;cases e1;cases e0
 |_=>
  simp[mT]at e0 e1;rw[e0]at e1;cases e1;exact iQ.refl d z
def BM.erB_some {A:ba} {nx:Nat} (hinv:kR h nx) {b0 c:gi} (h0:h.get i=Z b0) (hb:BM g h m b0 c) (e1:mT A c=Z z):∃y,mT h b0=Z y:=by
 cases hb with
 |G ty ps x l l2 m' hg hp hm=>
  let⟨l',I⟩:=gY h l (hinv.G i _ l h0);cases ty<;>exact⟨_,by simp[mT,I];rfl⟩
 |_=>exact⟨z,e1⟩
def BM.mem {b0 c:gi} (q:BM g h m b0 c) (i k:Nat):Bc i k b0=Bc i k c:=by cases q<;>rfl
def BM.I {b0 c:gi} (q:BM g h m b0 c):lj c=lj b0:=by
 cases q<;>rfl
structure qV (P:Program) (f:FuncId) (c:cu):Prop where
 qh:AH P f
 calls:∀x y,c.m x=Z y->∀vs hp l1 rs hq l2 la lr,pw c.pre x vs hp l1->pw c.post y rs hq l2->dx hp vs=Z la->dx hq rs=Z lr->
  ∀(φ:PM) (E:Nat->Prop) (w:World) (us:ξ),rA φ E (erHF hp) w->km φ (tot E φ (erHF hp)) w la us->(∀n k,φ n=Z k->ow n<l! c.pre.bs)->
  Calls P f us.toArray w λen w'=>∃v φ',en= .returned v/\GP (own φ (erHF hp)) w w'/\(∀k,k<w.heap.size->own φ' (erHF hq) k->own φ (erHF hp) k)/\(∀n,ow n<l! c.pre.bs->φ' n=φ n)/\rA φ' E (erHF hq) w'/\cC φ' (tot E φ' (erHF hq)) w' (Cu lr) v
def SH :∀(bs:Y PB) (x:(PB.tyL bs).den) (l:Y (aj gi)),F7 bs=J->uV g bs x=Z l->∀(i:Nat) (c:aj gi),l[i]? =Z c->∃b,c=Z b
 |[],x,l,_,hp,i,c,I=>by cases hp;simp at I
 |b::r,x,l,hn,hp,i,c,I=>by
  simp[uV]at hp;split at hp;rename_i a A;split at hp;rename_i q hq;cases hp;cases i with
  |zero=>
   simp at I;subst I;cases b with
   |qm=>simp[F7]at hn
   |G ty ps=>
    simp[Jr]at A
    grind
   |_=>simp[Jr,al]at A;exact⟨_,A.symm⟩
  |succ i=>
   refine SH r _ q ?_ hq i c cf;cases b<;>first|exact hn|simp[F7]at hn
  cases hp;cases hp
def KB {h2:ba} :∀n,wX h h2 g n=J->∀i,i<n->∀r,e_ h (g i)=Z r->e_ h2 (g i)=Z r
 |0,_,i,hi,_,_=>M
 |n+1,A,i,hi,r,I=>by
  simp[wX,ar]at A;by_cases e:i=n;subst e;let⟨p,s,k⟩:=r;have h1:=A.1;rw[I]at h1;cases h3:e_ h2 (g i) with
  |none=>rw[h3]at h1;cases h1
  |some q=>simp_all
  exact KB n A.2 i M r I
def km.le {H':HF} (r:rA T O N W):∀{l A:Y AV} {q:ξ},iY N H' l A->km T (tot O T N) W l q->km T (tot O T H') W A q
 |[],[],[],_,_=>trivial
 |[],[],_::_,_,h|_::_,_::_,[],_,h|[],_::_,_,h,_|_::_,[],_,h,_=>h.elim
 |_::_,_::_,_::_,I,h=>⟨I.1 _ _ _ _ r h.1,km.le r I.2 h.2⟩
def km.toId {φ':PM} {O':Nat->Prop} (A:∀x v,x.all p=J->cC T O W (x.qz g) v->cC φ' O' W x v):∀{l:Y AV} {q:ξ},AV.allL p l=J->km T O W (AV.renL g l) q->km φ' O' W l q
 |[],[],_,_=>trivial
 |[],_::_,_,h|_::_,[],_,h=>h.elim
 |_::_,_::_,hp,h=>by
  simp[AV.allL,ar]at hp;exact⟨A _ _ hp.1 h.1,km.toId A hp.2 h.2⟩
def aex :∀{A:Y TV} {q:Y AV},dx h A=Z q->dg h (WZ A)=Z (Cu q)
 |[],q,he=>by cases he;rfl
 |[x],q,he=>by
  obtain⟨y,I,rfl,e1,e2⟩:=c7 he;cases e2;exact e1
 |x::y::r,q,he=>by
  obtain⟨y1,I,rfl,e1,e2⟩:=c7 he;obtain⟨y2,l3,rfl,e3,e4⟩:=c7 e2;simp[WZ,dg,he,Cu]
def alj (γ:Nat->Nat):∀l:Y AV,Cu (AV.renL γ l)=(Cu l).qz γ
 |[]|[x]|x::y::r=>rfl
def Wv :∀{l:Y AV},AV.allL p l=J->(Cu l).all p=J
 |[],_=>rfl
 |[x],h=>by simp only[AV.allL,ar]at h;exact h.1
 |x::y::r,h=>h
def as8 {q:Nat}:aF (((1<<<m)-1)<<<i) q=J↔i<=q/\q<i+m:=by
 rw[Nat.testBit_shiftLeft,Ed,Nat.testBit_two_pow_sub_one]
 grind
def as7 (l:ι) (B:Nat):ι:=l.flatMap λi=>(dV (B+1)).map λk=>uY i k
def Xm {l:ι} :m∈as7 l i↔ow m∈l/\ix m<=i:=by
 unfold as7;rw[oP];constructor;rintro⟨B,hi,q⟩;obtain⟨k,hk,rfl⟩:=cF.1 q;rw[px]at hk;rw[ou,yS];exact⟨hi,M⟩;rintro⟨h1,h2⟩;exact⟨ow m,h1,cF.2 ⟨ix m,px.2 M,my m⟩⟩
mutual
def AV.all_and {p q:Nat->Bool}:∀x:AV,x.all p=J->x.all q=J->x.all (λn=>p n&&q n)=J
 |.f _,_,_=>rfl
 |.K _ _,h1,h2|.sl _ _ _,h1,h2|.I _ _ _,h1,h2|.mp _,h1,h2=>by simp only[AV.all]at h1 h2 ⊢;rw[h1,h2];rfl
 |.emp,_,_|.qj,_,_|.qn _ _,_,_=>rfl
 |.agg l,h1,h2|.qd l,h1,h2|.qy _ l,h1,h2=>AV.allL_and l h1 h2
def AV.allL_and {p q:Nat->Bool}:∀l:Y AV,AV.allL p l=J->AV.allL q l=J->AV.allL (λn=>p n&&q n) l=J
 |[],_,_=>rfl
 |x::r,h1,h2=>by
  simp[AV.allL,ar]at h1 h2 ⊢;exact⟨AV.all_and x h1.1 h2.1,AV.allL_and r h1.2 h2.2⟩
end
def BC.all_and {q:Nat->Bool} {c:BC} (h1:c.all p=J) (h2:c.all q=J):c.all (λn=>p n&&q n)=J:=by
 cases c with
 |mx l=>exact AV.allL_and l h1 h2
 |mp A=>exact AV.allL_and _ h1 h2
 |_=>rfl
def ZX (B n:Nat):Bool:=di (ix n) B
def HO {n:Nat} (h:i<=m) (q:ZX i n=J):ZX m n=J:=bj (cR (aY q) h)
mutual
def AV.all_ix {B B':Nat} (h:B<=B'):∀x:AV,x.all (ZX B)=J->x.all (ZX B')=J
 |.f _,_=>rfl
 |.K _ _,h1|.sl _ _ _,h1|.I _ _ _,h1|.mp _,h1=>HO h h1
 |.emp,_|.qj,_|.qn _ _,_=>rfl
 |.agg l,h1|.qd l,h1|.qy _ l,h1=>AV.allL_ix h l h1
def AV.allL_ix {B B':Nat} (h:B<=B'):∀l:Y AV,AV.allL (ZX B) l=J->AV.allL (ZX B') l=J
 |[],_=>rfl
 |x::r,h1=>by
  simp[AV.allL,ar]at h1 ⊢;exact⟨AV.all_ix h x h1.1,AV.allL_ix h r h1.2⟩
end
mutual
def AV.ix_ex:∀x:AV,∃B,x.all (ZX B)=J
 |.f _=>⟨0,rfl⟩
 |.K n _|.sl n _ _|.I n _ _|.mp n=>⟨ix n,bj (bg _)⟩
 |.emp|.qj|.qn _ _=>⟨0,rfl⟩
 |.agg l|.qd l|.qy _ l=>AV.ixL_ex l
def AV.ixL_ex:∀l:Y AV,∃B,AV.allL (ZX B) l=J
 |[]=>⟨0,rfl⟩
 |x::r=>by
  obtain⟨a,ha⟩:=AV.ix_ex x;obtain⟨b,hb⟩:=AV.ixL_ex r;exact⟨a+b,by simp[AV.allL,ar];exact⟨AV.all_ix (by omega) x ha,AV.allL_ix (by omega) r hb⟩⟩
end
def BC.ix_ex (c:BC):∃B,c.all (ZX B)=J:=by
 cases c with
 |mx l=>exact AV.ixL_ex l
 |mp q=>exact AV.ixL_ex _
 |_=>exact⟨0,rfl⟩
def BC.all_ix (h:i<=m) {c:BC} (h1:c.all (ZX i)=J):c.all (ZX m)=J:=by
 cases c with
 |mx l=>exact AV.allL_ix h l h1
 |mp q=>exact AV.allL_ix h _ h1
 |_=>rfl
def MZ (h:ba):∃B,∀n y,erHF h n=Z y->ix n<=B/\y.c.all (ZX B)=J:=by
 let⟨A,hM⟩:=afq h;have key:∀a:Nat,∃B,∀n y,n<a->erHF h n=Z y->y.c.all (ZX B)=J:=by
  intro a;induction a with
  |zero=>exact⟨0,λn y hn=>M⟩
  |succ a ih=>
   let⟨B,I⟩:=ih;cases hx:erHF h a with
   |none=>exact⟨B,λn y hn q=>by
     by_cases e:n=a
     grind
     exact I n y M q⟩
   |some z=>
    let⟨C,hC⟩:=BC.ix_ex z.c;exact⟨B+C,λn y hn q=>by
     by_cases e:n=a;subst e;rw[hx]at q;cases q;exact BC.all_ix M hC;exact BC.all_ix M (I n y M q)⟩
 let⟨H,hH⟩:=jW h;let⟨L,hL⟩:=PT.bound H;let⟨B,I⟩:=key L;refine ⟨A+B,λn y q=>⟨cR (atd hM q) M,BC.all_ix M (I n y ?_ q)⟩⟩;rcases co n L with h1|h1;exact h1;simp_all
def apa {o:Oper} {e:iW} {c:cu} (hinv:kR h i) (sp:qV P f c) {x:c.pre.ty.den} {σ:PT Nat} {sm:Nat} (A:Nb 0 c.pre r h x m σ sm) {vs:Y TV} {hp:ba} {l1:Y (aj gi)} (I:pw c.pre x vs hp l1) (hng:F7 c.pre.bs=J) {y:c.post.ty.den} (hm:c.m x=Z y) {rs:Y TV} {hq:ba} {l2:Y (aj gi)} (D:pw c.post y rs hq l2) (hle:l! c.pre.bs<=l! c.post.bs)
 (glo:∀nx,nx<l! c.pre.bs->g nx=ju σ nx) (ghi:∀nx,l! c.pre.bs<=nx->g nx=i+(nx-l! c.pre.bs)) {h2:ba} (hh2:h2=EY g 0 (l2.map (jY (lJ g))) (eP m h)) (hsr:wX h h2 g (l! c.pre.bs)=J) (hla:dx h r=Z C)
 (hexec:∀(φ:PM) (E:Nat->Prop) (h':HF) (w:World) (a:Act),(∀t,.tmp t∈o.op.operands->∀y,gV e h t=Z y->cC φ (tot E φ h') w y (a.tmps.getD t undef))->rA φ E h' w->∃us:ξ,(execOp a.eval o).run P w= .ok (.enter f us.toArray) w/\km φ (tot E φ h') w C us):
 iy P o af e h i (WZ (l_ g rs)) (sm|||m) (sm|||m|||(((1<<<(l! c.post.bs-l! c.pre.bs))-1)<<<i)) h2 (i+(l! c.post.bs-l! c.pre.bs)):=by
 let⟨x1,m1,x2,m2,hx,hmm,gv,gb⟩:=A.ex;have hmr:eh h m:=by rw[hmm];exact (Ve _ _ _ _ gv).or (Vf _ _ _ _ gb)
 generalize hnp:l! c.pre.bs=np at*
 generalize hnq:l! c.post.bs=nq at*
 have pvg:sP (ju σ) c.pre.vs x1=Z (l_ (ju σ) vs):=by
  have h3:=wO (ju σ) c.pre.vs x1;have h4:=I.pv;rw[hx,wF]at h4;rw[h3,h4];rfl
 have pbg:uV (ju σ) c.pre.bs x2=Z (l1.map (jY (lJ (ju σ)))):=by
  have h3:=zO (ju σ) c.pre.bs x2;have h4:=I.pb;rw[hx,yf]at h4;rw[h3,h4];rfl
 have hl1:∀nx,nx<np->∃b,l1[nx]? =Z (Z b):=λnx hi=>by
  have hi':nx<l! l1:=by rw[I.len,hnp];exact hi
  let⟨b,hb⟩:=SH c.pre.bs _ l1 hng I.pb nx l1[nx] (aI hi');exact⟨b,by rw[aI hi',hb]⟩
 have hbm:∀nx b,l1[nx]? =Z (Z b)->∃b0,h.get (ju σ nx)=Z b0/\BM (ju σ) h m b0 (lJ (ju σ) b):=λnx b hb=>by
  let⟨b0,q1,q2⟩:=OK c.pre.bs 0 x2 m2 _ gb pbg nx (lJ (ju σ) b) (by rw[bH,hb];rfl);rw[bV]at q1;exact⟨b0,q1,q2.mono λj hj=>by rw[hmm,bt,hj];simp⟩
 have inj1:∀a b,a<np->b<np->ju σ a=ju σ b->a=b:=λa b ha hb=>A.inj a b (by rw[hnp];exact ha) (by rw[hnp];exact hb)
 have sig:∀q,aF sm q=J↔∃k,k<np/\ju σ k=q:=λq=>by rw[A.sig,hnp]
 have gnx:∀nx,nx<np->ju σ nx<i:=λnx hi=>by
  let⟨b,hb⟩:=hl1 nx hi;let⟨b0,q1,_⟩:=hbm nx b hb;exact hinv.low _ _ q1
 have hmS:∀nx,nx<np->aF m (ju σ nx)=af:=λnx hi=>by
  cases hx:aF m (ju σ nx) with
  |false=>rfl
  |true=>have:=A.disj _ hx;rw[(sig _).2 ⟨nx,hi,rfl⟩]at this;cases this
 have injg:∀a b,a<nq->b<nq->g a=g b->a=b:=λa b ha hb hab=>by
  by_cases h1:a<np;by_cases h2:b<np;rw[glo a h1,glo b h2]at hab;exact inj1 a b h1 h2 hab;rw[glo a h1,ghi b M]at hab;have:=gnx a h1;omega;by_cases h2:b<np;rw[ghi a M,glo b h2]at hab;have:=gnx b h2;omega;rw[ghi a M,ghi b M]at hab;omega
 let hv:ba:=EY (ju σ) 0 (l1.map (jY (lJ (ju σ)))) (eP m h)
 have hv_at:∀nx b,l1[nx]? =Z (Z b)->hv.get (ju σ nx)=Z (lJ (ju σ) b):=λnx b hb=>by
  have:=yn (ju σ) (l1.map (jY (lJ (ju σ)))) 0 (eP m h) (λa b ha hb=>by
   simp only[bL,I.len,hnp]at ha hb;simp only[bV];exact inj1 a b ha hb) nx (Z (lJ (ju σ) b)) (by rw[bH,hb];rfl)
  rw[bV]at this;exact this
 have hv_ne:∀j,(∀nx,nx<np->j≠ju σ nx)->hv.get j=(eP m h).get j:=λj hj=>
  ym (ju σ) _ 0 _ j λk hk=>by
   simp only[bL,I.len,hnp]at hk;rw[bV];exact hj k hk
 have rows_in:BK hv h:=λj l hr=>by
  rw[bS]at hr ⊢;by_cases hj:∃nx,nx<np/\j=ju σ nx;obtain⟨nx,hi,rfl⟩:=hj;let⟨b,hb⟩:=hl1 nx hi;let⟨b0,q1,q2⟩:=hbm nx b hb;rw[hv_at nx b hb]at hr;rw[q1];simp only[aH]at hr ⊢;rw[<- q2.I];exact hr;rw[hv_ne j (λnx hi e=>hj ⟨nx,hi,e⟩),jU]at hr;split at hr;rename_i ht;let⟨ty,p,T,xs,hb⟩:=hmr j ht;rw[hb]at hr ⊢;exact hr;exact hr
 have rows_hp:∀nx l,e_ hp nx=Z l->e_ hv (ju σ nx)=Z l:=λnx l hr=>by
  rw[bS]at hr ⊢;cases hb:hp.get nx with
  |none=>rw[hb]at hr;cases hr
  |some b=>
   rw[hb]at hr;rw[hv_at nx b ((I.at_ nx b).1 hb)];simp only[aH,Nr]at hr ⊢;exact hr
 have dead_m:∀nx,aF m nx=J->erHF hv (nm nx)=U:=λnx hi=>by
  rw[ct,hv_ne nx (λk hk e=>by rw[e,hmS k hk]at hi;cases hi)];let⟨p,sz,n,hd⟩:=wV hmr hi;rw[hd];rfl
 have h2_at:∀nx cc,l2[nx]? =Z cc->h2.get (g nx)=(match cc with|some b=>Z (lJ g b)|none=>((eP m h).get (g nx)).map vZ):=λnx cc hc=>by
  have:=yn g (l2.map (jY (lJ g))) 0 (eP m h) (λa b ha hb=>by
   simp only[bL,D.len,hnq]at ha hb;simp only[bV];exact injg a b ha hb) nx (cc.map (lJ g)) (by rw[bH,hc];rfl)
  rw[bV]at this;rw[hh2,this];cases cc<;>rfl
 have h2_ne:∀j,(∀nx,nx<nq->j≠g nx)->h2.get j=(eP m h).get j:=λj hj=>by
  rw[hh2];refine ym g _ 0 _ j λk hk=>?_
  simp only[bL,D.len,hnq]at hk;rw[bV];exact hj k hk
 have rows_hq:∀nx l,e_ hq nx=Z l->e_ h2 (g nx)=Z l:=λnx l hr=>by
  rw[bS]at hr ⊢;cases hb:hq.get nx with
  |none=>rw[hb]at hr;cases hr
  |some b=>
   rw[hb]at hr;rw[h2_at nx _ ((D.at_ nx b).1 hb)];simp only[aH,Nr]at hr ⊢;exact hr
 have rows2:cz h h2:=λj l hr=>by
  by_cases hj:∃nx,nx<np/\j=ju σ nx;obtain⟨nx,hi,rfl⟩:=hj;rw[<- glo nx hi]at hr ⊢;exact KB np hsr nx hi l hr;have hjn:j<i:=by
   rw[bS]at hr;cases hb:h.get j with
   |none=>rw[hb]at hr;cases hr
   |some b=>exact hinv.low j b hb
  have:=cz.kill m h j l hr;rw[bS]at this ⊢;rw[h2_ne j (λnx hi e=>?_)];exact this;by_cases hip:nx<np;exact hj ⟨nx,hip,by rw[e,glo nx hip]⟩;rw[ghi nx M]at e;omega
 let⟨lr,hlr⟩:=gY hq rs D.ok;let⟨lp,hlp⟩:=gY hp vs I.ok;have er2:∀n yb,erHF hq n=Z yb->erHF h2 (sF g n)=Z (yb.qz (sF g)):=λn yb hn=>by
  let⟨b,hb,hyb⟩:=jA hn;unfold erHF;rw[yL,Bj,h2_at _ _ ((D.at_ _ b).1 hb)];exact ED rows_hq hyb
 have er2':∀n,ow n<nq->∀z,erHF h2 (sF g n)=Z z->∃yb,erHF hq n=Z yb/\z=yb.qz (sF g):=λn hi z hz=>by
  have hi':ow n<l! l2:=by rw[D.len,hnq];exact hi
  have hcc:=aI hi';unfold erHF at hz;rw[yL,Bj]at hz;cases hcv:l2[ow n] with
  |none=>
   rw[hcv]at hcc;rw[h2_at _ U hcc]at hz;simp only at hz;cases hkg:(eP m h).get (g (ow n)) with
   |none=>rw[hkg]at hz;cases hz
   |some b0=>rw[hkg]at hz;exact (aoh hz).elim
  |some b=>
   rw[hcv]at hcc;have hb:=(D.at_ _ b).2 hcc;rw[h2_at _ (Z b) hcc]at hz;have hz:Te h2 (g (ow n)) (ix n) (lJ g b)=Z z:=hz;have hyb:∃yb,Te hq (ow n) (ix n) b=Z yb:=by
    cases hk:ix n with
    |zero=>
     rw[hk]at hz;cases b with
     |H ty p T xs=>exact⟨z,hz⟩
     |G ty q=>
      let⟨q',hq'⟩:=gY hq q (D.G _ _ q hb).1;cases ty<;>exact⟨_,by simp only[Te,mT,hq'];rfl⟩
     |qw p sz n=>cases hz
     |mp K V es=>exact⟨_,rfl⟩
     |qf F a x=>
      simp only[Te,lJ,mT,Yj]at hz;let⟨y,hy,_⟩:=uJ.1 hz;exact⟨y,hy⟩
     |zj F a x k p=>exact bi hb (D.nox _ F a x k p)
    |succ k=>
     rw[hk]at hz;simp only[Te,Xn]at hz;let⟨y,hy,_⟩:=uJ.1 hz;exact⟨y,hy⟩
   let⟨yb,hyb⟩:=hyb;rw[ED rows_hq hyb]at hz;refine ⟨yb,?_,by cases hz;rfl⟩;unfold erHF;rw[hb];exact hyb
 have dead2:∀nx,aF m nx=J->erHF h2 (nm nx)=U:=λnx hi=>by
  have hlt:=hmr.lt hinv hi;rw[ct,h2_ne nx (λk hk e=>?_)];let⟨p,sz,n,hd⟩:=wV hmr hi;rw[hd];rfl;by_cases hkp:k<np;rw[e,glo k hkp,hmS k hkp]at hi;cases hi;rw[ghi k M]at e;omega
 have inv2:kR h2 (i+(nq-np)):=by
  refine ⟨λj ty q hj=>?_,λj b hj=>?_⟩;by_cases hjg:∃nx,nx<nq/\j=g nx;obtain⟨nx,hi,rfl⟩:=hjg;have hi':nx<l! l2:=by rw[D.len,hnq];exact hi
  have hcc:=aI hi';cases hcv:l2[nx] with
  |none=>
   rw[hcv]at hcc;rw[h2_at nx U hcc]at hj;simp only at hj;cases hkg:(eP m h).get (g nx) with
   |none=>rw[hkg]at hj;cases hj
   |some b0=>rw[hkg]at hj;exact (De (gH hj)).elim
  |some b=>
   rw[hcv]at hcc;have hb:=(D.at_ nx b).2 hcc;rw[h2_at nx (Z b) hcc]at hj;simp only[al]at hj;cases b with
   |G ty' q'=>
    simp only[lJ,gi.G.injEq]at hj;obtain⟨_,rfl⟩:=hj;let⟨z,hz⟩:=gY hq q' (D.G nx _ q' hb).1;exact oH _ _ _ (rn rows_hq q' z hz)
   |_=>simp[lJ]at hj
  rw[h2_ne j (λnx hi e=>hjg ⟨nx,hi,e⟩)]at hj;refine io rows2 q ?_;have hkk:=(hinv.kill m).G j _ q hj;rw[jU]at hj;split at hj;rename_i ht;let⟨_,_,_,_,hb⟩:=hmr j ht;rw[hb]at hj;cases hj;exact hinv.G j _ q hj;by_cases hjg:∃nx,nx<nq/\j=g nx;obtain⟨nx,hi,rfl⟩:=hjg;by_cases hip:nx<np;rw[glo nx hip];have:=gnx nx hip;omega;rw[ghi nx M];omega;rw[h2_ne j (λnx hi e=>hjg ⟨nx,hi,e⟩)]at hj;have:=(hinv.kill m).low j b hj;omega
 let⟨B1,hB1⟩:=MZ hp;let⟨B2,hB2⟩:=MZ hq;let⟨B3,hB3⟩:=MZ h;let⟨B4,hB4⟩:=MZ h2;let⟨B5,hB5⟩:=AV.ixL_ex lr;obtain⟨B,eB⟩:∃B,B=B1+B2+B3+B4+B5:=⟨_,rfl⟩
 let S:ι:=as7 ((dV np).map (ju σ)) B
 have memS:∀n,n∈S↔(∃nx,nx<np/\ow n=ju σ nx)/\ix n<=B:=λn=>by
  simp only[S,Xm,cF,px];exact⟨λ⟨⟨nx,h1,h2⟩,h3⟩=>⟨⟨nx,h1,h2.symm⟩,h3⟩,λ⟨⟨nx,h1,h2⟩,h3⟩=>⟨⟨nx,h1,h2.symm⟩,h3⟩⟩
 let NN:ι:=as7 ((dV (nq-np)).map λt=>i+t) B
 have L8:∀n,n∈NN↔(∃t,t<nq-np/\ow n=i+t)/\ix n<=B:=λn=>by
  simp only[NN,Xm,cF,px];exact⟨λ⟨⟨nx,h1,h2⟩,h3⟩=>⟨⟨nx,h1,h2.symm⟩,h3⟩,λ⟨⟨nx,h1,h2⟩,h3⟩=>⟨⟨nx,h1,h2.symm⟩,h3⟩⟩
 have memW:∀n,n∈S++KJ m++NN↔((∃nx,nx<nq/\ow n=g nx)/\ix n<=B)\/n∈KJ m:=λn=>by
  rw[bz,bz,memS,L8];constructor;rintro ((⟨⟨nx,hi,e⟩,hk⟩|hn)|⟨⟨t,ht,e⟩,hk⟩);exact .inl ⟨⟨nx,M,by rw[glo nx hi];exact e⟩,hk⟩;exact .inr hn;exact .inl ⟨⟨np+t,M,by rw[ghi _ M,show np+t-np=t from M];exact e⟩,hk⟩;rintro (⟨⟨nx,hi,e⟩,hk⟩|hn);by_cases hip:nx<np;exact .inl (.inl ⟨⟨nx,hip,by rw[<- glo nx hip];exact e⟩,hk⟩);exact .inr ⟨⟨nx-np,M,by rw[e,ghi nx M]⟩,hk⟩;exact .inl (.inr hn)
 have gamS:∀n,ow n<np->ix n<=B->sF (ju σ) n∈S:=λn hi hk=>(memS _).2 ⟨⟨ow n,hi,yL _ _⟩,by rw[Bj];exact hk⟩
 have gamg:∀n,ow n<np->sF g n=sF (ju σ) n:=λn hi=>by unfold sF;rw[glo _ hi]
 have ungam:∀(g:Nat->Nat) (n nx:Nat),ow n=g nx->n=sF g (uY nx (ix n)):=λg n nx e=>by rw[H_,<-e,my]
 have hOpT:im P o (gV e h) (erHF h) ⟨Cu (AV.renL (sF g) lr),S++KJ m,S++KJ m++NN,erHF h2,NN⟩:=by
  intro φ E h' w a hrd hwr hops hrep hN;have hS':∀n,n∈S->h' n=erHF h n:=λn hn=>hrd _ (dM _ hn)
  have hM':∀nx,aF m nx=J->h' (nm nx)=erHF h (nm nx):=λnx hi=>hrd _ (kf _ (ng.2 hi))
  let⟨us,hrun,hrel⟩:=hexec φ E h' w a hops hrep
  let Hv:HF:=λn=>if n∈S++KJ m then erHF hv n else h' n
  have Hv_in:∀n,n∈S++KJ m->Hv n=erHF hv n:=λn hn=>by simp only[Hv,hn,bC]
  have Hv_out:∀n,n∉S++KJ m->Hv n=h' n:=λn hn=>by simp only[Hv,hn,dQ]
  have blkS:∀n,n∈S->∀z,erHF hv n=Z z->∃b0 c y0,h.get (ow n)=Z b0/\BM (ju σ) h m b0 c/\Te h (ow n) (ix n) b0=Z y0/\Te hv (ow n) (ix n) c=Z z:=λn hn z hz=>by
   let⟨⟨nx,hi,e⟩,_⟩:=(memS n).1 hn;let⟨b,hb⟩:=hl1 nx hi;let⟨b0,q1,q2⟩:=hbm nx b hb;unfold erHF at hz;rw[e,hv_at nx b hb]at hz;have hz:Te hv (ju σ nx) (ix n) (lJ (ju σ) b)=Z z:=hz;rw[e];cases hk:ix n with
   |zero=>
    rw[hk]at hz;let⟨y0,hy0⟩:=BM.erB_some hinv q1 q2 hz;exact⟨b0,_,y0,q1,q2,hy0,hz⟩
   |succ k=>
    rw[hk]at hz;exact⟨b0,_,z,q1,q2,(q2.mem _ _).trans hz,hz⟩
  have hd:vF h' Hv:=λn b hb=>by
   by_cases hn:n∈S++KJ m;rw[Hv_in n hn]at hb;rcases bz.1 hn with hs|hs;let⟨b0,c,y0,q1,_,q4,_⟩:=blkS n hs b hb;exact⟨y0,by rw[hS' n hs];unfold erHF;rw[q1];exact q4⟩;obtain⟨nx,rfl,hi⟩:=pO.1 hs;rw[dead_m nx hi]at hb;cases hb;rw[Hv_out n hn]at hb;exact⟨b,hb⟩
  have gvv:Jd h h' Hv m:=λnx hi=>⟨hM' nx hi,by rw[Hv_in _ (kf _ (ng.2 hi)),dead_m nx hi]⟩
  have V:Qp h' Hv:=⟨hd,λn b b' hb hb'=>by
   by_cases hn:n∈S++KJ m;rw[Hv_in n hn]at hb';rcases bz.1 hn with hs|hs;let⟨b0,c,y0,q1,q3,q4,q5⟩:=blkS n hs b' hb';rw[hS' n hs]at hb;unfold erHF at hb;rw[q1]at hb;have hb:Te h (ow n) (ix n) b0=Z b:=hb;cases hk:ix n with
   |zero=>rw[hk]at hb q5;exact BM.view hd gvv rows_in q3 hb q5
   |succ k=>
    rw[hk]at hb q5;have:=(q3.mem (ow n) k).symm.trans hb;have q5:Bc (ow n) k c=Z b':=q5;rw[q5]at this;cases this;exact iQ.refl hd _
   obtain⟨nx,rfl,hi⟩:=pO.1 hs;rw[dead_m nx hi]at hb';cases hb';rw[Hv_out n hn,hb]at hb';cases hb';exact iQ.refl hd b⟩
  have hrepv:=V.zf hrep;have hlpg:dx hv (l_ (ju σ) vs)=Z (AV.renL (sF (ju σ)) lp):=rn rows_hp vs lp hlp;have hrel1:km φ (tot E φ Hv) w (AV.renL (sF (ju σ)) lp) us:=
   km.le hrep (H7 hd rows_in c.pre.vs r x1 m1 _ C _ gv pvg hla hlpg (λnx hi=>gvv nx (by rw[hmm,bt,hi];rfl))) hrel
  let E':Nat->Prop:=λk=>E k\/∃n b,Hv n=Z b/\n∉S/\φ n=Z k
  have T:auj c.pre x vs hp (ju σ) φ E E' Hv w:=by
   refine rA.toId I (λa b ha hb=>inj1 a b (by rw[<- hnp];exact ha) (by rw[<- hnp];exact hb)) hrepv (λn yb hn=>?_) ?_ ?_ ?_;let⟨hi,_⟩:=I.erHF hn;rw[hnp]at hi;have hk:=(hB1 n yb hn).1;let⟨b,hb,hyb⟩:=jA hn;rw[Hv_in _ (dM _ (gamS n hi M))];unfold erHF;rw[yL,Bj,hv_at _ b ((I.at_ _ b).1 hb)];exact ED rows_hp hyb;rintro k (hE|⟨n,b,h1,_,h3⟩);exact .inl hE;exact .inr ⟨n,b,h1,h3⟩;intro n0 k y0 hn0 h3 hE0;let⟨hi,_⟩:=I.erHF hn0;rw[hnp]at hi;have hk:=(hB1 n0 y0 hn0).1;have h1:Hv (sF (ju σ) n0)=Z (y0.qz (sF (ju σ))):=by
    let⟨b,hb,hyb⟩:=jA hn0;rw[Hv_in _ (dM _ (gamS n0 hi M))];unfold erHF;rw[yL,Bj,hv_at _ b ((I.at_ _ b).1 hb)];exact ED rows_hp hyb
   rcases hE0 with hE|⟨n,b',h4,h5,h6⟩;let⟨k',p1,p2,_⟩:=hrepv.at_ _ _ h1;rw[h3]at p1;cases p1;exact p2 hE;have:=hrepv.inj _ _ _ _ k h1 h4 h3 h6;exact h5 (by rw[<- this];exact gamS n0 hi M);rintro k (hE|⟨n,b,h1,_,h3⟩);exact hrepv.el k hE;let⟨k',q1,_,ob,q3,_⟩:=hrepv.at_ n b h1;rw[h3]at q1;cases q1;exact (c9.1 q3).1
  have hcalls:=sp.calls x y hm vs hp l1 rs hq l2 lp lr I D hlp hlr (φ1 (l! c.pre.bs) (ju σ) φ) E' w us T.zf (km.toId T.val (wA vs lp I.lt hlp) hrel1) (λn k hk=>(AO hk).1);unfold Ec;rw[hrun];refine Calls.mono hcalls ?_;rintro en w' ⟨v,φc',rfl,hext,hown,hnm,rp,rv'⟩
  let isN:Nat->Prop:=λn=>n∈NN
  let φ':PM:=λn=>if n∈NN then φc' (uY (np+(ow n-i)) (ix n)) else φ n
  have φ'_old:∀n,n∉NN->φ' n=φ n:=λn hn=>by simp only[φ',hn,dQ]
  have loN:∀n,ow n<i->n∉NN:=λn hi hn=>by
   let⟨⟨t,_,e⟩,_⟩:=(L8 _).1 hn;omega
  have φ'_g:∀n,ow n<nq->ix n<=B->φ' (sF g n)=φc' n:=λn hi hk=>by
   by_cases hip:ow n<np;rw[gamg n hip,φ'_old _ (loN _ (by rw[yL];exact gnx _ hip)),hnm n (by rw[hnp];exact hip),al5 (by rw[hnp];exact hip)];have hg:=ghi (ow n) M;have:sF g n∈NN:=(L8 _).2 ⟨⟨ow n-np,M,by rw[yL,hg]⟩,by rw[Bj];exact hk⟩;simp only[φ',this,bC,yL,Bj,hg];rw[show np+(i+(ow n-np)-i)=ow n from M,my]
  have hsub:∀n k,φ n=Z k->φ' n=Z k:=λn k hk=>by
   by_cases hn:n∈NN;rw[hN n hn]at hk;cases hk;rw[φ'_old n hn];exact hk
  let F:HF:=eD h' (S++KJ m++NN) (erHF h2)
  have F_g:∀n,n∈S++KJ m++NN->F n=erHF h2 n:=λn hn=>by
   simp only[F,eD,hn,bC]
  have F_out:∀n,n∉S++KJ m++NN->F n=h' n:=λn hn=>by simp only[F,eD,hn,dQ]
  have from_:∀n b,F n=Z b->(∃nx yb,ow nx<nq/\ix nx<=B/\n=sF g nx/\erHF hq nx=Z yb/\b=yb.qz (sF g))\/(h' n=Z b/\Hv n=Z b/\n∉S/\n∉NN/\φ' n=φ n):=λn b hb=>by
   by_cases hn:n∈S++KJ m++NN;rcases (memW n).1 hn with ⟨⟨nx,hi,e⟩,hk⟩|hs;rw[F_g n hn]at hb;have e2:=ungam g n nx e;have ho:ow (uY nx (ix n))<nq:=by rw[ou];exact hi
   let⟨yb,q1,q2⟩:=er2' (uY nx (ix n)) ho b (by rw[<- e2];exact hb);exact .inl ⟨uY nx (ix n),yb,ho,by rw[yS];exact hk,e2,q1,q2⟩;obtain⟨nx,rfl,hi⟩:=pO.1 hs;have:F (nm nx)=erHF h2 (nm nx):=by simp only[F,eD,hn,bC]
   rw[this,dead2 nx hi]at hb;cases hb;rw[F_out n hn]at hb;have h1:n∉S++KJ m:=λhh=>hn (dM _ hh)
   have h3:n∉NN:=λhh=>hn (kf _ hh)
   exact .inr ⟨hb,by rw[Hv_out n h1];exact hb,λhh=>h1 (dM _ hh),h3,φ'_old n h3⟩
  have own':∀k,own φ' F k->own φc' (erHF hq) k\/∃n b,Hv n=Z b/\n∉S/\φ n=Z k:=by
   rintro k ⟨n,b,h1,h3⟩;rcases from_ n b h1 with ⟨nx,yb,hi,hk,rfl,q1,_⟩|⟨_,q2,q3,_,q5⟩;rw[φ'_g nx hi hk]at h3;exact .inl ⟨nx,yb,q1,h3⟩;exact .inr ⟨n,b,q2,q3,by rw[<- q5];exact h3⟩
  have mv:iX φ φ' h' F w w':=by
   refine ⟨hsub,hext.mono λk hk=>hd.own (T.qr k hk),λk hk ho=>?_⟩;rcases own' k ho with h1|⟨n,b,h1,_,h3⟩;exact hd.own (T.qr k (hown k hk h1));exact hd.own ⟨n,b,h1,h3⟩
  have tot':∀k,tot E φ' F k->tot E' φc' (erHF hq) k:=by
   rintro k (h1|h1);exact .inl (.inl h1);rcases own' k h1 with h3|h3;exact .inr h3;exact .inl (.inr h3)
  let φr:PM:=λn=>if UF nq n&&ZX B n then φc' n else U
  have rel_r:∀x v,x.all (λn=>UF nq n&&ZX B n)=J->cC φc' (tot E' φc' (erHF hq)) w' x v->cC φr (tot E φ' F) w' x v:=λx v hx hr=>
   hr.restrict (λnx k hi hk=>by simp only[φr,hi,bC];exact hk) tot' hx
  have rel_g:∀x v,cC φr (tot E φ' F) w' x v->cC φ' (tot E φ' F) w' (x.qz (sF g)) v:=λx v hr=>
   hr.renTo λn k hk=>by
    simp only[φr]at hk;let⟨hpn,hk⟩:=dO hk;simp only[ar]at hpn;rw[φ'_g n (Hr.1 hpn.1) (aY hpn.2)];exact hk
  have hnqJ:=hnq;refine ⟨v,φ',rfl,mv,λn k hk=>?_,?_,?_⟩;by_cases hn:n∈NN;exact .inr hn;rw[φ'_old n hn]at hk;exact .inl hk;refine ⟨λn n' b b' k h1 h3 h4 h5=>?_,λn b h1=>?_,λk hk=>db (hrep.el k hk) mv.ext.size,λg' cells hg=>mv.keepF (hrep.gl g' cells hg)⟩;rcases from_ n b h1 with ⟨nx,yb,hi,hik,rfl,hqi,_⟩|⟨q1,q2,q3,_,q5⟩;rw[φ'_g nx hi hik]at h4;rcases from_ n' b' h3 with ⟨j,yj,hj,hjk,rfl,t1,_⟩|⟨t1,t2,t3,_,t5⟩;rw[φ'_g j hj hjk]at h5;rw[rp.inj _ _ _ _ k hqi t1 h4 h5];exfalso;let⟨k',p1,p2,_⟩:=rp.at_ _ _ hqi;rw[h4]at p1;cases p1;exact p2 (.inr ⟨n',b',t2,t3,by rw[<- t5];exact h5⟩);rcases from_ n' b' h3 with ⟨j,yj,hj,hjk,rfl,hqj,_⟩|⟨t1,t2,t3,_,t5⟩;exfalso;rw[φ'_g j hj hjk]at h5;let⟨k',p1,p2,_⟩:=rp.at_ _ _ hqj;rw[h5]at p1;cases p1;exact p2 (.inr ⟨n,b,q2,q3,by rw[<- q5];exact h4⟩);exact hrep.inj n n' b b' k q1 t1 (by rw[<- q5];exact h4) (by rw[<- t5];exact h5);rcases from_ n b h1 with ⟨nx,yb,hi,hik,rfl,hqi,rfl⟩|⟨q1,q2,q3,_,q5⟩;let⟨k,p1,p2,ob,p3,p4⟩:=rp.at_ _ _ hqi;have hall:=(D.erHF hqi).2;rw[hnq]at hall;have hall2:=BC.all_and hall (BC.all_ix (show B2<=B by omega) (hB2 nx yb hqi).2);exact⟨k,by rw[φ'_g nx hi hik];exact p1,λhE=>p2 (.inl hE),ob,p3,(p4.restrict rel_r hall2).renTo rel_g⟩;let⟨k,p1,p2,ob,p3,p4⟩:=hrep.at_ n b q1;have hk:k<w.heap.size:=(c9.1 p3).1;refine ⟨k,hsub n k p1,p2,ob,?_,p4.mono λx v hr=>mv.zq hr⟩;rw[hext.jg k hk ?_];exact p3;rintro⟨n',y',t1,t2⟩;let⟨hi,t3⟩:=AO t2;rw[hnp]at hi;have hik:=(hB1 n' y' t1).1;have hvi:Hv (sF (ju σ) n')=Z (y'.qz (sF (ju σ))):=by
   let⟨bb,t4,t5⟩:=jA t1;rw[Hv_in _ (dM _ (gamS n' hi M))];unfold erHF;rw[yL,Bj,hv_at _ bb ((I.at_ _ bb).1 t4)];exact ED rows_hp t5
  have:=hrepv.inj _ _ _ _ k hvi q2 t3 p1;exact q3 (by rw[<- this];exact gamS n' hi M);have hall:(Cu lr).all (λn=>UF nq n&&ZX B n)=J:=AV.all_and _ (Wv (by have:=wA rs lr D.lt hlr;rwa [hnq]at this)) (Wv (AV.allL_ix M lr hB5));show cC φ' (tot E φ' F) w' (Cu (AV.renL (sF g) lr)) v;rw[alj];exact rel_g _ _ (rel_r _ _ hall rv')
 have hrsg:dx h2 (l_ g rs)=Z (AV.renL (sF g) lr):=rn rows_hq rs lr hlr;refine ⟨⟨_,hOpT,λz hz=>?_,?_,λn hn=>?_,λn hn=>?_,λn hn=>?_⟩,rows2,inv2,M,nofun⟩;rw[aex hrsg]at hz;cases hz;rfl;funext n;unfold eD;split;rfl;rename_i hn;by_cases hg:∃nx,nx<nq/\ow n=g nx;have hB:¬ix n<=B:=λhk=>hn ((memW _).2 (.inl ⟨hg,hk⟩))
 have n1:∀H:ba,(∀y,erHF H n=Z y->ix n<=B)->erHF H n=U:=λH hH=>by
  cases hx:erHF H n with
  |none=>rfl
  |some y=>exact bi (hH y hx) hB
 rw[n1 h λy hy=>cR (hB3 n y hy).1 M,n1 h2 λy hy=>cR (hB4 n y hy).1 M];have hg2:=h2_ne (ow n) λnx hi e=>hg ⟨nx,hi,e⟩
 unfold erHF;rw[hg2,jU];split;rename_i hb;let⟨ty,p,T,xs,hx⟩:=hmr _ hb;rw[hx];cases hk:ix n with
 |zero=>exact bi ((memW _).2 (.inr (by rw[yP hk];exact ng.2 hb))) hn
 |succ k=>rfl
 cases hx:h.get (ow n) with
 |none=>rfl
 |some b=>exact (xF rows2 (λty r e=>hinv.G _ _ r (by rw[hx,e])) _ _).symm
 rw[bt];rcases bz.1 hn with hs|hs;let⟨⟨nx,hi,e⟩,_⟩:=(memS n).1 hs;rw[(sig _).2 ⟨nx,hi,e.symm⟩];rfl;obtain⟨nx,rfl,hi⟩:=pO.1 hs;rw[eH,hi];simp;rw[bt,bt];rcases bz.1 hn with hs|hs;rcases bz.1 hs with hs|hs;let⟨⟨nx,hi,e⟩,_⟩:=(memS n).1 hs;rw[(sig _).2 ⟨nx,hi,e.symm⟩];rfl;obtain⟨nx,rfl,hi⟩:=pO.1 hs;rw[eH,hi];simp;let⟨⟨t,ht,e⟩,_⟩:=(L8 n).1 hs;rw[as8.2 ⟨M,M⟩];simp;let⟨⟨t,ht,e⟩,_⟩:=(L8 n).1 hn;omega
def W3 {xss:Y (Y S.den)} (hj:fO a (l! xss)=J):xss[a.toNat]? =Z (BX xss a):=by
 let⟨_,_,h⟩:=vM hj;unfold BX
 grind
variable {c:η}
def anm (hj:fO a (l! c)=J):c[a.toNat]? =Z (QR c a):=by
 let⟨_,_,h⟩:=vM hj;unfold QR
 grind
def awh {xss:Y (Y S.den)} (q:h.get i=Z (.qf (.ir A S) m xss)) {j:Int} (hj:fO j (l! xss)=J) (ty:l! (BX xss j)≠0):erHF h (uY i (j.toNat+1))=Z ⟨A,.fz ((BX xss j).flatMap (bQ S))⟩:=by
 rw[qT,q];show tF j.toNat A S xss=_;unfold tF;rw[W3 hj];simp[aH,aj8]
 grind
def zM (a sz:Nat):∀(q:η) (k j:Nat),(mm a sz k q)[j]? =(q[j]?).map λl=>wY a (k+j) sz l.toNat
 |[],_,_|l::r,k,0=>by simp[mm]
 |l::r,k,j+1=>by
  simp[mm,List.getElem?_cons_succ,zM a sz r (k+1) j]
  grind
section ops
variable {R:Type} {P:Program} {b9:TypeId->aj Ty} {o:Oper} {e:iW} {h:ba} {nx:Nat} {K:KO R} {r:R} (hinv:kR h nx) (hi:tZ e h)
include hinv hi
def aBq (hc:cY P o.op=Z (.jz s)) (hk:CE b9 e h nx K (.jz s)=Z r):k_ P o b e h nx K r:=by
 simp[CE]at hk;split at hk;rename_i I;let⟨y,h1,h2⟩:=bD hi I;have A:=h2;simp[dg,erS,al]at h2;subst h2;exact k_.q (k:=0) hinv hc (λH _=>by simp[eE,h1]) (dk A) hk;cases hk
def aFt (I:cY P o.op=Z (.jb i s)) (hk:CE b9 e h nx K (.jb i s)=Z r):k_ P o b e h nx K r:=by
 simp[CE]at hk;split at hk;rename_i A;let⟨y,h1,h2⟩:=bD hi A;cases h2;exact k_.q (k:=0) hinv I (λH _=>by simp[eE,h1,erS,mw]) (dk rfl) hk;cases hk
def aBs (hc:cY P o.op=Z (.load i b s)) (hk:CE b9 e h nx K (.load i b s)=Z r):k_ P o af e h nx K r:=by
 obtain⟨H,hH⟩:=jW h;simp only[CE]at hk;split at hk;rename_i id j x sz off hv;obtain⟨y,h1,h2⟩:=bD hi hv;simp only[dg,erS,al]at h2;subst h2;split at hk;rename_i ty T a xss hb;split at hk;rename_i q;have q:=au q;subst q;obtain⟨hj,hk⟩:=c8 hk;obtain⟨hji,hk⟩:=c8 hk;split at hk;rename_i v hv2;obtain⟨z,p1,p2⟩:=als hji hv2;have hne:l! (BX (T:=T) xss j)≠0:=by have:=(vM hji).2.2;omega
 have hg:H.get (uY id (j.toNat+1))=Z ⟨ty,.fz ((BX (T:=T) xss j).flatMap (bQ T))⟩:=by rw[hH];exact awh hb hj hne
 exact⟨_,_,_,_,_,hk,iy.pure (k:=0) hinv hc hH (y0:=.f z) (rdl:=[uY id (j.toNat+1)]) (by simp only[eE,h1,Ax,hg,p2]) (dk p1) (λn I=>by
  simp only[aG]at I;subst I;rw[ou];exact b7.2 rfl) nofun⟩
 cases hk;cases hk;cases hk;rename_i id x j off hv;obtain⟨y,h1,h2⟩:=bD hi hv;cases h2;split at hk;rename_i hq;simp only[ar,dj]at hq;obtain⟨⟨q1,q2⟩,q3,q4⟩:=hq;have q1:=au q1;have q3:=au q3;have q4:=au q4;subst q1 q2 q3 q4;have hrd:∀n∈[nm id],aF (kZ id) (ow n)=J:=λn I=>by
  simp only[aG]at I;subst I;rw[eH];exact b7.2 rfl
 split at hk;rename_i ty z a A hb;have hk0:=c8 hk;clear hk;obtain⟨hj,hk⟩:=hk0;have hg:H.get (nm id)=Z ⟨ty,.mx (mm a z 0 A)⟩:=by
  rw[hH,ct,hb];rfl
 have q:(BC.mx (mm a z 0 A)).sub? (j.toNat*1+0) 1 af=Z (wY a j.toNat z (QR A j).toNat):=by
  simp only[BC.sub?,BC.get,I7,dR];have:=zM a z A 0 j.toNat;rw[bV]at this;refine this.trans ?_;exact eZ (jY λl:Int=>wY a j.toNat z l.toNat) (anm hj)
 exact⟨_,_,_,_,_,hk,iy.pure (k:=0) hinv hc hH (y0:=wY a j.toNat z (QR A j).toNat) (rdl:=[nm id]) (by simp only[eE,h1,Ax,hg,q]) (dk rfl) hrd nofun⟩;cases hk;cases hk;cases hk
def aFs {sz:Operand} (hc:cY P o.op=Z (.jf i s sz)) (hk:CE b9 e h nx K (.jf i s sz)=Z r):k_ P o b e h nx K r:=by
 simp only[CE]at hk;split at hk;rename_i id k j hv I;split at hk;rename_i p x n hr;let⟨A,hk⟩:=dO hk;simp only[ar]at A;have A:=au A.1;let⟨hj,hk⟩:=c8 hk;let⟨y,h1,h2⟩:=bD hi hv;let⟨y2,h3,h4⟩:=bD hi I;cases h4;let⟨j0,j1,j2⟩:=vM hj;have hne:¬((p&&n==0)=J):=cf;simp only[dg,hr,eM,av hne,al]at h2;subst h2;have hc1:(x==i&&cN 0 j&&hY j n)=J:=by
  simp[fO,ar]at hj;simp[A,hj.1,hj.2]
 exact k_.q (k:=0) hinv hc (λH _=>by simp[eE,h1,h3,iu,hc1,bC,dR]) (dk rfl) hk;cases hk;rename_i id j x n k i' hv I;let⟨A,hk⟩:=dO hk;have A:=au A;let⟨hj,hk⟩:=c8 hk;let⟨y,h1,h2⟩:=bD hi hv;let⟨y2,h3,h4⟩:=bD hi I;cases h4;let⟨j0,j1,j2⟩:=vM hj;have hne:¬((n==0)=J):=cf;simp only[dg,erS,wY,av hne,al]at h2;subst h2;have hc1:(x==i&&cN 0 i'&&hY i' n)=J:=by
  simp[fO,ar]at hj;simp[A,hj.1,hj.2]
 exact k_.q (k:=0) hinv hc (λH _=>by simp[eE,h1,h3,iu,hc1,bC,erS,dR]) (dk rfl) hk;cases hk
end ops
def Tb {ty:TypeId} {T:Ty} {xss:Y (Y T.den)} {xs:Y T.den} (A:i≠m):tF i ty T (xss.set m xs)=tF i ty T xss:=by
 unfold tF
 grind
def Yi {ty:TypeId} {T:Ty} {xss:Y (Y T.den)} {xs:Y T.den} (q:i<l! xss):tF i ty T (xss.set i xs)=aj8 ty T xs:=by
 unfold tF
 grind
def aph (h:dE i m=J):i<m:=aY h
def an1 {c:Nat} (h:i=m) (h2:c<m):c<i:=M
def l9 (a sz:Nat):∀(q:η) (k:Nat),l! (mm a sz k q)=l! q
 |[],_=>rfl
 |l::r,k=>by simp[mm,gQ,l9 a sz r]
def W1 {q:HF} (d:vF N q):∀n,iY N q ((repl [.slice U 0 0] n).map .f) (aA n .emp)
 |0=>trivial
 |n+1=>⟨Le.nilEmp.toH d,W1 d n⟩
section ops
variable {R:Type} {P:Program} {b9:TypeId->aj Ty} {o:Oper} {e:iW} {h:ba} {nx:Nat} {K:KO R} {r:R} (hinv:kR h nx) (hi:tZ e h)
include hinv hi
def avn {v:Operand} (hc:cY P o.op=Z (.store i s v)) (hk:CE b9 e h nx K (.store i s v)=Z r):k_ P o af e h nx K r:=by
 let⟨H,hH⟩:=jW h;simp only[CE]at hk;split at hk;rename_i id x j off rr hv hv2;let⟨yb,h1,h2⟩:=bD hi hv;let⟨A,h3,h4⟩:=bD hi hv2;cases h2;split at hk;rename_i hq;simp only[ar]at hq;let⟨q1,q2,q3⟩:=hq;have q1:=au q1;have q2:=au q2;have q3:=au q3;subst q1 q2 q3;split at hk;rename_i ty z a q ty2 p T xs hb hb2;let⟨hz,hk⟩:=dO hk;have hz:=au hz;subst hz;have I:=c8 hk;clear hk;let⟨hj,hk⟩:=I;have I:=c8 hk;clear hk;let⟨hp,hk⟩:=I;let⟨_,_,hjl⟩:=vM hj;have hyy:A=eM J rr T.size xs.length:=by
  simp only[dg,bS,hb2,aH,lj,al]at h4;rw[<- h4];cases p with
  |true=>rfl
  |false=>
   have hp:(!(aB (ah xs) 0))=J:=hp;have hp:ah xs≠0:=λe=>by rw[e]at hp;cases hp
   unfold eM;rw[av b8,av (by simpa using hp)]
 have hg:H.get (nm id)=Z ⟨ty,.mx (mm a T.size 0 q)⟩:=by rw[hH,ct,hb];rfl
 have hcs:A.cs=[A]:=by rw[hyy];unfold eM;split<;>rfl
 have hcell:A.isCell=J:=by rw[hyy];unfold eM;split<;>rfl
 have hput:(BC.mx (mm a T.size 0 q)).put (j.toNat*1+0) A.cs=Z (.mx (AI.splice (mm a T.size 0 q) j.toNat [A])):=by
  rw[hcs,I7,dR];unfold BC.put;rw[aD];rfl;simp only[ar,il,hcell,and_true];refine ⟨rfl,bj ?_⟩;have hl:(mm a T.size 0 q).length=ah (α:=Int) q:=l9 a T.size q 0;show j.toNat+1<=(mm a T.size 0 q).length;rw[hl];exact hjl
 have hlen:A.cs.length=1:=by rw[hcs];rfl
 have ha0:eE (.store 1 s v) (GZ e h) H 0=Z ⟨raw undef,[nm id],[nm id],[(nm id,⟨ty,.mx (AI.splice (mm a T.size 0 q) j.toNat [A])⟩)],[]⟩:=by
  simp only[eE,h1,h3,Kq,hg,hlen,dA,bC,hput]
 refine ⟨_,_,_,_,_,hk,iy.wrt (m:=0) (v:=.undef) (rd:=kZ id) hinv hc hH ha0 hb (eh.zero h) b8 rfl (λ_ _ he=>by cases he) (λH1 H2 d g b' hb'=>?_) (λH1 H2 y d g hy=>?_) (λn hn=>?_)⟩;cases hb';have hl:(mm a T.size 0 q).length=ah (α:=Int) q:=l9 a T.size q 0;rw[Z' (an1 hl hjl),hyy];exact iQ.refl d _;cases hy;exact l7.refl d _;simp only[aG]at hn;subst hn;rw[eH];exact b7.2 rfl;cases hk;cases hk;cases hk
def iy.app1 {s:T5} (hc:cY P o.op=Z s) {a:iN} (hH:a.get=erHF h) {rdl:ι} {b1:ot} (ha:eE s (GZ e h) a i=Z ⟨y,rdl,[nm nx,m],[(nm nx,z)],[nm nx]⟩) {h':ba} {rd wr:Nat}
 (hsame:∀n,n≠nm nx->n≠m->erHF h' n=erHF h n) (hne:nm nx≠m) (hdead:erHF h' m=U) (hnew:erHF h' (nm nx)=Z b1) (hblk:∀A q,vF A q->iQ A q z b1) (hval:∀A q y0,vF A q->dg h' u=Z y0->l7 A q y y0)
 (hrd:∀n∈rdl,aF rd (ow n)=J) (hwr:aF wr (ow m)=J) (hwn:aF wr nx=J) (hrows:cz h h') (hinv':kR h' (nx+1)):iy P o af e h nx u rd wr h' (nx+1):=by
 have _:=hinv;have _:=hi;refine iy.mk' hc hH ha [nm nx,m] (λk hi=>hi) (λn hn=>cf) (λk hi b' hb'=>?_) (λA q d hw1 _ hw2=>⟨λk hi b b' hb1 hb2=>?_,λy0 hy=>hval A q y0 d hy⟩) hrd (λn hn=>?_) (λn hn=>by simp[aG]at hn;subst hn;rw[eH];omega) hrows hinv' M;simp[bc,cA,fM]at hi;rcases hi with rfl|rfl;exact⟨_,by rw[aD b8];exact gz _ _⟩
 grind
 simp[bc,cA,fM]at hi;rcases hi with rfl|rfl;rw[hw1 _ b8,gz]at hb1
 grind
 grind
 simp[bc,cA,fM]at hn;rcases hn with rfl|rfl;rw[eH];exact hwn;exact hwr
def iy.app0 {s:T5} (hc:cY P o.op=Z s) {a:iN} (hH:a.get=erHF h) {rdl:ι} {b1:ot} (ha:eE s (GZ e h) a i=Z ⟨y,rdl,[nm nx],[(nm nx,z)],[nm nx]⟩) {h':ba} {wr:Nat}
 (hsame:∀n,n≠nm nx->erHF h' n=erHF h n) (hnew:erHF h' (nm nx)=Z b1) (hblk:∀A q,vF A q->iQ A q z b1) (hval:∀A q y0,vF A q->dg h' u=Z y0->l7 A q y y0)
 (hrd:∀n∈rdl,aF m (ow n)=J) (hwn:aF wr nx=J) (hrows:cz h h') (hinv':kR h' (nx+1)):iy P o af e h nx u m wr h' (nx+1):=by
 have _:=hinv;have _:=hi;refine iy.mk' hc hH ha [nm nx] (λk hi=>hi) (λn I=>cf) (λk hi b' hb'=>?_) (λA q d hw1 _ hw2=>⟨λk hi b b' hb1 hb2=>?_,λy0 hy=>hval A q y0 d hy⟩) hrd (λn I=>?_) (λn I=>by simp[aG]at I;subst I;rw[eH];omega) hrows hinv' M;simp[aG]at hi;subst hi;exact⟨_,by rw[aD b8];exact gz _ _⟩;simp[aG]at hi;subst hi;rw[hw1 _ b8,gz]at hb1
 grind
 simp[aG]at I;subst I;rw[eH];exact hwn
def aFu {x:Operand} (hc:cY P o.op=Z (.app A i m s x)) (hk:CE b9 e h nx K (.app A i m s x)=Z r):k_ P o af e h nx K r:=by
 let⟨H,hH⟩:=jW h;have hfr:=hinv.fresh;simp only[CE]at hk;split at hk;rename_i id j sb n y hv hv2;let⟨yb,h1,h2⟩:=bD hi hv;let⟨yy,h3,h4⟩:=bD hi hv2;simp only[dg,erS,al]at h2;split at hk;rename_i ty' T a xss hb;split at hk;rename_i hq;simp only[ar]at hq;let⟨q1,q2,q3⟩:=hq;have q1:=au q1;have q2:=au q2;have q3:=eq_of_beq q3;subst q1 q2 q3;have hk0:=c8 hk;clear hk;let⟨hj,hk⟩:=hk0;split at hk;rename_i q bytes hys;split at hk;cases hk;rename_i hmid;have hmid:aF bytes id=af:=by simpa using hmid
 have hk0:=c8 hk;clear hk;let⟨hqq,hk⟩:=hk0;simp only[ar]at hqq;let⟨hn,hroom⟩:=hqq;have hn:=au hn;let⟨rdl,h5,h6⟩:=MP hH hys h4;generalize hxs:BX (T:=T) xss j=xs at*
 have hidlt:=hinv.low id _ hb;have hne:nx≠id:=M;let⟨_,_,hjl⟩:=vM hj;generalize hh':(h.set id (Z (.qf (.ir A T) a (zN (T:=T) xss j [])))).set nx (Z (.H A J T (xs++q)))=h' at hk;have ty:∀sz,h'.get sz=if sz=nx then Z (.H A J T (xs++q)) else if sz=id then Z (.qf (.ir A T) a (zN (T:=T) xss j [])) else h.get sz:=λsz=>by rw[<- hh',PT.get_set,PT.get_set]
 have hr:cz h h':=λsz r hi=>by
  rw[bS]at hi ⊢;rw[ty];by_cases e1:sz=nx;rw[e1,hfr]at hi;cases hi;rw[av e1];by_cases e2:sz=id;rw[aD e2];rw[e2,hb]at hi;exact hi;rw[av e2];exact hi
 have hinv':kR h' (nx+1):=by
  refine ⟨λsz A l hil=>?_,λsz c hic=>?_⟩;rw[ty]at hil;split at hil;cases hil;split at hil;cases hil;exact io hr l (hinv.G sz _ l hil);rw[ty]at hic;split at hic;omega;split at hic;omega;have:=hinv.low sz c hic;omega
 have hsame:∀n,n≠nm nx->n≠uY id (j.toNat+1)->erHF h' n=erHF h n:=λn e1 e2=>by
  unfold erHF;rw[ty (ow n)];by_cases f1:ow n=nx;rw[aD f1,f1,hfr];simp only[aH,Option.bind_none];cases hx:ix n with
  |zero=>exact bi (by rw[yP hx,f1]) e1
  |succ k=>rfl
  rw[av f1];by_cases f2:ow n=id;rw[aD f2,f2,hb];simp only[aH];cases hx:ix n with
  |zero=>rfl
  |succ k=>
   refine Tb (T:=T) λe3=>?_
   exact e2 (by rw[<- my n,hx,f2,e3])
  rw[av f2];cases hx:h.get (ow n) with
  |none=>rfl
  |some b=>exact xF hr (λA l e=>hinv.G _ _ l (by rw[hx,e])) _ _
 have hdead:erHF h' (uY id (j.toNat+1))=U:=by
  rw[qT,ty,av M,aD rfl];exact Yi (T:=T) hjl
 have hnew:erHF h' (nm nx)=if (xs++q).length==0 then U else Z ⟨A,.fz ((xs++q).flatMap (bQ T))⟩:=by
  rw[ct,ty,aD rfl];rfl
 have hval:dg h' (.I nx)=Z (eM J nx T.size (xs++q).length):=by
  simp only[dg,bS,ty,bC,aH,lj]
 have w1:aF (kZ id|||kZ nx) nx=J:=by rw[bt,b7.2 (rfl:nx=nx)];simp
 have hrd:∀n∈rdl,aF (kZ id|||bytes) (ow n)=J:=λn hn=>by
  obtain⟨sz,rfl,hm⟩:=h6 n hn;rw[eH,bt,hm];simp
 refine ⟨_,_,_,_,_,hk,?_⟩;by_cases hz:n=0;subst hz;have hyb:yb= .emp:=by rw[<- h2];rfl
 subst hyb;have hnil:xs=[]:=gg.1 hn.symm;have hold:erHF h (uY id (j.toNat+1))=U:=by
  rw[qT,hb];show tF j.toNat A T xss=U;unfold tF;rw[W3 hj,hxs,hnil];rfl
 have hsame0:∀n,n≠nm nx->erHF h' n=erHF h n:=λn hn=>by
  by_cases e2:n=uY id (j.toNat+1);subst e2;rw[hdead,hold];exact hsame n hn e2
 rw[bV]at hroom;rw[hnil,lP]at hnew hval;have ha0:eE (.app A T.size m s x) (GZ e h) H (nm nx)=if ah q==0 then Z ⟨.emp,rdl,[],[],[]⟩ else Z ⟨.I (nm nx) T.size (ah q),rdl,[nm nx],[(nm nx,⟨A,qB ((q.flatMap (bQ T)).map .f)⟩)],[nm nx]⟩:=by
  simp only[eE,h1,h3,h5,JL,hroom,r8,bC]
 by_cases hl:ah q=0;rw[hl]at ha0;simp only[dA,bC]at ha0;have hnil2:q=[]:=gg.1 hl;refine iy.mk' hc hH ha0 [] b8 (λn _=>?_) b8 (λH1 H2 d _ _ _=>⟨b8,λy hy=>?_⟩) hrd b8 b8 hr hinv' M;by_cases e1:n=nm nx;subst e1;rw[hnew,hnil2,ct,hfr];rfl;exact hsame0 n e1;rw[hval,hnil2]at hy;cases hy;exact l7.refl d _;rw[av (by simpa using hl),xo]at ha0;rw[av (by simpa using hl)]at hnew;refine iy.app0 hinv hi hc hH ha0 hsame0 hnew (λH1 H2 d=>iQ.refl d _) (λH1 H2 y d hy=>?_) hrd w1 hr hinv';rw[hval]at hy;unfold eM at hy;rw[av (by simpa using hl)]at hy;cases hy;exact l7.refl d _;have hyb:yb= .I (uY id (j.toNat+1)) T.size n:=by rw[<- h2];unfold wY;rw[av (by simpa using hz)]
 subst hyb;have hg:H.get (uY id (j.toNat+1))=Z ⟨A,.fz (xs.flatMap (bQ T))⟩:=by rw[hH,<-hxs];exact awh hb hj (by rw[hxs];omega)
 have fl:=fe (bA T) xs;have tk:(xs.flatMap (bQ T)).take (n*T.size)=xs.flatMap (bQ T):=by rw[hn,<-fl,cO]
 have hmem:mem (uY id (j.toNat+1)) rdl=af:=by
  cases hx:mem (uY id (j.toNat+1)) rdl with
  |false=>rfl
  |true=>
   let⟨sz,e,hm⟩:=h6 _ (asd.1 hx);have:=(yh e).2;omega
 have ha0:eE (.app A T.size m s x) (GZ e h) H (nm nx)=Z ⟨.I (nm nx) T.size (n+q.length),uY id (j.toNat+1)::rdl,[nm nx,uY id (j.toNat+1)],[(nm nx,⟨A,.fz ((xs++q).flatMap (bQ T))⟩)],[nm nx]⟩:=by
  have hcnd:(T.size==T.size&& !(mem (uY id (j.toNat+1)) rdl)&&(BC.fz (xs.flatMap (bQ T))).isCells&&di (n*T.size) (BC.fz (xs.flatMap (bQ T))).len&&A==A&&bk (n+q.length) m)=J:=by
   have:di (n*T.size) (BC.fz (xs.flatMap (bQ T))).len=J:=bj (by simp only[BC.len];rw[hn];omega);rw[this,hmem,hroom];simp[BC.isCells]
  simp only[eE,h1,h3,h5,hg,hcnd,bC,BC.toMx,<-lh,tk,<-b_,xo,zD]
 have hl3:(xs++q).length=n+q.length:=by rw[aQ,hn]
 rw[av (by simp only[dz];omega)]at hnew;refine iy.app1 hinv hi hc hH ha0 hsame (λe=>by have:=(yh e).2;omega) hdead hnew (λH1 H2 d=>iQ.refl d _) (λH1 H2 y d hy=>?_) (λn' hn'=>?_) (by rw[ou,bt,b7.2 (rfl:id=id)];rfl) w1 hr hinv';rw[hval,hl3]at hy;unfold eM at hy;rw[av (by simp only[du,dz];omega)]at hy;cases hy;exact l7.refl d _;rcases bc.1 hn' with rfl|hn';rw[ou,bt,b7.2 (rfl:id=id)];rfl;exact hrd _ hn';cases hk;cases hk;cases hk;cases hk
def aBr {c:Operand} (hc:cY P o.op=Z (.zd A i m k s c)) (hk:CE b9 e h nx K (.zd A i m k s c)=Z r):k_ P o af e h nx K r:=by
 let⟨H,hH⟩:=jW h;have hfr:=hinv.fresh;simp only[CE]at hk;split at hk;rename_i q T z a k' b hty hv hv2;let⟨hq,hk⟩:=dO hk;simp only[ar]at hq;let⟨q1,q2⟩:=hq;have q1:=au q1;subst q1;have hz:k=[.slice U 0 0]:=by
  unfold an9 at q2
  grind
 subst hz;let⟨hcond,hk⟩:=c8 hk;let⟨y,h1,h2⟩:=bD hi hv;let⟨y2,h3,h4⟩:=bD hi hv2;simp[dg,al]at h2 h4;subst h2 h4;generalize hn:aL a=n at hk;have ha0:eE (.zd A 1 m [.slice U 0 0] s c) (GZ e h) H (nm nx)=Z ⟨.I (nm nx) 1 n,[],[nm nx],[(nm nx,⟨A,.fz (repl [.slice U 0 0] n)⟩)],[nm nx]⟩:=by
  simp[eE,h1,h3,iu,hcond,bC,hn]
 generalize hh':(h.set nx (Z (.qf (.rr A T.size) (nx+1) (aA n (0:Int))))).set (nx+1) (Z (.qf (.ir (stN q) T) 0 (aA n ([]:Y T.den))))=h' at hk;have hg:∀sz,h'.get sz=if sz=nx+1 then Z (.qf (.ir (stN q) T) 0 (aA n ([]:Y T.den))) else if sz=nx then Z (.qf (.rr A T.size) (nx+1) (aA n (0:Int))) else h.get sz:=λsz=>by
  rw[<- hh',PT.get_set,PT.get_set]
 have hfr2:h.get (nx+1)=U:=by
  cases ty:h.get (nx+1) with
  |none=>rfl
  |some b=>have:=hinv.low _ b ty;omega
 have hr:cz h h':=λsz r hi=>by
  rw[bS]at hi ⊢
  grind
 have hl:ah (α:=Int) (aA n (0:Int))=n:=cQ ..;have hall:∀(bytes z:Nat),mm (nx+1) T.size z (aA bytes (0:Int))=aA bytes .emp:=λbytes=>by
  induction bytes with
  |zero=>intro z;rfl
  |succ bytes ih=>intro z;rw[nV,nV];simp[mm,ih];rfl
 have hnew:erHF h' (nm nx)=Z ⟨A,.mx (aA n .emp)⟩:=by
  rw[ct,hg,av M,aD rfl];show Z (ot.mk A (.mx (mm (nx+1) T.size 0 (aA n (0:Int)))))=_;rw[hall]
 refine ⟨_,_,_,_,_,hk,iy.mk' hc hH ha0 [nm nx] (λsz hi=>hi) (λbytes hm=>?_) (λsz hi b' hb'=>?_) (λH1 H2 d hw1 _ hw2=>⟨λsz hi b b' hb1 hb2=>?_,λy hy=>?_⟩) b8 (λbytes hm=>?_) (λbytes hm=>?_) hr ⟨λsz A s hil=>?_,λsz c' hic=>?_⟩ M⟩;have hm:bytes≠nm nx:=by simpa using hm
 unfold erHF;rw[hg];by_cases f0:ow bytes=nx+1;rw[aD f0,f0,hfr2];cases ix bytes with
 |zero=>rfl
 |succ z=>
  show tF z (stN q) T (aA n ([]:Y T.den))=U;unfold tF;rw[kN];split<;>rfl
 rw[av f0];by_cases f1:ow bytes=nx;rw[aD f1,f1,hfr];cases ty:ix bytes with
 |zero=>exact bi (by rw[yP ty,f1]) hm
 |succ z=>rfl
 rw[av f1];cases ty:h.get (ow bytes) with
 |none=>rfl
 |some b=>exact xF hr (λA s e=>hinv.G _ _ s (by rw[ty,e])) _ _
 simp[aG]at hi;subst hi;exact⟨_,by rw[aD b8];exact gz _ _⟩;simp[aG]at hi;subst hi;rw[hw1 _ b8,gz]at hb1;rw[hw2 _ b8,hnew]at hb2;simp[al]at hb1 hb2;subst hb1 hb2;refine iQ.G rfl rfl ?_ λx ty=>?_
 simp[BC.toMx];exact W1 d n;simp only[BC.toMx]at ty;rw[BT]at ty;rw[ty.2];rfl;simp only[dg,bS,hg,bC]at hy;rw[av M]at hy;cases hy;rw[hl];exact l7.refl d _;simp[aG]at hm;subst hm;rw[eH];exact b7.2 rfl;simp[aG]at hm;subst hm;rw[eH];omega;rw[hg]at hil;split at hil;cases hil;split at hil;cases hil;exact io hr s (hinv.G sz _ s hil);rw[hg]at hic;split at hic;omega;split at hic;omega;have:=hinv.low sz c' hic;omega;cases hk
end ops
mutual
def FV.fl:FV->Bool
 |.raw _=>J
 |.agg l=>FV.flL l
 |.sl _ _=>af
 |.K _ _=>af
def FV.flL:Y FV->Bool
 |[]=>J
 |x::r=>x.fl&&FV.flL r
end
def agn:∀{l:Y FV},FV.flL l=J->∀x∈l,x.fl=J
 |[],_,x,q=>by cases q
 |y::l,h,x,q=>by
  simp[FV.flL,ar]at h;rcases bc.1 q with rfl|q;exact h.1;exact agn h.2 x q
def aob:∀{l:Y FV},(∀x∈l,x.fl=J)->FV.flL l=J
 |[],_=>rfl
 |y::l,h=>by simp[FV.flL,ar];exact⟨h y b8,aob λx q=>h x cf⟩
def oz.flat {O':Nat->Prop} {w':World} {x:FV} (h:oz O W x v):x.fl=J->oz O' w' x v:=by
 induction h with
 |raw v=>intro _;exact .raw v
 |agg cells vs hl hcl I q=>intro h;exact .agg cells vs hl hcl λj x v A hv=>q j x v A hv (agn h x (bh A))
 |_=>intro h;cases h
mutual
def AV.fl:AV->Bool
 |.f x=>x.fl
 |.emp=>J
 |.qj=>J
 |.agg l|.qd l=>AV.flL l
 |.K _ _=>af
 |.sl _ _ _=>af
 |.I _ _ _=>af
 |.mp _=>af
 |.qy _ l=>AV.flL l
 |.qn _ _=>af
def AV.flL:Y AV->Bool
 |[]=>J
 |x::r=>x.fl&&AV.flL r
end
def IZ:∀{l:Y AV},AV.flL l=J->∀x∈l,x.fl=J
 |[],_,x,q=>by cases q
 |y::l,h,x,q=>by
  simp[AV.flL,ar]at h;rcases bc.1 q with rfl|q;exact h.1;exact IZ h.2 x q
def ahj:∀{l:Y AV},(∀x∈l,x.fl=J)->AV.flL l=J
 |[],_=>rfl
 |y::l,h=>by simp[AV.flL,ar];exact⟨h y b8,ahj λx q=>h x cf⟩
def cC.flat {φ':PM} {O':Nat->Prop} {w':World} (h:cC T O W y v):y.fl=J->cC φ' O' w' y v:=by
 induction h with
 |f h=>intro hf;exact .f (h.flat hf)
 |emp=>intro _;exact .emp
 |qj=>intro _;exact .qj
 |agg hl hcl hr A=>intro hf;exact .agg hl hcl λj y v q hv=>A j y v q hv (IZ hf y (bh q))
 |qd hl hr A=>intro hf;exact .qd hl λj y v q hv=>A j y v q hv (IZ hf y (bh q))
 |qy hl hr A=>intro hf;exact .qy hl λj y v q hv=>A j y v q hv (IZ hf y (bh q))
 |_=>intro hf;cases hf
mutual
def ayw (γ:Nat->Nat):∀x:AV,x.fl=J->x.qz γ=x
 |.f x,_|.emp,_|.qj,_=>rfl
 |.agg l,h|.qd l,h=>by simp[AV.qz];rw[Ib γ l h]
 |.K _ _,h|.sl _ _ _,h|.qn _ _,h|.I _ _ _,h|.mp _,h=>by cases h
 |.qy _ l,h=>by simp[AV.qz];rw[Ib γ l h]
def Ib (γ:Nat->Nat):∀l:Y AV,AV.flL l=J->AV.renL γ l=l
 |[],_=>rfl
 |x::r,h=>by
  simp[AV.flL,ar]at h;rw[AV.renL,ayw γ x h.1,Ib γ r h.2]
end
def EG:∀(T:Ty),T.flat=J->∀x:T.den,∀y∈bQ T x,y.fl=J
 |.int _,_,x,y,q|.bool,_,x,y,q|.str,_,x,y,q=>by simp[bQ,aG]at q;subst q;rfl
 |.sl _,h,x,y,q=>by cases h
 |.st t,h,x,y,q=>EG t h x y q
 |.pr a b,h,x,y,q=>by
  simp[Ty.flat,ar]at h;simp[bQ,bz]at q;exact q.elim (EG a h.1 x.1 y) (EG b h.2 x.2 y)
 |.un,_,x,y,q=>by simp[bQ]at q
 |.ex,h,_,_,_|.sm,h,_,_,_=>by cases h
def atg (T:Ty) (h:T.flat=J) (x:T.den):(iu T x).fl=J:=by
 cases q:T.one with
 |true=>
  have:=EG T h x (iu T x) (by rw[(O5 T x q).1];simp);exact this
 |false=>rw[xG T x q];exact aob (EG T h x)
def WE (a b:Ty):(spr a b).flat=(a.flat&&b.flat):=by
 cases a<;>cases b<;>simp[spr,L2,Ty.flat]
def N2 :∀{a b:Y TV},s_ i (a++b)=J->s_ i a=J/\s_ i b=J
 |[],b,h=>⟨rfl,h⟩
 |x::r,b,h=>by
  simp[gj,s_,ar]at h ⊢;let⟨h1,h2⟩:=N2 h.2;exact⟨⟨h.1,h1⟩,h2⟩
def af4 {q:Y n!} (h:s_ 0 (q.map λp=>.K (g p.1) p.2)=J):q=[]:=by
 cases q with
 |nil=>rfl
 |cons p r=>simp[s_,MW]at h
mutual
def arw {g:Nat->Nat} {h:ba}:∀(p:PV) (x:p.ty.den) (cs:Y TV) (l:Y AV),p.ty.flat=J->C2 g p x=Z cs->s_ 0 cs=J->dx h cs=Z l->∀y∈l,y.fl=J
 |.d T,x,cs,l,hf,hp,_,hl,y,hy=>by
  have:=(nG h 40 T x cs hp).1;rw[hl]at this;cases this;obtain⟨q,hq,rfl⟩:=cF.1 hy;exact EG T hf x q hq
 |.K i q,x,cs,l,hf,hp,hlt,hl,y,hy|.qp i q z,x,cs,l,hf,hp,hlt,hl,y,hy=>by
  cases hp;simp[s_,MW]at hlt
 |.qy q ps,x,cs,l,hf,hp,hlt,hl,y,hy=>by
  cases hp;simp only[s_,MW,ar]at hlt;have:=af4 hlt.1;subst this;cases hl;rw[aG]at hy;subst hy;rfl
 |.nr i q,x,cs,l,hf,hp,hlt,hl,y,hy|.I i,x,cs,l,hf,hp,hlt,hl,y,hy|.mp i,x,cs,l,hf,hp,hlt,hl,y,hy=>by
  cases hp;simp[s_,MW]at hlt
 |.nil,x,cs,l,hf,hp,hlt,hl,y,hy=>by
  cases hp;cases hl;simp only[aG]at hy;subst hy;rfl
 |.emp,x,cs,l,hf,hp,hlt,hl,y,hy=>by
  simp only[C2,al]at hp;subst hp;simp only[dx,dg,al]at hl;subst hl;simp only[aG]at hy;subst hy;rfl
 |.agg ps,x,cs,l,hf,hp,hlt,hl,y,hy=>Nx ps x cs l hf hp hlt hl y hy
def Nx {g:Nat->Nat} {h:ba}:∀(ps:Y PV) (x:(PV.tyL ps).den) (cs:Y TV) (l:Y AV),(PV.tyL ps).flat=J->wZ g ps x=Z cs->s_ 0 cs=J->dx h cs=Z l->∀y∈l,y.fl=J
 |[],x,cs,l,hf,hp,hlt,hl,y,hy=>by
  cases hp;cases hl;cases hy
 |p::ps,x,cs,l,hf,hp,hlt,hl,y,hy=>by
  simp only[PV.tyL]at hf;rw[WE,ar]at hf;simp only[wZ]at hp;split at hp;rename_i a ha;split at hp;rename_i b hb;cases hp;obtain⟨a',b',rfl,e1,e2⟩:=Gu hl;have hsp:=N2 hlt;rcases bz.1 hy with hy|hy;exact arw p _ a a' hf.1 ha hsp.1 e1 y hy;exact Nx ps _ b b' hf.2 hb hsp.2 e2 y hy;cases hp;cases hp
end
def aru {p:PV} {x:p.ty.den} (hf:p.ty.flat=J) (hp:EQ g p x=Z u) (hlt:MW 0 u=J) (A:dg h u=Z y):y.fl=J:=by
 cases p with
 |d T=>
  cases hp;cases A;exact atg T hf x
 |agg ps=>
  simp only[EQ]at hp;split at hp;rename_i l hl;cases hp;simp only[dg]at A;split at A;rename_i l' hl';cases A;exact ahj (Nx ps _ l l' hf hl hlt hl');cases A;cases hp
 |qy q ps=>
  cases hp;have:=af4 hlt;subst this;cases A;rfl
 |nil|emp=>cases hp;cases A;rfl
 |_=>cases hp;simp[MW]at hlt
def W9 :∀(A:Y PV) (x:(PV.tyL A).den) (q:Y TV) (l:Y AV),(PV.tyL A).flat=J->sP g A x=Z q->s_ 0 q=J->dx h q=Z l->AV.flL l=J
 |[],x,q,l,hf,hp,hlt,I=>by
  cases hp;cases I;rfl
 |p::A,x,q,l,hf,hp,hlt,I=>by
  simp[PV.tyL]at hf;rw[WE,ar]at hf;simp[sP]at hp;split at hp;rename_i a ha;split at hp;rename_i b hb;cases hp;obtain⟨y,l2,rfl,e1,e2⟩:=c7 I;simp[s_,ar]at hlt;simp[AV.flL,ar];exact⟨aru hf.1 ha hlt.1 e1,W9 A _ b l2 hf.2 hb hlt.2 e2⟩;cases hp;cases hp
def arb:∀{l:Y AV},AV.flL l=J->(Cu l).fl=J
 |[],_=>rfl
 |[x],h=>by simp only[AV.flL,ar]at h;exact h.1
 |x::y::r,h=>h
def atz {e:iW} {c:cu} (hinv:kR h i) (sp:qV P f c) {x:c.pre.ty.den} {σ:PT Nat} {sm:Nat} (A:Nb 0 c.pre r h x m σ sm) {vs:Y TV} {hp:ba} {l1:Y (aj gi)} (I:pw c.pre x vs hp l1) {y:c.post.ty.den} (hm:c.m x=Z y) {rs:Y TV} {hq:ba} {l2:Y (aj gi)} (B:pw c.post y rs hq l2) (hp0:l! c.pre.bs=0) (hq0:l! c.post.bs=0) (hfl:(PV.tyL c.post.vs).flat=J)
 (g:Nat->Nat) (hla:dx h r=Z C)
 (hexec:∀(φ:PM) (E:Nat->Prop) (h':HF) (w:World) (a:Act),(∀t,.tmp t∈d.op.operands->∀y,gV e h t=Z y->cC φ (tot E φ h') w y (a.tmps.getD t undef))->rA φ E h' w->∃us:ξ,(execOp a.eval d).run P w= .ok (.enter f us.toArray) w/\km φ (tot E φ h') w C us):
 iy P d af e h i (WZ (l_ g rs)) m 0 h i:=by
 let⟨x1,m1,x2,m2,hx,hmm,gv,gb⟩:=A.ex;have hmr:eh h m:=by rw[hmm];exact (Ve _ _ _ _ gv).or (Vf _ _ _ _ gb)
 have pvg:sP (ju σ) c.pre.vs x1=Z (l_ (ju σ) vs):=by
  have h3:=wO (ju σ) c.pre.vs x1;have h4:=I.pv;rw[hx,wF]at h4;rw[h3,h4];rfl
 let⟨lr,hlr⟩:=gY hq rs B.ok;let⟨lp,hlp⟩:=gY hp vs I.ok;have hfl':AV.flL lr=J:=W9 c.post.vs _ rs lr hfl B.pv (by rw[<- hq0];exact B.lt) hlr;have hpe:∀nx,hp.get nx=U:=λnx=>by
  cases hb:hp.get nx with
  |none=>rfl
  |some b=>have:=I.lt_len hb;omega
 have hqe:∀nx,hq.get nx=U:=λnx=>by
  cases hb:hq.get nx with
  |none=>rfl
  |some b=>have:=B.lt_len hb;omega
 have rows_hp:∀nx l,e_ hp nx=Z l->e_ (eP m h) (ju σ nx)=Z l:=λnx l q=>by rw[bS,hpe]at q;cases q
 have rows_hq:∀nx l,e_ hq nx=Z l->e_ h (g nx)=Z l:=λnx l q=>by rw[bS,hqe]at q;cases q
 have rows_in:BK (eP m h) h:=λj l q=>by
  rw[bS]at q ⊢;rw[jU]at q;split at q;rename_i ht;let⟨ty,p,T,xs,hb⟩:=hmr j ht;rw[hb]at q ⊢;exact q;exact q
 have hOpT:im P d (gV e h) (erHF h) ⟨Cu lr,KJ m,[],λ_=>U,[]⟩:=by
  intro φ E h' w a hrd hwr hops hrep hN;let⟨us,hrun,hrel⟩:=hexec φ E h' w a hops hrep
  let Hv:HF:=λn=>if n∈KJ m then U else h' n
  have Hv_in:∀n,n∈KJ m->Hv n=U:=λn hn=>cf
  have Hv_out:∀n,n∉KJ m->Hv n=h' n:=λn hn=>cf
  have hd:vF h' Hv:=λn b hb=>cf
  have gvv:Jd h h' Hv m:=λnx hi=>⟨hrd _ (ng.2 hi),Hv_in _ (ng.2 hi)⟩
  have V:Qp h' Hv:=⟨hd,λn b b' hb hb'=>by
   by_cases hn:n∈KJ m
   grind
   rw[Hv_out n hn,hb]at hb';cases hb';exact iQ.refl hd b⟩
  have hrepv:=V.zf hrep;have hlpg:dx (eP m h) (l_ (ju σ) vs)=Z (AV.renL (sF (ju σ)) lp):=rn rows_hp vs lp hlp;have hrel1:km φ (tot E φ Hv) w (AV.renL (sF (ju σ)) lp) us:=
   km.le hrep (H7 hd rows_in c.pre.vs r x1 m1 _ C _ gv pvg hla hlpg (λnx hi=>gvv nx cf)) hrel
  let E':Nat->Prop:=λk=>E k\/∃n b,Hv n=Z b/\φ n=Z k
  have T:auj c.pre x vs hp (ju σ) φ E E' Hv w:=by
   refine rA.toId I (λa b ha=>M) hrepv (λn yb hn=>by have:=(I.erHF hn).1;omega) ?_ (λn k y hn=>by have:=(I.erHF hn).1;omega) ?_;rintro k (hE|⟨n,b,h1,h3⟩);exact .inl hE;exact .inr ⟨n,b,h1,h3⟩;rintro k (hE|⟨n,b,h1,h3⟩);exact hrepv.el k hE;let⟨k',q1,_,ob,q3,_⟩:=hrepv.at_ n b h1
   grind
  have hcalls:=sp.calls x y hm vs hp l1 rs hq l2 lp lr I B hlp hlr (φ1 (l! c.pre.bs) (ju σ) φ) E' w us T.zf (km.toId T.val (wA vs lp I.lt hlp) hrel1) (λn k hk=>(AO hk).1);unfold Ec;rw[hrun];refine Calls.mono hcalls ?_;rintro en w' ⟨v,φc',rfl,hext,hown,hnm,rp,rv'⟩;have hno:∀k,¬own (φ1 (l! c.pre.bs) (ju σ) φ) (erHF hp) k:=by
   rintro k ⟨n,b,h1,_⟩;let⟨bb,h3,_⟩:=jA h1;rw[hpe]at h3;cases h3
  have mv:iX φ φ h' h' w w':=⟨λ_ _ h=>h,hext.mono λk hk=>bi hk (hno k),λ_ _ h=>h⟩
  refine ⟨v,φ,rfl,?_,λ_ _ h=>.inl h,?_,rv'.flat (arb hfl')⟩;rw[uU];exact mv;rw[uU];refine hrep.moved mv λk hk=>?_
  let⟨n,b,h1,h3⟩:=hk;let⟨k',q1,_,ob,q3,_⟩:=hrep.at_ n b h1;rw[h3]at q1;cases q1;exact hext.jg k (c9.1 q3).1 (hno k)
 have hrsg:dx h (l_ g rs)=Z (AV.renL (sF g) lr):=rn rows_hq rs lr hlr;refine ⟨⟨_,hOpT,λz hz=>?_,uU _ _,λn hn=>?_,b8,b8⟩,λ_ _ h=>h,hinv,bg _,nofun⟩;rw[aex hrsg,Ib _ lr hfl']at hz;cases hz;rfl;obtain⟨nx,rfl,hi⟩:=pO.1 hn;rw[eH];exact hi
def cu.full (c:cu):cu:=⟨c.pre,⟨c.post.vs,c.pre.bs⟩,λx=>aw (c.m x) λy=>Z (mkp (PV.tyL c.post.vs) (PB.tyL c.pre.bs) (Vh _ _ y) (Us _ _ x))⟩
def aM (P:Program) (f:FuncId) (c:cu):Prop:=if di (l! c.pre.bs) (l! c.post.bs)=J then qV P f c else qV P f c.full
def qV.toC {c:cu} (h:qV P f c) (q:di (l! c.pre.bs) (l! c.post.bs)=J):aM P f c:=by
 unfold aM;rw[aD q];exact h
def aM.holds {c:cu} (h:aM P f c) (q:di (l! c.pre.bs) (l! c.post.bs)=J):qV P f c:=by
 unfold aM at h;rw[aD q]at h;exact h
def asc (a b:Ty) (z:(spr a b).den):mkp a b (Vh a b z) (Us a b z)=z:=by cases a<;>cases b<;>rfl
open Classical in
def roM {pre:Tm} {vs:Y PV} (m:pre.ty.den->aj (Tm.ty ⟨vs,pre.bs⟩).den) (x:pre.ty.den):aj (Tm.ty ⟨vs,[]⟩).den:=
 aw (m x) λy=>if Us (PV.tyL vs) (PB.tyL pre.bs) y=Us _ _ x then Z (mkp (PV.tyL vs) (PB.tyL []) (Vh (PV.tyL vs) (PB.tyL pre.bs) y) ()) else U
def aM.ro {P:Program} {f:FuncId} {pre:Tm} {vs:Y PV} {m:pre.ty.den->aj (Tm.ty ⟨vs,pre.bs⟩).den} {m':pre.ty.den->aj (Tm.ty ⟨vs,[]⟩).den} (h:qV P f ⟨pre,⟨vs,pre.bs⟩,m⟩) (hb:di (l! pre.bs) 0=af) (hs:∀x y,m' x=Z y->roM m x=Z y):aM P f ⟨pre,⟨vs,[]⟩,m'⟩:=by
 unfold aM;rw[av cf];refine ⟨h.qh,λx y hxy=>?_⟩;refine h.calls x y ?_;let⟨z,I,hzy⟩:=em hxy;have h1:=hs x z I;let⟨y0,hy0,h2⟩:=em h1;split at h2;rename_i heq;have h2:=gH h2;have hzy:=gH hzy;subst h2;have A:mkp (PV.tyL vs) (PB.tyL pre.bs) (Vh (PV.tyL vs) (PB.tyL pre.bs) y0) (Us (PV.tyL pre.vs) (PB.tyL pre.bs) x)=y:=(eZ (λq=>mkp (PV.tyL vs) (PB.tyL pre.bs) q (Us (PV.tyL pre.vs) (PB.tyL pre.bs) x)) (wF (PV.tyL vs) (PB.tyL []) _ ()).symm).trans hzy;rw[<- heq]at A;have:=(asc (PV.tyL vs) (PB.tyL pre.bs) y0).symm.trans A
 grind
 cases h2
def iy.drop {e:iW} {h':ba} {rd wr W wr':Nat} (t:iy P d af e h i u rd wr h' m) (hW:∀nx,aF W nx=J->(∀n,ow n=nx->erHF h' n=erHF h n)/\aF rd nx=J) (hw:∀nx,aF wr nx=J->aF W nx=J\/aF wr' nx=J):iy P d af e h i u rd wr' h' m:=by
 let⟨⟨f,h1,h2,h3,h4,h5,h6⟩,r,nx,g,st⟩:=t;have hup:∀b:HF,(∀n∈f.wr,b n=erHF h n)->eD b (f.wr.filter λn=> !(aF W (ow n))) f.nw=eD b f.wr f.nw:=λb hH=>by
  funext n;unfold eD;by_cases q:n∈f.wr;by_cases hb:aF W (ow n)=J;rw[av cf,aD q];have:=congrFun h3 n;unfold eD at this
  grind
  grind
  grind
 refine ⟨⟨⟨f.val,f.rd++(f.wr.filter λn=>aF W (ow n)),f.wr.filter λn=> !(aF W (ow n)),f.nw,f.N⟩,?_,h2,cf,λn q=>cf,λn q=>cf,h6⟩,r,nx,g,nofun⟩;intro φ E b w a hrd hwr hops hrep I;have k1:∀nx∈f.rd,b nx=erHF h nx:=λnx hi=>hrd nx (dM _ hi)
 have k2:∀nx∈f.wr,b nx=erHF h nx:=λnx hi=>cf
 have:=h1 φ E b w a k1 k2 hops hrep I
 grind
mutual
def an2 {n n':Nat} (hle:n<=n'):∀(v:TV),MW n v=J->MW n' v=J
 |.I id,h|.zh id _,h|.ql id _ _ _,h|.K id _,h|.qp id _ _,h|.mp id,h=>by simp[MW,QK]at h ⊢;omega
 |.agg l,h|.qd l,h|.qy _ l,h=>Aa hle l h
 |.f _ _,_|.zm _ _ _ _ _,_|.emp,_|.nil,_|.undef,_|.np,_|.qj,_|.qn _ _,_=>rfl
 |.sb s,h=>by simp[MW,QK]at h ⊢;omega
def Aa {n n':Nat} (hle:n<=n'):∀(l:Y TV),s_ n l=J->s_ n' l=J
 |[],_=>rfl
 |x::r,h=>by
  simp[s_,ar]at h ⊢;exact⟨an2 hle x h.1,Aa hle r h.2⟩
end
def S5 {g g':Nat->Nat} {h:ba}:∀(bs:Y PB) (i:Nat) (x:(PB.tyL bs).den) (m:Nat),Na bs=J->H9 g h i bs=Z (x,m)->∃l,uV g' bs x=Z l/\l! l=l! bs/\∀j,j<l! bs->∃ty p T xs,l[j]? =Z (Z (.H ty p T xs))/\h.get (g (i+j))=Z (.H ty p T xs)
 |[],i,x,m,_,q=>⟨[],rfl,rfl,λj hj=>by simp at hj⟩
 |.H ty p T::r,i,x,m,A,q=>by
  simp[H9]at q;split at q;rename_i x1 m1 h1;split at q;rename_i x2 m2 h2;obtain⟨rfl,rfl⟩:=q;let⟨l,q1,q2,q3⟩:=S5 (g:=g) (g':=g') (h:=h) r (i+1) x2 m2 A h2;simp only[Gp]at h1;split at h1;rename_i ty' p' S xs hb;let⟨hc,h1⟩:=dO h1;simp[ar,dz]at hc;split at h1;rename_i z I;let⟨es,ez⟩:=iV I;refine ⟨Z (.H ty p T x1)::l,?_,by simp[q2],λj hj=>cf⟩;simp[uV];rw[wF,yf,q1];rfl;cases h1;cases h1;cases q;cases q
 |.qg _ _::r,i,x,m,A,q|.G _ _::r,i,x,m,A,q|.mp _ _::r,i,x,m,A,q|.qm::r,i,x,m,A,q=>by cases A
def KI:∀{bs:Y PB},Na bs=J->F7 bs=J
 |[],_=>rfl
 |.H _ _ _::r,h=>KI (bs:=r) h
 |.qg _ _::r,h|.G _ _::r,h|.mp _ _::r,h|.qm::r,h=>by cases h
def KC {h2:ba} :∀(n:Nat),(∀i,i<n->h2.get (g i)=h.get (g i))->wX h h2 g n=J
 |0,_=>rfl
 |n+1,A=>by
  simp[wX,ar];refine ⟨?_,KC n λi hi=>A i M⟩;have:e_ h2 (g n)=e_ h (g n):=by rw[bS,bS,A n M]
  rw[this];cases e_ h (g n) with
  |none=>rfl
  |some q=>let⟨p,s,k⟩:=q;simp
def I3 (P:Program) (con:FuncId->aj cu):Prop:=∀f c,con f=Z c->aM P (f%65536) c
def WM (hf:f<65536):∀l:Y TV,ark f l%65536=f
 |[]=>ml hf
 |x::r=>by
  have q:=WM hf r;unfold ark;split;rename_i he;cases he;rw[Se];exact ml hf;rw[Se];exact ml hf;rw[Se];exact ml hf;rename_i he;cases he;exact q
variable {X:FuncId->aj cu}
def att (hcon:I3 P X) {c:cu} (h:az7 X f r=Z c):aM P f c:=by
 unfold az7 at h;split at h;rename_i hf;have hf:=aph hf;split at h;rename_i A q;cases h;have:=hcon _ _ q
 rwa [WM hf]at this
 have:=hcon _ _ h
 rwa [ml hf]at this
 cases h
def ah8 (hcon:I3 P X) {e:iW} {K:KO R} {l:R} (hinv:kR h i) (hk:ah9 X f r h i K=Z l) (hla:dx h r=Z C)
 (hexec:∀(φ:PM) (E:Nat->Prop) (h':HF) (w:World) (a:Act),AH P f->(∀t,.tmp t∈d.op.operands->∀y,gV e h t=Z y->cC φ (tot E φ h') w y (a.tmps.getD t undef))->rA φ E h' w->∃us:ξ,(execOp a.eval d).run P w= .ok (.enter f us.toArray) w/\km φ (tot E φ h') w C us):k_ P d af e h i K l:=by
 unfold ah9 at hk;split at hk;rename_i c hc;have spc:=att hcon hc;split at hk;rename_i x m σ sm hM;split at hk;rename_i q hq;let⟨vs,hp⟩:=q;let⟨l1,I⟩:=Ab hq;let⟨y,hy,hk⟩:=em hk;split at hk;rename_i q2 hq2;let⟨rs1,hq1⟩:=q2;let⟨l2,z⟩:=Ab hq2;split at hk;rename_i hcond;simp only[ar]at hcond;have hle:=aY hcond.1;have sp:=spc.holds hcond.1;simp only at hk;split at hk;rename_i rs hrs;have hrs':=hrs;rw[wO,z.pv]at hrs';simp only[cj,al]at hrs';split at hk;rename_i hb;simp only[ar]at hb;have hq0:=au hb.1.2;refine ⟨_,_,_,_,_,hk,?_⟩;rw[<- hrs'];exact atz hinv sp (zX hM) I hy z M hq0 hb.2 _ hla λφ E h' w a=>hexec φ E h' w a sp.qh
 split at hk;rename_i h2 hh2;let⟨hsr,hk⟩:=c8 hk;refine ⟨_,_,_,_,_,hk,?_⟩;rw[<- hrs'];unfold Sw at hh2;rw[zO,z.pb]at hh2;simp only[cj,al]at hh2;exact apa hinv sp (zX hM) I hcond.2 hy z hle (λnx hi=>by
  have:dE nx (l! c.pre.bs)=J:=bj hi;simp only[this,bC]) (λnx hi=>by
  have:dE nx (l! c.pre.bs)=af:=by
   cases hb:dE nx (l! c.pre.bs) with
   |false=>rfl
   |true=>have:=aY hb;omega
  simp only[this];rfl) hh2.symm hsr hla λφ E h' w a=>hexec φ E h' w a sp.qh
 cases hk;cases hk;rename_i hcond;let⟨hro,hk⟩:=dO hk;simp only[ar]at hro;have hq0:=au hro.1;have hng:=KI hro.2;have sp:qV P f c.full:=by
  unfold aM at spc
  rwa [av (λhb=>hcond (by rw[hb,hng];rfl))]at spc
 simp only at hk;split at hk;rename_i rs hrs;split at hk;rename_i h2 hh2;have hrs':=hrs;rw[wO,z.pv]at hrs';simp only[cj,al]at hrs';refine ⟨_,_,_,_,_,hk,?_⟩;rw[<- hrs'];have A:=zX hM;unfold Sw at hh2;rw[zO,I.pb]at hh2;simp only[cj,al]at hh2;have hqe:∀nx,hq1.get nx=U:=λnx=>by
  cases hb:hq1.get nx with
  |none=>rfl
  |some b=>have:=z.lt_len hb;omega
 have J':pw c.full.post (mkp (PV.tyL c.post.vs) (PB.tyL c.pre.bs) (Vh _ _ y) (Us _ _ x)) rs1 hp l1:=
  ⟨by show sP MY c.post.vs (Vh (PV.tyL c.post.vs) (PB.tyL c.pre.bs) _)=_;rw[wF];exact z.pv,by show uV MY c.pre.bs (Us (PV.tyL c.post.vs) (PB.tyL c.pre.bs) _)=_;rw[yf];exact I.pb,I.len,I.at_,io (λnx l hr=>by rw[bS,hqe]at hr;cases hr) _ z.ok,Aa M _ z.lt,I.G,I.qf,I.nox⟩
 let⟨x1,m1,x2,m2,hx,hmm,gv,gb⟩:=A.ex;let⟨r,q1,q2,q3⟩:=S5 (g':=MY) c.pre.bs 0 x2 m2 hro.2 gb;have hl1:l1=r:=by
  have:=I.pb;rw[hx,yf,q1]at this;cases this;rfl
 subst hl1;have hgi:∀nx,nx<l! c.pre.bs->(if dE nx (l! c.pre.bs) then ju σ nx else i+(nx-l! c.pre.bs))=ju σ nx:=λnx hi=>by simp_all
 have hsame:∀nx,nx<l! c.pre.bs->h2.get (ju σ nx)=h.get (ju σ nx):=λnx hi=>by
  let⟨ty,p,T,xs,w1,w2⟩:=q3 nx hi;rw[bV]at w2;have:=yn (λnx=>if dE nx (l! c.pre.bs) then ju σ nx else i+(nx-l! c.pre.bs)) (l1.map (jY (lJ (λnx=>if dE nx (l! c.pre.bs) then ju σ nx else i+(nx-l! c.pre.bs))))) 0 (eP m h) (λa b ha hb e=>by
   simp only[bL,q2]at ha hb;rw[bV,bV,hgi a ha,hgi b hb]at e;exact A.inj a b ha hb e) nx (Z (.H ty p T xs)) (by rw[bH,w1];rfl)
  rw[bV,hgi nx hi]at this;rw[<- hh2,this,w2]
 have t:=apa (o:=d) (e:=e) hinv sp A I hng (y:=mkp (PV.tyL c.post.vs) (PB.tyL c.pre.bs) (Vh _ _ y) (Us _ _ x)) (by show aw (c.m x) _=_;rw[hy];rfl) J' (bg _) (g:=λnx=>if dE nx (l! c.pre.bs) then ju σ nx else i+(nx-l! c.pre.bs)) hgi (λnx hi=>by
  have:dE nx (l! c.pre.bs)=af:=by
   cases hb:dE nx (l! c.pre.bs) with
   |false=>rfl
   |true=>have:=aY hb;have hi:l! c.pre.bs<=nx:=hi;omega
  simp only[this];rfl) hh2.symm (KC _ λnx hi=>by rw[hgi nx hi];exact hsame nx hi) hla λφ E h' w a=>hexec φ E h' w a sp.qh
 have t':iy P d af e h i (WZ (l_ (λnx=>if dE nx (l! c.pre.bs) then ju σ nx else i+(nx-l! c.pre.bs)) rs1)) (sm|||m) (sm|||m|||(((1<<<(l! c.pre.bs-l! c.pre.bs))-1)<<<i)) h2 (i+(l! c.pre.bs-l! c.pre.bs)):=t;rw[Nat.sub_self,dR]at t';refine t'.drop (W:=sm) (λnx hi=>?_) (λnx hi=>cf);refine ⟨?_,by rw[bt,hi];rfl⟩;obtain⟨k,hk,rfl⟩:=(A.sig nx).1 hi;let⟨ty,p,T,xs,_,w2⟩:=q3 k hk;rw[bV]at w2;intro n hn;unfold erHF;rw[hn,hsame k hk,w2];cases ix n<;>rfl;cases hk;cases hk;cases hk;cases hk;cases hk;cases hk
variable {V:TypeId->aj Ty}
def axn (hcon:I3 P X) {e:iW} {nx:SI} {K:KO R} {r:R} (hinv:kR h i) (hi:tZ e h) (I:qU P d.op=nx) (hk:fh X V nx e h i K=Z r):k_ P d nx.still e h i K r:=by
 have callOps:∀(c:Call),d.op= .call c->∀x,x∈c.operands->x∈d.op.operands:=λc A x q=>by rw[A];exact q
 cases nx with
 |call f args=>
  simp[fh]at hk;split at hk;rename_i l hl;have A:∃c:Call,d.op= .call c/\c.callee= .value (.func f)/\c.args.toList=args:=by
   unfold qU at I;split at I;rename_i nx hi;unfold DY at hi
   grind
   grind
  let⟨c,A,h1,h2⟩:=A;let⟨la,g1,g2⟩:=Hw hi hl;refine ah8 hcon hinv hk g2 λφ E h' w a hcb hops hrep=>?_
  have hp:Wo φ E h' w a (GZ e h) d:=λx y q hy=>tG hrep (by rw[EE];exact hops) q hy
  refine ⟨args.map a.eval,?_,OX hp args la (λx q=>callOps c A x (by simp[AJ,h1,<-h2]at q ⊢;exact .inr q)) g1⟩;unfold execOp;rw[A];have hm:c.args.map a.eval=(args.map a.eval).toArray:=cf;simp[resolve,h1,Act.eval,GW,invoke,hm,sO hcb];cases hk
 |jd x args=>
  simp[fh]at hk;split at hk;rename_i f cap l q hl;have A:∃c:Call,d.op= .call c/\c.callee= .value x/\c.args.toList=args:=by
   unfold qU at I;split at I;rename_i nx hi;unfold DY at hi
   grind
   grind
  let⟨c,A,h1,h2⟩:=A;let⟨la,g1,g2⟩:=Hw hi hl;let⟨yx,g3,g4⟩:=bD hi q;simp[dg]at g4;split at g4;rename_i lc hlc;cases g4;refine ah8 hcon hinv hk (pm g2 hlc) λφ E h' w a hcb hops hrep=>?_
  have hp:Wo φ E h' w a (GZ e h) d:=λx y q hy=>tG hrep (by rw[EE];exact hops) q hy
  have hxv:=hp x _ (callOps c A x (by simp[AJ,h1])) g3;have hlv:=OX hp args la (λx q=>callOps c A x (by simp[AJ,h1,<-h2]at q ⊢;exact .inr q)) g1;generalize hz:a.eval x=z at hxv;cases hxv with
  |@qy _ _ vs hvl hvr=>
   refine ⟨args.map a.eval++vs,?_,hlv.append (km.of hvl hvr)⟩;unfold execOp;rw[A];have hm:c.args.map a.eval=(args.map a.eval).toArray:=cf;simp[resolve,h1,hz,GW,invoke,hm,sO hcb]
  cases g4;cases hk
 |op s=>
  have I:s= .jq\/cY P d.op=Z s:=by
   unfold qU at I;split at I;rename_i nx hi;unfold DY at hi
   grind
   grind
  rcases I with rfl|I;simp[fh]at hk;exact K_op hinv hi I hk
def F_op {e:iW} {s:T5} {K:KO R} {r:R} (hinv:kR h i) (hi:tZ e h) (q:cY P d.op=Z s) (hk:CE V e h i K s=Z r):k_ P d s.still e h i K r:=by
 cases s with
 |load sz A x=>exact aBs hinv hi q hk
 |store sz x v=>exact avn hinv hi q hk
 |jz x=>exact aBq hinv hi q hk
 |jb off x=>exact aFt hinv hi q hk
 |jf sz x nx=>exact aFs hinv hi q hk
 |app ty sz bytes s x=>exact aFu hinv hi q hk
 |zd ty sz bytes z l c=>exact aBr hinv hi q hk
 |_=>exact bi hk (by simp[CE])
def aCr (hcon:I3 P X) {e:iW} {nx:SI} {K:KO R} {r:R} (hinv:kR h i) (hi:tZ e h) (q:qU P d.op=nx) (hk:opK X V nx e h i K=Z r):k_ P d nx.still e h i K r:=by
 unfold opK at hk;split at hk;split at hk;rename_i s _;have q:s= .jq\/cY P d.op=Z s:=by
  unfold qU at q;split at q;rename_i nx hi;unfold DY at hi
  grind
  grind
 rcases q with rfl|q;simp[CE]at hk;exact F_op hinv hi q hk;cases hk;exact axn hcon hinv hi q hk
def iB (am:Nat) (e e':iW):Prop:=∀k,aF am k=af->∀q,e'.get k=Z q->∃v,e.get k=Z v/\(xu v=J->q=v)
def iB.refl (am:Nat) (e:iW):iB am e e:=λ_ _ q h=>⟨q,h,λ_=>rfl⟩
def iB.trans {a b c:iW} (h1:iB i a b) (h2:iB i b c):iB i a c:=λk hk q A=>by
 let⟨v1,I,g2⟩:=h2 k hk q A;let⟨v,g3,g4⟩:=h1 k hk v1 I
 grind
def iB.mono {a b:iW} (h:iB i a b) (hm:∀k,aF i k=J->aF m k=J):iB m a b:=λk hk=>h k (by
 cases q:aF i k with
 |false=>rfl
 |true=>rw[hm k q]at hk;cases hk)
structure aun (P:Program) (ops:Array Oper) (rest:List Oper) (sl:List pt) (am:Nat) (s s':TS) (fs:List Wp) (l:List (Oper×BQ)):Prop where
 lay:ZK ow rest sl s.nx s'.nx fs l
 chain:Cq P ops l (gV s.e s.h) (erHF s.h) (gV s'.e s'.h) (erHF s'.h)
 qx:kR s'.h s'.nx
 qc:tZ s'.e s'.h
 keeps:iB am s.e s'.e
def arv {e:iW} {h':ba} (hi:tZ e h) (A:cz h h') (d:aj Nat) (I:dg h' u=Z y):Jq (gV e h) d y=gV (Jo e d u) h':=by
 funext t;have old:(e.get t).bind (dg h)=(e.get t).bind (dg h'):=by
  cases ht:e.get t with
  |none=>rfl
  |some x=>
   let⟨z,q⟩:=rE h x (hi t x ht);simp[aH,q,gP A x z q]
 cases d with
 |none=>simp[Jq,Jo,gV];exact old
 |some d=>
  simp[Jq,Jo,gV,PT.get_set,al]
  grind
def tZ.put {e:iW} {h':ba} (hi:tZ e h) (A:cz h h') (d:aj Nat) (I:SD h' u=J):tZ (Jo e d u) h':=λt x q=>by
 cases d with
 |none=>exact oW A x (hi t x q)
 |some d=>
  simp[Jo,PT.get_set]at q;split at q;cases q;exact I;exact oW A x (hi t x q)
def Ym {e:iW} (ht:e.get i=Z u):gV (e.set i (Z u)) h=gV e h:=by
 funext k;simp[gV,PT.get_set]
 grind
def tZ.set {e:iW} (hi:tZ e h) (ht:e.get i=Z u):tZ (e.set i (Z u)) h:=λk x q=>by
 rw[PT.get_set]at q;split at q;rename_i hk;cases q;exact hi _ _ ht;exact hi k x q
def Z4 {e:iW} {g:aj (Nat×Bool)} {K:Bool->iW->aj R} {r:R} (h:alb e g K=Z r):
 (g=U/\K J e=Z r)\/(∃t want b,g=Z (t,want)/\e.get t=Z (.f .bool b)/\K (b==want) (e.set t (Z (.f .bool b)))=Z r)\/∃t want,g=Z (t,want)/\e.get t=Z .undef/\K af e=Z r:=by
 unfold alb at h;split at h;exact .inl ⟨rfl,h⟩;rename_i t want;split at h;rename_i b q;refine .inr (.inl ⟨t,want,b,rfl,q,?_⟩);cases want with
 |_=>rcases pq h with ⟨rfl,h⟩|⟨rfl,h⟩<;>exact h
 grind
 cases h
variable {E:Array Oper}
def NI (hcon:I3 P X) (ham:∀(j:Nat) (o:Oper) (d:Nat),E[j]? =Z o->o.dst=Z d->aF i d=J):
 ∀(rest:Y Oper) (sl:Y pt) (s:TS) (I:Y Wp) (K:TS->Y Wp->aj R) (r:R),(∀o∈rest,∃j:Nat,E[j]? =Z o)->rz P E rest=Z sl->Q4 X V sl s I K=Z r->kR s.h s.nx->tZ s.e s.h->∃s' fs' l,K s' (I.reverse++fs')=Z r/\aun P E rest sl i s s' fs' l
 |[],sl,s,I,K,r,hin,hc,hk,hH,hE=>by
  cases hc;simp only[Q4]at hk;exact⟨s,[],[],by simpa using hk,.nil _,.nil _ _,hH,hE,iB.refl _ _⟩
 |o::rest,sl,s,I,K,r,hin,hc,hk,hH,hE=>by
  simp only[rz]at hc;split at hc;rename_i sl' hsl';have hso:∃g,sl=⟨o.dst,qU P o.op,g⟩::sl'/\((g=U/\o.guard=U)\/∃j want t,g=Z (t,want)/\o.guard=Z (j,want)/\(E[j]?).bind (·.dst)=Z t):=cf;obtain⟨g,rfl,hg⟩:=hso;simp only[Q4]at hk;have hdst:∀d,o.dst=Z d->aF i d=J:=λd hd=>by
   let⟨j,hj⟩:=hin o (bU ..);exact ham j o d hj hd
  have hgs:∀t want,g=Z (t,want)->aF i t=J:=λt want hgt=>cf
  have kput:∀(e:iW) (v:TV),iB i s.e e->iB i s.e (Jo e o.dst v):=λe v hke k hk v' A=>by
   cases hd:o.dst with
   |none=>rw[hd]at A;exact hke k hk v' A
   |some d=>
    rw[hd]at A;simp only[Jo,PT.get_set]at A;split at A;rename_i e2;rw[e2,hdst d hd]at hk;cases hk;exact hke k hk v' A
  have done:∀(f:BQ) (v:TV) (h':ba) (nx' rd wr:Nat) (e:iW),gV e s.h=gV s.e s.h->tZ e s.h->iB i s.e e->Ku P E o f (gV s.e s.h) (erHF s.h)->(∃y,dg h' v=Z y/\f.val=y)->eD (erHF s.h) f.wr f.nw=erHF h'->(∀n∈f.rd,aF rd (ow n)=J)->(∀n∈f.wr,aF wr (ow n)=J)->(∀n∈f.N,s.nx<=ow n/\ow n<nx')->cz s.h h'->kR h' nx'->s.nx<=nx'->((qU P o.op).still=J->f.rd=[]/\f.wr=[])->
   Q4 X V sl' ⟨Jo e o.dst v,h',nx'⟩ (⟨rd,wr⟩::I) K=Z r->∃s' fs' l,K s' (I.reverse++fs')=Z r/\aun P E (o::rest) (⟨o.dst,qU P o.op,g⟩::sl') i s s' fs' l:=by
   intro f v h' nx' rd wr e hee hiE hke hst hval hheap hrd hwr hN hrows hinv' hgr hstill hrun;let⟨y,hy1,hy2⟩:=hval;let⟨s',fs',l,hK,L⟩:=NI hcon ham rest sl' _ _ K r (λo' ho'=>hin o' (bx _ ho')) hsl' hrun hinv' (hiE.put hrows o.dst (J7 _ _ _ hy1));refine ⟨s',⟨rd,wr⟩::fs',(o,f)::l,by simpa using hK,L.lay.cons hgr hrd hwr hN hstill,.cons hst ?_,L.qx,L.qc,(kput e v hke).trans L.keeps⟩;have e1:Jq (gV s.e s.h) o.dst f.val=gV (Jo e o.dst v) h':=by rw[<- hee,hy2];exact arv hiE hrows o.dst hy1
   rw[e1,hheap];exact L.chain
  have runs:∀(e:iW),gV e s.h=gV s.e s.h->tZ e s.h->iB i s.e e->(∀f,im P o (gV s.e s.h) (erHF s.h) f->Ku P E o f (gV s.e s.h) (erHF s.h))->opK X V (qU P o.op) e s.h s.nx (λv rd wr h nx=>if SD h v then Q4 X V sl' ⟨Jo e o.dst v,h,nx⟩ (⟨rd,wr⟩::I) K else U)=Z r->∃s' fs' l,K s' (I.reverse++fs')=Z r/\aun P E (o::rest) (⟨o.dst,qU P o.op,g⟩::sl') i s s' fs' l:=by
   intro e hee hiE hke hstep hk;let⟨v,rd,wr,h',nx',hK,T⟩:=aCr hcon hH hiE rfl hk;simp only[]at hK;let⟨hok,hK⟩:=dO hK;let⟨f,t1,t2,t3,t4,t5,t6⟩:=T.ex;rw[hee]at t1;let⟨y,hy⟩:=rE h' v hok;refine done f v h' nx' rd wr e hee hiE hke (hstep f t1) ⟨y,hy,t2 y hy⟩ t3 t4 t5 t6 T.H T.inv T.jw (λhs=>?_) hK;let⟨r0,w0⟩:=T.st hs;subst r0 w0;constructor;cases hl:f.rd with
   |nil=>rfl
   |cons n q=>have:=t4 n (by rw[hl];simp);simp at this
   cases hl:f.wr with
   |nil=>rfl
   |cons n q=>have:=t5 n (by rw[hl];simp);simp at this
  have skips:∀(e:iW),gV e s.h=gV s.e s.h->tZ e s.h->iB i s.e e->Ku P E o m_ (gV s.e s.h) (erHF s.h)->Q4 X V sl' ⟨Jo e o.dst .undef,s.h,s.nx⟩ (⟨0,0⟩::I) K=Z r->∃s' fs' l,K s' (I.reverse++fs')=Z r/\aun P E (o::rest) (⟨o.dst,qU P o.op,g⟩::sl') i s s' fs' l:=by
   intro e hee hiE hke hstep hk;exact done m_ .undef s.h s.nx 0 0 e hee hiE hke hstep ⟨_,rfl,rfl⟩ (by funext am;simp[eD,m_]) (by simp[m_]) (by simp[m_]) (by simp[m_]) (cz.refl _) hH (bg _) (λ_=>⟨rfl,rfl⟩) hk
  rcases Z4 hk with ⟨h1,hk⟩|⟨t,want,b,h1,hb,hk⟩|⟨t,want,h1,hb,hk⟩;refine runs s.e rfl hE (iB.refl _ _) (λf hf=>?_) hk;rcases hg with ⟨_,hg⟩|⟨j,want,t,h2,_,_⟩;exact .run hg hf;rw[h1]at h2;cases h2;rcases hg with ⟨h2,_⟩|⟨j,want',t',h2,h3,h4⟩;rw[h1]at h2;cases h2;rw[h1]at h2;cases h2;have hgt:=hgs t want h1;have heb:gV s.e s.h t=Z (.f (.raw (.bool b))):=by simp only[gV,hb,aH,dg];rfl
  have hke:iB i s.e (s.e.set t (Z (.f .bool b))):=λk hk v' A=>by
   rw[PT.get_set]at A;split at A;rename_i ek;rw[ek,hgt]at hk;cases hk;exact⟨v',A,λ_=>rfl⟩
  cases hbw:(b==want) with
  |true=>
   rw[hbw]at hk;have:b=want:=by simpa using hbw
   subst this;exact runs _ (Ym hb) (hE.set hb) hke (λf hf=>.runG j t b h3 h4 heb hf) hk
  |false=>
   rw[hbw]at hk;refine skips _ (Ym hb) (hE.set hb) hke (.skip j t want h3 h4 (.bool b) heb ?_ rfl) hk;intro A;cases A;simp at hbw
  rcases hg with ⟨h2,_⟩|⟨j,want',t',h2,h3,h4⟩;rw[h1]at h2;cases h2;rw[h1]at h2;cases h2;exact skips _ rfl hE (iB.refl _ _) (.skip j t want h3 h4 undef (by simp only[gV,hb,aH,dg]) (by unfold undef;simp) rfl) hk;cases hc
structure mR (P:Program) (E:Nat->Prop) (nt np:Nat) (φ:PM) (s:TS) (a:Act) (w:World):Prop where
 zf:rA φ E (erHF s.h) w
 env:QF φ (tot E φ (erHF s.h)) w (gV s.e s.h) a
 dom:∀n k,φ n=Z k->ow n<s.nx
 low:np<=s.nx
 qx:kR s.h s.nx
 qc:tZ s.e s.h
 inert:∀d∈a.defers,ZQ P d
 size:a.tmps.size=nt
structure CW (np:Nat) (φ φ':PM) (H H':HF) (w w':World):Prop where
 ext:GP (own φ H) w w'
 qr:∀k,k<w.heap.size->own φ' H' k->own φ H k
 par:∀n,ow n<np->φ' n=φ n
def CW.refl (np:Nat) (φ:PM) (H:HF) (w:World):CW np φ φ H H w w:=⟨GP.refl _ _,λ_ _ h=>h,λ_ _=>rfl⟩
def CW.trans {φ' φ'':PM} {H' H'':HF} {w' w'':World} (a:CW i T φ' N H' W w') (b:CW i φ' φ'' H' H'' w' w''):CW i T φ'' N H'' W w'' where
 ext:=⟨b.ext.os.trans a.ext.os,b.ext.tape.trans a.ext.tape,b.ext.output.trans a.ext.output,cR a.ext.size b.ext.size,
  λk hk q=>(b.ext.jg k (db hk a.ext.size) (λh=>q (a.qr k hk h))).trans (a.ext.jg k hk q),
  λk hk=>(b.ext.jh k (db hk a.ext.size)).trans (a.ext.jh k hk)⟩
 qr:=λk hk h=>a.qr k hk (b.qr k (db hk a.ext.size) h)
 par:=λnp hi=>(b.par np hi).trans (a.par np hi)
variable {B:Exit->Act->World->Prop}
def am9 {s:TS} (hm:P.follows .mixedOrders=J) (hcon:I3 P X) (c:mR P O i m T s F W) {id:Nat} {ops:Array Oper} {sl:Y pt} {prs:Y n!} {am:Nat} (ham:∀(j:Nat) (o:Oper) (d:Nat),ops[j]? =Z o->o.dst=Z d->aF am d=J)
 (hd:(ops.toList.all λo=>match o.dst with|some d=>decide (d<i)|none=>J)=J) (hc:rz P ops ops.toList=Z sl) (hp:NC ops sl=Z prs) {K:TS->aj R} {r:R} (hr:Q4 X V sl s [] (λs' fs=>if Hq fs prs then K s' else U)=Z r) 
 (hQ:∀a' w' s' φ',K s'=Z r->mR P O i m φ' s' a' w'->CW m T φ' (erHF s.h) (erHF s'.h) W w'->iB am s.e s'.e->B .normal a' w'):(Code.region id ops b).wp P B F W:=by
 let⟨s',fs',l,I,L⟩:=NI hcon ham ops.toList sl s [] _ r (λo ho=>by
  let⟨j,hj⟩:=eC ho;exact⟨j,by simpa using hj⟩) hc hr c.qx c.qc
 have I:(if Hq fs' prs then K s' else U)=Z r:=I;by_cases hok:Hq fs' prs=J;rw[aD hok]at I;refine KE (φ0:=T) (E:=O) hm L.lay.jt L.chain (amp L.lay hp hok) ?_ ?_ c.zf c.env ?_;intro n A;let⟨p,q,A⟩:=oP.1 A;let⟨j,hj⟩:=eC q;have:=L.lay.names j p.1 p.2 hj n A;cases hx:T n with
 |none=>rfl
 |some k=>have:=c.dom n k hx;omega
 intro j o ho d hd';have:=eS.1 hd o cf;rw[hd']at this;rw[c.size];simpa using this;rintro a' w' ⟨φ',m',d',r',en',df',sz'⟩;have hnm:∀n k,φ' n=Z k->T n=Z k\/(s.nx<=ow n/\ow n<s'.nx):=λn k hik=>by
  rcases d' n k hik with h|h;exact .inl h;let⟨p,q,A⟩:=oP.1 h;let⟨j,hj⟩:=eC q;exact .inr (L.lay.names j p.1 p.2 hj n A)
 have hg:=L.lay.jw;have hlow:=c.low;refine hQ a' w' s' φ' I ⟨r',en',λn k hik=>?_,M,L.qx,L.qc,by rw[df'];exact c.inert,by rw[sz'];exact c.size⟩ ⟨m'.ext,m'.qr,λnt hi=>?_⟩ L.keeps;rcases hnm n k hik with h|h;have:=c.dom n k h;omega;exact h.2;cases hx:T nt with
 |some k=>exact m'.sub _ _ hx
 |none=>
  cases hy:φ' nt with
  |none=>rfl
  |some k=>grind
 grind
section ren
variable {P:Program} {E:Nat->Prop} {nt np:Nat}
def aey {s:TS} (c:mR P E nt np T s F W) (src:Nat->Nat) (hsrc:∀n,ow n≠s.nx->src n=n) (hr:cz s.h h) (hinv:kR h (s.nx+1))
 (I:∀n b',erHF h n=Z b'->∃b,erHF s.h (src n)=Z b/\∀(φ':PM) (O':Nat->Prop),(∀n,φ' n=T (src n))->(∀x v,cC T (tot E T (erHF s.h)) W x v->cC φ' O' W x v)->∀o,kn T (tot E T (erHF s.h)) W b o->kn φ' O' W b' o)
 (inj:∀n m b b',erHF h n=Z b->erHF h m=Z b'->src n=src m->n=m):∃φ',mR P E nt np φ' ⟨s.e,h,s.nx+1⟩ F W/\CW np T φ' (erHF s.h) (erHF h) W W:=by
 have sub:∀n k,T n=Z k->T (src n)=Z k:=λn k hk=>by
  have:=c.dom n k hk
  grind
 have own_:∀k,own (λn=>T (src n)) (erHF h) k->own T (erHF s.h) k:=by
  rintro k ⟨i,b,h1,h2⟩;let⟨b0,h3,_⟩:=I i b h1;exact⟨src i,b0,h3,h2⟩
 have tot_:∀k,tot E (λn=>T (src n)) (erHF h) k->tot E T (erHF s.h) k:=λk hk=>hk.imp id (own_ k)
 have keep:∀x v,cC T (tot E T (erHF s.h)) W x v->cC (λn=>T (src n)) (tot E (λn=>T (src n)) (erHF h)) W x v:=λx v h'=>h'.ext sub (GP.refl _ W) λk _ hk=>tot_ k hk
 refine ⟨λn=>T (src n),⟨⟨λi j b b' k h1 h2 h3 h4=>?_,λn b' hb=>?_,c.zf.el,λg cells hg=>(c.zf.gl g cells hg).ext (GP.refl _ W) λk _ hk=>tot_ k hk⟩,λt x A=>?_,λn k hk=>?_,gX c.low,hinv,λt x A=>oW hr x (c.qc t x A),c.inert,c.size⟩,⟨GP.refl _ _,λk _ hk=>own_ k hk,λn hn=>?_⟩⟩;let⟨b0,q1,_⟩:=I i b h1;let⟨b1,q2,_⟩:=I j b' h2;exact inj i j b b' h1 h2 (c.zf.inj _ _ b0 b1 k q1 q2 h3 h4);let⟨b,q1,q2⟩:=I n b' hb;let⟨k,p1,p2,o,p3,p4⟩:=c.zf.at_ _ b q1;exact⟨k,p1,p2,o,p3,q2 _ _ (λ_=>rfl) keep o p4⟩;simp[gV]at A;cases he:s.e.get t with
 |none=>rw[he]at A;cases A
 |some q=>
  rw[he]at A;let⟨z,hz⟩:=rE s.h q (c.qc t q he);simp[aH,gP hr q z hz,al]at A;subst A;exact keep _ _ (c.env t _ (by simp[gV,he,aH,hz]))
 have hk:T (src n)=Z k:=hk;by_cases e:ow n=s.nx
 grind
 rw[hsrc n e]at hk;have:=c.dom n k hk
 grind
 have:=c.low
 grind
def Xj {φ':PM} {O':Nat->Prop} {ty:Y AV} {o:Obj} (hlen:l! ty=l! C) (hl:∀(j:Nat) q,ty[j]? =Z q->q.isCell=J/\∃x,C[j]? =Z x/\∀v,cC T O W x v->cC φ' O' W q v) (h:kn T O W ⟨A,.mx C⟩ o):kn φ' O' W ⟨A,.mx ty⟩ o:=by
 let⟨arr,h1,h2,h3⟩:=h;refine ⟨arr,h1,by simp[BC.len]at h2 ⊢;omega,λj q I=>?_⟩;let⟨p1,x,p2,p3⟩:=hl j q I;let⟨_,v,p4,p5⟩:=h3 j x p2;exact⟨p1,v,p4,p3 v p5⟩
def Uz {φ':PM} {O':Nat->Prop} {q sz:Nat} (h:φ' q=T i) (A:cC T O W (.I i sz m) v):cC φ' O' W (.I q sz m) v:=by
 cases A with
 |I hq h1 h2 h3=>exact .I (h.trans hq) h1 h2 h3
def ZG (φ:PM) (O:Nat->Prop) (w:World) (src:Nat->Nat) (b b':ot):Prop:=∀(φ':PM) (O':Nat->Prop),(∀n,φ' n=φ (src n))->(∀x v,cC φ O w x v->cC φ' O' w x v)->∀o,kn φ O w b o->kn φ' O' w b' o
def ZG.refl (b:ot):ZG T O W g b b:=λ_ _ _ keep _ h=>h.mono keep
def ac3 {n:Nat} {ty:TypeId} {T:Ty} {xss:Y (Y T.den)} {xs:Y T.den} (h:l! xss<=i):tF i ty T (xss.set n xs)=U:=by
 unfold tF
 grind
def Ji (nx a r j n:Nat):Nat:=if ow n=nx then (match ix n with
 |0=>n
 |k+1=>if k=j then nm r else uY a (k+1)) else n
def zK (nx a r j k:Nat):Ji nx a r j (uY nx (k+1))=if k=j then nm r else uY a (k+1):=by
 unfold Ji;rw[ou,yS,aD rfl]
def axs {s:TS} (ls:mR P E nt np T s F W) {r n:Nat} {kk:ν} {z:Nat} (ho:s.h.get i=Z (.zj (.rr A z) m c kk (Z (r,J,n)))) {s':TS} (h:axt s i m r n kk.1 A z c=Z s'):s'.e=s.e/\∃φ',mR P E nt np φ' s' F W/\CW np T φ' (erHF s.h) (erHF s'.h) W W:=by
 unfold axt at h;split at h;rename_i ty2 φ a0 xss ty3 p S xs ha hrr;split at h;rename_i xs' hxs;let⟨hty,h⟩:=dO h;have hty:=eq_of_beq hty;subst hty;cases h;refine ⟨rfl,?_⟩;let⟨ee,exs⟩:=iV hxs;cases ee;have exs:xs'=xs:=exs;subst exs;have hfr:=ls.qx.fresh;have lo:=ls.qx.low i _ ho;have la:=ls.qx.low m _ ha;have lr:=ls.qx.low r _ hrr;have n1:i≠m:=λe=>by rw[e,ha]at ho;cases ho
 have n2:i≠r:=λe=>by rw[e,hrr]at ho;cases ho
 have n3:m≠r:=λe=>by rw[e,hrr]at ha;cases ha
 generalize hjj:kk.1.toNat=j;generalize hh':(((s.h.set i (Z (.qf (.rr A z) s.nx (Eg (α:=Int) c j (aZ n))))).set m (Z (.qw J 0 0))).set r (Z (.qw p φ.size (ah xs')))).set s.nx (Z (.qf (.ir ty3 φ) 0 (zN (T:=φ) xss kk.1 xs')))=h';have hg:∀o,h'.get o=if o=s.nx then Z (.qf (.ir ty3 φ) 0 (zN (T:=φ) xss kk.1 xs')) else if o=r then Z (.qw p φ.size (ah xs')) else if o=m then Z (.qw J 0 0) else if o=i then Z (.qf (.rr A z) s.nx (Eg (α:=Int) c j (aZ n))) else s.h.get o:=λo=>by
  rw[<- hh',PT.get_set,PT.get_set,PT.get_set,PT.get_set]
 have hdead:∀n,ow n=r\/ow n=m->erHF h' n=U:=λn hn=>by
  unfold erHF;rcases hn with e|e;rw[hg,av M,aD e];simp only[aH];cases ix n<;>rfl;rw[hg,av M,av M,aD e];simp only[aH];cases ix n<;>rfl
 have hr:cz s.h h':=λo q hi=>by
  rw[bS]at hi ⊢;rw[hg];by_cases f0:o=s.nx;rw[f0,hfr]at hi;cases hi;rw[av f0];by_cases f1:o=r;rw[aD f1];rw[f1,hrr]at hi;exact hi;rw[av f1];by_cases f2:o=m;rw[f2,ha]at hi;cases hi;rw[av f2];by_cases f3:o=i;rw[aD f3];rw[f3,ho]at hi;simp only[aH,lj,DA,c_]at hi ⊢;exact hi;rw[av f3];exact hi
 have hinv:kR h' (s.nx+1):=by
  refine ⟨λo A l hil=>?_,λo c' hic=>?_⟩;rw[hg]at hil;split at hil;cases hil;split at hil;cases hil;split at hil;cases hil;split at hil;cases hil;exact io hr l (ls.qx.G o _ l hil);rw[hg]at hic;split at hic;omega;split at hic;omega;split at hic;omega;split at hic;omega;have:=ls.qx.low o c' hic;omega
 have hmN:∀k,erHF h' (uY s.nx (k+1))=tF k ty3 φ (Eg xss j xs'):=λk=>by
  rw[qT,hg,aD rfl,<-hjj];rfl
 have hmO:∀k,erHF s.h (uY m (k+1))=tF k ty3 φ xss:=λk=>by rw[qT,ha];rfl
 have hn0:erHF h' (nm s.nx)=U:=by rw[ct,hg,aD rfl];rfl
 refine aey ls (Ji s.nx m r j) (λn hn=>by unfold Ji;rw[av hn]) hr hinv ?_ ?_;intro q b' ty;by_cases f0:ow q=s.nx;cases hix:ix q with
 |zero=>rw[yP hix,f0,hn0]at ty;cases ty
 |succ k=>
  have en:q=uY s.nx (k+1):=by rw[<- f0,<-hix,my]
  subst en;rw[hmN]at ty;rw[zK];by_cases hk:k=j;rw[aD hk];subst hk;refine ⟨b',?_,λφ' O' hφ keep oo hoo=>hoo.mono keep⟩;rw[ct,hrr];have hl:k<ah (α:=Y φ.den) xss:=by
   rcases co k (ah (α:=Y φ.den) xss) with h1|h1;exact h1;have ty:=(ac3 (ty:=ty3) (T:=φ) (xss:=xss) (xs:=xs') (n:=k) h1).symm.trans ty;cases ty
  have ty:=(Yi (ty:=ty3) (T:=φ) (xss:=xss) (xs:=xs') hl).symm.trans ty;unfold aj8 at ty;split at ty;cases ty;rename_i hz;simp only[aH,mT];rw[av (by rw[ar];exact λe=>hz e.2)];exact ty;rw[av hk,hmO];exact⟨b',(Tb (ty:=ty3) (T:=φ) (xss:=xss) (xs:=xs') hk).symm.trans ty,λφ' O' hφ keep oo hoo=>hoo.mono keep⟩
 have hs:Ji s.nx m r j q=q:=by unfold Ji;rw[av f0]
 rw[hs];by_cases f1:ow q=r\/ow q=m;rw[hdead q f1]at ty;cases ty;have f1a:ow q≠r:=λe=>f1 (.inl e)
 have f1b:ow q≠m:=λe=>f1 (.inr e)
 by_cases f2:ow q=i;cases hix:ix q with
 |succ k=>
  unfold erHF at ty;rw[hg,av f0,av f1a,av f1b,aD f2,hix]at ty;cases ty
 |zero=>
  have en:q=nm i:=by rw[<- f2];exact yP hix
  subst en;rw[eH]at f1a f1b;rw[ct,hg,av M,av f1a,av f1b,aD rfl]at ty;have ty:Z (ot.mk A (.mx (mm s.nx z 0 (Eg (α:=Int) c j (aZ n)))))=Z b':=ty;cases ty;rw[ct,ho];refine ⟨⟨A,.mx ((mm m z 0 c).set kk.1.toNat (eM J r z n))⟩,rfl,λφ' O' hφ keep oo hoo=>?_⟩;rw[hjj]at hoo;have cl:∀(F k l:Nat),(wY F k z l).isCell=J:=λF k l=>by unfold wY;split<;>rfl
  refine Xj (by rw[c_,l9,l9,c_]) (λo x' I=>?_) hoo;have I:=I.symm.trans (zM s.nx z (Eg (α:=Int) c j (aZ n)) 0 o);rw[bV,gy]at I;by_cases hij:j=o;subst hij;rw[aD rfl]at I;by_cases hl:j<ah (α:=Int) c;rw[aD hl]at I;simp only[cj,al]at I;subst I;refine ⟨cl _ _ _,_,by rw[gy,aD rfl,aD (by rw[l9];exact hl)],λv hv=>?_⟩;have hn2:(aZ n).toNat=n:=rfl;rw[hn2];unfold eM at hv;unfold wY;by_cases hz:n=0;rw[aD (by simpa using hz)]at hv ⊢;exact keep _ _ hv;rw[av (by simpa using hz)]at hv ⊢;exact Uz (by rw[hφ,zK,aD rfl]) hv;rw[av hl]at I;cases I;rw[av hij]at I;cases hli:(c:η)[o]? with
  |none=>
   have I:Z x'=jY _ ((c:η)[o]?):=I;rw[hli]at I;cases I
  |some l=>
   have I:Z x'=jY _ ((c:η)[o]?):=I;rw[hli]at I;simp only[cj,al]at I;subst I;refine ⟨cl _ _ _,wY m o z l.toNat,?_,λv hv=>?_⟩;rw[gy,av hij];have:=zM m z c 0 o;rw[bV]at this;refine this.trans ?_;show jY _ ((c:η)[o]?)=_;rw[hli];rfl;unfold wY at hv ⊢;by_cases hz:l.toNat=0;rw[aD (by simpa using hz)]at hv ⊢;exact keep _ _ hv;rw[av (by simpa using hz)]at hv ⊢;exact Uz (by rw[hφ,zK,av (λe=>hij e.symm)]) hv
 have hb2:(s.h.get (ow q)).bind (Te h' (ow q) (ix q))=Z b':=by
  unfold erHF at ty;rw[hg,av f0,av f1a,av f1b,av f2]at ty;exact ty
 cases hx:s.h.get (ow q) with
 |none=>rw[hx]at hb2;cases hb2
 |some B=>
  rw[hx]at hb2;simp only[aH]at hb2;rw[xF hr (λA l e=>ls.qx.G _ _ l (by rw[hx,e]))]at hb2;exact⟨b',by unfold erHF;rw[hx];exact hb2,λφ' O' hφ keep oo hoo=>hoo.mono keep⟩
 intro q ai b b' hn hm he;have key:∀n b,erHF h' n=Z b->ow n=s.nx->∃k,n=uY s.nx (k+1):=λn b hn f0=>by
  cases hix:ix n with
  |zero=>rw[yP hix,f0,hn0]at hn;cases hn
  |succ k=>exact⟨k,by rw[<- f0,<-hix,my]⟩
 have dS:∀k,erHF h' (Ji s.nx m r j (uY s.nx (k+1)))=U:=λk=>by
  refine hdead _ ?_;rw[zK];split;rw[eH];exact .inl rfl;rw[ou];exact .inr rfl
 by_cases f0:ow q=s.nx;obtain⟨k,rfl⟩:=key q b hn f0;by_cases f1:ow ai=s.nx;obtain⟨k2,rfl⟩:=key ai b' hm f1;rw[zK,zK]at he;have:k=k2:=by
  split at he<;>split at he;omega;have:=(yh he).2;omega;have:=(yh he).2;omega;have:=(yh he).2;omega
 rw[this];rw[show Ji s.nx m r j ai=ai from by unfold Ji;rw[av f1]]at he;rw[<- he,dS k]at hm;cases hm;rw[show Ji s.nx m r j q=q from by unfold Ji;rw[av f0]]at he;by_cases f1:ow ai=s.nx;obtain⟨k2,rfl⟩:=key ai b' hm f1;rw[he,dS k2]at hn;cases hn;rw[show Ji s.nx m r j ai=ai from by unfold Ji;rw[av f1]]at he;exact he;cases h;cases h
def Hg (nx a n:Nat):Nat:=if ow n=nx then uY a (ix n) else n
def WD (nx a k:Nat):Hg nx a (uY nx k)=uY a k:=by
 unfold Hg;rw[ou,yS,aD rfl]
def am5 (a n:Nat) (B:gi):lj (rnG a n B)=lj B:=by
 cases B with
 |qf F b x=>
  simp[rnG];split<;>rfl
 |_=>rfl
def Ob {F:xL} (h:ana F=J):∃ty T,F= .ir ty T:=by
 cases F with
 |ir ty T=>exact⟨ty,T,rfl⟩
 |_=>cases h
def aj9 {k:Nat} {F:xL} {x:F.ty.den} (q:Mn i k F x=Z z):∃b,Mn m k F x=Z b/\ZG T O W (Hg i m) b z:=by
 cases F with
 |ir ty φ=>exact⟨z,q,ZG.refl _⟩
 |_=>cases q
def arm {b':Nat} {ty:η} (hb:Rv i (.rr A b') ty=Z z):∃b,Rv m (.rr A b') ty=Z b/\ZG T O W (Hg i m) b z:=by
 have hb:Z (ot.mk A (.mx (mm i b' 0 ty)))=Z z:=hb;cases hb;refine ⟨_,rfl,λφ' O' hφ keep oo hoo=>Xj (by rw[l9,l9]) (λj x' q=>?_) hoo⟩;rw[zM]at q ⊢;cases hjx:ty[j]? with
 |none=>rw[hjx]at q;cases q
 |some l=>
  rw[hjx]at q;simp only[cj,al]at q;subst q;refine ⟨by unfold wY;split<;>rfl,wY m (0+j) b' l.toNat,rfl,λv I=>?_⟩;unfold wY at I ⊢;by_cases hz:(l.toNat==0)=J
  grind
  rw[av hz]at I ⊢;exact Uz (by rw[hφ,WD]) I
def ajb {F:xL} {x:F.ty.den} (q:Rv i F x=Z z):∃b,Rv m F x=Z b/\ZG T O W (Hg i m) b z:=by
 cases F with
 |rr ty b'=>exact arm q
 |_=>cases q
def axu {s:TS} (c:mR P E nt np T s F W) {s':TS} (h:axv s i=Z s'):s'.e=s.e/\∃φ',mR P E nt np φ' s' F W/\CW np T φ' (erHF s.h) (erHF s'.h) W W:=by
 unfold axv at h;split at h;rename_i a a0 x ha;let⟨hF,h⟩:=dO h;cases h;refine ⟨rfl,?_⟩;have hfr:=c.qx.fresh;have la:=c.qx.low i _ ha;have hi:=c.qx;generalize hh':((PT.updI (λ_ b=>rnG i s.nx b) 1 0 s.h).set i (Z (.qw J 0 0))).set s.nx (Z (.qf a 0 x))=h';have hg:∀A,h'.get A=if A=s.nx then Z (.qf a 0 x) else if A=i then Z (.qw J 0 0) else (s.h.get A).map (rnG i s.nx):=λA=>by
  rw[<- hh',PT.get_set,PT.get_set,PT.get_updI]
 have hF0:DA a x=U:=by obtain⟨_,_,rfl⟩:=Ob hF;rfl
 have hFB:∀q,Rv q a x=U:=λq=>by obtain⟨_,_,rfl⟩:=Ob hF;rfl
 have hr:cz s.h h':=λA q hq=>by
  rw[bS]at hq ⊢;rw[hg];by_cases f0:A=s.nx
  grind
  rw[av f0];by_cases f1:A=i;rw[f1,ha]at hq;simp only[aH,lj,hF0]at hq;cases hq;rw[av f1];cases hx:s.h.get A with
  |none=>rw[hx]at hq;cases hq
  |some B=>rw[hx]at hq;simp only[cj,aH]at hq ⊢;rw[am5];exact hq
 have hinv:kR h' (s.nx+1):=by
  refine ⟨λA ty l hil=>?_,λA c' hic=>?_⟩;rw[hg]at hil;split at hil;cases hil;split at hil;cases hil;cases hx:s.h.get A with
  |none=>rw[hx]at hil;cases hil
  |some B=>
   rw[hx]at hil;simp only[cj,al]at hil;cases B with
   |G ty2 l3=>
    simp only[rnG,gi.G.injEq]at hil;obtain⟨_,rfl⟩:=hil;exact io hr l3 (hi.G A _ l3 hx)
   |qf a b x=>simp only[rnG]at hil;split at hil<;>cases hil
   |_=>cases hil
  rw[hg]at hic;split at hic;omega;split at hic;omega;cases hx:s.h.get A with
  |none=>rw[hx]at hic;cases hic
  |some B=>have:=hi.low A B hx;omega
 have hdead:∀n,ow n=i->erHF h' n=U:=λn hn=>by
  unfold erHF;rw[hg,av M,aD hn];simp only[aH];cases ix n<;>rfl
 have hn0:erHF h' (nm s.nx)=U:=by
  rw[ct,hg,aD rfl];exact hFB _
 have hmN:∀k,erHF h' (uY s.nx (k+1))=Mn s.nx k a x:=λk=>by rw[qT,hg,aD rfl];rfl
 have hmO:∀k,erHF s.h (uY i (k+1))=Mn i k a x:=λk=>by rw[qT,ha];rfl
 refine aey c (Hg s.nx i) (λn hn=>by unfold Hg;rw[av hn]) hr hinv (λn b' hb'=>?_) λn m b b' hn hm he=>?_
 by_cases f0:ow n=s.nx;cases hix:ix n with
 |zero=>rw[yP hix,f0,hn0]at hb';cases hb'
 |succ k=>
  have en:n=uY s.nx (k+1):=by rw[<- f0,<-hix,my]
  subst en;rw[hmN]at hb';rw[WD,hmO];exact aj9 hb'
 have hs:Hg s.nx i n=n:=by unfold Hg;rw[av f0]
 rw[hs];by_cases f1:ow n=i
 grind
 cases hx:s.h.get (ow n) with
 |none=>
  unfold erHF at hb'
  grind
 |some B=>
  have I:Te h' (ow n) (ix n) (rnG i s.nx B)=Z b':=by
   unfold erHF at hb'
   grind
  have same:rnG i s.nx B=B->∃b,erHF s.h n=Z b/\ZG T (tot E T (erHF s.h)) W (Hg s.nx i) b b':=λe=>by
   rw[e,xF hr (λty l e=>hi.G _ _ l (by rw[hx,e]))]at I;exact⟨b',by unfold erHF;rw[hx];exact I,ZG.refl b'⟩
  cases B with
  |qf G b y=>
   by_cases hc:(!(ana G)&&aB b i)=J;have e0:rnG i s.nx (.qf G b y)= .qf G s.nx y:=by simp only[rnG];rw[aD hc]
   rw[e0]at I;simp only[ar,dj]at hc;have hba:=au hc.2;subst hba;cases hix:ix n with
   |succ k=>
    rw[hix]at I;cases G with
    |ir ty φ=>cases hc.1
    |_=>cases I
   |zero=>
    rw[hix]at I;have hsrc:erHF s.h n=Rv b G y:=by unfold erHF;rw[hx,hix];rfl
    rw[hsrc];exact ajb I
   exact same (by simp only[rnG];rw[av hc])
  |_=>exact same rfl
 have hs:∀n,ow n≠s.nx->Hg s.nx i n=n:=λn hn=>by unfold Hg;rw[av hn]
 have key:∀n b,erHF h' n=Z b->ow n=s.nx->Hg s.nx i n=uY i (ix n):=λn b hn f0=>by unfold Hg;rw[aD f0]
 by_cases f0:ow n=s.nx;rw[key n b hn f0]at he;by_cases f1:ow m=s.nx;rw[key m b' hm f1]at he;rw[<- my n,<-my m,f0,f1,(yh he).2];rw[hs m f1]at he;rw[<- he,hdead _ (ou ..)]at hm;cases hm;rw[hs n f0]at he;by_cases f1:ow m=s.nx;rw[key m b' hm f1]at he;rw[he,hdead _ (ou ..)]at hn;cases hn
 grind
 cases h
def axq {s:TS} (c:mR P E nt np T s F W) {s':TS} (h:axr s i=Z s'):s'.e=s.e/\∃φ',mR P E nt np φ' s' F W/\CW np T φ' (erHF s.h) (erHF s'.h) W W:=by
 unfold axr at h;split at h;rename_i q;exact axs c q h;split at h;cases h;exact axu c h;cases h
end ren
end
end Go.Proofs.YtononplakadipaaGreatDoor.AI
