/-
  Texts of the proof, part 2 of 6: what is used to prove the statement. No condition.
-/
import Derived.Test.YtmmgdigihgnnnaaGreatDoorSearchWiderQ0
namespace Go.Proofs.YtmmgdigihgnnnaaGreatDoor.AI
open Go.RowKit
set_option maxRecDepth 100000
set_option maxHeartbeats 4000000
set_option linter.unusedVariables false
set_option linter.unusedSimpArgs false
set_option linter.defProp false
open _root_.Array renaming replicate→mJ,mapM_eq_mapM_toList→P5
open _root_.Bool renaming true→J,false→aa,not_eq_true→iQ,or_eq_false_iff→wq
open Call renaming operands→em
open _root_.Int renaming toNat→aN,ofNat→aY
open _root_.List renaming length→l!,length→ah,replicate→aD,take→cu,length_nil→eS,cons_append→ft,length_cons→fX,drop→ig,toArray→jV,nil_append→kR,range→mI,replicate_succ→mY,mem_replicate→te,map_nil→wE,take_succ_cons→J8,flatMap_append→Ka
open _root_.Nat renaming beq→aB,testBit→aC,blt→dw,ble→dx,add_zero→dL,mod_eq_of_lt→lF,one_shiftLeft→CG,mul_one→He,testBit_two_pow→J7,blt_eq→Ow,add_mul_mod_self_left→P4
open Oper renaming wp→K2
open _root_.Option renaming some→Z,none→U,bind_some→aH,map_some→bS,map→ja
open Result renaming andThen_ok→cM
open Sem renaming run_bind→eM,run_pure→nB
open _root_.UInt8 renaming ofNat→AW
open Value.bool renaming injEq→EV
open World renaming cell?→Ry
noncomputable section
structure Ctx where
 n0:Nat
 φ:PM
 E:Nat->Prop
 h:HF
 w:World
def ajy (P:Program) (d:Deferred):Prop:=∀w:World,∃A cap f args,d.target= .fn A cap/\(invoke d.target d.args).run P w= .ok (.enter f args) w/\
 CallsD P f args .returning w λe q w'=>(∃v,e= .returned v)/\q= .returning/\w'=w
structure Cfg (P:Program) (C:Ctx) (nt:Nat) (s:IS) (a:Act) (w:World):Prop where
 ex:∃φ,iv C.φ φ C.h s.h.get C.w w/\qE φ C.E s.h.get w/\Oq φ (tot C.E φ s.h.get) w s.e.get a/\(∀i k,φ i=Z k->i<s.nx)/\∀i k,φ i=Z k->C.φ i=Z k\/C.n0<=i
 low:C.n0<=s.nx
 inert:∀d∈a.defers,ajy P d
 size:a.tmps.size=nt
variable {P:Program} {w:World} {i m:Nat} {N:Act} {I:Array Oper} {b:Bool} {B:Exit->Act->World->Prop}
def R2 {C:Ctx} {s s':IS} {call:wg} (hm:P.follows .mixedOrders=J) (hcall:Ar P call) (c:Cfg P C i s N w) {sl:Y pQ} {prs:Y j?} {a:Y XK}
 (hd:(I.toList.all λo=>match o.dst with|some d=>decide (d<i)|none=>J)=J) (hc:nN P I I.toList=Z sl) (hp:Fr I sl=Z prs) (hr:Br call sl s=Z (s',a)) (hok:Bt a prs=J) 
 (hQ:∀N w,Cfg P C i s' N w->B .normal N w):(Code.region m I b).wp P B N w:=by
 let⟨φ,id,r,en,dm,d0⟩:=c.ex;let⟨l,q⟩:=zo hcall I.toList sl s s' a hc hr;refine IN (φ0:=φ) (E:=C.E) hm q.jw q.chain (aqk q hp hok) ?_ ?_ r en ?_
 .intro n A;let⟨p,hp,A⟩:=lG.1 A;let⟨j,D⟩:=eO hp;have:=q.names j p.1 p.2 D n A;cases hx:φ n with
  |none=>rfl
  |some k=>have:=dm n k hx;omega
 .intro j o ho d ops;have:=cQ.1 hd o (by grind);rw[ops]at this;rw[c.size];simpa using this
 .rintro a' w' ⟨φ',m',d',r',en',df',sz'⟩;have hnm:∀nt k,φ' nt=Z k->φ nt=Z k\/(s.nx<=nt/\nt<s'.nx):=λnt k hik=>by
   rcases d' nt k hik with h|h
   .exact .inl h
   .obtain⟨p,hp,A⟩:=lG.1 h;let⟨j,D⟩:=eO hp;exact .inr (q.names j p.1 p.2 D nt A)
  have hg:=q.zm;have hlow:=c.low;refine hQ a' w' ⟨⟨φ',id.trans m',r',en',λnt k hik=>?_,λnt k hik=>?_⟩,by omega,by rw[df'];exact c.inert,by rw[sz'];exact c.size⟩
  .grind
  .grind
def Cfg.bool {C:Ctx} {s:IS} (c:Cfg P C i s N w) (ht:s.e.get m=Z (.f (.raw (.bool b)))):N.eval (.tmp m)= .bool b:=by
 let⟨φ,_,_,en,_,_⟩:=c.ex;exact dJ (en m _ ht)
def Cfg.weak {C:Ctx} {s:IS} (c:Cfg P C i s N w) {e':wC} (he:∀t x,e'.get t=Z x->s.e.get t=Z x) :Cfg P C i ⟨e',s.h,s.nx,m⟩ N w:=by
 let⟨φ,q,r,en,D⟩:=c.ex;exact⟨⟨φ,q,r,λt x A=>en t x (he t x A),D⟩,c.low,c.inert,c.size⟩
def yZ {c:Code} (I:Nat->Act->World->Prop) (round:∀n N w,I n N w->c.wp P (Exit.then (λq w'=>∃m,m<n/\I m q w') B) N w) {n:Nat} (h0:I n N w):(Code.loop c).wp P B N w:=by
 have least:∀(n:Nat) (N:Act) (w:World),I n N w->∃m,I m N w/\∀k,I k N w->m<=k:=by
  intro n;induction n using Nat.strongRecOn with
  |_ n D=>grind
 have pick:∀N w,∃m,(∃n,I n N w)->I m N w/\∀k,I k N w->m<=k:=λN w=>by
  by_cases a:∃n,I n N w
  .grind
  .simp_all
 let μ:Act->World->Nat:=λN w=>Classical.choose (pick N w)
 have hμ:∀N w,(∃n,I n N w)->I (μ N w) N w/\∀k,I k N w->μ N w<=k:=λN w=>Classical.choose_spec (pick N w)
 refine wp_loop (λN w=>∃n,I n N w) μ ⟨n,h0⟩ λN w A=>?_
 refine wp_mono (round (μ N w) N w (hμ N w A).1) λe q w' he=>?_
 cases e with
 |normal=>grind
 |_=>exact he
def Ex.to:Ex->Exit
 |.normal=>.normal
 |.exit id=>.exit id
 |.ret=>.ret
def EQ (P:Program) (inert:FuncId->Bool):Prop:=∀f,inert f=J->yT P f/\∀(args:Array Value) (w:World),CallsD P f args .returning w λe q w'=>(∃v,e= .returned v)/\q= .returning/\w'=w
def ace {C:Ctx} {call:wg} {inert:FuncId->Bool} (hm:P.follows .mixedOrders=J) (hcall:Ar P call) (hin:EQ P inert):∀(c:Code) (s:IS) (ex:Ex) (s':IS),run call inert m (bz P i c) s=Z (ex,s')->
 ∀a w,Cfg P C i s a w->c.wp P (λe I w'=>e=ex.to/\Cfg P C i s' I w') a w:=by
 intro c;induction c with
 |skip=>
  intro s ex s' h a w A;obtain⟨rfl,rfl⟩:=h;exact wp_skip ⟨rfl,A⟩
 |region id ops dr=>
  intro s ex s' h a w A;simp only[bz]at h;split at h
  .rename_i hd;split at h
   .rename_i sl hsl;split at h
    .rename_i prs hprs;simp[run]at h;split at h
     .rename_i s2 fs hr;split at h
      next hok=>obtain⟨rfl,rfl⟩:=h;exact R2 hm hcall A hd hsl hprs hr hok λa w q=>⟨rfl,q⟩
      .cases h
     .cases h
    .simp[run]at h
   .simp[run]at h
  .simp[run]at h
 |seq x y ihx ihy=>
  intro s ex s' h a w A;simp[bz,run]at h;split at h
  next D h1=>refine wp_seq (wp_mono (ihx s .normal D h1 a w A) ?_);rintro e I w' ⟨rfl,q⟩;exact ihy D ex s' h I w' q
  .rename_i hne;refine wp_seq (wp_mono (ihx s ex s' h a w A) ?_);rintro e I w' ⟨rfl,q⟩;cases ex with
   |normal=>exact bc h (λh=>hne s' h)
   |_=>exact⟨rfl,q⟩
 |cond o x y ihx ihy=>
  intro s ex s' h a w A;cases o with
  |tmp t=>
   simp[bz,run]at h;split at h
   next ht=>exact wp_cond_true (A.bool ht) (ihx s ex s' h a w A)
   next ht=>exact wp_cond_false (A.bool ht) (ihy s ex s' h a w A)
   .cases h
  |const v=>
   cases v with
   |bool b=>
    cases b with
    |true=>exact wp_cond_true rfl (ihx s ex s' h a w A)
    |false=>exact wp_cond_false rfl (ihy s ex s' h a w A)
   |_=>simp[bz,run]at h
  |_=>simp[bz,run]at h
 |block id x N=>
  intro s ex s' h a w A;simp only[bz,run]at h;split at h
  .rename_i nt D h1;refine wp_block (wp_mono (N s (.exit nt) D h1 a w A) ?_);simp[Ex.to,Exit.inBlock];split at h
   .rename_i hb;have hb:=ar hb
    grind
   next hb=>obtain⟨rfl,rfl⟩:=h;simp_all
  .rename_i hne;refine wp_block (wp_mono (N s ex s' h a w A) ?_);rintro e I w' ⟨rfl,q⟩;cases ex with
   |exit id=>exact bc h (λh=>hne id s' h)
   |_=>exact⟨rfl,q⟩
 |loop x N=>
  intro s ex s' h a w A;refine yZ (λn a w=>∃D,I0 (run call inert m (bz P i x)) s.e n D=Z (ex,s')/\Cfg P C i D a w) ?_ ⟨s,h,A⟩;rintro n a1 w1 ⟨D,h1,hc1⟩;cases n with
  |zero=>simp[I0]at h1
  |succ n=>
   simp[I0]at h1;split at h1
   next e2 h2 nx2 wr2 hb=>rw[wY]at h1;refine wp_mono (N D .normal _ hb a1 w1 hc1) ?_;rintro e I w' ⟨rfl,q⟩;exact⟨n,by omega,_,h1,q.weak λt x hx=>PT.get_mask _ _ _ _ hx⟩
   .rename_i hne;refine wp_mono (N D ex s' h1 a1 w1 hc1) ?_;rintro e I w' ⟨rfl,q⟩;cases ex with
    |normal=>let⟨e',h',nx',wr'⟩:=s';exact bc h1 (λh=>hne e' h' nx' wr' h)
    |_=>exact⟨rfl,q⟩
 |exit id=>
  intro s ex s' h a w A;obtain⟨rfl,rfl⟩:=h;exact wp_exit ⟨rfl,A⟩
 |ret=>
  intro s ex s' h a w A;obtain⟨rfl,rfl⟩:=h;exact wp_ret ⟨rfl,A⟩
 |rangeFunc f ps as b _ _|scope b _|label l|goto l|refuse y=>intro s ex s' h;simp[bz,run]at h
def acf {call:wg} {inert:FuncId->Bool} (hcall:Ar P call):∀(c:Code) (s:IS) (ex:Ex) (s':IS),run call inert m (bz P i c) s=Z (ex,s')->
 (∀nt,aC s'.wr nt=aa->s'.h.get nt=s.h.get nt/\aC s.wr nt=aa):=by
 intro c;induction c with
 |skip=>
  intro s ex s' h;simp[bz,run,af,aV]at h
  grind
 |region id ops dr=>
  intro s ex s' h;simp[bz]at h;split at h
  .split at h
   .rename_i sl hsl;split at h
    .simp[run]at h;split at h
     .rename_i D fs I;split at h
      .simp[af,aV]at h;obtain⟨rfl,rfl⟩:=h;let⟨l,N⟩:=zo hcall ops.toList sl s D fs hsl I;exact N.frame
      .cases h
     .cases h
    .simp[run]at h
   .simp[run]at h
  .simp[run]at h
 |seq x y ihx ihy=>
  intro s ex s' h;simp[bz,run]at h
  grind
 |cond o x y ihx ihy=>
  intro s ex s' h;cases o with
  |tmp t=>
   simp[bz,run]at h
   grind
  |const v=>
   cases v with
   |bool b=>
    cases b with
    |true=>exact ihx s ex s' h
    |false=>exact ihy s ex s' h
   |_=>simp[bz,run]at h
  |_=>simp[bz,run]at h
 |block id x A=>
  intro s ex s' h;simp[bz,run]at h
  grind
 |loop x A=>
  intro s ex s' h;have key:∀(n:Nat) (q:IS),I0 (run call inert m (bz P i x)) s.e n q=Z (ex,s')->∀nt,aC s'.wr nt=aa->s'.h.get nt=q.h.get nt/\aC q.wr nt=aa:=by
   intro n;induction n with
   |zero=>intro q h1;simp[I0]at h1
   |succ n ihn=>
    intro q h1;simp[I0]at h1;split at h1
    next e2 h2 nx2 wr2 hb=>rw[wY]at h1;intro nt hi;let⟨q1,q2⟩:=ihn _ h1 nt hi;let⟨q3,q4⟩:=A q .normal _ hb nt q2;exact⟨q1.trans q3,q4⟩
    .exact A q ex s' h1
  exact key m s h
 |exit id|ret=>
  intro s ex s' h;simp[bz,run,af,aV]at h
  grind
 |rangeFunc f ps as b _ _|scope b _|label l|goto l|refuse y=>intro s ex s' h;simp[bz,run]at h
def R1 (tmps:Array Value):ResultVar->Sem Value
 |.tmp t=>pure (tmps.getD t undef)
 |.cell a t=>do
  let q<-asAddr (tmps.getD a undef)
  loadVar t q
def LG (fn:Func) (tmps:Array Value):results fn tmps=(do let vs<-fn.results.mapM (R1 tmps);pure (if h:vs.size=1 then vs[0] else .tuple vs)):=by
 congr 2
variable {V:PM} {O:Nat->Prop}
def X4 {s:IS} (r:qE V O s.h.get w) (en:Oq V (tot O V s.h.get) w s.e.get N):∀(a:Y ResultVar) (rvs:Y RV) (l:Y AV),nM P a=Z rvs->X5 s.e s.h rvs=Z l->
 ∃vs,(a.mapM (R1 N.tmps)).run P w= .ok vs w/\jR V (tot O V s.h.get) w l vs
 |[],rvs,l,D,A=>by
  simp[nM,af]at D;subst D;simp[X5,af]at A;subst A;exact⟨[],by simp,trivial⟩
 |.tmp t::a,rvs,l,D,A=>by
  simp[nM]at D;split at D
  .rename_i rvs' hrs;simp[af]at D;subst D;simp[X5]at A;split at A
   next v l' hv I=>simp[af]at A;subst A;let⟨vs,h1,h2⟩:=X4 r en a rvs' l' hrs I;refine ⟨N.tmps.getD t undef::vs,?_,en t v hv,h2⟩;simp[List.mapM_cons,eM,R1,nB,cM];simp_all
   .cases A
  .cases D
 |.cell ad t::a,rvs,l,D,A=>by
  simp[nM]at D;split at D
  .rename_i rvs' sz ag hrs hsz hag;simp[af]at D;subst D;simp[X5]at A;split at A
   .rename_i p hp;split at A
    .rename_i R l' hR I;simp[af]at A;subst A;let⟨vs,h1,h2⟩:=X4 r en a rvs' l' hrs I;let⟨_,_,_,h3⟩:=N_ hsz hag hR;let⟨q,v,h4,h5,h6⟩:=h3 V O s.h.get w _ (λ_ _=>rfl) r (en ad p hp);refine ⟨v::vs,?_,h6,h2⟩;have hone:(R1 N.tmps (.cell ad t)).run P w= .ok v w:=by
      simp[R1,eM,h4,asAddr,nB,cM,h5]
     simp_all
    .cases A
   .cases A
  .cases D
def zK {P:Program} {fn:Func} {tmps:Array Value} {R:Ending->World->Prop} {w:World} {v:Value} (q:(results fn tmps).run P w= .ok v w) (A:R (.returned v) w):∀(ds:Y Deferred),(∀d∈ds,ajy P d)->Leaves P fn tmps R ds .returning w
 |[],_=>⟨v,q,A⟩
 |d::ds,h=>by
  let⟨D,cap,f,args,h1,h2,h3⟩:=h d (cj ..) w;refine ⟨by simp,D,cap,f,args,h1,h2,h3.mono ?_⟩;rintro e N w' ⟨⟨I,rfl⟩,rfl,rfl⟩;exact zK q A ds λd hd=>h d (bP _ hd)
def Xn:∀(args:Y AV) (k t:Nat) (x:AV),(ZA k args).get t=Z x->k<=t/\args[t-k]? =Z x
 |[],k,t,x,h=>by simp[ZA,PT.get]at h
 |y::args,k,t,x,h=>by
  rw[ZA,PT.get_set]at h;split at h
  .grind
  .obtain⟨h1,h2⟩:=Xn args (k+1) t x h
   grind
def jR.get :∀{xs:Y AV} {vs:ξ},jR V O w xs vs->∀(j:Nat) x,xs[j]? =Z x->∃v,vs[j]? =Z v/\cG V O w x v
 |[],_,_,j,x,q=>by simp at q
 |_::_,[],h,_,_,_=>h.elim
 |y::xs,u::vs,h,j,x,q=>by
  cases j with
  |zero=>simp at q;subst q;exact⟨u,rfl,h.1⟩
  |succ j=>exact jR.get h.2 j x (by grind)
def av4 (P:Program) (tbl:FuncId→M SF):Prop:=∀f q,tbl f=Z q→∃fn c,P.funcs[f]? =Z fn∧fn.body=Z c∧(fn.name== "runtime.NumGoroutine")=aa∧q.code=bz P fn.ntmps c∧nM P fn.results.toList=Z q.res∧q.nt=fn.ntmps
variable {f:FuncId}
def NI {q:SF} (h:AQ P f=Z q):∃fn c,P.funcs[f]? =Z fn∧fn.body=Z c∧(fn.name== "runtime.NumGoroutine")=aa∧q.code=bz P fn.ntmps c∧nM P fn.results.toList=Z q.res∧q.nt=fn.ntmps:=by
 unfold AQ at h
 grind
variable {K:Y AV}
def N2 {call:wg} {inert:FuncId→Bool} (hm:P.follows .mixedOrders=J) (hcall:Ar P call) (hin:EQ P inert) {N:SF} {fn:Func} {c:Code} (hf:P.funcs[f]? =Z fn) (D:fn.body=Z c) (hnm:(fn.name== "runtime.NumGoroutine")=aa) (hcode:N.code=bz P fn.ntmps c) (hres:nM P fn.results.toList=Z N.res)
 {h:ie} {ex:Ex} {s:IS} (hrun:run call inert i N.code ⟨ZA 0 K,h,m,0⟩=Z (ex,s)) (hex:ex= .ret∨ex= .normal) (hargs:l! K≤fn.ntmps) {r:Rv} (I:aah m (PT.dom 1 0 h 0) N.res s=Z r):ano P f K h m r:=by
 rw[hcode]at hrun;have hfr:=acf hcall c _ _ _ hrun;unfold aah at I;split at I
 .rename_i l hres';simp only[S8,tF,wY]at I;generalize hids:(Qn 1000000 s.h (AV.ids (AX l) (PT.dom 1 0 h 0)) 0|||PT.dom 1 0 h 0)=ids at I;generalize hh':PT.only ids 1 0 s.h=h' at I;generalize hexx:((PT.dom 1 0 h' 0)>>>m)<<<m=ex' at I;split at I
  .rename_i hcond;simp only[ak]at hcond;let⟨⟨hlow,hall⟩,hallh⟩:=hcond;have hlow:PT.dom 1 0 h 0>>>m=0:=ar hlow;simp only[af]at I;subst I;have hdom:∀fZ b,h.get fZ=Z b→aC (PT.dom 1 0 h 0) fZ=J∧fZ<m:=λfZ b D=>by
    have h1:=PT.dom_get h 1 0 0 fZ b D;rw[Nat.one_mul,dL]at h1;refine ⟨h1,?_⟩;rcases bF fZ m with h2|h2
    .exact h2
    .have:=Nat.testBit_shiftRight (PT.dom 1 0 h 0) (i:=m) (j:=fZ-m);rw[hlow,show m+(fZ-m)=fZ from by omega,h1]at this;simp at this
   have hh'g:∀fZ,h'.get fZ=if aC ids fZ then s.h.get fZ else U:=λfZ=>by rw[← hh',PT.get_only];simp
   have hexb:∀fZ,aC ex' fZ=J↔m≤fZ∧aC (PT.dom 1 0 h' 0) fZ=J:=λfZ=>by grind
   have hwr:∀fZ,aC (s.wr%(1<<<m)|||ex') fZ=J↔(fZ<m∧aC s.wr fZ=J)∨aC ex' fZ=J:=λfZ=>by
    rw[bD,eu,CG,Nat.testBit_mod_two_pow,ak,bB]
   refine ⟨⟨fn,hf,by rw[D];rfl,hnm⟩,λfZ hi=>?_,λfZ hi hge=>?_,?_,?_⟩
   ·
    have hi1:¬(fZ<m∧aC s.wr fZ=J)∧¬aC ex' fZ=J:=by
     rw[← not_or,←hwr fZ,hi];simp
    show h'.get fZ=h.get fZ;rw[hh'g];rcases bF fZ m with h1|h1
    .have h2:aC s.wr fZ=aa:=by
      cases A:aC s.wr fZ with
      |false=>rfl
      |true=>exact bc ⟨h1,A⟩ hi1.1
     have h3:=(hfr fZ h2).1;simp only at h3;rw[h3];cases A:h.get fZ with
     |none=>simp
     |some b=>
      rw[aK];rw[← hids,bD,(hdom fZ b A).1,Bool.or_true]
    .have h2:h.get fZ=U:=by
      cases A:h.get fZ with
      |none=>rfl
      |some b=>have:=(hdom fZ b A).2;omega
     rw[h2,←hh'g];cases A:h'.get fZ with
     |none=>rfl
     |some b=>
      have h4:=PT.dom_get h' 1 0 0 fZ b A;rw[Nat.one_mul,dL]at h4;exact bc ((hexb fZ).2 ⟨h1,h4⟩) hi1.2
   ·
    rcases (hwr fZ).1 hi with h1|h1
    .omega
    .show fZ<(if aB ex' 0 then m else Nat.log2 ex'+1)
     have h2:=Nat.ge_two_pow_of_testBit h1;have h3:ex'≠0:=by intro h0;rw[h0]at h1;simp at h1
     rw[ay (by intro D;exact h3 (ar D))];have:=(Nat.le_log2 h3).2 h2;omega
   .show m≤(if aB ex' 0 then m else Nat.log2 ex'+1)
    split
    .exact bi _
    .rename_i hne;have h3:ex'≠0:=λh0=>hne (by rw[h0];rfl)
     have hbit:=Nat.testBit_log2 h3;have:=((hexb _).1 hbit).1;omega
   ·
    intro φ E w vs hrep hrel hnx;have hlen:=jR.length hrel
    let C:Ctx:=⟨m,φ,E,h.get,w⟩
    refine calls_of_wp_defers hf D ?_;have hcfg:Cfg P C fn.ntmps ⟨ZA 0 K,h,m,0⟩ {tmps:=vs.toArray++mJ (fn.ntmps-vs.toArray.size) undef,defers:=[]} w:=by
     refine ⟨⟨φ,iv.refl _ _ _,hrep,?_,hnx,λfZ k q=>.inl q⟩,bi _,by simp,by simp;omega⟩;intro t x A;let⟨_,h2⟩:=Xn K 0 t x A;rw[Nat.sub_zero]at h2;let⟨v,h3,h4⟩:=hrel.get t x h2;have hlt:t<l! vs:=(bH.1 h3).1;have:(vs.toArray++mJ (fn.ntmps-vs.toArray.size) undef).getD t undef=v:=by
      rw[hY,Array.getElem?_append];simp only[List.size_toArray,hlt,bJ,D7,h3,Option.getD_some]
     show cG φ _ w x ((vs.toArray++mJ (fn.ntmps-vs.toArray.size) undef).getD t undef);rw[this];exact h4
    refine wp_mono (ace (C:=C) hm hcall hin c _ ex s hrun _ w hcfg) ?_;rintro e a' w' ⟨rfl,hc'⟩;let⟨φ1,m1,r1,en1,dm1,d01⟩:=hc'.ex;let⟨rvs,hrr,hrl⟩:=X4 r1 en1 fn.results.toList N.res l hres hres';have hresults:(results fn a'.tmps).run P w'= .ok (if h:rvs.toArray.size=1 then rvs.toArray[0] else .tuple rvs.toArray) w':=by
     rw[LG,P5];simp only[eM,Sem.run_map,hrr,cM,nB]
    have hval:cG φ1 (tot E φ1 s.h.get) w' (AX l) (if h:rvs.toArray.size=1 then rvs.toArray[0] else .tuple rvs.toArray):=by
     have hll:=jR.length hrl;cases l with
     |nil=>
      cases rvs with
      |nil=>exact cG.qp (vs:=[]) rfl (by intro j x v A;simp at A)
      |cons _ _=>exact hrl.elim
     |cons x l=>
      cases rvs with
      |nil=>exact hrl.elim
      |cons v rvs=>
       cases l with
       |nil=>
        cases rvs with
        |nil=>exact hrl.1
        |cons _ _=>exact hrl.2.elim
       |cons y l=>
        cases rvs with
        |nil=>exact hrl.2.elim
        |cons u rvs=>
         rw[dif_neg (by simp)];refine cG.qp (vs:=v::u::rvs) (by simpa using hll) λj x' v' A hv=>?_
         let⟨v'',q1,q2⟩:=hrl.get j x' A;rw[hv]at q1;cases q1;exact q2
    have hp:∀fZ,(dw fZ m||aC ex' fZ)=J→fZ<m∨aC ex' fZ=J:=λfZ hi=>by
     rw[eu]at hi;exact hi.imp aX id
    let φ2:PM:=λfZ=>if (dw fZ m||aC ex' fZ)=J then φ1 fZ else U
    have φ2_of:∀fZ k,(dw fZ m||aC ex' fZ)=J→φ1 fZ=Z k→φ2 fZ=Z k:=λfZ k h1 h2=>by simp only[φ2,h1,bJ];exact h2
    have φ2_sub:∀fZ k,φ2 fZ=Z k→φ1 fZ=Z k∧(fZ<m∨aC ex' fZ=J):=λfZ k q=>by
     simp only[φ2]at q;split at q
     next hi=>exact⟨q,hp fZ hi⟩
     .cases q
    have hsubh:∀fZ b,h'.get fZ=Z b→s.h.get fZ=Z b:=λfZ b D=>by
     rw[hh'g]at D;split at D
     .exact D
     .cases D
    have own2:∀k,own φ2 h'.get k→own φ1 s.h.get k:=by
     rintro k ⟨fZ,b,q1,q2⟩;exact⟨fZ,b,hsubh fZ b q1,(φ2_sub fZ k q2).1⟩
    have tot2:∀k,tot E φ2 h'.get k→tot E φ1 s.h.get k:=λk q=>q.imp id (own2 k)
    have rel2:∀x v,x.all (λfZ=>dw fZ m||aC ex' fZ)=J→cG φ1 (tot E φ1 s.h.get) w' x v→cG φ2 (tot E φ2 h'.get) w' x v:=λx v A hr=>hr.restrict φ2_of tot2 A
    have final:∀R:Ending→World→Prop,R (.returned (if h:rvs.toArray.size=1 then rvs.toArray[0] else .tuple rvs.toArray)) w'→Leaves P fn a'.tmps R a'.defers .returning w':=λR hR=>zK hresults hR a'.defers hc'.inert
    have post:∃v φ',Ending.returned (if h:rvs.toArray.size=1 then rvs.toArray[0] else .tuple rvs.toArray)= .returned v∧iv φ φ' h.get h'.get w w'∧qE φ' E h'.get w'∧cG φ' (tot E φ' h'.get) w' (AX l) v∧∀fZ k,φ' fZ=Z k→φ fZ=Z k∨(m≤fZ∧aC (s.wr%(1<<<m)|||ex') fZ=J):=by
     refine ⟨_,φ2,rfl,⟨λfZ k q=>?_,m1.ext,λk q ho=>m1.qh k q (own2 k ho)⟩,⟨λfZ j b b' k q1 q2 q3 q4=>r1.inj fZ j b b' k (hsubh fZ b q1) (hsubh j b' q2) (φ2_sub fZ k q3).1 (φ2_sub j k q4).1,λfZ b D=>?_,r1.el,λg cells hg=>(r1.gl g cells hg).ext (ES.refl _ w') λk _ q=>tot2 k q⟩,rel2 _ _ hall hval,λfZ k q=>?_⟩
     .refine φ2_of fZ k ?_ (m1.sub fZ k q);have:dw fZ m=J:=bx (hnx fZ k q);rw[this];rfl
     .obtain⟨g1,g2⟩:=aav hallh D;let⟨k,q1,q2,ob,q3,q4⟩:=r1.at_ fZ b (hsubh fZ b D);exact⟨k,φ2_of fZ k g1 q1,q2,ob,q3,q4.restrict rel2 g2⟩
     .obtain⟨q1,q2⟩:=φ2_sub fZ k q;rcases d01 fZ k q1 with h1|h1
      .exact .inl h1
      .have h1:m≤fZ:=h1;rcases q2 with h2|h2
       .omega
       .exact .inr ⟨h1,(hwr fZ).2 (.inr h2)⟩
    rcases hex with rfl|rfl
    .exact final _ post
    .exact final _ post
  .cases I
 .cases I
def Ea {tbl:FuncId->M SF} {intr:wg} {inert:FuncId->Bool} (hm:P.follows .mixedOrders=J) (htbl:av4 P tbl) (hintr:Ar P intr) (hin:EQ P inert):∀n,Ar P (afx tbl intr inert i n)
 |0=>by intro f args h nx r q;simp[afx]at q
 |n+1=>by
  intro f args h nx r q;simp[afx]at q;split at q
  next r' N=>simp[af]at q;subst q;exact hintr f args h nx _ N
  .split at q
   .rename_i I hsf;let⟨fn,c,h1,h2,h3,h4,D,h6⟩:=htbl f I hsf;split at q
    .rename_i hle;have hle:l! args<=fn.ntmps:=by simp_all
     rw[wY]at q;split at q
     next s A=>exact N2 hm (Ea hm htbl hintr hin n) hin h1 h2 h3 h4 D A (.inl rfl) hle q
     next s A=>exact N2 hm (Ea hm htbl hintr hin n) hin h1 h2 h3 h4 D A (.inr rfl) hle q
     .cases q
    .cases q
   .cases q
variable {v:Value}
def ana {b:Value} (h:arj v b=J):v=b:=by
 unfold arj at h;split at h
 .simp at h;rw[h]
 .grind
 .rw[Cv.1 h]
 .simp_all
 .rfl
 .grind
 .cases h
variable {R:Type}
def PT.mapO {β:Type} (g:R->M β):PT R->PT β
 |.leaf=>.leaf
 |.node v l r=>.node (v.bind g) (PT.mapO g l) (PT.mapO g r)
def PT.get_mapO {β:Type} (g:R->M β):∀(t:PT R) (i:Nat),(PT.mapO g t).get i=(t.get i).bind g
 |.leaf,i|.node v l r,0=>by simp[PT.mapO,PT.get]
 |.node v l r,j+1=>by
  simp[PT.mapO,PT.get];split
  .exact PT.get_mapO g l _
  .exact PT.get_mapO g r _
def PT.get_updI (f:Nat->R->R):∀(t:PT R) (a b i:Nat),(PT.updI f a b t).get i=(t.get i).map (f (a*i+b))
 |.leaf,_,_,i=>by simp[PT.updI,PT.get]
 |.node v l r,a,b,0=>by cases v<;>simp[PT.updI,PT.get]
 |.node v l r,a,b,j+1=>by
  simp only[PT.updI,PT.get];split
  .rename_i q;rw[PT.get_updI f l];have:2*a*(j/2)+(a+b)=a*(j+1)+b:=by
    have h2:j=2*(j/2):=by have:=ar q;omega
    grind
   rw[this]
  .rename_i q;rw[PT.get_updI f r];have:2*a*(j/2)+(2*a+b)=a*(j+1)+b:=by
    have h1:j%2≠0:=λh=>q (by rw[h];rfl)
    have h2:j=2*(j/2)+1:=by omega
    grind
   rw[this]
def PT.bound :∀(t:PT R),∃B,∀i,B<=i->t.get i=U
 |.leaf=>⟨0,λi _=>rfl⟩
 |.node v l r=>by
  let⟨a,A⟩:=PT.bound l;let⟨b,q⟩:=PT.bound r;refine ⟨2*(a+b)+3,λi hi=>?_⟩;cases i with
  |zero=>omega
  |succ j=>
   simp[PT.get]
   grind
def PT.ofF (f:Nat->M R):Nat->PT R
 |0=>.leaf
 |n+1=>(PT.ofF f n).set n (f n)
def PT.get_ofF (f:Nat->M R):∀(n i:Nat),(PT.ofF f n).get i=if i<n then f i else U
 |0,i=>by simp[PT.ofF,PT.get]
 |n+1,i=>by
  rw[PT.ofF,PT.get_set,PT.get_ofF f n]
  grind
def tP (i k:Nat):Nat:=2^i*(2*k+1)-1
def nm (i:Nat):Nat:=tP i 0
def owA:Nat->Nat->Nat
 |0,_=>0
 |f+1,m=>if m%2=1 then 0 else owA f (m/2)+1
def ow (n:Nat):Nat:=owA (n+1) (n+1)
def ix (n:Nat):Nat:=(n+1)/2^ow n/2
def aa0:∀(i f k:Nat),i<f->owA f (2^i*(2*k+1))=i
 |0,f+1,k,_=>by rw[owA,aK (by omega)]
 |i+1,f+1,k,h=>by
  have e:2^(i+1)*(2*k+1)=2*(2^i*(2*k+1)):=by grind
  rw[owA,ay (by omega),e,Nat.mul_div_cancel_left _ (by omega),aa0 i f k (by omega)]
def aa1:∀(f m:Nat),0<m->m<=f->2^owA f m*(2*(m/2^owA f m/2)+1)=m
 |0,m,h0,h=>by omega
 |f+1,m,h0,h=>by
  rw[owA];split
  .omega
  .have q:=aa1 f (m/2) (by omega) (by omega);rw[Nat.pow_succ,CH (2^owA f (m/2)) 2,<-Nat.div_div_eq_div_mul,Nat.mul_assoc,q];omega
def aab (i k:Nat):0<2^i*(2*k+1):=Nat.mul_pos (Nat.two_pow_pos i) (by omega)
def nu (i k:Nat):ow (tP i k)=i:=by
 have h:=aab i k;have h2:i<2^i*(2*k+1):=dg Nat.lt_two_pow_self (Nat.le_mul_of_pos_right _ (by omega));unfold ow tP;rw[Nat.sub_add_cancel h,aa0 _ _ _ h2]
def xv (i k:Nat):ix (tP i k)=k:=by
 have h:=aab i k;unfold ix;rw[nu];unfold tP;rw[Nat.sub_add_cancel h,Nat.mul_div_cancel_left _ (Nat.two_pow_pos i)];omega
def lL (n:Nat):tP (ow n) (ix n)=n:=by
 have:=aa1 (n+1) (n+1) (by omega) (bi _);unfold tP ix ow;rw[this];rfl
def xq (h:ix i=0):i=nm (ow i):=by
 have:=lL i;rw[h]at this;exact this.symm
def d_ (i:Nat):ow (nm i)=i:=nu i 0
def aul (i:Nat):ix (nm i)=0:=xv i 0
def wL {k l:Nat} (h:tP i k=tP m l):i=m/\k=l:=by
 have h1:=gW ow h;have h2:=gW ix h;rw[nu,nu]at h1;rw[xv,xv]at h2;exact⟨h1,h2⟩
def Bw (h:nm i=nm m):i=m:=(wL h).1
def dY (p:Bool) (id sz n:Nat):AV:=if p&&n==0 then .emp else .G (nm id) sz n
def obN (id:Nat) (j:Int):Nat:=tP id (3*j.toNat+1)
def vB (id:Nat) (j sz n:Nat):AV:=if n==0 then .emp else .G (tP id (j+1)) sz n
def YO:Sb->AV
 |.nr id j sz n=>vB id j.toNat sz n
 |.np id j sz i off=>.H (tP id (j.toNat+1)) (i.toNat*sz+off)
 |.nl q=>.f (.raw (match q with|true=>.map U|false=>.nilFunc))
mutual
def co (h:bf):TV->M AV
 |.f T v=>Z (.f (gr T v))
 |.zw T xs j _ off=>Z (.f (.H (xs.flatMap (b8 T)) (j.toNat*T.size+off)))
 |.qn id sz j off=>Z (.H (nm id) (j.toNat*sz+off))
 |.H id off=>Z (.H (nm id) off)
 |.qf id sz n=>Z (.G (nm id) sz n)
 |.G id=>match eK h id with|some (p,sz,n)=>Z (dY p id sz n)|none=>U
 |.zg id j=>match eK h id with|some (_,sz,n)=>Z (.sl (nm id) (j.toNat*sz) (n-j.toNat))|none=>U
 |.emp=>Z .emp
 |.nil=>Z (.f (.raw (.slice U 0 0)))
 |.mp id=>Z (.mp (nm id))
 |.agg l=>match cO h l with|some l'=>Z (.agg l')|none=>U
 |.qp l=>match cO h l with|some l'=>Z (.qp l')|none=>U
 |.qv g l=>match cO h l with|some l'=>Z (.qv g l')|none=>U
 |.undef=>Z (.f (.raw undef))
 |.np=>Z (.f (.raw (.pointer U)))
 |.qj=>Z .qj
 |.qc T xs=>Z (.qc (xs.flatMap (b8 T)) (ah xs))
 |.sb s=>Z (YO s)
def cO (h:bf):Y TV->M (Y AV)
 |[]=>Z []
 |x::r=>match co h x with
  |some y=>(match cO h r with|some l=>Z (y::l)|none=>U)
  |none=>U
end
def rO:(K:Ty)->K.den->Value
 |.int k,n=>.int k n
 |.str,s=>.string ⟨jV s⟩
 |_,_=>undef
def mpC:(K V:Ty)->Y (K.den×V.den)->BC
 |.st (.pr .str (.int .i64)),.un,q=>.it ⟨jV (OE q)⟩ (Mh q)
 |K,V,q=>.mp (q.map λp=>(rO K p.1,.f (gr V p.2)))
variable {T:Ty}
def HC {V:Ty} {q:Y (T.den×V.den)} (h:aco T=J):mpC T V q= .mp (q.map λp=>(rO T p.1,.f (gr V p.2))):=by
 unfold mpC;split
 .cases h
 .rfl
def aqv {V:Ty} {q:Y (T.den×V.den)} {s:ζ} (h:itE T V q=Z (s,i)):mpC T V q= .it ⟨jV s⟩ i:=by
 unfold itE at h;split at h
 .cases h;rfl
 .cases h
variable {A:TypeId}
def ac4 {q:Y A!} {ents:Array MapEntry} (f:AV->AV):MpK A (q.map λp=>(p.1,f p.2)) ents=MpK A q ents:=by unfold MpK;rw[wF];rfl
def X0 {l:Y R} {x:R} (h:i<l! l):splice l i [x]=l.set i x:=by
 rw[List.set_eq_take_append_cons_drop,aK h];simp[splice]
def lH (a sz:Nat):Nat->η->Y AV
 |_,[]=>[]
 |k,l::r=>vB a k sz l.toNat::lH a sz (k+1) r
def MX (a:Nat):(F:wd)->F.ty.den->M nk
 |.rr ty sz,q=>Z ⟨ty,.mx (lH a sz 0 q)⟩
 |_,_=>U
def ab6 (a:Nat) (k:ν):(F:wd)->F.ty.den->M (Nat×Bool×Nat)->M nk
 |.rr ty sz,q,Z (r,b,n)=>Z ⟨ty,.mx ((lH a sz 0 q).set k.1.toNat (dY b r sz n))⟩
 |_,_,_=>U
def adk (ty:TypeId) (T:Ty) (xs:Y T.den):M nk:=if (l! xs)==0 then U else Z ⟨ty,.fz (xs.flatMap (b8 T))⟩
def rX (k:Nat) (ty:TypeId) (T:Ty) (xss:Y (Y T.den)):M nk:=(xss[k]?).bind (adk ty T)
def Ky (id:Nat) (k:Nat):(F:wd)->F.ty.den->M nk
 |.ir ty T,xss=>rX k ty T xss
 |_,_=>U
def zG (id k:Nat):fm->M nk
 |.qk F _ x=>Ky id k F x
 |.qr F _ x j U=>if k=j.1.toNat then U else Ky id k F x
 |.qr F _ x _ (Z _)=>Ky id k F x
 |_=>U
def lx (h:bf):fm->M nk
 |.F ty p T xs=>if p&&l! xs==0 then U else Z ⟨ty,.fz (xs.flatMap (b8 T))⟩
 |.C (Z ty) l=>match cO h l with|some q=>Z ⟨ty,.mx q⟩|none=>U
 |.C U l=>match cO h l with|some q=>Z ⟨0,.mp []⟩|none=>U
 |.qx _ _ _=>U
 |.mp K V A=>Z ⟨0,mpC K V A⟩
 |.qk F a x=>MX a F x
 |.qr F a x k p=>ab6 a k F x p
def gk (e:iu) (h:bf):EF:=λt=>(e.get t).bind (co h)
def QM (h:bf) (id:Nat):Nat->fm->M nk
 |0,b=>lx h b
 |k+1,b=>zG id k b
def erHF (h:bf):HF:=λn=>(h.get (ow n)).bind (QM h (ow n) (ix n))
def ct (h:bf) (i:Nat):erHF h (nm i)=(h.get i).bind (lx h):=by
 unfold erHF;rw[d_,aul];rfl
def pO (h:bf) (i k:Nat):erHF h (tP i (k+1))=(h.get i).bind (zG i k):=by
 unfold erHF;rw[nu,xv];rfl
variable {h:bf} {z:nk}
def iH (q:erHF h i=Z z):∃c,h.get (ow i)=Z c/\QM h (ow i) (ix i) c=Z z:=by
 unfold erHF at q;cases A:h.get (ow i) with
 |none=>rw[A]at q;cases q
 |some c=>rw[A]at q;exact⟨c,rfl,q⟩
def Kg:fm->Nat
 |.qk (.ir _ _) _ x|.qr (.ir _ _) _ x _ _=>ah x
 |_=>0
def ab7 {id:Nat} {F:wd} {x:F.ty.den} (q:Ky id i F x=Z z) (a:Nat):i<Kg (.qk F a x):=by
 cases F with
 |ir ty T=>
  let⟨o,A,_⟩:=Option.bind_eq_some_iff.1 q;exact (bH.1 A).1
 |_=>cases q
def aaf {c:fm} (A:zG i m c=Z z):m<Kg c:=by
 cases c with
 |qk F a x=>exact ab7 (id:=i) A a
 |qr F a x j p=>
  have:Ky i m F x=Z z:=by
   cases p with
   |none=>simp only[zG]at A;split at A;cases A;exact A
   |some q=>exact A
  have:=ab7 (id:=i) this a;cases F<;>exact this
 |_=>cases A
def EZ (e:iu) (h:bf):wC:=PT.mapO (co h) e
def CY (e:iu) (h:bf):(EZ e h).get=gk e h:=by funext t;exact PT.get_mapO _ _ _
def amj (D:∀y c,h.get y=Z c->Kg c<=i) (A:erHF h m=Z z):ix m<=i:=by
 let⟨c,h1,h2⟩:=iH A;have:=D _ c h1;cases q:ix m with
 |zero=>omega
 |succ k=>
  rw[q]at h2;have:=aaf h2;omega
def aae (h:bf):∃y,∀i c,h.get i=Z c->Kg c<=y:=by
 let⟨B,N⟩:=PT.bound h;have:∀B,∃y,∀i c,i<B->h.get i=Z c->Kg c<=y:=by
  intro B;induction B with
  |zero=>exact⟨0,λi c hi=>by omega⟩
  |succ B D=>
   let⟨y,A⟩:=D;cases I:h.get B with
   |none=>exact⟨y,λi c hi q=>by
     by_cases e:i=B
     .grind
     .exact A i c (by omega) q⟩
   |some b=>exact⟨max y (Kg b),λi c hi q=>by
     by_cases e:i=B
     .grind
     .have:=A i c (by omega) q;omega⟩
 let⟨y,A⟩:=this B;refine ⟨y,λi c q=>A i c ?_ q⟩
 grind
def jP (h:bf):∃H:ie,H.get=erHF h:=by
 let⟨B,hB⟩:=PT.bound h;let⟨y,D⟩:=aae h;refine ⟨PT.ofF (erHF h) (2^B*(2*y+2)),?_⟩;funext n;rw[PT.get_ofF];split
 .rfl
 .rename_i N;cases q:erHF h n with
  |none=>rfl
  |some b=>
   let⟨c,h1,h2⟩:=iH q;have I:ow n<B:=by grind
   have hi:ix n<=y:=by
    have:=D _ c h1;cases A:ix n with
    |zero=>omega
    |succ k=>
     rw[A]at h2;have:=aaf h2;omega
   have he:=lL n;unfold tP at he;have h3:2^ow n*(2*ix n+1)<=2^B*(2*y+2):=Nat.mul_le_mul (Nat.pow_le_pow_right (by omega) (by omega)) (by omega)
   grind
variable {r:Y TV} {u:TV}
def db (he:cO h (u::r)=Z K):∃y q,K=y::q/\co h u=Z y/\cO h r=Z q:=by
 simp[cO]at he
 grind
variable {y:AV}
def qA (h1:co h u=Z y) (h2:cO h r=Z K):cO h (u::r)=Z (y::K):=by
 simp[cO,h1,h2]
def iP :∀{l:Y TV} {q:Y AV},cO h l=Z q->l! q=l! l
 |[],q,he=>by simp[cO,af]at he;subst he;rfl
 |x::r,q,he=>by
  obtain⟨y,A,rfl,_,h2⟩:=db he;simp[iP h2]
def oD :∀{a b:Y TV} {A b':Y AV},cO h a=Z A->cO h b=Z b'->cO h (a++b)=Z (A++b')
 |[],b,A,b',q,D=>by simp[cO,af]at q;subst q;exact D
 |x::r,b,A,b',q,D=>by
  obtain⟨y,I,rfl,h1,h2⟩:=db q;exact qA h1 (oD h2 D)
def EA :∀{a b:Y TV} {l:Y AV},cO h (a++b)=Z l->∃q b',l=q++b'/\cO h a=Z q/\cO h b=Z b'
 |[],b,l,he=>⟨[],l,rfl,rfl,he⟩
 |x::r,b,l,he=>by
  obtain⟨y,A,rfl,h1,h2⟩:=db he;obtain⟨q,b',rfl,h3,h4⟩:=EA h2;exact⟨y::q,b',rfl,qA h1 h3,h4⟩
def Ic :∀{l:Y TV} {q:Y AV} (n:Nat),cO h l=Z q->cO h (l.take n)=Z (q.take n)
 |[],q,n,he=>by simp[cO,af]at he;subst he;simp[cO]
 |x::r,q,n,he=>by
  obtain⟨y,A,rfl,h1,h2⟩:=db he;cases n with
  |zero=>simp[cO]
  |succ n=>exact qA h1 (Ic n h2)
def If :∀{l:Y TV} {q:Y AV} (n:Nat),cO h l=Z q->cO h (l.drop n)=Z (q.drop n)
 |[],q,n,he=>by simp[cO,af]at he;subst he;simp[cO]
 |x::r,q,n,he=>by
  obtain⟨y,A,rfl,h1,h2⟩:=db he;cases n with
  |zero=>exact he
  |succ n=>simpa using If n h2
def ui {vs:Y TV} {vs':Y AV} (off:Nat) (h1:cO h r=Z K) (h2:cO h vs=Z vs'):cO h (splice r off vs)=Z (splice K off vs'):=by
 unfold splice;rw[iP h2];exact oD (oD (Ic _ h1) h2) (If _ h1)
def mT :∀{l:Y TV} {q:Y AV},cO h l=Z q->∀(j:Nat) x,l[j]? =Z x->∃y,q[j]? =Z y/\co h x=Z y
 |[],q,he,j,x,D=>by simp at D
 |x::r,q,he,j,z,A=>by
  obtain⟨y,I,rfl,h1,h2⟩:=db he;cases j with
  |zero=>simp at A;subst A;exact⟨y,rfl,h1⟩
  |succ j=>simpa using mT h2 j z (by grind)
mutual
def qF (h:bf):∀(u:TV),Qr h u=J->∃y,co h u=Z y
 |.f _ _,_|.zw _ _ _ _ _,_|.qn _ _ _ _,_|.H _ _,_|.qf _ _ _,_=>⟨_,rfl⟩
 |.G id,he|.zg id jj,he=>by
  simp[Qr]at he;cases hr:eK h id with
  |none=>rw[hr]at he;cases he
  |some r=>obtain⟨p,sz,n⟩:=r;exact⟨_,by simp[co,hr];rfl⟩
 |.emp,_|.nil,_|.mp _,_=>⟨_,rfl⟩
 |.agg l,he|.qp l,he|.qv g l,he=>by obtain⟨y,hy⟩:=fO h l he;exact⟨_,by simp[co,hy];rfl⟩
 |.undef,_|.np,_|.qj,_|.qc _ _,_|.sb _,_=>⟨_,rfl⟩
def fO (h:bf):∀(l:Y TV),lI h l=J->∃l',cO h l=Z l'
 |[],_=>⟨[],rfl⟩
 |x::r,he=>by
  simp[lI,ak]at he;obtain⟨y,hy⟩:=qF h x he.1;obtain⟨l',hl⟩:=fO h r he.2;exact⟨_,qA hy hl⟩
end
def cq (h h':bf):Prop:=∀id r,eK h id=Z r->eK h' id=Z r
mutual
def fW {h h':bf} (hk:cq h h'):∀(u:TV) (y:AV),co h u=Z y->co h' u=Z y
 |.f _ _,y,he=>he
 |.zw _ _ _ _ _,y,he=>he
 |.qn _ _ _ _,y,he=>he
 |.H _ _,y,he=>he
 |.qf _ _ _,y,he=>he
 |.G id,y,he|.zg id jj,y,he=>by
  simp[co]at he ⊢;split at he
  .rename_i p sz n hr;rw[hk _ _ hr];exact he
  .cases he
 |.emp,y,he=>he
 |.nil,y,he=>he
 |.mp _,y,he=>he
 |.agg l,y,he|.qp l,y,he|.qv g l,y,he=>by
  simp[co]at he ⊢;split at he
  .rename_i l' hl;rw[iG hk l l' hl];exact he
  .cases he
 |.undef,y,he=>he
 |.np,y,he=>he
 |.qj,y,he=>he
 |.qc _ _,y,he=>he
 |.sb _,y,he=>he
def iG {h h':bf} (hk:cq h h'):∀(l:Y TV) (l':Y AV),cO h l=Z l'->cO h' l=Z l'
 |[],l',he=>he
 |x::r,l',he=>by
  obtain⟨y,l2,rfl,h1,h2⟩:=db he;exact qA (fW hk x y h1) (iG hk r l2 h2)
end
mutual
def oa {h h':bf} (hk:cq h h'):∀(u:TV),Qr h u=J->Qr h' u=J
 |.f _ _,_|.zw _ _ _ _ _,_|.qn _ _ _ _,_|.H _ _,_|.qf _ _ _,_=>rfl
 |.G id,he|.zg id jj,he=>by
  simp[Qr]at he ⊢;cases hr:eK h id with
  |none=>rw[hr]at he;cases he
  |some r=>rw[hk _ _ hr];rfl
 |.emp,_|.nil,_|.mp _,_=>rfl
 |.agg l,he|.qp l,he|.qv g l,he=>gI hk l he
 |.undef,_|.np,_|.qj,_|.qc _ _,_|.sb _,_=>rfl
def gI {h h':bf} (hk:cq h h'):∀(l:Y TV),lI h l=J->lI h' l=J
 |[],_=>rfl
 |x::r,he=>by
  simp[lI,ak]at he ⊢;exact⟨oa hk x he.1,gI hk r he.2⟩
end
mutual
def Ib (h:bf):∀(u:TV) (y:AV),co h u=Z y->Qr h u=J
 |.f _ _,_,_|.zw _ _ _ _ _,_,_|.qn _ _ _ _,_,_|.H _ _,_,_|.qf _ _ _,_,_=>rfl
 |.G id,y,he|.zg id jj,y,he=>by
  simp[Qr,co]at he ⊢;cases hr:eK h id with
  |none=>rw[hr]at he;cases he
  |some r=>rfl
 |.emp,_,_|.nil,_,_|.mp _,_,_=>rfl
 |.agg l,y,he|.qp l,y,he|.qv g l,y,he=>by
  simp[co]at he;split at he
  .rename_i l' hl;exact mB h l l' hl
  .cases he
 |.undef,_,_|.np,_,_|.qj,_,_|.qc _ _,_,_|.sb _,_,_=>rfl
def mB (h:bf):∀(l:Y TV) (l':Y AV),cO h l=Z l'->lI h l=J
 |[],_,_=>rfl
 |x::r,l',he=>by
  obtain⟨y,l2,rfl,h1,h2⟩:=db he;simp[lI,ak];exact⟨Ib h x y h1,mB h r l2 h2⟩
end
mutual
def V3 (h h':bf):∀(u:TV),vQ u=J->co h u=co h' u
 |.f _ _,_|.zw _ _ _ _ _,_|.qn _ _ _ _,_|.H _ _,_|.qf _ _ _,_=>rfl
 |.G id,he=>by cases he
 |.emp,_|.nil,_|.mp _,_=>rfl
 |.agg l,he|.qp l,he=>by simp[co];rw[Ie h h' l he]
 |.qv g l,he=>by cases he
 |.undef,_|.np,_|.qj,_|.qc _ _,_=>rfl
 |.sb _,he=>by cases he
def Ie (h h':bf):∀(l:Y TV),rS l=J->cO h l=cO h' l
 |[],_=>rfl
 |x::r,he=>by
  simp[rS,ak]at he;simp[cO];rw[V3 h h' x he.1,Ie h h' r he.2]
end
def So (he:co h u=Z y) (q:u.isC=J):y.isCell=J:=by
 cases u with
 |f T v=>cases T<;>simp[co,af]at he<;>subst he<;>first|rfl|(simp [TV.isC,Ty.one]at q)
 |G id=>
  simp[co]at he;split at he
  .simp[af]at he;subst he;unfold dY;split<;>rfl
  .cases he
 |zg id A|agg l|qp l|undef|qj|qc T xs=>cases q
 |qv g l=>
  simp[co]at he;split at he
  .simp[af]at he;subst he;rfl
  .cases he
 |sb s=>simp[co,af]at he;subst he;cases s<;>first|rfl|(simp [YO,vB];split<;>rfl)
 |_=>simp[co,af]at he;subst he;rfl
def tI :∀{l:Y TV} {q:Y AV},cO h l=Z q->lC l=J->h_ q=J
 |[],q,he,_=>by simp[cO,af]at he;subst he;rfl
 |x::r,q,he,A=>by
  obtain⟨y,D,rfl,h1,h2⟩:=db he;simp[lC,ak]at A;simp[h_,ak];exact⟨So h1 A.1,tI h2 A.2⟩
def Le (x y:AV):Prop:=∀(φ:PM) (O:Nat->Prop) (w:World) (v:Value),cG φ O w x v->cG φ O w y v
def Le.refl (x:AV):Le x x:=λ_ _ _ _ h=>h
def kY (H H':HF) (x y:AV):Prop:=∀(φ:PM) (E:Nat->Prop) (w:World) (v:Value),qE φ E H w->cG φ (tot E φ H) w x v->cG φ (tot E φ H') w y v
def uu (H H':HF):Prop:=∀i b,H' i=Z b->∃b0,H i=Z b0
def uu.refl (H:HF):uu H H:=λ_ b h=>⟨b,h⟩
variable {S:HF}
def uu.own {H':HF} (d:uu S H') (h:own V H' i):own V S i:=by
 let⟨k,b,h1,h2⟩:=h;let⟨b0,h3⟩:=d k b h1;exact⟨k,b0,h3,h2⟩
def uu.tot {H':HF} (d:uu S H') (h:tot O V H' i):tot O V S i:=h.imp id d.own
def cG.dom {H':HF} (d:uu S H') (h:cG V (tot O V S) w y v):cG V (tot O V H') w y v:=
 h.ext (λ_ _ h=>h) (ES.refl _ w) λ_ _ q=>d.tot q
def nA.dom {H':HF} (d:uu S H') {x:FV} (h:nA (tot O V S) w x v):nA (tot O V H') w x v:=
 h.ext (ES.refl _ w) λ_ _ q=>d.tot q
def Le.toH {H':HF} (d:uu S H') {x:AV} (h:Le x y):kY S H' x y:=λφ E w v _ q=>(h _ _ _ _ q).dom d
def kY.refl {H':HF} (d:uu S H') (x:AV):kY S H' x x:=(Le.refl x).toH d
def iy (H H':HF):Y AV->Y AV->Prop
 |[],[]=>True
 |x::xs,y::q=>kY H H' x y/\iy H H' xs q
 |_,_=>False
def iy.refl {H':HF} (d:uu S H'):∀l,iy S H' l l
 |[]=>trivial
 |x::r=>⟨kY.refl d x,iy.refl d r⟩
def iy.length {H':HF}:∀{l q:Y AV},iy S H' l q->l! q=l! l
 |[],[],_=>rfl
 |[],_::_,h|_::_,[],h=>h.elim
 |_::_,_::_,h=>by simp[iy.length h.2]
def iy.get {H':HF}:∀{l A:Y AV},iy S H' l A->∀(j:Nat) y,A[j]? =Z y->∃x,l[j]? =Z x/\kY S H' x y
 |[],[],_,j,y,q=>by simp at q
 |[],_::_,h,_,_,_|_::_,[],h,_,_,_=>h.elim
 |x::xs,z::ys,h,j,y,q=>by
  cases j with
  |zero=>simp at q;subst q;exact⟨x,rfl,h.1⟩
  |succ j=>simpa using iy.get h.2 j y (by grind)
def iy.append {H':HF}:∀{a q b b':Y AV},iy S H' a q->iy S H' b b'->iy S H' (a++b) (q++b')
 |[],[],_,_,_,h=>h
 |[],_::_,_,_,h,_|_::_,[],_,_,h,_=>h.elim
 |_::_,_::_,_,_,h,h'=>⟨h.1,iy.append h.2 h'⟩
def iy.take {H':HF}:∀{a q:Y AV} (n:Nat),iy S H' a q->iy S H' (a.take n) (q.take n)
 |[],[],n,_=>by simp[iy]
 |[],_::_,_,h|_::_,[],_,h=>h.elim
 |_::_,_::_,0,_=>trivial
 |_::_,_::_,n+1,h=>⟨h.1,iy.take n h.2⟩
def iy.drop {H':HF}:∀{a q:Y AV} (n:Nat),iy S H' a q->iy S H' (a.drop n) (q.drop n)
 |[],[],n,_=>by simp[iy]
 |[],_::_,_,h|_::_,[],_,h=>h.elim
 |_::_,_::_,0,h=>h
 |_::_,_::_,n+1,h=>iy.drop n h.2
def iy.splice {H':HF} {q b b':Y AV} (off:Nat) (h1:iy S H' K q) (h2:iy S H' b b'):iy S H' (splice K off b) (splice q off b'):=by
 unfold AI.splice;rw[h2.length];exact ((h1.take off).append h2).append (h1.drop _)
def ii (H H':HF) (b b':nk):Prop:=∀(φ:PM) (E:Nat->Prop) (w:World) (o:Obj),qE φ E H w->jS φ (tot E φ H) w b o->jS φ (tot E φ H') w b' o
def ii.refl {H':HF} (d:uu S H') (b:nk):ii S H' b b:=λ_ _ _ _ _ h=>h.mono λ_ _ h=>h.dom d
def tO {c:BC} {o:Obj} (q:c.isCells=J):jS V O w ⟨A,c⟩ o↔∃arr,o= .cells arr A (0,0)/\xi V O w c arr:=by
 cases c<;>simp[BC.isCells]at q<;>rfl
def ii.C {H':HF} {c ty:BC} (I:c.isCells=J) (q:ty.isCells=J) (hl:iy S H' c.toMx ty.toMx) (hcell:∀x∈ty.toMx,x.isCell=J):ii S H' ⟨A,c⟩ ⟨A,ty⟩:=by
 intro φ E w o hrep N;rw[tO I]at N;rw[tO q];let⟨arr,h1,h2,h3⟩:=N;refine ⟨arr,h1,by rw[BC.len_toMx q,hl.length,<-BC.len_toMx I];exact h2,λj x D=>?_⟩;rw[BC.get_toMx q]at D;refine ⟨hcell x (bn D),?_⟩;let⟨y,hy,hle⟩:=hl.get j x D;let⟨_,v,h5,h6⟩:=h3 j y (by rw[BC.get_toMx I];exact hy);exact⟨v,h5,hle _ _ _ _ hrep h6⟩
def aik (ty:M TypeId) (l:Y AV):nk:=match ty with
 |some ty=>⟨ty,.mx l⟩
 |none=>⟨0,.mp []⟩
def ii.none {H':HF}:ii S H' ⟨0,.mp []⟩ ⟨0,.mp []⟩:=by
 intro φ E w o hrep A;let⟨ents,clock,h1,h2,h3⟩:=A;exact⟨ents,clock,h1,h2,λj x q=>by cases q⟩
def ii.eq {H':HF} (d:uu S H') {c D:BC} (ty:c.isCells=J) (q:D.isCells=J) (hl:c.toMx=D.toMx):ii S H' ⟨A,c⟩ ⟨A,D⟩:=by
 intro φ E w o hrep N;rw[tO ty]at N;rw[tO q];let⟨arr,h1,h2,h3⟩:=N;refine ⟨arr,h1,by rw[BC.len_toMx q,<-hl,<-BC.len_toMx ty];exact h2,λj x I=>?_⟩;rw[BC.get_toMx q,<-hl,<-BC.get_toMx ty]at I;let⟨h4,v,h5,h6⟩:=h3 j x I;exact⟨h4,v,h5,h6.dom d⟩
structure Od (H H':HF):Prop where
 dom:uu H H'
 jv:∀i b b',H i=Z b->H' i=Z b'->ii H H' b b'
def Od.refl (H:HF):Od H H:=⟨uu.refl H,λi b b' h h'=>by rw[h]at h';cases h';exact ii.refl (uu.refl H) b⟩
def Od.zj {H':HF} (φ:Od S H') (r:qE V O S w):qE V O H' w:=by
 refine ⟨λi j b b' k q N I D=>?_,λi b q=>?_,r.el,λg cells A=>(r.gl g cells A).dom φ.dom⟩
 .obtain⟨b0,q1⟩:=φ.dom i b q;let⟨b1,q2⟩:=φ.dom j b' N;exact r.inj i j b0 b1 k q1 q2 I D
 .obtain⟨b0,q1⟩:=φ.dom i b q;let⟨k,p1,p2,ob,p3,p4⟩:=r.at_ i b0 q1;exact⟨k,p1,p2,ob,p3,φ.jv i b0 b q1 q V O w ob r p4⟩
variable {j:Oper}
def gJ.view {e:EF} {val':AV} {rd q wr' N:ι} {A nw':HF} (ht:gJ P j e S ⟨y,rd,q,A,N⟩) (hsub:∀i∈q,i∈wr'\/i∈rd)
 (I:∀h':HF,(∀i∈rd,h' i=S i)->(∀i∈wr',h' i=S i)->Od (dX h' q A) (dX h' wr' nw')/\kY (dX h' q A) (dX h' wr' nw') y val'):gJ P j e S ⟨val',rd,wr',nw',N⟩:=by
 intro φ E h' w a h1 h2 h3 h4 h5;have D:=ht φ E h' w a h1 (λi hi=>(hsub i hi).elim (h2 i) (h1 i)) h3 h4 h5;let⟨V,hle⟩:=I h' h1 h2;refine Uh ?_ D;rintro a' w' ⟨v,φ',rfl,mv,nm',rp,rel⟩;exact⟨v,φ',rfl,⟨mv.sub,mv.ext,λk hk ho=>mv.qh k hk (V.dom.own ho)⟩,nm',V.zj rp,hle _ _ _ _ rp rel⟩
def Le.nil:Le (.f (.raw (.slice U 0 0))) (.f (.sl [] 0)):=by
 intro φ O w v q;cases q with
 |f q=>cases q;exact .f (.nil U 0 (by simp))
def Le.emp:Le .emp (.f (.sl [] 0)):=by
 intro φ O w v q;cases q with
 |emp=>exact .f (.nil _ 0 (by unfold maxLen;omega))
def Le.nilEmp:Le (.f (.raw (.slice U 0 0))) .emp:=by
 intro φ O w v q;cases q with
 |f q=>cases q;exact .emp
def Le.aggF {l:Y FV}:Le (.f (.agg l)) (.agg (l.map .f)):=by
 intro φ O w v A;cases A with
 |f A=>
  cases A with
  |agg _ vs hl hcl hrr=>
   refine .agg (by grind) (λx q=>?_) λj x u q N=>?_
   .obtain⟨y,I,rfl⟩:=cv.1 q;exact hcl y I
   .rw[bL]at q;cases D:l[j]? with
    |none=>rw[D]at q;cases q
    |some y=>rw[D]at q;simp at q;subst q;exact .f (hrr j y u D N)
def agm (l:Y AV):Le (Qu l) (.agg l):=by
 unfold Qu;split
 next q h=>rw[ta h];exact Le.aggF
 .exact Le.refl _
def kY.aggL {H':HF} {q:Y FV} (h:iy S H' K (q.map .f)) (hc:∀x∈q,x.isCell=J):kY S H' (.agg K) (.f (.agg q)):=by
 intro φ E w v hrep I;cases I with
 |@agg _ vs N hcl hrr=>
  refine .f (.agg q vs (by rw[N,<-h.length];simp) hc λj y u hy D=>?_);let⟨x,A,hle⟩:=h.get j (.f y) (by grind);have:=hle φ E w u hrep (hrr j x u A D);cases this with
  |f h=>exact h
def kY.G {H':HF} (d:uu S H') {n:Nat} {cells:Y FV} (h1:S i=Z ⟨A,.fz cells⟩) (h2:H' i=U) (hl:l! cells=n*m):kY S H' (.G i m n) (.f (.sl cells n)):=by
 intro φ E w v r N;cases N with
 |@G _ _ _ c k hφ hn hcap hsh=>
  let⟨k',q1,q2,_⟩:=r.at_ i _ h1;rw[hφ]at q1;cases q1;let⟨arr,p1,p2,p3⟩:=r.cs h1 hφ rfl;have hk:k<w.heap.size:=(cW.1 p1).1;have hlen:l! cells<=arr.size:=by simpa[BC.toMx] using p3
  have hnk:¬tot E φ H' k:=by
   rintro (hE|⟨j,b,D,ty⟩)
   .exact q2 hE
   .obtain⟨b0,g3⟩:=d j b D;have:=r.inj j i b0 _ k g3 h1 ty hφ
    grind
  have hget:∀(j:Nat) x,cells[j]? =Z x->∃u,arr[j]? =Z u/\nA (tot E φ S) w x u:=λj x q=>by
   have I:j<l! cells:=(bH.1 q).1;have hja:j<arr.size:=by omega
   refine ⟨arr[j],by simp[hja],?_⟩;have:=p2.2.2 j (.f x) arr[j] (by simp[BC.toMx,q]) (by
    rw[dG,aK (by simpa[BC.toMx] using I),ep];simp[hja])
   cases this with
   |f h=>exact h
  refine .f (.sl cells n c k 0 (λj=>(arr[j]?).getD undef) hn hcap hnk hk (λx q=>?_) (λj I=>?_) (λj x q=>?_))
  .have:=p2.2.1 (.f x) (by simp only[BC.toMx];exact cv.2 ⟨x,q,rfl⟩);exact this
  .have:j<arr.size:=by omega
   simp[Ry,p1,this]
  .obtain⟨u,D,ty⟩:=hget j x q;rw[D];exact ty.dom d
def uk:∀l:Y Xp,M5 l=l.flatMap yh
 |[]=>rfl
 |x::r=>by rw[M5,uk r];rfl
def B6:∀l:Y Sx,M4 l=l.flatMap AA
 |[]=>rfl
 |x::r=>by rw[M4,B6 r];rfl
def M3 (e:Xp):b8 QL (RE e)=yh e:=by
 cases e with
 |mk op n name l=>simp only[QL,RE,b8,yh,Xp.op,Xp.n,Xp.name,Xp.l,uk];rfl
def V9 (x:QL.den):yh (eJ x)=b8 QL x:=by
 simp only[QL,eJ,b8,yh,uk];rfl
def M2 (e:Sx):b8 Qh (RD e)=AA e:=by
 cases e with
 |mk op line name arg index expr body els=>simp only[Qh,RD,b8,AA,Sx.op,Sx.line,Sx.name,Sx.arg,Sx.index,Sx.expr,Sx.body,Sx.els,uk,B6];rfl
def V8 (x:Qh.den):AA (oZ x)=b8 Qh x:=by
 simp only[Qh,oZ,b8,AA,uk,B6];rfl
def Ac (e:Xp):l! (yh e)=4:=by cases e;simp[yh]
def Gk (e:Sx):l! (AA e)=11:=by cases e;simp[AA,Ac]
def bN:∀(T:Ty) (v:T.den),l! (b8 T v)=T.size
 |.int _,_|.bool,_|.str,_|.sl _,_=>rfl
 |.st t,v=>bN t v
 |.pr a b,v=>by simp[b8,Ty.size,bN a,bN b]
 |.un,_=>rfl
 |.ex,v=>Ac v
 |.sm,v=>Gk v
def M6 (e:Xp):∀x∈yh e,x.isCell=J:=by
 cases e with
 |mk op n name l=>
  intro x q;simp[yh,bk,cI,gH]at q;rcases q with rfl|rfl|rfl|rfl<;>rfl
def YR (e:Sx):∀x∈AA e,x.isCell=J:=by
 cases e with
 |mk op line name arg index expr body els=>
  intro x q;simp only[AA,bt,bk,cI,gH]at q;rcases q with (q|q)|q
  .rcases q with rfl|rfl|rfl|rfl|rfl<;>rfl
  .exact M6 _ _ q
  .rcases q with rfl|rfl<;>rfl
def pd:∀(T:Ty) (v:T.den),∀x∈b8 T v,x.isCell=J
 |.int _,_,x,q|.bool,_,x,q|.str,_,x,q|.sl _,_,x,q=>by simp[b8,aE]at q;subst q;rfl
 |.st t,v,x,q=>pd t v x q
 |.pr a b,v,x,q=>by
  simp[b8,bt]at q;exact q.elim (pd a v.1 x) (pd b v.2 x)
 |.un,_,x,q=>by simp[b8]at q
 |.ex,v,x,q=>M6 v x q
 |.sm,v,x,q=>YR v x q
def M7:∀(T:Ty) (v:T.den),T.one=J->b8 T v=[gr T v]/\T.size=1
 |.int _,_,_|.bool,_,_|.str,_,_|.sl _,_,_=>⟨rfl,rfl⟩
 |.st _,_,h|.pr _ _,_,h|.un,_,h|.ex,_,h|.sm,_,h=>by cases h
def rZ:∀(T:Ty) (v:T.den),T.one=aa->gr T v= .agg (b8 T v)
 |.int _,_,h|.bool,_,h|.str,_,h|.sl _,_,h=>by cases h
 |.st _,_,_|.pr _ _,_,_|.un,_,_|.ex,_,_|.sm,_,_=>rfl
def C1 (T:Ty) (v:T.den):(AV.f (gr T v)).cs=(b8 T v).map .f:=by
 cases h:T.one with
 |true=>
  cases T<;>simp[Ty.one]at h<;>first|rfl|cases h
 |false=>rw[rZ T v h];rfl
def fe {f:R->Y FV} (hf:∀x,l! (f x)=i):∀(xs:Y R),l! (xs.flatMap f)=l! xs*i
 |[]=>by simp
 |x::r=>by rw[hX,aF,hf,fe hf r,fX,nC];omega
def H_ {f:R->Y FV} (hf:∀x,l! (f x)=i):∀(xs:Y R) (j:Nat) (x:R),xs[j]? =Z x->∃r,(xs.flatMap f).drop (j*i)=f x++r
 |[],j,x,h=>by simp at h
 |y::r,j,x,h=>by
  cases j with
  |zero=>simp at h;subst h;exact⟨r.flatMap f,by simp⟩
  |succ j=>
   let⟨q,A⟩:=H_ hf r j x (by grind);refine ⟨q,?_⟩;rw[hX,show (j+1)*i=l! (f y)+j*i from by rw[hf,nC];omega,EW];simp[A]
def VV {f:R->Y FV} (hf:∀x,l! (f x)=i):∀(xs:Y R) (j:Nat) (x z:R),xs[j]? =Z x->∀(off:Nat) (vs:Y FV),off+l! vs<=i->f z=AI.splice (f x) off vs->(xs.set j z).flatMap f=AI.splice (xs.flatMap f) (j*i+off) vs
 |[],j,x,z,h,_,_,_,_=>by simp at h
 |y::r,j,x,z,h,off,vs,hle,q=>by
  cases j with
  |zero=>
   simp at h;subst h;simp only[List.set_cons_zero,hX,q,Nat.zero_mul,b9];unfold AI.splice;have D:=hf y;rw[List.take_append,EW];have e1:off-l! (f y)=0:=by omega
   have e2:off+l! vs-l! (f y)=0:=by omega
   rw[e1,e2];simp[bm]
  |succ j=>
   have A:=VV hf r j x z (by simpa using h) off vs hle q;simp only[List.set_cons_succ,hX,A];unfold AI.splice;have D:=hf y;have e0:(j+1)*i=l! (f y)+j*i:=by rw[hf,nC];omega
   rw[e0,List.take_append,EW];have e1:l! (f y)+j*i+off-l! (f y)=j*i+off:=by omega
   have e2:l! (f y)+j*i+off+l! vs-l! (f y)=j*i+off+l! vs:=by omega
   rw[e1,e2,gF (by omega:l! (f y)<=l! (f y)+j*i+off),List.drop_of_length_le (by omega:l! (f y)<=l! (f y)+j*i+off+l! vs)];simp[bm]
def vu (T:Ty) (xs:Y T.den):∀x∈xs.flatMap (b8 T),x.isCell=J:=λx q=>by
 let⟨y,_,h⟩:=lG.1 q;exact pd T y x h
def ip {S:Ty} {v:S.den} {x:T.den} (h:uY T v=Z x):∃e:S=T,x=e▸v:=by
 unfold uY at h
 grind
def mD (h:bf):∀(n:Nat) (T:Ty) (v:T.den) (l:Y TV),cellsOf n T v=Z l->cO h l=Z ((b8 T v).map .f)/\lC l=J
 |0,_,_,_,he=>by simp[cellsOf]at he
 |n+1,.st t,v,l,he=>mD h n t v l he
 |n+1,.pr a b,v,l,he=>by
  simp[cellsOf]at he;split at he
  .rename_i x y A q;simp[af]at he;subst he;let⟨h1,h2⟩:=mD h n a v.1 x A;let⟨h3,h4⟩:=mD h n b v.2 y q;refine ⟨by rw[b8,b7];exact oD h1 h3,?_⟩;clear h1 h3 A q;induction x with
   |nil=>exact h4
   |cons z r D=>simp[lC,ak,ft]at h2 ⊢;exact⟨h2.1,D h2.2⟩
  .cases he
 |n+1,.un,v,l,he=>by simp[cellsOf,af]at he;subst he;exact⟨rfl,rfl⟩
 |n+1,.ex,v,l,he=>by rw[b8,<-M3];exact mD h n QL (RE v) l he
 |n+1,.sm,v,l,he=>by rw[b8,<-M2];exact mD h n Qh (RD v) l he
 |n+1,.int k,v,l,he|n+1,.bool,v,l,he|n+1,.str,v,l,he|n+1,.sl t,v,l,he=>by simp[cellsOf,af]at he;subst he;exact⟨rfl,rfl⟩
def R8 (h:y.isCell=J):y.cs=[y]:=by
 cases y with
 |f x=>cases x<;>first|rfl|cases h
 |agg l=>cases h
 |_=>rfl
def Nz (A:u.cs=Z r) (D:co h u=Z y):cO h r=Z y.cs/\lC r=J:=by
 have one:(if u.isC then Z [u] else U)=Z r->cO h r=Z y.cs/\lC r=J:=λA=>by
  split at A
  next I=>simp[af]at A;subst A;exact⟨by rw[R8 (So D I)];exact qA D rfl,by simp[lC,I]⟩
  .cases A
 cases u with
 |agg q=>
  simp only[TV.cs]at A;split at A
  .rename_i I;simp[af]at A;subst A;simp[co]at D;split at D
   next l' N=>simp[af]at D;subst D;exact⟨N,I⟩
   .cases D
  .cases A
 |f T x=>
  simp[co,af]at D;subst D;rw[C1];exact mD h 40 T x r A
 |_=>exact one A
def Hk (h:bf) (H H':HF) (m:Nat):Prop:=∀id,aC m id=J->H (nm id)=erHF h (nm id)/\H' (nm id)=U
def Hk.zero {H':HF}:Hk h S H' 0:=λid hid=>by simp at hid
def Hk.or {H':HF} (g:Hk h S H' (i|||m)):Hk h S H' i/\Hk h S H' m:=
 ⟨λid hid=>g id (by grind),λid hid=>g id (by grind)⟩
def b_ :aC (kz i) m=J↔i=m:=by
 unfold kz;rw[CG,J7];simp
section pack
variable {h:bf} {H H':HF}
def Ak (d:uu H H') {x:T.den} (A:iJ h T u=Z (x,m)) (D:co h u=Z y) (g:Hk h H H' m):kY H H' y (.f (gr T x))/\l! y.cs=T.size/\(T.one=J->y.isCell=J)/\iy H H' y.cs ((b8 T x).map .f):=by
 cases u with
 |f S u=>
  simp[iJ]at A;split at A
  next z I=>obtain⟨rfl,_⟩:=A;obtain⟨e,rfl⟩:=ip I;subst e;simp[co,af]at D;subst D;refine ⟨kY.refl d _,by rw[C1,bj,bN],λho=>?_,by rw[C1];exact iy.refl d _⟩;cases S<;>simp[Ty.one]at ho<;>first|rfl|cases ho
  .cases A
 |emp=>
  simp[iJ]at A;split at A
  .simp[af,aV]at A;obtain⟨rfl,_⟩:=A;simp[co,af]at D;subst D;exact⟨Le.emp.toH d,rfl,λ_=>rfl,⟨Le.emp.toH d,trivial⟩⟩
  .cases A
 |nil=>
  simp[iJ]at A;split at A
  .simp[af,aV]at A;obtain⟨rfl,_⟩:=A;simp[co,af]at D;subst D;exact⟨Le.nil.toH d,rfl,λ_=>rfl,⟨Le.nil.toH d,trivial⟩⟩
  .cases A
 |G id=>
  simp[iJ]at A;split at A
  .rename_i ty p S xs hb;split at A
   .rename_i z I;obtain⟨rfl,rfl⟩:=A;obtain⟨e,rfl⟩:=ip I;subst e;let⟨g1,g2⟩:=g id (b_.2 rfl);rw[ct,hb]at g1;simp[co,eK,hb,af]at D;subst D;have key:kY H H' (dY p id S.size (l! xs)) (.f (gr (.sl S) xs)):=by
     unfold dY;split
     next hp=>simp only[ak,du]at hp;have:xs=[]:=fd.1 hp.2;subst this;exact Le.emp.toH d
     next hp=>simp only[aH,lx,ay hp]at g1;exact kY.G d g1 g2 (fe (bN S) xs)
    have N:(dY p id S.size (l! xs)).isCell=J:=by unfold dY;split<;>rfl
    refine ⟨key,by rw[R8 N];rfl,λ_=>N,?_⟩;rw[R8 N];exact⟨key,trivial⟩
   .cases A
  .cases A
 |_=>simp[iJ]at A
def tM (d:uu H H'):∀(n:Nat) (T:Ty) (l:Y TV) (x:T.den) (m:Nat) (r:Y TV) (D:Y AV),fL h n T l=Z (x,m,r)->cO h l=Z D->Hk h H H' m->∃l1 I,D=l1++I/\cO h r=Z I/\iy H H' l1 ((b8 T x).map .f)
 |0,_,_,_,_,_,_,hp,_,_=>by simp[fL]at hp
 |n+1,.st t,l,x,m,r,D,hp,A,g=>tM d n t l x m r D hp A g
 |n+1,.pr a b,l,x,m,r,D,hp,A,g=>by
  simp[fL]at hp;split at hp
  .rename_i x1 N r1 h1;split at hp
   next x2 m2 r2 h2=>simp[af,aV]at hp;obtain⟨rfl,rfl,rfl⟩:=hp;let⟨ga,gb⟩:=g.or;obtain⟨l1,I,rfl,q1,q2⟩:=tM d n a l x1 N r1 D h1 A ga;obtain⟨l3,l4,rfl,q3,q4⟩:=tM d n b r1 x2 m2 r2 I h2 q1 gb;refine ⟨l1++l3,l4,by simp,q3,?_⟩;rw[b8,b7];exact q2.append q4
   .cases hp
  .cases hp
 |n+1,.un,l,x,m,r,D,hp,A,g=>by
  obtain⟨_,_,rfl⟩:=hp;exact⟨[],D,rfl,A,trivial⟩
 |n+1,.ex,l,x,m,r,D,hp,A,g=>by
  simp[fL]at hp;split at hp
  next x1 N r1 h1=>simp[af,aV]at hp;obtain⟨rfl,rfl,rfl⟩:=hp;rw[b8,V9];exact tM d n QL l x1 N r1 D h1 A g
  .cases hp
 |n+1,.sm,l,x,m,r,D,hp,A,g=>by
  simp[fL]at hp;split at hp
  next x1 N r1 h1=>simp[af,aV]at hp;obtain⟨rfl,rfl,rfl⟩:=hp;rw[b8,V8];exact tM d n Qh l x1 N r1 D h1 A g
  .cases hp
 |n+1,.int k,l,x,m,r,D,hp,A,g|n+1,.bool,l,x,m,r,D,hp,A,g|n+1,.str,l,x,m,r,D,hp,A,g|n+1,.sl t,l,x,m,r,D,hp,A,g=>by
  simp[fL]at hp;split at hp
  .rename_i c q;split at hp
   next x1 N h1=>obtain⟨rfl,rfl,rfl⟩:=hp;obtain⟨y,I,rfl,q1,q2⟩:=db A;exact⟨[y],I,rfl,q2,⟨(Ak d h1 q1 g).1,trivial⟩⟩
   .cases hp
  .cases hp
def X8 (d:uu H H') {x:T.den} (hp:fL h i T r=Z (x,m,[])) (A:cO h r=Z K) (g:Hk h H H' m):iy H H' K ((b8 T x).map .f):=by
 obtain⟨I,D,rfl,q1,q2⟩:=tM d i T r x m [] K hp A g;simp[cO,af]at q1;subst q1;simpa using q2
def TX (d:uu H H') {x:T.den} (A:E0 h T u=Z (x,m)) (D:co h u=Z y) (g:Hk h H H' m):kY H H' y (.f (gr T x))/\iy H H' y.cs ((b8 T x).map .f):=by
 have other:iJ h T u=Z (x,m)->kY H H' y (.f (gr T x))/\iy H H' y.cs ((b8 T x).map .f):=λA=>by
  let⟨h1,_,_,h2⟩:=Ak d A D g;exact⟨h1,h2⟩
 cases u with
 |agg l=>
  simp only[E0]at A;split at A
  .cases A
  .rename_i ho;split at A
   .rename_i x1 N h1;simp[af,aV]at A;obtain⟨rfl,rfl⟩:=A;simp[co]at D;split at D
    next l' I=>simp[af]at D;subst D;have:=X8 d h1 I g;refine ⟨?_,this⟩;rw[rZ T x1 (by grind)];exact kY.aggL this (pd T x1)
    .cases D
   .cases A
 |_=>exact other A
def Ft (d:uu H H') :∀(n:Nat) (l:Y TV) (xs:Y T.den) (m:Nat) (q:Y AV),Dz h T n l=Z (xs,m)->cO h l=Z q->Hk h H H' m->iy H H' q ((xs.flatMap (b8 T)).map .f)/\l! xs=n
 |0,[],xs,m,q,hp,A,g=>by
  obtain⟨rfl,_⟩:=hp;simp[cO,af]at A;subst A;exact⟨trivial,rfl⟩
 |0,_::_,xs,m,q,hp,A,g=>by simp[Dz]at hp
 |n+1,l,xs,m,q,hp,A,g=>by
  simp[Dz]at hp;split at hp
  .rename_i x1 D r1 h1;split at hp
   next x2 m2 h2=>obtain⟨rfl,rfl⟩:=hp;let⟨ga,N⟩:=g.or;obtain⟨l1,I,rfl,q1,q2⟩:=tM d 40 T l x1 D r1 q h1 A ga;let⟨q3,q4⟩:=Ft d n r1 x2 m2 I h2 q1 N;refine ⟨?_,by simp[q4]⟩;rw[hX,b7];exact q2.append q3
   .cases hp
  .cases hp
def vX (h:bf):∀(n:Nat) (T:Ty) (v:T.den) (off sz:Nat) (D:Bool) (u:TV),oy n T v off sz D=Z u->off+sz<=T.size/\∃y,co h u=Z (.f y)/\(D=aa->sz=1/\(b8 T v)[off]? =Z y)/\(D=J->y= .agg (((b8 T v).drop off).take sz))
 |0,_,_,_,_,_,_,q=>by simp[oy]at q
 |n+1,.st t,v,off,sz,D,u,q=>by
  simp only[oy]at q;split at q
  next A=>simp only[ak]at A;obtain⟨⟨h1,h2⟩,rfl⟩:=A;have h1:=ar h1;have h2:=ar h2;subst h1 h2;cases q;refine ⟨by simp[Ty.size],_,rfl,nofun,λ_=>?_⟩;simp only[gr,b8,List.drop_zero];rw[<- bN t v,cH]
  .exact vX h n t v off sz D u q
 |n+1,.pr a b,v,off,sz,D,u,q=>by
  simp only[oy]at q;have hla:=bN a v.1;have hlb:=bN b v.2;split at q
  .rename_i hlt;have hlt:off<a.size:=aX hlt;let⟨h1,y,h2,h3,h4⟩:=vX h n a v.1 off sz D u q;refine ⟨by simp only[Ty.size];omega,y,h2,λe=>?_,λe=>?_⟩
   .obtain⟨N,I⟩:=h3 e;exact⟨N,by rw[b8,cU (by omega)];exact I⟩
   .rw[h4 e,b8]
    grind
  .rename_i hlt;have hlt:¬off<a.size:=λh=>hlt (bx h)
   let⟨h1,y,h2,h3,h4⟩:=vX h n b v.2 (off-a.size) sz D u q;refine ⟨by simp only[Ty.size];omega,y,h2,λe=>?_,λe=>?_⟩
   .obtain⟨N,I⟩:=h3 e;exact⟨N,by rw[b8,cB (by omega),hla];exact I⟩
   .rw[h4 e,b8];have:(b8 a v.1++b8 b v.2).drop off=(b8 b v.2).drop (off-a.size):=by
     rw[EW,hla,List.drop_of_length_le (by omega)];simp
    rw[this]
 |n+1,.un,v,off,sz,D,u,q=>by simp[oy]at q
 |n+1,.ex,v,off,sz,D,u,q=>by
  simp only[oy]at q;split at q
  next A=>simp only[ak]at A;obtain⟨⟨h1,h2⟩,rfl⟩:=A;have h1:=ar h1;have h2:=ar h2;subst h1 h2;cases q;refine ⟨by simp[Ty.size],_,rfl,nofun,λ_=>?_⟩;simp only[gr,b8,List.drop_zero];rw[<- Ac v,cH]
  .obtain⟨h1,y,h2,h3,h4⟩:=vX h n QL (RE v) off sz D u q;rw[M3]at h3 h4;exact⟨h1,y,h2,h3,h4⟩
 |n+1,.sm,v,off,sz,D,u,q=>by
  simp only[oy]at q;split at q
  next A=>simp only[ak]at A;obtain⟨⟨h1,h2⟩,rfl⟩:=A;have h1:=ar h1;have h2:=ar h2;subst h1 h2;cases q;refine ⟨by simp[Ty.size],_,rfl,nofun,λ_=>?_⟩;simp only[gr,b8,List.drop_zero];rw[<- Gk v,cH]
  .obtain⟨h1,y,h2,h3,h4⟩:=vX h n Qh (RD v) off sz D u q;rw[M2]at h3 h4;exact⟨h1,y,h2,h3,h4⟩
 |n+1,.int k,v,off,sz,D,u,q|n+1,.bool,v,off,sz,D,u,q|n+1,.str,v,off,sz,D,u,q|n+1,.sl t,v,off,sz,D,u,q=>by
  simp only[oy]at q;split at q
  next A=>simp only[ak,dE]at A;obtain⟨⟨h1,h2⟩,rfl⟩:=A;have h1:=ar h1;have h2:=ar h2;subst h1 h2;cases q;exact⟨by simp[Ty.size],_,rfl,λ_=>⟨rfl,rfl⟩,nofun⟩
  .cases q
def X1 (l vs:Y R) (h:l! vs=l! l):AI.splice l 0 vs=vs:=by
 unfold AI.splice
 grind
def Ur (a b vs:Y R) (off:Nat) (h:off+l! vs<=l! a):AI.splice (a++b) off vs=AI.splice a off vs++b:=by
 unfold AI.splice
 grind
def RL (a b vs:Y R) (off:Nat) (h:l! a<=off):AI.splice (a++b) off vs=a++AI.splice b (off-l! a) vs:=by
 unfold AI.splice;rw[List.take_append,EW,gF h,List.drop_of_length_le (by omega),show off+l! vs-l! a=off-l! a+l! vs from by omega];simp[bm]
def ac3 (H H':HF) (y:AV) (T:Ty) (v z:T.den) (off sz:Nat):Prop:=∃q:Y FV,iy H H' y.cs (q.map .f)/\l! q=sz/\off+sz<=T.size/\b8 T z=AI.splice (b8 T v) off q/\∀x∈q,x.isCell=J
def ac3.whole {v z:T.den} (h0:i=0) (q:m=T.size) (A:iy H H' y.cs ((b8 T z).map .f)):ac3 H H' y T v z i m:=by
 subst h0 q;exact⟨b8 T z,A,bN T z,by omega,(X1 _ _ (by rw[bN,bN])).symm,pd T z⟩
def xK (d:uu H H') (I:co h u=Z y):∀(n:Nat) (T:Ty) (v:T.den) (off sz:Nat) (z:T.den) (m:Nat),ik h u n T v off sz=Z (z,m)->Hk h H H' m->ac3 H H' y T v z off sz
 |0,_,_,_,_,_,_,A,_=>by simp[ik]at A
 |n+1,.st t,v,off,sz,z,m,A,g=>by
  simp only[ik]at A;split at A
  .rename_i q N;split at N
   next D=>simp only[ak]at D;simp only[af]at A;subst A;exact .whole (ar D.1) (ar D.2) (TX d N I g).2
   .cases N
  .exact xK d I n t v off sz z m A g
 |n+1,.pr a b,v,off,sz,z,m,A,g=>by
  simp only[ik]at A;have hla:=bN a v.1;split at A
  .rename_i hlt;split at A
   next z1 m1 h1=>simp only[af,aV]at A;obtain⟨rfl,rfl⟩:=A;let⟨fs,q1,q2,q3,q4,q5⟩:=xK d I n a v.1 off sz z1 m1 h1 g;refine ⟨fs,q1,q2,by simp only[Ty.size];omega,?_,q5⟩;rw[b8,b8,Ur _ _ _ _ (by omega),q4]
   .cases A
  .rename_i hlt;have hlt:¬off<a.size:=λh=>hlt (bx h)
   split at A
   next z1 m1 h1=>simp only[af,aV]at A;obtain⟨rfl,rfl⟩:=A;let⟨fs,q1,q2,q3,q4,q5⟩:=xK d I n b v.2 (off-a.size) sz z1 m1 h1 g;refine ⟨fs,q1,q2,by simp only[Ty.size];omega,?_,q5⟩;rw[b8,b8,RL _ _ _ _ (by omega),q4,hla]
   .cases A
 |n+1,.un,v,off,sz,z,m,A,g=>by simp[ik]at A
 |n+1,.ex,v,off,sz,z,m,A,g=>by
  simp only[ik]at A;split at A
  .rename_i q N;split at N
   next D=>simp only[ak]at D;simp only[af]at A;subst A;exact .whole (ar D.1) (ar D.2) (TX d N I g).2
   .cases N
  .split at A
   next z1 m1 h1=>simp only[af,aV]at A;obtain⟨rfl,rfl⟩:=A;let⟨fs,q1,q2,q3,q4,q5⟩:=xK d I n QL (RE v) off sz z1 m1 h1 g;exact⟨fs,q1,q2,q3,by rw[b8,b8,V9,q4,M3],q5⟩
   .cases A
 |n+1,.sm,v,off,sz,z,m,A,g=>by
  simp only[ik]at A;split at A
  .rename_i q N;split at N
   next D=>simp only[ak]at D;simp only[af]at A;subst A;exact .whole (ar D.1) (ar D.2) (TX d N I g).2
   .cases N
  .split at A
   next z1 m1 h1=>simp only[af,aV]at A;obtain⟨rfl,rfl⟩:=A;let⟨fs,q1,q2,q3,q4,q5⟩:=xK d I n Qh (RD v) off sz z1 m1 h1 g;exact⟨fs,q1,q2,q3,by rw[b8,b8,V8,q4,M2],q5⟩
   .cases A
 |n+1,.int k,v,off,sz,z,m,A,g|n+1,.bool,v,off,sz,z,m,A,g|n+1,.str,v,off,sz,z,m,A,g|n+1,.sl t,v,off,sz,z,m,A,g=>by
  simp only[ik]at A;split at A
  next D=>simp only[ak]at D;exact .whole (ar D.1) (ar D.2) (Ak d A I g).2.2.2
  .cases A
def G8:∀{a b:ξ},Rl a b=J->a=b
 |[],[],_=>rfl
 |[],_::_,h|_::_,[],h=>by cases h
 |x::xs,y::ys,h=>by
  simp[Rl,ak]at h;rw[ana h.1,G8 h.2]
def K3 (d:uu H H'):∀T:Ty,iy H H' ((uM T).map raw) ((b8 T T.zero).map .f)
 |.int k|.bool|.str=>⟨kY.refl d _,trivial⟩
 |.sl t=>⟨Le.nil.toH d,trivial⟩
 |.st t=>K3 d t
 |.pr a b=>by
  simp[uM,Ty.zero,b8,b7];exact (K3 d a).append (K3 d b)
 |.un=>trivial
 |.ex=>⟨kY.refl d _,kY.refl d _,kY.refl d _,Le.nil.toH d,trivial⟩
 |.sm=>⟨kY.refl d _,kY.refl d _,kY.refl d _,kY.refl d _,Le.nil.toH d,kY.refl d _,kY.refl d _,kY.refl d _,Le.nil.toH d,Le.nil.toH d,Le.nil.toH d,trivial⟩
def K7 (d:uu H H') (T:Ty):∀n,iy H H' ((repl (uM T) n).map .f) (((aD n T.zero).flatMap (b8 T)).map .f)
 |0=>trivial
 |n+1=>by
  rw[repl,mY,hX,b7,b7];have h1:=K3 (H:=H) (H':=H') d T;have:((uM T).map .raw).map AV.f=(uM T).map raw:=by rw[wF];rfl
  rw[this];exact h1.append (K7 d T n)
end pack
structure km (h:bf) (nx:Nat):Prop where
 C:∀id ty l,h.get id=Z (.C ty l)->lI h l=J
 low:∀id b,h.get id=Z b->id<nx
def sG (e:iu) (h:bf):Prop:=∀t v,e.get t=Z v->Qr h v=J
structure gP (P:Program) (o:Oper) (still:Bool) (e:iu) (h:bf) (nx:Nat) (v:TV) (rd wr:Nat) (h':bf) (nx':Nat):Prop where
 ex:∃f:Bm,gJ P o (gk e h) (erHF h) f/\(∀y,co h' v=Z y->f.val=y)/\dX (erHF h) f.wr f.nw=erHF h'/\(∀n∈f.rd,aC rd (ow n)=J)/\(∀n∈f.wr,aC wr (ow n)=J)/\(∀n∈f.N,nx<=ow n/\ow n<nx')
 F:cq h h'
 inv:km h' nx'
 zm:nx<=nx'
 st:still=J->rd=0/\wr=0
def j9 (P:Program) (o:Oper) (still:Bool) (e:iu) (h:bf) (nx:Nat) (K:KO R) (r:R):Prop:=
 ∃v rd q h' nx',K v rd q h' nx'=Z r/\gP P o still e h nx v rd q h' nx'
def cV {k:b=J->M R} {r:R} (h:chk b k=Z r):∃q:b=J,k q=Z r:=by
 cases b with
 |true=>exact⟨rfl,h⟩
 |false=>cases h
def oG {t f:M R} {r:R} (h:aJ b t f=Z r):(b=J/\t=Z r)\/(b=aa/\f=Z r):=by
 cases b with
 |true=>exact .inl ⟨rfl,h⟩
 |false=>exact .inr ⟨rfl,h⟩
def dR {α:Type} {o:M α} {k:α->M R} {r:R} (h:av o k=Z r):∃x,o=Z x/\k x=Z r:=by
 cases o with
 |some x=>exact⟨x,rfl,h⟩
 |none=>cases h
variable {a:Int}
def sZ (h:ij a i=J):0<=a/\a<i/\a.toNat<i:=by
 simp[ij,c8,gM,ak,bB]at h;omega
def gJ.envLe {e e2:EF} {f:Bm} (ht:gJ P j e S f) (hle:∀t y,.tmp t∈j.op.operands->e t=Z y->∃A,e2 t=Z A/\Le A y):gJ P j e2 S f:=by
 intro φ E h' w a h1 h2 h3 h4 I;refine ht φ E h' w a h1 h2 (λt q y D=>?_) h4 I;let⟨A,g1,N⟩:=hle t y q D;exact N _ _ _ _ (h3 t q A g1)
def Nw (h:bf) (q:cst v=Z u):co h u=Z (raw v)/\v.oneCell'=J/\u.isC=J:=by
 unfold cst at q;split at q<;>cases q<;>exact⟨rfl,rfl,rfl⟩
def xf (h:bf):∀{z:ξ} {l:Y TV},Nv z=Z l->cO h l=Z (z.map raw)/\(∀x∈z,x.oneCell'=J)/\lC l=J
 |[],l,q=>by simp[Nv,af]at q;subst q;exact⟨rfl,by simp,rfl⟩
 |v::r,l,q=>by
  simp[Nv]at q;split at q
  .rename_i x N A D;simp[af]at q;subst q;let⟨h1,h2,h3⟩:=Nw h A;let⟨h4,h5,I⟩:=xf h D;refine ⟨qA h1 h4,λy hy=>?_,by simp[lC,h3,I]⟩
   grind
  .cases q
variable {s:Operand}
def bE {e:iu} (hi:sG e h) (q:eA e s=Z u):∃y,lZ (EZ e h) s=Z y/\co h u=Z y:=by
 cases s with
 |tmp t=>
  simp[eA]at q;let⟨y,D⟩:=qF h u (hi t u q);refine ⟨y,?_,D⟩;simp[lZ];rw[CY];simp[gk,q,aH,D]
 |const c=>
  simp[eA]at q;unfold arc at q;split at q
  .rename_i vs;split at q
   .rename_i h1;split at q
    next l I=>simp[af]at q;subst q;refine ⟨.agg (vs.toList.map raw),?_,by simp[co,(xf h I).1]⟩;simp only[lZ,Ip,h1,bJ];rfl
    .cases q
   .cases q
  .rename_i N;refine ⟨raw c,?_,(Nw h q).1⟩;simp[lZ];unfold Ip;split
   .grind
   .rfl
 |func g=>
  simp[eA,af]at q;subst q;exact⟨_,rfl,rfl⟩
 |global g=>
  simp[eA]at q;cases A:G g with
  |none=>rw[A]at q;cases q
  |some cells=>
   rw[A]at q;simp[af]at q;subst q;have hcells:cells=FJ:=by
    unfold G at A
    grind
   subst hcells;exact⟨_,by simp[lZ,A];rfl,rfl⟩
def Fx {e:iu} (hi:sG e h):∀{xs:Y Operand} {l:Y TV},LR e xs=Z l->∃A,evs (EZ e h) xs=Z A/\cO h l=Z A
 |[],l,q=>by simp[LR,af]at q;subst q;exact⟨[],rfl,rfl⟩
 |x::xs,l,q=>by
  simp[LR]at q;split at q
  .rename_i y I;split at q
   next N hys=>simp[af]at q;subst q;let⟨D,h1,h2⟩:=bE hi I;let⟨A,h3,h4⟩:=Fx hi hys;exact⟨D::A,by simp[evs,h1,h3],qA h2 h4⟩
   .cases q
  .cases q
section ops
variable {R:Type} {P:Program} {o:Oper} {e:iu} {h:bf} {nx:Nat} {K:KO R} {r:R}
def gP.pure {s:Rr} (hinv:km h nx) (N:cY P o.op=Z s) {H:ie} (hH:H.get=erHF h) {k:Nat} {y0:AV} {rdl:ι} (ha:dO s (EZ e h) H k=Z ⟨y0,rdl,[],[],[]⟩) (D:∀y,co h u=Z y->Le y0 y) (hrd:∀n∈rdl,aC i (ow n)=J) (hst:b=J->i=0):gP P o b e h nx u i 0 h nx:=by
 have ht:=Fy N ha;rw[CY,hH]at ht;refine ⟨?_,λ_ _ h=>h,hinv,bi _,λI=>⟨hst I,rfl⟩⟩;have key:∀y,Le y0 y->gJ P o (gk e h) (erHF h) ⟨y,rdl,[],je [],[]⟩:=λy hle=>
  gJ.view ht (λrd hi=>by cases hi) λh' _ _=>⟨Od.refl _,hle.toH (uu.refl _)⟩
 cases A:co h u with
 |none=>exact⟨_,ht,λy q=>by simp at q,by simp[AS.eff,tL],hrd,by simp[AS.eff],by simp[AS.eff]⟩
 |some y=>exact⟨_,key y (D y A),λy' q=>by simpa using q,by simp[tL],hrd,by simp,by simp⟩
def j9.q {s:Rr} (hinv:km h nx) (N:cY P o.op=Z s) {k:Nat} {y0:AV} (ha:∀H:ie,H.get=erHF h->dO s (EZ e h) H k=rv y0) (D:∀y,co h u=Z y->Le y0 y) (I:K u 0 0 h nx=Z r):j9 P o b e h nx K r:=by
 let⟨H,A⟩:=jP h;exact⟨u,0,0,h,nx,I,gP.pure hinv N A (ha H A) D (by simp) λ_=>rfl⟩
def cZ (A:co h u=Z y):∀y0,co h u=Z y0->Le y y0:=λy0 q=>by rw[A]at q;cases q;exact Le.refl _
def afo {xs:Y T.den} (N:ij a (l! xs)=J) (hg:oy 40 T (aw _ xs a) i m b=Z u):
 ∃y,co h u=Z (.f y)/\(BC.fz (xs.flatMap (b8 T))).sub? (a.toNat*T.size+i) m b=Z (.f y):=by
 let⟨h1,y,h2,h3,h4⟩:=vX h 40 T _ i m b u hg;refine ⟨y,h2,?_⟩;let⟨_,_,hlt⟩:=sZ N;have I:xs[a.toNat]? =Z (aw _ xs a):=by
  unfold aw;rw[aA,aL hlt];rfl
 let⟨q,D⟩:=H_ (bN T) xs a.toNat _ I;have hlen:=fe (bN T) xs;have hle:(a.toNat+1)*T.size<=l! xs*T.size:=cg _ hlt;rw[nC]at hle;have hl:=bN T (aw _ xs a);cases b with
 |false=>
  let⟨h5,h6⟩:=h3 rfl;subst h5;simp only[BC.sub?,BC.get];have:(xs.flatMap (b8 T))[a.toNat*T.size+i]? =Z y:=by
   rw[<- iz,D,cU (by omega)];exact h6
  rw[this];rfl
 |true=>
  simp only[BC.sub?];rw[aK (bx (by omega)),h4 rfl,<-List.drop_drop,D,List.drop_append_of_le_length (by omega),Hf (by grind)]
def aoo {v:T.den} (A:oy 40 T v i m b=Z u):
 ∃y,co h u=Z (.f y)/\(BC.fz (b8 T v)).sub? i m b=Z (.f y):=by
 let⟨h1,y,h2,h3,h4⟩:=vX h 40 T _ i m b u A;refine ⟨y,h2,?_⟩;have N:=bN T v;cases b with
 |false=>
  let⟨I,D⟩:=h3 rfl;subst I;simp only[BC.sub?,BC.get,D];rfl
 |true=>
  simp[BC.sub?];simp_all
def ZX {l:Y TV} {A:Y AV} (D:cO h l=Z A) (q:XY l i m b=Z u):∃y,co h u=Z y/\(BC.mx A).sub? i m b=Z y:=by
 cases b with
 |false=>
  simp only[XY]at q;split at q
  next h1=>have h1:=ar h1;subst h1;let⟨y,h2,h3⟩:=mT D i u q;exact⟨y,h3,by simp[BC.sub?,BC.get,h2]⟩
  .cases q
 |true=>
  simp only[XY]at q;split at q
  next h1=>simp[af]at q;subst q;have h2:=Ic m (If i D);exact⟨.agg ((A.drop i).take m),by simp[co,h2],by simp[BC.sub?,iP D,h1,bJ]⟩
  .cases q
def UZ (A:aag h u=Z i) (D:co h u=Z y):y.slen=Z i:=by
 unfold aag at A;split at A
 .simp[af]at A;subst A;simp[co,af]at D;subst D;rfl
 .simp[af]at A;subst A;simp[co,af]at D;subst D;rfl
 .simp[af]at A;subst A;simp[co,af]at D;subst D;rfl
 .rename_i id;simp[co]at D;cases I:eK h id with
  |none=>rw[I]at A;cases A
  |some q=>
   rw[I]at A D;simp[af]at A D;subst A D;unfold dY;split
   next hp=>simp[ak,du]at hp;rw[hp.2];rfl
   .rfl
 .simp[af]at A;subst A;simp[co,af]at D;subst D;rfl
 .simp[af]at A;subst A;simp[co,af]at D;subst D;simp only[YO,vB];split
  next hp=>rw[du]at hp;rw[hp];rfl
  .rfl
 .cases A
def G7 (a b:ζ):tH ⟨a.toArray⟩ ⟨b.toArray⟩=decide (a=b):=by
 unfold tH
 grind
def an9 {op:BinOp} {v:TV} {q:TV->M R} (A:ari op u v q=Z r):∃a b c t,co h u=Z (raw a)/\co h v=Z (raw b)/\wA op a b=Z c/\co h t=Z (raw c)/\q t=Z r:=by
 unfold ari at A;split at A
 .rename_i k a I b;split at A
  .rename_i hkk;have hkk':k=I:=by grind
   subst hkk';refine ⟨.int k a,.int k b,?_⟩;cases op<;>simp[reduceCtorEq]at A<;>first
    |cases A
    |exact⟨_,_,rfl,rfl,(by simp[wA,c9,bJ]<;>rfl),rfl,A⟩
    |(let⟨N,A⟩:=cV A
      have D:(b==(0:Int))=aa:=by grind
      exact⟨_,_,rfl,rfl,by simp[wA,c9,bJ,D,cA,fM],rfl,A⟩)
  .cases A
 .rename_i a b;refine ⟨.string ⟨jV a⟩,.string ⟨jV b⟩,?_⟩;split at A
  .exact⟨.bool (decide ((a:ζ)=b)),_,rfl,rfl,by simp[wA,G7],rfl,A⟩
  .exact⟨.bool (!decide ((a:ζ)=b)),_,rfl,rfl,by simp[wA,G7],rfl,A⟩
  .cases A
 .cases A
def abt :∀{l:Y TV} {xs:Y T.den},yJ T l=Z xs->∀k,k<l! l->l[k]? =Z (.f T (xs.getD k T.zero))
 |[],xs,_,k,A=>by simp at A
 |.f S v::r,xs,q,k,A=>by
  simp[yJ]at q;split at q
  .rename_i x D;split at q
   .rename_i l I;simp[af]at q;subst q;let⟨N,ex⟩:=ip D;cases N;subst ex;cases k with
    |zero=>rfl
    |succ k=>simpa using abt I k (by grind)
   .cases q
  .cases q
 |.zw _ _ _ _ _::r,xs,q,k,A|.qn _ _ _ _::r,xs,q,k,A|.H _ _::r,xs,q,k,A|.qf _ _ _::r,xs,q,k,A|.G _::r,xs,q,k,A|.emp::r,xs,q,k,A|.nil::r,xs,q,k,A|.mp _::r,xs,q,k,A|.agg _::r,xs,q,k,A|.qp _::r,xs,q,k,A|.qv _ _::r,xs,q,k,A|.undef::r,xs,q,k,A|.np::r,xs,q,k,A|.qj::r,xs,q,k,A|.qc _ _::r,xs,q,k,A|.sb _::r,xs,q,k,A=>by simp[yJ]at q
def abs {l:Y TV} {xs:Y T.den} (q:aj4 l=Z ⟨T,xs⟩):∀k,k<l! l->l[k]? =Z (.f T (xs.getD k T.zero)):=by
 unfold aj4 at q;split at q
 .split at q
  next D A=>cases q;exact abt A
  .cases q
 .cases q
variable (hinv:km h nx) (hi:sG e h)
include hinv hi
variable {X:FuncId->M cr} {W:TypeId->M Ty}
def K_mv (I:cY P o.op=Z (.mv s)) (A:eH X W (.op (.mv s)) e h nx K=Z r):j9 P o b e h nx K r:=by
 simp[eH]at A;split at A
 next v D=>let⟨y,h1,h2⟩:=bE hi D;exact j9.q (k:=0) hinv I (λH _=>by simp[dO,h1]) (cZ h2) A
 .cases A
def at7 {a st:Operand} (N:cY P o.op=Z (.pick s a st)) (I:eH X W (.op (.pick s a st)) e h nx K=Z r):j9 P o b e h nx K r:=by
 simp[eH]at I;split at I
 .rename_i t hv;let⟨y,h1,h2⟩:=bE hi hv;simp[co,af]at h2;subst h2;rcases oG I with ⟨rfl,A⟩|⟨rfl,A⟩
  .split at A
   next v D=>let⟨y2,h3,h4⟩:=bE hi D;exact j9.q (k:=0) hinv N (λH _=>by simp[dO,h1,gr,bJ,h3]) (cZ h4) A
   .cases A
  .split at A
   next v D=>let⟨y2,h3,h4⟩:=bE hi D;exact j9.q (k:=0) hinv N (λH _=>by simp[dO,h1,gr,h3,cA,fM]) (cZ h4) A
   .cases A
 .cases I
def at8 (N:cY P o.op=Z (.zh s)) (D:eH X W (.op (.zh s)) e h nx K=Z r):j9 P o b e h nx K r:=by
 simp[eH]at D;split at D;all_goals first
  |(rename_i I
    let⟨y,h1,h2⟩:=bE hi I;have A:=h2;simp[co,af]at h2;subst h2;exact j9.q (k:=0) hinv N (λH _=>by simp[dO,h1]) (cZ A) D)
  |skip
 .rename_i g cap I;let⟨y,h1,h2⟩:=bE hi I;have A:=h2;simp[co]at h2;split at h2
  .simp[af]at h2;subst h2;exact j9.q (k:=0) hinv N (λH _=>by simp[dO,h1]) (cZ A) D
  .cases h2
 .cases D
def aws (I:cY P o.op=Z (.not s)) (A:eH X W (.op (.not s)) e h nx K=Z r):j9 P o b e h nx K r:=by
 simp[eH]at A;split at A
 next st D=>let⟨y,h1,h2⟩:=bE hi D;simp[co,af]at h2;subst h2;exact j9.q (k:=0) hinv I (λH _=>by simp[dO,h1,gr];rfl) (cZ rfl) A
 .cases A
def atd {k:IntKind} (I:cY P o.op=Z (.conv k s)) (A:eH X W (.op (.conv k s)) e h nx K=Z r):j9 P o b e h nx K r:=by
 simp[eH]at A;split at A
 next N n D=>let⟨y,h1,h2⟩:=bE hi D;simp[co,af]at h2;subst h2;exact j9.q (k:=0) hinv I (λH _=>by simp[dO,h1,gr];rfl) (cZ rfl) A
 .cases A
def ax6 {y:Operand} {st:Bool} (N:cY P o.op=Z (.jh b s y)) (A:eH X W (.op (.jh b s y)) e h nx K=Z r):j9 P o st e h nx K r:=by
 simp[eH]at A;split at A
 next a neg I D=>let⟨y,h1,h2⟩:=bE hi I;let⟨y2,h3,h4⟩:=bE hi D;simp[co,af]at h2 h4;subst h2 h4;exact j9.q (k:=0) hinv N (λH _=>by simp[dO,h1,h3,gr];rfl) (cZ rfl) A
 .cases A
def ao9 {st:Bool} (N:cY P o.op=Z (.zf b s)) (A:eH X W (.op (.zf b s)) e h nx K=Z r):j9 P o st e h nx K r:=by
 simp[eH]at A;split at A
 next D=>let⟨y,h1,h2⟩:=bE hi D;simp[co,af]at h2;subst h2;exact j9.q (k:=0) hinv N (λH _=>by simp[dO,h1,CW,bJ];rfl) (cZ rfl) A
 next D=>let⟨y,h1,h2⟩:=bE hi D;simp[co,af]at h2;subst h2;exact j9.q (k:=0) hinv N (λH _=>by simp[dO,h1]) (cZ rfl) A
 .rename_i T xs D;let⟨y,h1,h2⟩:=bE hi D;simp[co,af]at h2;subst h2;rcases oG A with ⟨h3,I⟩|⟨h3,I⟩
  .have h3:=ar h3;exact j9.q (k:=0) (y0:=.qj) hinv N (λH _=>by simp[dO,h1,gr,h3]) (cZ rfl) I
  .have h3:=fC h3;let⟨n,hn⟩:=Nat.exists_eq_succ_of_ne_zero h3;exact j9.q (k:=0) (y0:=raw (.bool b)) hinv N (λH _=>by simp[dO,h1,gr,hn]) (cZ rfl) I
 .rename_i id D;split at A
  next ty T xs hb=>let⟨y,h1,h2⟩:=bE hi D;simp[co,eK,hb,dY,fY,cA,fM,af]at h2;subst h2;exact j9.q (k:=0) (y0:=raw (.bool b)) hinv N (λH _=>by simp[dO,h1]) (cZ rfl) A
  .cases A
 .cases A
def awx {y:Operand} (N:cY P o.op=Z (.max s y)) (A:eH X W (.op (.max s y)) e h nx K=Z r):j9 P o b e h nx K r:=by
 simp[eH]at A;split at A
 .rename_i k a k' st I D;let⟨y,h1,h2⟩:=bE hi I;let⟨y2,h3,h4⟩:=bE hi D;simp[co,af]at h2 h4;subst h2 h4;split at A
  .exact j9.q (k:=0) hinv N (λH _=>by simp[dO,h1,h3,gr];rfl) (cZ rfl) A
  .cases A
 .cases A
def aww {y:Operand} (N:cY P o.op=Z (.min s y)) (A:eH X W (.op (.min s y)) e h nx K=Z r):j9 P o b e h nx K r:=by
 simp[eH]at A;split at A
 .rename_i k a k' st I D;let⟨y,h1,h2⟩:=bE hi I;let⟨y2,h3,h4⟩:=bE hi D;simp[co,af]at h2 h4;subst h2 h4;split at A
  .exact j9.q (k:=0) hinv N (λH _=>by simp[dO,h1,h3,gr];rfl) (cZ rfl) A
  .cases A
 .cases A
def ax3 (I:cY P o.op=Z (.jk i s)) (A:eH X W (.op (.jk i s)) e h nx K=Z r):j9 P o b e h nx K r:=by
 simp[eH]at A;split at A;all_goals first
  |(rename_i D
    let⟨y,h1,h2⟩:=bE hi D;simp[co,af]at h2;subst h2;exact j9.q (k:=0) hinv I (λH _=>by simp[dO,h1,qW]) (cZ rfl) A)
  |cases A
def ax2 {st:Bool} (N:cY P o.op=Z (.fld i m b s)) (A:eH X W (.op (.fld i m b s)) e h nx K=Z r):j9 P o st e h nx K r:=by
 simp[eH]at A;split at A
 .rename_i l D;split at A
  .rename_i u I;let⟨y,h1,h2⟩:=bE hi D;simp[co]at h2;split at h2
   next l' hl=>simp[af]at h2;subst h2;let⟨y,h3,h4⟩:=ZX hl I;exact j9.q (k:=0) hinv N (λH _=>by simp[dO,h1,h4]) (cZ h3) A
   .cases h2
  .cases A
 .rename_i T v D;split at A
  .cases A
  .rename_i ho;split at A
   next u I=>let⟨y,h1,h2⟩:=bE hi D;simp[co,af]at h2;rw[rZ T v (by grind)]at h2;subst h2;let⟨y,h3,h4⟩:=aoo (h:=h) I;exact j9.q (k:=0) hinv N (λH _=>by simp[dO,h1,h4]) (cZ h3) A
   .cases A
 .cases A
def ax0 {n:Operand} {st:Bool} (hc:cY P o.op=Z (.idx i m b s n)) (A:eH X W (.op (.idx i m b s n)) e h nx K=Z r):j9 P o st e h nx K r:=by
 simp[eH]at A;split at A
 .rename_i v0 k j hv N;split at A
  .rename_i T xs hA;let⟨hb,A⟩:=cV A;cases b with
   |true=>cases hA
   |false=>
   simp only[aup]at hA;split at hA
   .rename_i hsz;simp only[ak,dE]at hsz;have hsz1:=ar hsz.1;subst hsz1;split at hA
    .rename_i l hl;split at hA
     .rename_i hn;have hn:=ar hn;let⟨y,h1,h2⟩:=bE hi hv;let⟨y2,h5,I⟩:=bE hi N;simp[co,af]at I;subst I;have hj:j.toNat<l! l:=by
       simp[ak,c8,gM,bB]at hb;omega
      have hg:=abs hA j.toNat hj;let⟨he,_⟩:=Nz hl h2;let⟨z,D,hz2⟩:=mT he j.toNat _ hg;refine j9.q (k:=0) hinv hc (λH _=>?_) (cZ hz2) A;cases v0 with
      |agg q=>
       simp[co]at h2;split at h2
       next l' _=>simp[af]at h2;subst h2;have D:l'[j.toNat]? =Z z:=D;simp[dO,h1,h5,gr,hb,bJ,BC.sub?,BC.get,He,D]
       .cases h2
      |f S u=>
       have ho:S.one=aa:=by
        have:=hsz.2;simpa[TV.isC] using this
       simp[co,af]at h2;rw[rZ S u ho]at h2;subst h2;have D:((b8 S u).map AV.f)[j.toNat]? =Z z:=D;rw[bL]at D;simp[dO,h1,h5,gr,hb,bJ,BC.sub?,BC.get,He,D]
      |_=>simp[TV.cs,TV.isC]at hl hsz
     .cases hA
    .cases hA
   .cases hA
  .split at A
   .rename_i l;let⟨hb,A⟩:=cV A;split at A
    .rename_i u hs;let⟨y,h1,h2⟩:=bE hi hv;let⟨y2,h5,I⟩:=bE hi N;simp[co,af]at I;subst I;simp[co]at h2;split at h2
     next l' hl=>simp[af]at h2;subst h2;let⟨y,h3,h4⟩:=ZX hl hs;exact j9.q (k:=0) hinv hc (λH _=>by simp[dO,h1,h5,gr,hb,bJ,h4]) (cZ h3) A
     .cases h2
    .cases A
   .rename_i T v _;split at A
    .cases A
    .rename_i ho;let⟨hb,A⟩:=cV A;split at A
     next u hs=>let⟨y,h1,h2⟩:=bE hi hv;let⟨y2,h5,I⟩:=bE hi N;simp[co,af]at I h2;subst I;rw[rZ T v (by grind)]at h2;subst h2;let⟨y,h3,h4⟩:=aoo (h:=h) hs;exact j9.q (k:=0) hinv hc (λH _=>by simp[dO,h1,h5,gr,hb,bJ,h4]) (cZ h3) A
     .cases A
   .cases A
 .cases A
def atc {n:Operand} (N:cY P o.op=Z (.jx i m s n)) (A:eH X W (.op (.jx i m s n)) e h nx K=Z r):j9 P o b e h nx K r:=by
 simp[eH]at A;split at A
 .rename_i id off k j hv D;let⟨y,h1,h2⟩:=bE hi hv;let⟨y2,h5,h6⟩:=bE hi D;simp[co,af]at h6 h2;subst h6 h2;have pel:(chk (c8 0 j&&gM j i) λ_=>K (.qn id m j off) 0 0 h nx)=Z r->j9 P o b e h nx K r:=λA=>by
   let⟨I,A⟩:=cV A;exact j9.q (k:=0) (y0:=.H (nm id) (off+j.toNat*m)) hinv N (λH _=>by simp[dO,h1,h5,gr,I,bJ]) (cZ (by simp[co];rw[Nat.add_comm])) A
  split at A
  .exact pel A
  .split at A
   .exact pel A
   .obtain⟨I,A⟩:=cV A;exact j9.q (k:=0) hinv N (λH _=>by simp[dO,h1,h5,gr,I,bJ]) (cZ rfl) A
 .cases A
def awp {lo:Operand} (hc:cY P o.op=Z (.sla i m s lo)) (A:eH X W (.op (.sla i m s lo)) e h nx K=Z r):j9 P o b e h nx K r:=by
 simp only[eH]at A;split at A
 .rename_i id off k j hv I;split at A
  .rename_i ty p T xs hb;split at A
   next hs=>simp only[ak]at hs;have hs1:=ar hs.1;have N:=ar hs.2;subst hs1 N;let⟨y,h1,h2⟩:=bE hi hv;let⟨y2,h5,h6⟩:=bE hi I;simp[co,af]at h6 h2;subst h6 h2;let⟨D,A⟩:=cV A;simp only[ak]at D;have hn:=ar D.2.2;exact j9.q (k:=0) (y0:=.sl (nm id) (0+j.toNat*T.size) (i-j.toNat)) hinv hc (λH _=>by simp[dO,h1,h5,gr,D.1,D.2.1]) (cZ (by simp[co,eK,hb,hn])) A
   .cases A
  .cases A
 .cases A
def ax4 (hc:cY P o.op=Z (.ext s i)) (A:eH X W (.op (.ext s i)) e h nx K=Z r):j9 P o b e h nx K r:=by
 simp[eH]at A;split at A
 .rename_i l D;split at A
  .rename_i u I;let⟨y,h1,h2⟩:=bE hi D;simp[co]at h2;split at h2
   next l' N=>simp[af]at h2;subst h2;let⟨y,h3,h4⟩:=mT N i u I;exact j9.q (k:=0) hinv hc (λH _=>by simp[dO,h1,h3]) (cZ h4) A
   .cases h2
  .cases A
 .cases A
def awz (N:cY P o.op=Z (.len s)) (A:eH X W (.op (.len s)) e h nx K=Z r):j9 P o b e h nx K r:=by
 simp[eH]at A;split at A
 .rename_i v D;split at A
  next n I=>let⟨y,h1,h2⟩:=bE hi D;have h3:=UZ I h2;exact j9.q (k:=0) hinv N (λH _=>by simp[dO,h1,h3];rfl) (cZ rfl) A
  .cases A
 .cases A
def atb (I:cY P o.op=Z (.lens s)) (A:eH X W (.op (.lens s)) e h nx K=Z r):j9 P o b e h nx K r:=by
 simp[eH]at A;split at A
 next x D=>let⟨y,h1,h2⟩:=bE hi D;simp[co,af]at h2;subst h2;exact j9.q (k:=0) hinv I (λH _=>by simp[dO,h1,gr];rfl) (cZ rfl) A
 .cases A
def at6 {i:Operand} (hc:cY P o.op=Z (.jq s i)) (A:eH X W (.op (.jq s i)) e h nx K=Z r):j9 P o b e h nx K r:=by
 simp[eH]at A;split at A
 .rename_i x k j N D;let⟨hj,A⟩:=cV A;let⟨y,h1,h2⟩:=bE hi N;let⟨y2,h3,h4⟩:=bE hi D;simp[co,af]at h2 h4;subst h2 h4;let⟨I,j1,j2⟩:=sZ hj;have e1:c8 0 j=J:=by simp[c8,I]
  have e2:(⟨jV x⟩:ByteArray).data.toList[j.toNat]? =Z (List.getD x j.toNat 0):=by grind
  exact j9.q (k:=0) (y0:=raw (.int .u8 (aY (List.getD x j.toNat 0).toNat))) hinv hc (λH _=>by simp only[dO,h1,h3,gr,e1,bJ,e2];rfl) (cZ rfl) A
 .cases A
def ax1 {sz:Operand} (hc:cY P o.op=Z (.jy i s sz)) (A:eH X W (.op (.jy i s sz)) e h nx K=Z r):j9 P o b e h nx K r:=by
 simp only[eH]at A;split at A
 .rename_i id k j hv D;split at A
  .rename_i ty p T xs hb;split at A
   .rename_i I;have I:=ar I;let⟨hj,A⟩:=cV A;let⟨y,h1,h2⟩:=bE hi hv;let⟨y2,h3,h4⟩:=bE hi D;simp[co,af]at h4;subst h4;let⟨j0,j1,j2⟩:=sZ hj;have hne:¬((p&&l! xs==0)=J):=by grind
    simp only[co,eK,hb,dY,ay hne,af]at h2;subst h2;have hc1:(T.size==i&&c8 0 j&&gM j (l! xs))=J:=by
     simp[ij,ak]at hj;simp[I,hj.1,hj.2]
    exact j9.q (k:=0) hinv hc (λH _=>by simp[dO,h1,h3,gr,hc1,bJ,dL]) (cZ rfl) A
   .cases A
  .cases A
 .rename_i T xs k j hv D;split at A
  next I=>have I:=ar I;let⟨hj,A⟩:=cV A;let⟨y,h1,h2⟩:=bE hi hv;let⟨y2,h3,h4⟩:=bE hi D;simp[co,af]at h4 h2;subst h4 h2;have N:(c8 0 j&&gM j (ah xs))=J:=hj;exact j9.q (k:=0) hinv hc (λH _=>by simp[dO,h1,h3,gr,N,bJ,dL,I]) (cZ rfl) A
  .cases A
 .rename_i id sz' n k j hv D;split at A
  .rename_i I;have I:=ar I;subst I;let⟨hj,A⟩:=cV A;let⟨y,h1,h2⟩:=bE hi hv;let⟨y2,h3,h4⟩:=bE hi D;simp[co,af]at h4 h2;subst h4 h2;have N:(sz'==sz'&&c8 0 j&&gM j n)=J:=by grind
   exact j9.q (k:=0) hinv hc (λH _=>by simp only[dO,h1,h3,gr,N,bJ]) (cZ rfl) A
  .cases A
 .cases A
def awv {caps:Y Operand} (N:cY P o.op=Z (.mkf f caps)) (A:eH X W (.op (.mkf f caps)) e h nx K=Z r):j9 P o b e h nx K r:=by
 simp[eH]at A;split at A
 next l I=>let⟨D,h1,h2⟩:=Fx hi I;exact j9.q (k:=0) hinv N (y0:=.qv f D) (λH _=>by simp[dO,h1]) (cZ (by simp[co,h2])) A
 .cases A
def axa {op:BinOp} {y:Operand} (hc:cY P o.op=Z (.bin op s y)) (A:eH X W (.op (.bin op s y)) e h nx K=Z r):j9 P o b e h nx K r:=by
 simp[eH]at A;split at A
 next u v hv D=>let⟨a,st,c,t,h1,h2,h3,h4,h5⟩:=an9 (h:=h) A;let⟨y,g1,g2⟩:=bE hi hv;let⟨y2,N,I⟩:=bE hi D;rw[h1]at g2;cases g2;rw[h2]at I;cases I;simp[raw]at g1 N;exact j9.q (k:=0) hinv hc (λH _=>by simp[dO,g1,N,h3]) (cZ h4) h5
 .cases A
end ops
def kS:fm->M (Bool×j?)
 |.F _ p T xs=>Z (p,T.size,l! xs)
 |.qx p sz n=>Z (p,sz,n)
 |.qk F _ x|.qr F _ x _ _=>Aa F x
 |_=>U
def bW (h:bf) (i:Nat):eK h i=(h.get i).bind kS:=by
 unfold eK;cases h.get i with
 |none=>rfl
 |some b=>cases b<;>rfl
def cq.refl (h:bf):cq h h:=λ_ _ h=>h
def cq.trans {b c:bf} (h1:cq h b) (h2:cq b c):cq h c:=λi r a=>h2 i r (h1 i r a)
def cq.set {b:fm} (A:∀r,eK h i=Z r->kS b=Z r):cq h (h.set i (Z b)):=λj r q=>by
 rw[bW,PT.get_set];by_cases e:j=i
 .grind
 .rw[ay e,<-bW];exact q
def Ql {b:fm} {r:Bool×j?} (h:kS b=Z r):kS (uO b)=Z r:=by
 cases b with
 |qk F a x|qr F a x k p=>simp[kS]at h;simp[uO,h,kS]
 |_=>first|exact h|cases h
def BD {b:fm} {ty:M TypeId} (h:uO b= .C ty r):False:=by
 cases b<;>simp[uO]at h<;>first|cases h|(split at h<;>cases h)
def Mb (b:fm):∃p s n,uO b= .qx p s n:=by
 cases b with
 |qk F a x|qr F a x k p=>simp only[uO];split<;>exact⟨_,_,_,rfl⟩
 |_=>exact⟨_,_,_,rfl⟩
def ai3 {b:fm} (q:QM h i m (uO b)=Z z):False:=by
 let⟨p,s,n,e⟩:=Mb b;rw[e]at q;cases m<;>cases q
def iY (m:Nat) (h:bf) (i:Nat):(dZ m h).get i=if aC m i then (h.get i).map uO else h.get i:=by
 unfold dZ;split
 .simp_all
 .rw[PT.get_updI];simp[Nat.one_mul,dL];cases h.get i with
  |none=>simp
  |some b=>simp[bS];split<;>rfl
def cq.kill (m:Nat) (h:bf):cq h (dZ m h):=λi r q=>by
 rw[bW]at q ⊢;rw[iY];split
 .cases A:h.get i with
  |none=>rw[A]at q;cases q
  |some b=>rw[A]at q;exact Ql q
 .exact q
def km.set {nx':Nat} {b:fm} (hi:km h m) (A:cq h (h.set i (Z b))) (hlt:i<nx') (hle:m<=nx') (D:∀ty l,b= .C ty l->lI (h.set i (Z b)) l=J):km (h.set i (Z b)) nx':=by
 refine ⟨λj ty l q=>?_,λj c q=>?_⟩
 .rw[PT.get_set]at q;split at q
  .grind
  .exact gI A l (hi.C j _ l q)
 .rw[PT.get_set]at q;split at q
  .omega
  .exact dg (hi.low j c q) hle
def km.kill (hi:km h i) (m:Nat):km (dZ m h) i:=by
 refine ⟨λj ty l q=>?_,λj c q=>?_⟩
 .rw[iY]at q;refine gI (cq.kill m h) l (hi.C j ty l ?_);split at q
  .cases A:h.get j with
   |none=>rw[A]at q;cases q
   |some b=>rw[A]at q;exact (BD (fP q)).elim
  .exact q
 .rw[iY]at q;split at q
  .cases A:h.get j with
   |none=>rw[A]at q;cases q
   |some b=>exact hi.low j b A
  .exact hi.low j c q
def V5 {h':bf} (D:cq h h') {b:fm} (I:∀ty l,b= .C ty l->lI h l=J):lx h' b=lx h b:=by
 cases b with
 |C ty l=>
  let⟨A,q⟩:=fO h l (I ty l rfl);cases ty<;>simp[lx,q,iG D l A q]
 |_=>rfl
def v6 {h':bf} (q:cq h h') {b:fm} (A:∀ty l,b= .C ty l->lI h l=J) (i:Nat):∀k,QM h' i k b=QM h i k b
 |0=>V5 q A
 |_+1=>rfl
def ado {h':bf} (hi:km h m) (q:cq h h') (A:h'.get i=h.get i):erHF h' (nm i)=erHF h (nm i):=by
 rw[ct,ct,A];cases D:h.get i with
 |none=>rfl
 |some b=>exact V5 q λty l e=>hi.C i _ l (by rw[D,e])
def iU (h h':bf):Prop:=∀i k,(h'.get i).bind (zG i k)=(h.get i).bind (zG i k)
def iU.refl (h:bf):iU h h:=λ_ _=>rfl
def iU.trans {b c:bf} (h1:iU h b) (h2:iU b c):iU h c:=λi k=>(h2 i k).trans (h1 i k)
def noM:M fm->Bool
 |some (.qk _ _ _)=>aa
 |some (.qr _ _ _ _ _)=>aa
 |_=>J
def Lc {c:M fm} (q:noM c=J) (i k:Nat):c.bind (zG i k)=U:=by
 cases c with
 |none=>rfl
 |some b=>cases b<;>first|rfl|cases q
def iU.set {b:M fm} (h1:noM (h.get i)=J) (h2:noM b=J):iU h (h.set i b):=λj k=>by
 rw[PT.get_set];by_cases e:j=i
 .subst e;rw[aK rfl,Lc h1,Lc h2]
 .rw[ay e]
def iU.at_ {b:M fm} (h1:∀k,b.bind (zG i k)=(h.get i).bind (zG i k)):iU h (h.set i b):=λj k=>by
 rw[PT.get_set]
 grind
def iU.of {h':bf} (q:∀i,h'.get i=h.get i\/(noM (h.get i)=J/\noM (h'.get i)=J)):iU h h':=λj k=>by
 rcases q j with e|⟨e1,e2⟩
 .rw[e]
 .rw[Lc e1,Lc e2]
def iU.kill (hm:∀i,aC m i=J->∃ty p T xs,h.get i=Z (.F ty p T xs)):iU h (dZ m h):=λj k=>by
 rw[iY];split
 next A=>let⟨ty,p,T,xs,q⟩:=hm j A;rw[q];rfl
 .rfl
def mC {h':bf} (hi:km h i) (A:cq h h') (hm:iU h h') (D:∀nx,m=nm nx->h'.get nx=h.get nx):erHF h' m=erHF h m:=by
 cases q:ix m with
 |zero=>rw[xq q];exact ado hi A (D _ (xq q))
 |succ k=>
  have e:=lL m;rw[q]at e;rw[<- e,pO,pO];exact hm _ k
def M1 {h':bf} (hme:iU h h') (D:erHF h' i=Z z):erHF h i=Z z\/∃q A,i=nm q/\h'.get q=Z A/\lx h' A=Z z:=by
 cases I:ix i with
 |zero=>
  let⟨A,h1,h2⟩:=iH D;rw[I]at h2;exact .inr ⟨ow i,A,xq I,h1,h2⟩
 |succ k=>
  have e:=lL i;rw[I]at e;rw[<- e,pO]at D ⊢;exact .inl ((hme _ _).symm.trans D)
def IV (m:Nat):ι:=(Rk m).map nm
def o8 :i∈IV m↔∃n,i=nm n/\aC m n=J:=by
 unfold IV;rw[cv];constructor
 .rintro⟨n,h1,rfl⟩;exact⟨n,rfl,lV.1 h1⟩
 .rintro⟨n,rfl,h1⟩;exact⟨n,lV.2 h1,rfl⟩
def mq :nm i∈IV m↔aC m i=J:=by
 rw[o8];constructor
 .rintro⟨j,h1,h2⟩;rw[Bw h1];exact h2
 .grind
def dP (h:bf) (m:Nat):Prop:=∀i,aC m i=J->∃ty p T xs,h.get i=Z (.F ty p T xs)
def dP.zero (h:bf):dP h 0:=λi hi=>by simp at hi
def dP.or (A:dP h i) (q:dP h m):dP h (i|||m):=λa hi=>by
 rw[bD,eu]at hi;exact hi.elim (A a) (q a)
def mW {v:TV} {x:T.den} (A:iJ h T v=Z (x,m)):dP h m:=by
 cases v with
 |f S v|emp|nil=>
  simp[iJ]at A;split at A
  .simp[af,aV]at A;rw[<- A.2];exact dP.zero h
  .cases A
 |G id=>
  simp[iJ]at A;split at A
  .rename_i ty p S xs N;split at A
   .simp[af,aV]at A;rw[<- A.2];intro i hi;have:=b_.1 hi
    grind
   .cases A
  .cases A
 |_=>simp[iJ]at A
def wJ :∀(n:Nat) (T:Ty) (l:Y TV) (x:T.den) (m:Nat) (r:Y TV),fL h n T l=Z (x,m,r)->dP h m
 |0,_,_,_,_,_,hp=>by simp[fL]at hp
 |n+1,.st t,l,x,m,r,hp=>wJ n t l x m r hp
 |n+1,.pr a b,l,x,m,r,hp=>by
  simp[fL]at hp;split at hp
  .rename_i x1 q r1 h1;split at hp
   next x2 m2 r2 h2=>simp[af,aV]at hp;obtain⟨_,rfl,_⟩:=hp;exact (wJ n a l x1 q r1 h1).or (wJ n b r1 x2 m2 r2 h2)
   .cases hp
  .cases hp
 |n+1,.un,l,x,m,r,hp=>by
  obtain⟨_,rfl,_⟩:=hp;exact dP.zero h
 |n+1,.ex,l,x,m,r,hp=>by
  simp[fL]at hp;split at hp
  next x1 q r1 h1=>simp[af,aV]at hp;obtain⟨_,rfl,_⟩:=hp;exact wJ n QL l x1 q r1 h1
  .cases hp
 |n+1,.sm,l,x,m,r,hp=>by
  simp[fL]at hp;split at hp
  next x1 q r1 h1=>simp[af,aV]at hp;obtain⟨_,rfl,_⟩:=hp;exact wJ n Qh l x1 q r1 h1
  .cases hp
 |n+1,.int k,l,x,m,r,hp|n+1,.bool,l,x,m,r,hp|n+1,.str,l,x,m,r,hp|n+1,.sl t,l,x,m,r,hp=>by
  simp[fL]at hp;split at hp
  .split at hp
   next x1 q h1=>obtain⟨_,rfl,_⟩:=hp;exact mW h1
   .cases hp
  .cases hp
def abr {x:T.den} (A:E0 h T u=Z (x,m)):dP h m:=by
 cases u with
 |agg l=>
  simp only[E0]at A;split at A
  .cases A
  .split at A
   next x1 D h1=>simp[af,aV]at A;obtain⟨_,rfl⟩:=A;exact wJ 40 T l x1 D [] h1
   .cases A
 |f S u=>exact mW (v:=.f S u) A
 |zw T xs j N off=>exact mW (v:=.zw T xs j N off) A
 |qn id sz j off=>exact mW (v:=.qn id sz j off) A
 |H id off=>exact mW (v:=.H id off) A
 |qf id off z=>exact mW (v:=.qf id off z) A
 |G id=>exact mW (v:=.G id) A
 |emp=>exact mW (v:=.emp) A
 |nil=>exact mW (v:=.nil) A
 |mp id=>exact mW (v:=.mp id) A
 |zg id I=>exact mW (v:=.zg id I) A
 |qp q=>exact mW (v:=.qp q) A
 |qv g q=>exact mW (v:=.qv g q) A
 |undef=>exact mW (v:=.undef) A
 |np=>exact mW (v:=.np) A
 |qj=>exact mW (v:=.qj) A
 |qc S q=>exact mW (v:=.qc S q) A
 |sb q=>exact mW (v:=.sb q) A
def R6 :∀(n:Nat) (l:Y TV) (xs:Y T.den) (m:Nat),Dz h T n l=Z (xs,m)->dP h m
 |0,[],xs,m,hp=>by simp[Dz,af,aV]at hp;rw[<- hp.2];exact dP.zero h
 |0,_::_,xs,m,hp=>by simp[Dz]at hp
 |n+1,l,xs,m,hp=>by
  simp[Dz]at hp;split at hp
  .rename_i x1 q r1 h1;split at hp
   next x2 m2 h2=>obtain⟨_,rfl⟩:=hp;exact (wJ 40 T l x1 q r1 h1).or (R6 n r1 x2 m2 h2)
   .cases hp
  .cases hp
def CO :∀(n:Nat) (T:Ty) (v:T.den) (off sz:Nat) (z:T.den) (m:Nat),ik h u n T v off sz=Z (z,m)->dP h m
 |0,_,_,_,_,_,_,A=>by simp[ik]at A
 |n+1,.st t,v,off,sz,z,m,A=>by
  simp[ik]at A;split at A
  .rename_i q D;split at D
   .simp[af]at A;subst A;exact abr D
   .cases D
  .exact CO n t v off sz z m A
 |n+1,.pr a b,v,off,sz,z,m,A=>by
  simp[ik]at A;split at A
  .split at A
   next I N h1=>simp[af,aV]at A;obtain⟨_,rfl⟩:=A;exact CO n a v.1 off sz I N h1
   .cases A
  .split at A
   next I N h1=>simp[af,aV]at A;obtain⟨_,rfl⟩:=A;exact CO n b v.2 _ sz I N h1
   .cases A
 |n+1,.un,v,off,sz,z,m,A=>by simp[ik]at A
 |n+1,.ex,v,off,sz,z,m,A=>by
  simp[ik]at A;split at A
  .rename_i q D;split at D
   .simp[af]at A;subst A;exact abr D
   .cases D
  .split at A
   next I N h1=>simp[af,aV]at A;obtain⟨_,rfl⟩:=A;exact CO n QL _ off sz I N h1
   .cases A
 |n+1,.sm,v,off,sz,z,m,A=>by
  simp[ik]at A;split at A
  .rename_i q D;split at D
   .simp[af]at A;subst A;exact abr D
   .cases D
  .split at A
   next I N h1=>simp[af,aV]at A;obtain⟨_,rfl⟩:=A;exact CO n Qh _ off sz I N h1
   .cases A
 |n+1,.int k,v,off,sz,z,m,A|n+1,.bool,v,off,sz,z,m,A|n+1,.str,v,off,sz,z,m,A|n+1,.sl t,v,off,sz,z,m,A=>by
  simp only[ik]at A;split at A
  .exact mW A
  .cases A
def vw (hm:dP h m) (q:aC m i=J):∃p sz n,(dZ m h).get i=Z (.qx p sz n):=by
 let⟨ty,p,T,xs,h1⟩:=hm i q;exact⟨p,T.size,l! xs,by rw[iY,aK q,h1];rfl⟩
section ops
variable {R:Type} {P:Program} {o:Oper} {e:iu} {h:bf} {nx:Nat} {K:KO R} {r:R}
def fF (n:Nat) (b:nk):je [(n,b)] n=Z b:=by simp[je]
def gP.mk' {s:Rr} (hc:cY P o.op=Z s) {H:ie} (hH:H.get=erHF h) {k:Nat} {rdl wrl N:ι} {nw:NW} (ha:dO s (EZ e h) H k=Z ⟨y,rdl,wrl,nw,N⟩) {h':bf} {wr:Nat} (wr':ι)
 (hsub:∀nx'∈wrl,nx'∈wr') (hsame:∀n,n∉wr'->erHF h' n=erHF h n)
 (hdom:∀nx'∈wr',∀b',erHF h' nx'=Z b'->∃b,(if nx'∈wrl then je nw nx' else erHF h nx')=Z b)
 (hblk:∀(I H2:HF),uu I H2->(∀nx'∈wrl,I nx'=je nw nx')->(∀nx'∈wr',nx'∉wrl->I nx'=erHF h nx')->(∀nx'∈wr',H2 nx'=erHF h' nx')->(∀nx'∈wr',∀b b',I nx'=Z b->H2 nx'=Z b'->ii I H2 b b')/\∀y0,co h' u=Z y0->kY I H2 y y0)
 (hrd:∀n∈rdl,aC m (ow n)=J) (hwr:∀n∈wr',aC wr (ow n)=J) (hN:∀n∈N,nx<=ow n/\ow n<i) (hrows:cq h h') (hinv':km h' i) (hg:nx<=i):gP P o aa e h nx u m wr h' i:=by
 have ht:=Fy hc ha;rw[CY,hH]at ht;refine ⟨?_,hrows,hinv',hg,nofun⟩;have base:∀(val:AV),(∀y0,co h' u=Z y0->y0=val)->(co h' u=U->val=y)->gJ P o (gk e h) (erHF h) ⟨val,rdl,wr',erHF h',N⟩:=by
  intro val hval hnone;refine gJ.view ht (λnx' hi=>.inl (hsub nx' hi)) λh1 hr1 hw1=>?_
  have hd:uu (dX h1 wrl (je nw)) (dX h1 wr' (erHF h')):=by
   intro nx' b hb;unfold dX at hb ⊢
   grind
  let⟨q1,q2⟩:=hblk _ _ hd (λnx' hi=>by unfold dX;rw[aK hi]) (λnx' hi hw=>by unfold dX;rw[ay hw];exact hw1 nx' hi) (λnx' hi=>by unfold dX;rw[aK hi]);refine ⟨⟨hd,λnx' b b' hb D=>?_⟩,?_⟩
  .by_cases hi:nx'∈wr'
   .grind
   .unfold dX at hb D;rw[ay (λhw=>hi (hsub nx' hw))]at hb;rw[ay hi,hb]at D;cases D;exact ii.refl hd b
  .cases A:co h' u with
   |none=>rw[hnone A];exact kY.refl hd _
   |some y0=>rw[<- hval y0 A];exact q2 y0 A
 have hu:dX (erHF h) wr' (erHF h')=erHF h':=by
  unfold dX
  grind
 cases A:co h' u with
 |none=>exact⟨_,base y (λy0 q=>by rw[A]at q;cases q) (λ_=>rfl),λy0 q=>(by cases q),hu,hrd,hwr,hN⟩
 |some y0=>exact⟨_,base y0 (λy' q=>by rw[A]at q;cases q;rfl) (λhn=>by rw[A]at hn;cases hn),λy' q=>by cases q;rfl,hu,hrd,hwr,hN⟩
def Gh (hi:sG e h):∀(parts:Y J!) (cells cs:Y TV) (cells':Y AV),MV cells e parts=Z cs->cO h cells=Z cells'->∃cs',BX cells' (EZ e h) parts=Z cs'/\cO h cs=Z cs'/\(lC cells=J->lC cs=J)
 |[],cells,cs,cells',hf,he=>by simp only[MV,af]at hf;subst hf;exact⟨cells',rfl,he,id⟩
 |(off,sz,x)::rest,cells,cs,cells',hf,he=>by
  simp only[MV]at hf;split at hf
  .rename_i v hv;split at hf
   .rename_i q hq;split at hf
    .rename_i I;simp only[ak,du]at I;let⟨y,h1,h2⟩:=bE hi hv;let⟨h3,h4⟩:=Nz hq h2;let⟨cs',h5,h6,N⟩:=Gh hi rest (splice cells off q) cs (splice cells' off y.cs) hf (ui off he h3);refine ⟨cs',?_,h6,λD=>N ?_⟩
     .simp only[BX,h1];rw[aK,h5];simp only[ak,du];exact⟨⟨by rw[iP h3];exact I.1,by rw[iP he];exact I.2⟩,tI h3 h4⟩
     .clear h5 h6 N hf;have app:∀a b:Y TV,lC a=J->lC b=J->lC (a++b)=J:=by
       intro a b D hb;induction a with
       |nil=>exact hb
       |cons z r A=>simp only[lC,ak,ft]at D ⊢;exact⟨D.1,A D.2⟩
      have tk:∀(a:Y TV) n,lC a=J->lC (a.take n)=J:=by
       intro a;induction a with
       |nil=>intro n h;simp[lC]
       |cons z r A=>
        intro n h;cases n with
        |zero=>rfl
        |succ n=>simp only[lC,ak,J8]at h ⊢;exact⟨h.1,A n h.2⟩
      have dr:∀(a:Y TV) n,lC a=J->lC (a.drop n)=J:=by
       intro a;induction a with
       |nil=>intro n h;simp[lC]
       |cons z r A=>
        intro n h;cases n with
        |zero=>exact h
        |succ n=>simp only[lC,ak,List.drop_succ_cons]at h ⊢;exact A n h.2
      unfold splice
      grind
    .cases hf
   .cases hf
  .cases hf
variable (hinv:km h nx) (hi:sG e h)
include hinv hi
variable {X:FuncId->M cr} {W:TypeId->M Ty} {E:ξ} {d:Y (Nat×Nat×Operand)}
def aoa (N:cY P o.op=Z (.build E d)) (A:eH X W (.op (.build E d)) e h nx K=Z r):j9 P o b e h nx K r:=by
 simp[eH]at A;split at A
 .rename_i l I;split at A
  next cs hf=>let⟨h1,_,_⟩:=xf h I;let⟨cs',h2,h3,_⟩:=Gh hi d l cs _ hf h1;refine j9.q (k:=0) (y0:=Qu cs') hinv N (λH _=>by simp[dO,h2]) (λy D=>?_) A;simp[co,h3,af]at D;subst D;exact agm cs'
  .cases A
 .cases A
def ata (hc:cY P o.op=Z (.load i b s)) (A:eH X W (.op (.load i b s)) e h nx K=Z r):j9 P o aa e h nx K r:=by
 let⟨H,hH⟩:=jP h;simp only[eH]at A;split at A
 .rename_i id off hv;let⟨y,h1,h2⟩:=bE hi hv;simp[co,af]at h2;subst h2;split at A
  .rename_i ty l I;split at A
   .rename_i v hs;let⟨l',hl⟩:=fO h l (hinv.C id _ l I);let⟨y,h3,h4⟩:=ZX hl hs;have hg:H.get (nm id)=Z ⟨ty,.mx l'⟩:=by rw[hH,ct,I];simp[aH,lx,hl]
    exact⟨v,kz id,0,h,nx,A,gP.pure (k:=0) hinv hc hH (y0:=y) (rdl:=[nm id]) (by simp[dO,h1,yK,hg,h4]) (cZ h3) (λn D=>by simp[aE]at D;subst D;rw[d_];exact b_.2 rfl) nofun⟩
   .cases A
  .cases A
 .rename_i id sz' j off hv;let⟨y,h1,h2⟩:=bE hi hv;simp[co,af]at h2;subst h2;split at A
  .rename_i ty p T xs I;split at A
   .rename_i hsz;have hsz:=ar hsz;let⟨N,A⟩:=cV A;split at A
    .rename_i v hs;let⟨y,h3,h4⟩:=afo (h:=h) N hs;have hne:¬((p&&l! xs==0)=J):=by
      have:=sZ N
      grind
     have hg:H.get (nm id)=Z ⟨ty,.fz (xs.flatMap (b8 T))⟩:=by rw[hH,ct,I];simp only[aH,lx,ay hne]
     exact⟨v,kz id,0,h,nx,A,gP.pure (k:=0) hinv hc hH (y0:=.f y) (rdl:=[nm id]) (by simp[dO,h1,yK,hg,hsz,h4]) (cZ h3) (λn D=>by simp[aE]at D;subst D;rw[d_];exact b_.2 rfl) nofun⟩
    .cases A
   .cases A
  .rename_i ty l I;split at A
   .cases A
   .split at A
    .rename_i hsz;simp only[ak]at hsz;have e1:=ar hsz.1.1;have e2:=ar hsz.1.2;have e3:=ar hsz.2;subst e1 e2 e3;split at A
     .rename_i T xs hA;let⟨N,A⟩:=cV A;let⟨l',hl⟩:=fO h l (hinv.C id _ l I);have hg:H.get (nm id)=Z ⟨ty,.mx l'⟩:=by rw[hH,ct,I];simp[aH,lx,hl]
      have hlt:j.toNat<l! l:=by
       simp[ij,ak,c8,gM,bB]at N;omega
      let⟨z,hz1,hz2⟩:=mT hl j.toNat _ (abs hA j.toNat hlt);exact⟨_,kz id,0,h,nx,A,gP.pure (k:=0) hinv hc hH (y0:=z) (rdl:=[nm id]) (by simp[dO,h1,yK,hg,BC.sub?,BC.get,He,dL,hz1]) (cZ hz2) (λn D=>by simp[aE]at D;subst D;rw[d_];exact b_.2 rfl) nofun⟩
     .cases A
    .cases A
  .cases A
 .rename_i T xs j N off hv;let⟨y,h1,h2⟩:=bE hi hv;simp[co,af]at h2;subst h2;split at A
  next v hs=>let⟨y,h3,h4⟩:=afo (h:=h) N hs;exact j9.q (k:=0) (y0:=.f y) hinv hc (λH _=>by simp[dO,h1,yK,h4]) (cZ h3) A
  .cases A
 .cases A
def ax9 (hc:cY P o.op=Z (.box A s)) (I:eH X W (.op (.box A s)) e h nx K=Z r):j9 P o aa e h nx K r:=by
 let⟨H,hH⟩:=jP h;simp[eH]at I;split at I
 .rename_i v hv;split at I
  .rename_i l hl;let⟨y,h1,h2⟩:=bE hi hv;let⟨h3,h4⟩:=Nz hl h2;have hcell:=tI h3 h4;have hnone:h.get nx=U:=by
    cases N:h.get nx with
    |none=>rfl
    |some b=>have:=hinv.low nx b N;omega
   have q:cq h (h.set nx (Z (.C (Z A) l))):=cq.set λr q=>by rw[bW,hnone]at q;cases q
   have h5:=iG q l _ h3;have hb':erHF (h.set nx (Z (.C (Z A) l))) (nm nx)=Z ⟨A,.mx y.cs⟩:=by rw[ct,PT.get_set,aK rfl];simp[aH,lx,h5]
   refine ⟨_,_,_,_,_,I,gP.mk' hc hH (k:=nm nx) (by simp only[dO,h1,hcell,bJ];rfl) [nm nx] (λi hi=>hi) (λn ty=>?_) (λi hi b' _=>⟨⟨A,pq y.cs⟩,?_⟩) (λH1 H2 d hw1 _ hw2=>⟨λi hi b b' N D=>?_,λy hy=>?_⟩) (by simp) ?_ ?_ q (hinv.set q (by omega) (by omega) λty' l' he=>?_) (by omega)⟩
   .refine mC hinv q (iU.set (by rw[hnone];rfl) rfl) λi e=>?_
    rw[PT.get_set,ay (λe=>ty (by grind))]
   .simp[aE]at hi;subst hi;simp[je]
   .simp[aE]at hi;subst hi;rw[hw1 _ (by simp)]at N;rw[hw2 _ (by simp),hb']at D;rw[fF]at N;simp[af]at N D;subst N D;let⟨q1,q2⟩:=o6 y.cs;refine ii.C q2 rfl ?_ λs hx=>?_
    .rw[q1];exact iy.refl d _
    .exact mE hcell s hx
   .simp[co,af]at hy;subst hy;exact kY.refl d _
   .intro n ty;simp[aE]at ty;subst ty;rw[d_];exact b_.2 rfl
   .intro n ty;simp[aE]at ty;subst ty;rw[d_];omega
   .cases he;exact mB _ _ _ h5
  .cases I
 .cases I
def ao8 {c:Operand} (hcm:GY (W A)=U) (hc:cY P o.op=Z (.zk A i m E s c)) (ty:eH X W (.op (.zk A i m E s c)) e h nx K=Z r):j9 P o aa e h nx K r:=by
 let⟨H,hH⟩:=jP h;simp only[eH,hcm]at ty;split at ty
 .rename_i T k a k' b hT hv hv2;split at ty
  .rename_i hsz;simp only[ak]at hsz;have hs:=ar hsz.1;have hz:=G8 hsz.2;subst hs hz;let⟨hck,ty⟩:=cV ty;let⟨y,h1,h2⟩:=bE hi hv;let⟨y2,h3,h4⟩:=bE hi hv2;simp[co,af]at h2 h4;subst h2 h4;have hnone:h.get nx=U:=by
    cases hb:h.get nx with
    |none=>rfl
    |some b=>have:=hinv.low nx b hb;omega
   generalize hB:fm.F A aa T (aD (aN a) T.zero)=B at ty;have N:cq h (h.set nx (Z B)):=cq.set λr N=>by rw[bW,hnone]at N;cases N
   have hb':erHF (h.set nx (Z B)) (nm nx)=Z ⟨A,.fz ((aD (aN a) T.zero).flatMap (b8 T))⟩:=by rw[ct,PT.get_set,aK rfl,<-hB];simp[lx]
   refine ⟨_,_,_,_,_,ty,gP.mk' hc hH (k:=nm nx) (by simp only[dO,h1,h3,gr,hck,bJ];rfl) [nm nx] (λsz hi=>hi) (λn D=>?_) (λsz hi b' _=>⟨⟨A,.fz (repl (uM T) (aN a))⟩,?_⟩) (λH1 H2 d hw1 _ hw2=>⟨λsz hi b b' hb I=>?_,λy hy=>?_⟩) (by simp) ?_ ?_ N (hinv.set N (by omega) (by omega) λty' l' he=>?_) (by omega)⟩
   .refine mC hinv N (iU.set (by rw[hnone];rfl) (by rw[<- hB];rfl)) λsz e=>?_
    rw[PT.get_set,ay (λe=>D (by grind))]
   .simp[aE]at hi;subst hi;simp[je]
   .simp[aE]at hi;subst hi;rw[hw1 _ (by simp)]at hb;rw[hw2 _ (by simp),hb']at I;rw[fF]at hb;simp[af]at hb I;subst hb I;refine ii.C rfl rfl (K7 d T _) λx hx=>?_
    obtain⟨q,hq,rfl⟩:=cv.1 hx;exact vu T _ q hq
   .simp[co,bW,PT.get_set,bJ,<-hB,aH,kS,dY,fY,cA,fM,af,cR]at hy;subst hy;exact kY.refl d _
   .intro n D;simp[aE]at D;subst D;rw[d_];exact b_.2 rfl
   .intro n D;simp[aE]at D;subst D;rw[d_];omega
   .grind
  .cases ty
 .cases ty
end ops
def vq {f:R->Y FV} (hf:∀x,l! (f x)=i):∀(xs:Y R) (j:Nat),(xs.take j).flatMap f=(xs.flatMap f).take (j*i)
 |[],j|x::r,0=>by simp
 |x::r,j+1=>by
  rw[J8,hX,hX,vq hf r j,show (j+1)*i=l! (f x)+j*i from by rw[hf,nC];omega,List.take_length_add_append]
def zZ {f:R->Y FV} (hf:∀x,l! (f x)=i):∀(xs:Y R) (j:Nat),(xs.drop j).flatMap f=(xs.flatMap f).drop (j*i)
 |[],j|x::r,0=>by simp
 |x::r,j+1=>by
  rw[List.drop_succ_cons,hX,zZ hf r j,show (j+1)*i=l! (f x)+j*i from by rw[hf,nC];omega,List.drop_length_add_append]
variable {E:ξ}
def UE :∀(n:Nat) (x:FV),x∈repl E n->∃v∈E,x= .raw v
 |0,x,h=>by simp[repl]at h
 |n+1,x,h=>by
  rw[repl,bt]at h;rcases h with h|h
  .grind
  .exact UE n x h
def JZ:∀l:Y FV,(∀x∈l,x.isCell=J)->h_ (l.map .f)=J
 |[],_=>rfl
 |z::r,h=>by simp[eg,h_,ak];exact⟨h z (by simp),JZ r λx q=>h x (by grind)⟩
section ops
variable {R:Type} {P:Program} {o:Oper} {e:iu} {h:bf} {nx:Nat} {K:KO R} {r:R}
def km.fresh (hinv:km h nx):h.get nx=U:=by
 cases q:h.get nx with
 |none=>rfl
 |some b=>have:=hinv.low nx b q;omega
def uu.kill (hinv:km h nx) (hm:dP h m):uu (erHF h) (erHF (dZ m h)):=λn b N=>by
 let⟨c,q,A⟩:=iH N;rw[iY]at q;by_cases ht:aC m (ow n)=J
 .obtain⟨pp,ss,nn,I⟩:=vw hm ht;rw[iY]at I;rw[I]at q;cases q;cases D:ix n with
  |_=>rw[D]at A;cases A
 .rw[ay ht]at q;refine ⟨b,?_⟩;unfold erHF;rw[q];simp[aH];rw[<- v6 (cq.kill m h) (λty l e=>hinv.C (ow n) _ l (by rw[q,e]))];exact A
def dP.lt (hinv:km h nx) (hm:dP h m) (hi:aC m i=J):i<nx:=by
 let⟨_,_,_,_,q⟩:=hm i hi;exact hinv.low i _ q
def gP.new {s:Rr} (hinv:km h nx) (hc:cY P o.op=Z s) {H:ie} (hH:H.get=erHF h) {y0:AV} {rdl:ι} {b0:nk} (ha:dO s (EZ e h) H (nm nx)=Z ⟨y0,rdl,[nm nx],[(nm nx,b0)],[nm nx]⟩) {B:fm} {v:TV} {rd:Nat} (hm:dP h m)
 (hB:∀ty l,B= .C ty l->lI ((dZ m h).set nx (Z B)) l=J)
 (hblk:∀A q,uu A q->Hk h A q m->∀b',lx ((dZ m h).set nx (Z B)) B=Z b'->ii A q b0 b')
 (hval:∀A q y,uu A q->Hk h A q m->co ((dZ m h).set nx (Z B)) v=Z y->kY A q y0 y)
 (hrd:∀n∈rdl,aC rd (ow n)=J) (hMem:∀i k,zG i k B=U:=by exact λ_ _=>rfl):gP P o aa e h nx v rd (m|||kz nx) ((dZ m h).set nx (Z B)) (nx+1):=by
 have hk:=hinv.kill m;have hme:iU h ((dZ m h).set nx (Z B)):=(iU.kill hm).trans (iU.at_ λk=>by rw[hk.fresh];exact hMem nx k);have hr0:=cq.kill m h;have N:cq (dZ m h) ((dZ m h).set nx (Z B)):=cq.set λr hr=>by rw[bW,hk.fresh]at hr;cases hr
 have hr:=hr0.trans N;have hgiv:∀i,aC m i=J->erHF ((dZ m h).set nx (Z B)) (nm i)=U:=λi hi=>by
  have hlt:=hm.lt hinv hi;let⟨p,sz,n,hd⟩:=vw hm hi;rw[ct,PT.get_set,ay (by omega),hd];rfl
 refine gP.mk' hc hH ha (nm nx::IV m) (λi hi=>by simp[aE]at hi;subst hi;simp) (λn D=>?_) (λi hi b' hb'=>?_) (λA q d hw1 hw0 I=>?_) hrd ?_ ?_ hr (hk.set N (by omega) (by omega) hB) (by omega)
 .refine mC hinv hr hme λi e=>?_
  subst e;rw[PT.get_set,ay (λe=>D (by grind)),iY,ay];intro hb;exact D (bP _ (mq.2 hb))
 .rcases bk.1 hi with rfl|hi
  .exact⟨b0,by rw[aK (by simp),fF]⟩
  .obtain⟨j,rfl,hj⟩:=o8.1 hi
   grind
 .have g:Hk h A q m:=λi hi=>by
   have hlt:=hm.lt hinv hi;have hmem:nm i∈nm nx::IV m:=bP _ (mq.2 hi);exact⟨hw0 _ hmem (λhc=>by simp[aE]at hc;have:=Bw hc;omega),by rw[I _ hmem,hgiv i hi]⟩
  refine ⟨λi hi b b' hb hb2=>?_,λy hy=>hval A q y d g hy⟩;rcases bk.1 hi with rfl|hi'
  .rw[hw1 _ (by simp),fF]at hb;rw[I _ hi,ct,PT.get_set,aK rfl]at hb2
   grind
  .obtain⟨j,rfl,hj⟩:=o8.1 hi'
   grind
 .intro n D;rw[bD];rcases bk.1 D with rfl|D
  .rw[d_,b_.2 rfl];simp
  .obtain⟨j,rfl,hj⟩:=o8.1 D;rw[d_,hj];rfl
 .intro n D;simp[aE]at D;subst D;rw[d_];omega
def gP.wrt {s:Rr} (hinv:km h nx) (hc:cY P o.op=Z s) {H:ie} (hH:H.get=erHF h) {y0:AV} {rdl:ι} {b0:nk} {k:Nat} (ha:dO s (EZ e h) H k=Z ⟨y0,rdl,[nm i],[(nm i,b0)],[]⟩) {B0 B:fm} (hb0:h.get i=Z B0) {v:TV} {rd:Nat} (hm:dP h m) (hmid:aC m i=aa)
 (hrow:kS B=kS B0) (hB:∀ty l,B= .C ty l->lI ((dZ m h).set i (Z B)) l=J)
 (hblk:∀A q,uu A q->Hk h A q m->∀b',lx ((dZ m h).set i (Z B)) B=Z b'->ii A q b0 b')
 (hval:∀A q y,uu A q->Hk h A q m->co ((dZ m h).set i (Z B)) v=Z y->kY A q y0 y)
 (hrd:∀n∈rdl,aC rd (ow n)=J) (hMem:∀k,zG i k B=zG i k B0:=by exact λ_=>rfl):gP P o aa e h nx v rd (m|||kz i) ((dZ m h).set i (Z B)) nx:=by
 have hk:=hinv.kill m;have hr0:=cq.kill m h;have hkid:(dZ m h).get i=Z B0:=by rw[iY,hmid];simpa using hb0
 have N:cq (dZ m h) ((dZ m h).set i (Z B)):=cq.set λr hr=>by rw[bW,hkid]at hr;rw[hrow];exact hr
 have hme:iU h ((dZ m h).set i (Z B)):=(iU.kill hm).trans (iU.at_ λk=>by rw[hkid];exact hMem k);have hr:=hr0.trans N;have hgiv:∀id,aC m id=J->erHF ((dZ m h).set i (Z B)) (nm id)=U:=λid hi=>by
  have hne:id≠i:=λe=>by grind
  let⟨p,sz,n,hd⟩:=vw hm hi;rw[ct,PT.get_set,ay hne,hd];rfl
 refine gP.mk' hc hH ha (nm i::IV m) (λid hi=>by simp[aE]at hi;subst hi;simp) (λn D=>?_) (λid hi b' hb'=>?_) (λA q d hw1 hw0 I=>?_) hrd ?_ (by simp) hr (hk.set N (hinv.low i B0 hb0) (by omega) hB) (by omega)
 .refine mC hinv hr hme λid e=>?_
  subst e;rw[PT.get_set,ay (λe=>D (by grind)),iY,ay];intro hb;exact D (bP _ (mq.2 hb))
 .rcases bk.1 hi with rfl|hi
  .exact⟨b0,by rw[aK (by simp),fF]⟩
  .obtain⟨j,rfl,hj⟩:=o8.1 hi
   grind
 .have g:Hk h A q m:=λid hi=>by
   have hne:id≠i:=λe=>by grind
   have hmem:nm id∈nm i::IV m:=bP _ (mq.2 hi);exact⟨hw0 _ hmem (λhc=>by simp[aE]at hc;exact hne (Bw hc)),by rw[I _ hmem,hgiv id hi]⟩
  refine ⟨λid hi b b' hb hb2=>?_,λy hy=>hval A q y d g hy⟩;rcases bk.1 hi with rfl|hi'
  .rw[hw1 _ (by simp),fF]at hb;rw[I _ hi,ct,PT.get_set,aK rfl]at hb2
   grind
  .obtain⟨j,rfl,hj⟩:=o8.1 hi'
   grind
 .intro n D;rw[bD];rcases bk.1 D with rfl|D
  .rw[d_,b_.2 rfl];simp
  .obtain⟨j,rfl,hj⟩:=o8.1 D;rw[d_,hj];rfl
def Qm (h:bf) {q:Y TV} (A:Nv E=Z q):∀len,cO h (aD len q).flatten=Z ((repl E len).map .f)
 |0=>rfl
 |n+1=>by
  rw[mY,List.flatten_cons,repl,b7];refine oD ?_ (Qm h A n);rw[(xf h A).1];simp only[wF];rfl
def RY {H:ie} (hH:H.get=erHF h) {N:Y T.den} (A:E0 h (.sl T) u=Z (N,m)) (D:co h u=Z y):∃rd,y.row? H T.size=Z ((N.flatMap (b8 T)).map .f,l! N,rd)/\∀n∈rd,∃i,n=nm i/\aC m i=J:=by
 have fl:=λI:Y T.den=>fe (bN T) I
 have tk:∀I:Y T.den,(I.flatMap (b8 T)).take (l! I*T.size)=I.flatMap (b8 T):=λI=>by grind
 cases u with
 |f S x=>
  simp[E0,iJ]at A;split at A
  next z hz=>obtain⟨e,rfl⟩:=ip hz;subst e;simp[co,af]at D;subst D;simp only[gr,AV.row?];simp_all
  .cases A
 |emp|nil=>
  obtain⟨rfl,_⟩:=A;simp[co,af]at D;subst D;exact⟨[],rfl,by simp⟩
 |G id=>
  simp[E0,iJ]at A;split at A
  .rename_i ty p S xs hb;split at A
   .rename_i z hz;obtain⟨rfl,rfl⟩:=A;obtain⟨e,rfl⟩:=ip hz;cases e;simp[co,eK,hb,af]at D;subst D;unfold dY;split
    next hp=>simp only[ak,du]at hp;have:xs=[]:=fd.1 hp.2;subst this;exact⟨[],rfl,by simp⟩
    .rename_i hp;have hg:H.get (nm id)=Z ⟨ty,.fz (xs.flatMap (b8 T))⟩:=by rw[hH,ct,hb];simp only[aH,lx,ay hp]
     refine ⟨[nm id],?_,λn hn=>?_⟩
     .simp only[AV.row?,hg,c9,bJ,BC.isCells,BC.len,cD];rw[aK (bx (by grind))];simp[BC.toMx,<-nR,tk]
     .simp[aE]at hn;exact⟨id,hn,b_.2 rfl⟩
   .cases A
  .cases A
 |agg l=>simp[E0,Ty.one]at A
 |_=>simp[E0,iJ]at A
def Yo (q:co h u=Z y) (A:u.isC=J):h_ y.cs=J:=by
 rw[R8 (So q A)];simp[h_,Bool.and_true];exact So q A
def adr (T:Ty) (x:T.den):h_ ((b8 T x).map .f)=J:=by
 have:∀l:Y FV,(∀x∈l,x.isCell=J)->h_ (l.map .f)=J:=by
  intro l q;induction l with
  |nil=>rfl
  |cons z r A=>simp[eg,h_,ak];exact⟨q z (by simp),A λx D=>q x (by grind)⟩
 exact this _ (pd T x)
def gO {v:TV} {x:T.den} (A:iJ h T v=Z (x,m)) (D:co h v=Z y):h_ y.cs=J:=by
 cases v with
 |f S v=>simp[co,af]at D;subst D;rw[C1];exact adr S v
 |emp|nil|G id=>exact Yo D rfl
 |_=>simp[iJ]at A
def Lp (I:T.one=J) {x:T.den} (A:iJ h T u=Z (x,m)):u.isC=J:=by
 cases u with
 |f S u=>
  simp[iJ]at A;split at A
  next z D=>let⟨e,_⟩:=ip D;subst e;exact I
  .cases A
 |emp|nil|G id=>rfl
 |_=>simp[iJ]at A
def Xs {a b:Y TV} (q:lC a=J) (D:lC b=J):lC (a++b)=J:=by
 induction a with
 |nil=>exact D
 |cons z r A=>simp[lC,ak,ft]at q ⊢;exact⟨q.1,A q.2⟩
def vn:∀(n:Nat) (T:Ty) (l:Y TV) (x:T.den) (m:Nat) (r:Y TV),fL h n T l=Z (x,m,r)->∃a,l=a++r/\lC a=J
 |0,_,_,_,_,_,hp=>by simp[fL]at hp
 |n+1,.st t,l,x,m,r,hp=>vn n t l x m r hp
 |n+1,.pr a b,l,x,m,r,hp=>by
  simp[fL]at hp;split at hp
  .rename_i x1 A r1 h1;split at hp
   next x2 m2 r2 h2=>simp[af,aV]at hp;obtain⟨_,_,rfl⟩:=hp;obtain⟨a1,rfl,I⟩:=vn n a l x1 A r1 h1;obtain⟨N,rfl,D⟩:=vn n b r1 x2 m2 r2 h2;exact⟨a1++N,by simp,Xs I D⟩
   .cases hp
  .cases hp
 |n+1,.un,l,x,m,r,hp=>by
  obtain⟨_,_,rfl⟩:=hp;exact⟨[],rfl,rfl⟩
 |n+1,.ex,l,x,m,r,hp=>by
  simp[fL]at hp;split at hp
  next x1 A r1 h1=>simp[af,aV]at hp;obtain⟨_,_,rfl⟩:=hp;exact vn n QL l x1 A r1 h1
  .cases hp
 |n+1,.sm,l,x,m,r,hp=>by
  simp[fL]at hp;split at hp
  next x1 A r1 h1=>simp[af,aV]at hp;obtain⟨_,_,rfl⟩:=hp;exact vn n Qh l x1 A r1 h1
  .cases hp
 |n+1,.int k,l,x,m,r,hp|n+1,.bool,l,x,m,r,hp|n+1,.str,l,x,m,r,hp|n+1,.sl t,l,x,m,r,hp=>by
  simp[fL]at hp;split at hp
  .rename_i c q;split at hp
   next x1 A h1=>obtain⟨_,_,rfl⟩:=hp;exact⟨[c],rfl,by simp[lC,Lp rfl h1]⟩
   .cases hp
  .cases hp
def N6 {x:T.den} (D:E0 h T u=Z (x,m)) (A:co h u=Z y):h_ y.cs=J:=by
 cases u with
 |agg l=>
  simp only[E0]at D;split at D
  .cases D
  .split at D
   .rename_i x1 I h1;let⟨a,e,ga⟩:=vn 40 T l x1 I [] h1;rw[cJ]at e;subst e;simp[co]at A;split at A
    next l' hl=>simp[af]at A;subst A;exact tI hl ga
    .cases A
   .cases D
 |f S u=>exact gO (v:=.f S u) D A
 |zw T xs j hj off=>exact gO (v:=.zw T xs j hj off) D A
 |qn id sz j off=>exact gO (v:=.qn id sz j off) D A
 |H id off=>exact gO (v:=.H id off) D A
 |qf id off z=>exact gO (v:=.qf id off z) D A
 |G id=>exact gO (v:=.G id) D A
 |emp=>exact gO (v:=.emp) D A
 |nil=>exact gO (v:=.nil) D A
 |mp id=>exact gO (v:=.mp id) D A
 |zg id N=>exact gO (v:=.zg id N) D A
 |qp q=>exact gO (v:=.qp q) D A
 |qv g q=>exact gO (v:=.qv g q) D A
 |undef=>exact gO (v:=.undef) D A
 |np=>exact gO (v:=.np) D A
 |qj=>exact gO (v:=.qj) D A
 |qc S q=>exact gO (v:=.qc S q) D A
 |sb q=>exact gO (v:=.sb q) D A
def sP (D:co h u=Z y):∀(n:Nat) (T:Ty) (v:T.den) (off sz:Nat) (z:T.den) (m:Nat),ik h u n T v off sz=Z (z,m)->h_ y.cs=J
 |0,_,_,_,_,_,_,A=>by simp[ik]at A
 |n+1,.st t,v,off,sz,z,m,A=>by
  simp[ik]at A;split at A
  .rename_i q I;split at I
   .exact N6 I D
   .cases I
  .exact sP D n t v off sz z m A
 |n+1,.pr a b,v,off,sz,z,m,A=>by
  simp[ik]at A;split at A
  .split at A
   next N m1 h1=>exact sP D n a v.1 off sz N m1 h1
   .cases A
  .split at A
   next N m1 h1=>exact sP D n b v.2 _ sz N m1 h1
   .cases A
 |n+1,.un,v,off,sz,z,m,A=>by simp[ik]at A
 |n+1,.ex,v,off,sz,z,m,A=>by
  simp[ik]at A;split at A
  .rename_i q I;split at I
   .exact N6 I D
   .cases I
  .split at A
   next N m1 h1=>exact sP D n QL _ off sz N m1 h1
   .cases A
 |n+1,.sm,v,off,sz,z,m,A=>by
  simp[ik]at A;split at A
  .rename_i q I;split at I
   .exact N6 I D
   .cases I
  .split at A
   next N m1 h1=>exact sP D n Qh _ off sz N m1 h1
   .cases A
 |n+1,.int k,v,off,sz,z,m,A|n+1,.bool,v,off,sz,z,m,A|n+1,.str,v,off,sz,z,m,A|n+1,.sl t,v,off,sz,z,m,A=>by
  simp only[ik]at A;split at A
  .exact gO A D
  .cases A
def Xr (l:Y FV):Al (l.map .f)=Z l:=by
 induction l with
 |nil=>rfl
 |cons x r q=>simp[eg,Al,q]
def vP (l:Y FV):pq (l.map .f)= .fz l:=by unfold pq;rw[Xr]
def J0:∀{a b:Y TV},lC a=J->lC b=J->lC (a++b)=J
 |[],_,_,q=>q
 |x::r,b,A,q=>by
  simp[lC,ak]at A;simp[ft,lC,ak];exact⟨A.1,J0 A.2 q⟩
def IB {q:Y TV} (A:lC q=J):∀n,lC (aD n q).flatten=J
 |0=>rfl
 |n+1=>by exact J0 A (IB A n)
def amp {H:ie} (N:H.get=erHF h) {l:Y TV} {q:Y AV} (I:h.get i=Z (.C (Z m) l)) (A:cO h l=Z q) {n sz:Nat} (hn:l! l=n*sz):AV.row? H sz (.G (nm i) sz n)=Z (q,n,[nm i]):=by
 have D:H.get (nm i)=Z ⟨m,.mx q⟩:=by rw[N,ct,I];simp[aH,lx,A]
 have hln:=iP A;simp only[AV.row?,c9,bJ,D,BC.isCells,cD,BC.len,BC.toMx];rw[aK (bx (by omega)),gF (by omega)]
def akv {H:ie} (hH:H.get=erHF h) {xs:Y T.den} (q:aqa h T u=Z (a,xs,i)) (D:co h u=Z y) (hj:(c8 0 a&&gM a (ah xs))=J):y.row? H T.size=Z (((ig (aN a) xs).flatMap (b8 T)).map .f,l! (ig (aN a) xs),[nm i])/\∀n∈[nm i],aC (kz i) (ow n)=J:=by
 refine ⟨?_,λn I=>by simp only[aE]at I;subst I;rw[d_];exact b_.2 rfl⟩;unfold aqa at q;split at q
 .rename_i id' A;split at q
  .rename_i ty p S xs0 N;split at q
   .rename_i xs1 hxs;obtain⟨ee,rfl⟩:=ip hxs;cases ee;simp only[af,aV]at q;obtain⟨rfl,rfl,rfl⟩:=q;simp only[c8,gM,ak,bB]at hj;have hj2:(ah xs0:Int)=((l! xs0:Nat):Int):=rfl;have hlt:A.toNat<l! xs0:=by omega
    simp only[co,bW,N,aH,kS,af]at D;subst D;have hp:¬((p&&l! xs0==0)=J):=by grind
    have fl:=fe (bN T) xs0;have hg:H.get (nm id')=Z ⟨ty,.fz (xs0.flatMap (b8 T))⟩:=by rw[hH,ct,N];simp only[aH,lx,ay hp]
    have hoff:A.toNat*T.size+(l! xs0-A.toNat)*T.size=l! xs0*T.size:=by rw[<- jl];congr 1;omega
    simp only[AV.row?,hg];rw[aK (by simp only[BC.isCells,BC.len,cD];exact bx (by omega))];simp only[BC.toMx,fo,af,aV,and_true,<-List.map_drop,<-nR];rw[zZ (bN T),gF (by rw[fo];omega)]
   .cases q
  .cases q
 .cases q
def Rj:∀q:η,EH ((q.flatMap (b8 (.int .u8))).map .f)=Z (nP q)
 |[]=>rfl
 |y::r=>by
  rw[hX];show (match EH ((r.flatMap (b8 (.int .u8))).map .f) with|some l=>Z (AW y.toNat::l)|none=>U)=_;rw[Rj r];rfl
variable (hinv:km h nx) (hi:sG e h)
include hinv hi
variable {X:FuncId->M cr} {W:TypeId->M Ty}
def aob (hc:cY P o.op=Z (.alloc A E)) (hk:eH X W (.op (.alloc A E)) e h nx K=Z r):j9 P o aa e h nx K r:=by
 have _:=hi;let⟨H,hH⟩:=jP h;simp only[eH]at hk;split at hk
 .rename_i N;simp only[ak]at N;have N:=G8 N.2;exact⟨_,_,_,_,_,hk,gP.new (rd:=0) hinv hc hH (b0:=⟨A,.fz (E.map .raw)⟩) (by rfl) (B:=.F A aa (.int .u8) (aD (ah E) (0:Int))) (v:=.H nx 0) (dP.zero h) (λ_ _ he=>by cases he) (λH1 H2 d g b' ty=>by
   simp only[lx,fY,cA,fM,af]at ty;subst ty;have:(aD (ah E) (0:Int)).flatMap (b8 (.int .u8))=E.map .raw:=by
    conv=>rhs;rw[N]
    generalize ah E=n;induction n with
    |zero=>rfl
    |succ n ih=>rw[mY,hX,ih,mY,eg];rfl
   rw[this];exact ii.refl d _) (λH1 H2 y d g hy=>by simp only[co,af]at hy;subst hy;exact kY.refl d _) (by simp)⟩
 split at hk
 .rename_i l hl;let⟨_,N,_⟩:=xf h hl;have hnone:h.get nx=U:=by
   cases hb:h.get nx with
   |none=>rfl
   |some b=>have:=hinv.low nx b hb;omega
  have hr:cq h (h.set nx (Z (.C (Z A) l))):=cq.set λr hr=>by rw[bW,hnone]at hr;cases hr
  let⟨h1,_,_⟩:=xf (h.set nx (Z (.C (Z A) l))) hl;have ty:erHF (h.set nx (Z (.C (Z A) l))) (nm nx)=Z ⟨A,.mx (E.map raw)⟩:=by rw[ct,PT.get_set,aK rfl];simp[aH,lx,h1]
  refine ⟨_,_,_,_,_,hk,gP.mk' hc hH (k:=nm nx) (by rfl) [nm nx] (λi hi=>hi) (λn D=>?_) (λi hi b' _=>⟨⟨A,.fz (E.map .raw)⟩,?_⟩) (λH1 H2 d hw1 _ hw2=>⟨λi hi b b' hb I=>?_,λy hy=>?_⟩) (by simp) ?_ ?_ hr (hinv.set hr (by omega) (by omega) λty' l' he=>?_) (by omega)⟩
  .refine mC hinv hr (iU.set (by rw[hnone];rfl) rfl) λi e=>?_
   rw[PT.get_set,ay (λe=>D (by grind))]
  .simp[aE]at hi;subst hi;simp[je]
  .simp[aE]at hi;subst hi;rw[hw1 _ (by simp)]at hb;rw[hw2 _ (by simp),ty]at I;rw[fF]at hb;simp[af]at hb I;subst hb I;refine ii.C rfl rfl ?_ λx hx=>?_
   .simp[BC.toMx,wF];exact iy.refl d _
   .simp only[BC.toMx]at hx;obtain⟨q,hq,rfl⟩:=cv.1 hx;exact N q hq
  .simp[co,af]at hy;subst hy;exact kY.refl d _
  .intro n D;simp[aE]at D;subst D;rw[d_];exact b_.2 rfl
  .intro n D;simp[aE]at D;subst D;rw[d_];omega
  .cases he;exact mB _ _ _ h1
 .cases hk
variable {d:Y (Nat×Nat×Operand)}
def ate (hcm:GY (W A)=U) (hc:cY P o.op=Z (.jt A i m E d)) (D:eH X W (.op (.jt A i m E d)) e h nx K=Z r):j9 P o aa e h nx K r:=by
 let⟨H,hH⟩:=jP h;simp only[eH,hcm]at D;split at D
 .rename_i T zc hT hz;split at D
  .rename_i hs;have hs:=ar hs;subst hs;split at D
   .rename_i cs hf;split at D
    .rename_i xs len hp;let⟨cs',h1,h2,_⟩:=Gh hi d _ cs _ hf (Qm h hz m);have hm:=R6 m cs xs len hp;refine ⟨_,_,_,_,_,D,gP.new hinv hc hH (y0:=if m=0 then .emp else .G (nm nx) T.size m) (rdl:=[]) (b0:=⟨A,pq cs'⟩) (by simp[dO,h1]) hm (λ_ _ he=>by cases he) (λH1 H2 parts g b' ty=>?_) (λH1 H2 y parts g N=>?_) (by simp)⟩
     .simp only[lx]at ty;split at ty
      .cases ty
      rw[af]at ty;subst ty;let⟨q1,q2⟩:=o6 cs';refine ii.C q2 rfl ?_ λx hx=>?_
      .rw[q1];exact (Ft parts m cs xs len cs' hp h2 g).1
      .simp only[BC.toMx]at hx;obtain⟨q,I,rfl⟩:=cv.1 hx;exact vu T _ q I
     .simp only[co,bW,PT.get_set,bJ,aH,kS,dY,af]at N;rw[(Ft parts m cs xs len cs' hp h2 g).2]at N;split at N
      next I=>simp only[ak,du]at I;subst N;rw[aK I.2];exact kY.refl parts _
      next I=>subst N;rw[ay (λh0=>I (by simp_all))];exact kY.refl parts _
    .cases D
   .cases D
  .cases D
 .cases D
def awn (hc:cY P o.op=Z (.tos s)) (q:eH X W (.op (.tos s)) e h nx K=Z r):j9 P o aa e h nx K r:=by
 let⟨H,I⟩:=jP h;simp only[eH]at q;split at q
 .rename_i v hv;split at q
  .rename_i A m hys;let⟨N,h3,h4⟩:=bE hi hv;let⟨rdl,D,h6⟩:=RY I hys h4;exact⟨_,_,_,_,_,q,gP.pure (k:=nm nx) hinv hc I (y0:=.f (.raw (.string ⟨(nP A).toArray⟩))) (rdl:=rdl) (by
    have D:N.row? H 1=Z ((A.flatMap (b8 (.int .u8))).map .f,l! A,rdl):=D;simp only[dO,h3,D];rw[Rj];rfl) (cZ rfl) (λn hn=>by obtain⟨i,rfl,hm⟩:=h6 n hn;rw[d_];exact hm) nofun⟩
  .cases q
 .cases q
def abu {H:ie} (hH:H.get=erHF h) {x:Operand} {q:Y T.den} {yy:AV} {rdl:ι} (hc:cY P o.op=Z (.app A T.size i s x)) (h1:lZ (EZ e h) s=Z y) (h2:co h u=Z y) (h3:lZ (EZ e h) x=Z yy) (h5:yy.row? H T.size=Z ((q.flatMap (b8 T)).map .f,l! q,rdl)) (h6:∀n∈rdl,aC m (ow n)=J) (N:anb A T.size i T u q m h nx K=Z r):j9 P o aa e h nx K r:=by
 have hfr:=hinv.fresh;have _:=hi;unfold anb at N;have onEmp:∀(rd':Nat),(∀n∈rdl,aC rd' (ow n)=J)->HV y=J->Le y .emp->bh (ah q) i=J->gP P o aa e h nx (.G nx) rd' (kz nx) (h.set nx (Z (.F A J T q))) (nx+1):=by
  intro rd' hrd' he hle hroom;have hr1:cq h (h.set nx (Z (.F A J T q))):=cq.set λr hr=>by rw[bW,hfr]at hr;cases hr
  have hyb:∀id sz' n,y≠ .G id sz' n:=by rintro id sz' n rfl;cases he
  have ty:dO (.app A T.size i s x) (EZ e h) H (nm nx)=if ah q==0 then Z ⟨y,rdl,[],[],[]⟩ else Z ⟨.G (nm nx) T.size (ah q),rdl,[nm nx],[(nm nx,⟨A,pq ((q.flatMap (b8 T)).map .f)⟩)],[nm nx]⟩:=by
   simp only[dO,h1,h3,h5];cases y with
   |G id sz' n=>exact bc rfl (hyb id sz' n)
   |qc l n=>cases he
   |_=>simp only[he,hroom,uv,bJ]
  by_cases hl:ah q=0
  .rw[hl]at ty;simp only[c9,bJ]at ty;have hnil:q=[]:=fd.1 hl;subst hnil;refine gP.mk' hc hH ty [] (by simp) (λn _=>?_) (by simp) (λH1 H2 d _ _ _=>⟨by simp,λyb D=>?_⟩) hrd' (by simp) (by simp) hr1 (hinv.set hr1 (by omega) (by omega) λ_ _ he=>by cases he) (by omega)
   .by_cases I:n=nm nx
    .subst I;rw[ct,ct,PT.get_set,aK rfl,hfr];rfl
    .refine mC hinv hr1 (iU.set (by rw[hfr];rfl) rfl) λbytes e=>?_
     subst e;rw[PT.get_set,ay (λe=>I (by rw[e]))]
   .simp only[co,bW,PT.get_set,bJ,aH,kS,dY,eS,c9,uv,af]at D;subst D;exact hle.toH d
  .rw[ay (by simpa using hl)]at ty;rw[vP]at ty;have key:=gP.new (m:=0) (rd:=rd') hinv hc hH ty (B:=.F A J T q) (v:=.G nx) (dP.zero h) (λ_ _ he=>by cases he) (λH1 H2 d g b' hb'=>by
    simp only[lx]at hb';rw[ay (by simpa using hl)]at hb';cases hb';exact ii.refl d _) (λH1 H2 yb d g D=>by
    simp only[co,bW,PT.get_set,bJ,aH,kS,dY]at D;rw[ay (by simpa using hl)]at D;cases D;exact kY.refl d _) hrd'
   rw[Hd]at key;exact key
 split at N
 .rename_i id;split at N
  .rename_i ty' p S xs0 hb;split at N
   .rename_i xs hxs;obtain⟨ee,rfl⟩:=ip hxs;cases ee;split at N
    .rename_i hcond;simp only[ak,du,dE]at hcond;obtain⟨rfl,hmid⟩:=hcond;let⟨hroom,N⟩:=cV N;simp only[co,eK,hb,af]at h2;have hidlt:=hinv.low id _ hb;have hne:nx≠id:=by omega
     have hrd:∀n∈rdl,aC (kz id|||m) (ow n)=J:=λn I=>by
      rw[bD,h6 n I];simp
     generalize hh':(h.set id (Z (.qx p T.size (ah xs0)))).set nx (Z (.F ty' p T (xs0++q)))=h' at N;have hrA:cq h (h.set id (Z (.qx p T.size (ah xs0)))):=cq.set λr hr=>by rw[bW,hb]at hr;exact hr
     have hg2:∀bytes,h'.get bytes=if bytes=nx then Z (.F ty' p T (xs0++q)) else if bytes=id then Z (.qx p T.size (ah xs0)) else h.get bytes:=λbytes=>by rw[<- hh',PT.get_set,PT.get_set]
     have hr:cq h h':=by
      rw[<- hh'];refine hrA.trans (cq.set λr hr=>?_);rw[bW,PT.get_set,ay hne,hfr]at hr;cases hr
     have hinv':km h' (nx+1):=by
      refine ⟨λbytes A l hil=>?_,λbytes c hic=>?_⟩
      .rw[hg2]at hil;split at hil
       .cases hil
       .split at hil
        .cases hil
        .exact gI hr l (hinv.C bytes _ l hil)
      .rw[hg2]at hic;split at hic
       .omega
       .split at hic
        .omega
        .have:=hinv.low bytes c hic;omega
     have hme:iU h h':=(iU.of λbytes=>by
      rw[hg2];by_cases e1:bytes=nx
      .rw[aK e1,e1,hfr];exact .inr ⟨rfl,rfl⟩
      .rw[ay e1];by_cases e2:bytes=id
       .rw[aK e2,e2,hb];exact .inr ⟨rfl,rfl⟩
       .rw[ay e2];exact .inl rfl)
     have hsame:∀n,n≠nm nx->n≠nm id->erHF h' n=erHF h n:=λn h1 h2=>mC hinv hr hme λbytes e=>by
      subst e;rw[hg2,ay (λe=>h1 (by rw[e])),ay (λe=>h2 (by rw[e]))]
     have hdead:erHF h' (nm id)=U:=by rw[ct,hg2,ay (by omega),aK rfl];rfl
     have hnew:erHF h' (nm nx)=if p&&l! (xs0++q)==0 then U else Z ⟨ty',.fz ((xs0++q).flatMap (b8 T))⟩:=by rw[ct,hg2,aK rfl];rfl
     have hval:co h' (.G nx)=Z (dY p nx T.size (l! (xs0++q))):=by simp only[co,bW,hg2,bJ,aH,kS]
     have hwm:∀n,n=nm nx\/n=nm id->aC (kz id|||kz nx) (ow n)=J:=λn I=>by
      rcases I with rfl|rfl<;>rw[d_,bD,b_.2 rfl]<;>simp
     refine ⟨_,_,_,_,_,N,?_⟩;by_cases hp:(p&&l! xs0==0)=J
     ·
      have hyb:y= .emp:=by rw[<- h2];unfold dY;rw[aK hp]
      subst hyb;simp only[ak,du]at hp;obtain⟨rfl,hl0⟩:=hp;have hnil:xs0=[]:=fd.1 hl0;subst hnil;have hroom':bh (ah q) i=J:=by simpa using hroom
      have ty:dO (.app ty' T.size i s x) (EZ e h) H (nm nx)=if ah q==0 then Z ⟨.emp,rdl,[],[],[]⟩ else Z ⟨.G (nm nx) T.size (ah q),rdl,[nm nx],[(nm nx,⟨ty',pq ((q.flatMap (b8 T)).map .f)⟩)],[nm nx]⟩:=by
       simp only[dO,h1,h3,h5,HV,hroom',uv,bJ]
      have hdead0:erHF h (nm id)=U:=by rw[ct,hb];rfl
      by_cases hl:ah q=0
      .rw[hl]at ty;simp only[c9,bJ]at ty;have hnil:q=[]:=fd.1 hl;subst hnil;refine gP.mk' hc hH ty [] (by simp) (λn _=>?_) (by simp) (λH1 H2 d _ _ _=>⟨by simp,λyb D=>?_⟩) hrd (by simp) (by simp) hr hinv' (by omega)
       .by_cases I:n=nm nx
        .subst I;rw[hnew,ct,hfr];rfl
        .by_cases hn2:n=nm id
         .subst hn2;rw[hdead,hdead0]
         .exact hsame n I hn2
       .rw[hval]at D;simp only[dY,cJ,eS,c9,uv,bJ,af]at D;subst D;exact kY.refl d _
      .rw[ay (by simpa using hl),vP]at ty;refine gP.mk' hc hH ty [nm nx] (λbytes hi=>hi) (λn I=>?_) (λbytes hi b' _=>⟨_,by rw[aK hi];simp only[aE]at hi;subst hi;exact fF _ _⟩) (λH1 H2 d hw1 _ hw2=>⟨λbytes hi u b' hb1 hb2=>?_,λyb D=>?_⟩) hrd (λn I=>hwm n (.inl (by simpa using I))) (λn I=>by simp only[aE]at I;subst I;rw[d_];omega) hr hinv' (by omega)
       .have hn1:n≠nm nx:=by simpa using I
        by_cases hn2:n=nm id
        .subst hn2;rw[hdead,hdead0]
        .exact hsame n hn1 hn2
       .simp only[aE]at hi;subst hi;rw[hw1 _ (by simp),fF]at hb1;rw[hw2 _ (by simp),hnew,ay (by simpa using hl)]at hb2;simp only[af,kR]at hb1 hb2;subst hb1 hb2;exact ii.refl d _
       .rw[hval]at D;simp only[dY,kR]at D;rw[ay (by simpa using hl)]at D;cases D;exact kY.refl d _
     .have hyb:y= .G (nm id) T.size (l! xs0):=by rw[<- h2];unfold dY;rw[ay hp]
      subst hyb;have hg:H.get (nm id)=Z ⟨ty',.fz (xs0.flatMap (b8 T))⟩:=by rw[hH,ct,hb];simp only[aH,lx,ay hp]
      have fl:=fe (bN T) xs0;have tk:(xs0.flatMap (b8 T)).take (l! xs0*T.size)=xs0.flatMap (b8 T):=by rw[<- fl,cH]
      have hmem:mem (nm id) rdl=aa:=by
       cases hx:mem (nm id) rdl with
       |false=>rfl
       |true=>
        have hm:=h6 _ (aqo.1 hx);rw[d_,hmid]at hm;cases hm
      have ty:dO (.app ty' T.size i s x) (EZ e h) H (nm nx)=Z ⟨.G (nm nx) T.size (l! xs0+l! q),nm id::rdl,[nm nx,nm id],[(nm nx,⟨ty',.fz ((xs0++q).flatMap (b8 T))⟩)],[nm nx]⟩:=by
       have hcnd:(T.size==T.size&& !(mem (nm id) rdl)&&(BC.fz (xs0.flatMap (b8 T))).isCells&&dx (l! xs0*T.size) (BC.fz (xs0.flatMap (b8 T))).len&&ty'==ty'&&bh (l! xs0+l! q) i)=J:=by
        have:dx (l! xs0*T.size) (BC.fz (xs0.flatMap (b8 T))).len=J:=bx (by simp only[BC.len];omega);rw[this,hmem,hroom];simp[BC.isCells]
       simp only[dO,h1,h3,h5,hg,hcnd,bJ,BC.toMx,<-nR,tk,<-b7,vP,Ka]
      have hne2:¬((p&&l! (xs0++q)==0)=J):=by
       simp only[ak,du,aF]at hp ⊢;intro hh;exact hp ⟨hh.1,by omega⟩
      refine gP.mk' hc hH ty [nm nx,nm id] (λbytes hi=>hi) (λn I=>?_) (λbytes hi b' hb'=>?_) (λH1 H2 d hw1 _ hw2=>⟨λbytes hi u b' hb1 hb2=>?_,λyb D=>?_⟩) (λn I=>?_) (λn I=>hwm n (by simpa using I)) (λn I=>by simp only[aE]at I;subst I;rw[d_];omega) hr hinv' (by omega)
      .simp only[bk,cI,gH,not_or]at I;exact hsame n I.1 I.2
      .simp only[bk,cI,gH]at hi;rcases hi with rfl|rfl
       .exact⟨_,by rw[aK (by simp)];exact fF _ _⟩
       .rw[hdead]at hb';cases hb'
      .simp only[bk,cI,gH]at hi;rcases hi with rfl|rfl
       .rw[hw1 _ (by simp),fF]at hb1;rw[hw2 _ (by simp),hnew,ay hne2]at hb2;simp only[af]at hb1 hb2;subst hb1 hb2;exact ii.refl d _
       .rw[hw2 _ (by simp),hdead]at hb2;cases hb2
      .rw[hval]at D;simp only[dY]at D;rw[ay hne2]at D;simp only[aF,af]at D;subst D;exact kY.refl d _
      .rcases bk.1 I with rfl|I
       .rw[d_,bD,b_.2 rfl];rfl
       .exact hrd n I
    .cases N
   .cases N
  .cases N
 .rename_i S xs1;split at N
  .rename_i xs hxs;obtain⟨ee,rfl⟩:=ip hxs;cases ee;let⟨hroom,N⟩:=cV N;simp only[co,af]at h2;subst h2;have fl:=fe (bN T) xs1;have tk:(xs1.flatMap (b8 T)).take (l! xs1*T.size)=xs1.flatMap (b8 T):=by rw[<- fl,cH]
   have hcnd:(dx (l! xs1*T.size) (l! (xs1.flatMap (b8 T)))&&bh (l! xs1+l! q) i)=J:=by
    have hroom:bh (l! xs1+l! q) i=J:=hroom;rw[hroom,Bool.and_true];exact bx (by omega)
   rcases oG N with ⟨hl,N⟩|⟨hl,N⟩
   .have hl:=ar hl;have hl':(ah q==0)=J:=by rw[hl];rfl
    have ty:dO (.app A T.size i s x) (EZ e h) H (nm nx)=Z ⟨.f (.sl (xs1.flatMap (b8 T)) (l! xs1)),rdl,[],[],[]⟩:=by simp only[dO,h1,h3,h5,hcnd,bJ,hl']
    exact⟨_,m,0,h,nx,N,gP.mk' hc hH ty [] (by simp) (λn _=>rfl) (by simp) (λH1 H2 d _ _ _=>⟨by simp,λyb D=>by simp only[co,af]at D;subst D;exact kY.refl d _⟩) h6 (by simp) (by simp) (cq.refl h) hinv (by omega)⟩
   .have hl':¬(ah q==0)=J:=λe=>by
     have e:ah q=0:=by simpa using e
     rw[e]at hl;cases hl
    exact⟨_,_,_,_,_,N,gP.new hinv hc hH (y0:=.G (nm nx) T.size (l! xs1+l! q)) (rdl:=rdl) (b0:=⟨A,.fz ((xs1++q).flatMap (b8 T))⟩) (by
     simp only[dO,h1,h3,h5,hcnd,bJ];rw[ay hl',tk,<-b7,vP,<-Ka]) (B:=.F A aa T (xs1++q)) (v:=.G nx) (dP.zero h) (λ_ _ he=>by cases he) (λH1 H2 d g b' hb'=>by
     simp only[lx,fY,cA,fM,af]at hb';subst hb';exact ii.refl d _) (λH1 H2 yb d g D=>by
     simp only[co,bW,PT.get_set,bJ,aH,kS,dY,fY,cA,fM,aF,af]at D;subst D;exact kY.refl d _) h6⟩
  .cases N
 .obtain⟨hroom,N⟩:=cV N;simp only[co,af]at h2;subst h2;exact⟨_,_,_,_,_,N,onEmp m h6 rfl (Le.refl _) hroom⟩
 .obtain⟨hroom,N⟩:=cV N;simp only[co,af]at h2;subst h2;exact⟨_,_,_,_,_,N,onEmp m h6 rfl Le.nilEmp hroom⟩
 .cases N
def atf {x:Operand} (hcm:GY (W A)=U) (hc:cY P o.op=Z (.app A i m s x)) (q:eH X W (.op (.app A i m s x)) e h nx K=Z r):j9 P o aa e h nx K r:=by
 let⟨H,ty⟩:=jP h;simp only[eH,hcm]at q;split at q
 .rename_i T b y hT hv D;split at q
  .rename_i I;have I:=ar I;subst I;let⟨yb,h1,h2⟩:=bE hi hv;let⟨yy,h3,h4⟩:=bE hi D;split at q
   next j xs id hq=>let⟨hj,q⟩:=cV q;let⟨h5,N⟩:=akv ty hq h4 hj;exact abu hinv hi ty hc h1 h2 h3 h5 N q
   .split at q
    next ys bytes hys=>let⟨rdl,h5,N⟩:=RY ty hys h4;exact abu hinv hi ty hc h1 h2 h3 h5 (λn hn=>by obtain⟨sz,rfl,hm⟩:=N n hn;rw[d_];exact hm) q
    .cases q
  .cases q
 .cases q
def ao7 {v:Operand} (hc:cY P o.op=Z (.store i s v)) (A:eH X W (.op (.store i s v)) e h nx K=Z r):j9 P o aa e h nx K r:=by
 let⟨H,hH⟩:=jP h;simp only[eH]at A;split at A
 .rename_i id off y hv hv2;let⟨yb,h1,h2⟩:=bE hi hv;let⟨I,h3,h4⟩:=bE hi hv2;simp only[co,af]at h2;subst h2;split at A
  .rename_i ty l hb;split at A
   .rename_i cs hcs;split at A
    .rename_i hcond;simp only[ak,du]at hcond;let⟨h5,h6⟩:=Nz hcs h4;let⟨N,hl⟩:=fO h l (hinv.C id _ l hb);have hg:H.get (nm id)=Z ⟨ty,.mx N⟩:=by rw[hH,ct,hb];simp only[aH,lx,hl]
     have hcell:=tI h5 h6;have hlen:I.cs.length=i:=by rw[iP h5];exact hcond.1
     have hput:(BC.mx N).put off I.cs=Z (.mx (splice N off I.cs)):=by
      unfold BC.put;rw[aK]
      .rfl
      .simp only[ak];exact⟨⟨rfl,by simp only[BC.len];rw[hlen,iP hl];exact hcond.2⟩,hcell⟩
     have ha0:dO (.store i s v) (EZ e h) H (nm nx)=Z ⟨raw undef,[nm id],[nm id],[(nm id,⟨ty,.mx (splice N off I.cs)⟩)],[]⟩:=by
      simp only[dO,h1,h3,EJ,hg,hlen,c9,bJ,hput]
     have hspl:∀h',cq h h'->cO h' (splice l off cs)=Z (splice N off I.cs):=λh' hr=>ui off (iG hr l N hl) (iG hr cs _ h5)
     have hr1:cq h (h.set id (Z (.C (Z ty) (splice l off cs)))):=cq.set λr hr=>by rw[bW,hb]at hr;cases hr
     have key:=gP.wrt (m:=0) (v:=.undef) (rd:=kz id) hinv hc hH ha0 (B:=.C (Z ty) (splice l off cs)) hb (dP.zero h) (by simp) rfl (λty' l2 he=>by cases he;exact mB _ _ _ (hspl _ hr1)) (λH1 H2 d g b' D=>by
      have:=hspl _ hr1;simp only[dZ,wD,bJ,lx,this,af]at D;subst D;exact ii.refl d _) (λH1 H2 y d g hy=>by
      simp only[co,af]at hy;subst hy;exact kY.refl d _) (λn hn=>by simp only[aE]at hn;subst hn;rw[d_];exact b_.2 rfl)
     rw[Hd]at key;exact⟨_,_,_,_,_,A,key⟩
    .cases A
   .cases A
  .cases A
 .rename_i id sz' j off y hv hv2;let⟨yb,h1,h2⟩:=bE hi hv;let⟨I,h3,h4⟩:=bE hi hv2;simp only[co,af]at h2;subst h2;split at A
  .rename_i ty p T xs hb;split at A
   .rename_i hsz;have hsz:=ar hsz;subst hsz;let⟨hj,A⟩:=cV A;split at A
    .rename_i z m hset;split at A
     .cases A
     .rename_i hmid;have hmid:aC m id=aa:=by simpa using hmid
      have hm:=CO 40 T _ off i z m hset;let⟨j0,j1,j2⟩:=sZ hj;have hne:¬((p&&xs.length==0)=J):=by grind
      have hne2:¬((p&&(ca xs j z).length==0)=J):=by unfold ca;rw[dI];exact hne
      have hg:H.get (nm id)=Z ⟨ty,.fz (xs.flatMap (b8 T))⟩:=by rw[hH,ct,hb];simp only[aH,lx,ay hne]
      have fl:=fe (bN T) xs;have hx:xs[j.toNat]? =Z (aw _ xs j):=by
       unfold aw;rw[aA,aL j2];rfl
      have hle:(j.toNat+1)*T.size<=xs.length*T.size:=cg _ j2;rw[nC]at hle;have hso:∀H1 H2,uu H1 H2->Hk h H1 H2 m->ac3 H1 H2 I T (aw _ xs j) z off i:=λH1 H2 d g=>xK d h4 40 T _ off i z m hset g
      have hshape:I.cs.length=i/\off+i<=T.size/\h_ I.cs=J:=by
       have d0:uu (erHF h) (erHF (dZ m h)):=uu.kill hinv hm;let⟨fs,q1,q2,q3,q4,q5⟩:=hso _ _ d0 (λsz hi=>⟨rfl,by
        let⟨pp,ss,nn,g3⟩:=vw hm hi;rw[ct,g3];rfl⟩)
       refine ⟨by rw[<- q2,<-bj (f:=AV.f),q1.length],q3,?_⟩;exact sP h4 40 T _ off i z m hset
      let⟨hlen,hoff,hcell⟩:=hshape;obtain⟨c',hput,hc1,hc2⟩:∃c',(BC.fz (xs.flatMap (b8 T))).put (j.toNat*T.size+off) I.cs=Z c'/\c'.toMx=splice ((xs.flatMap (b8 T)).map .f) (j.toNat*T.size+off) I.cs/\c'.isCells=J:=by
       unfold BC.put;rw[aK]
       .split
        next l ys hl hys=>simp only[BC.fz.injEq]at hl;subst hl;refine ⟨_,rfl,?_,rfl⟩;rw[ta hys];simp only[BC.toMx];unfold splice;simp[nR,List.map_drop]
        .exact⟨_,rfl,rfl,rfl⟩
       .simp only[ak];exact⟨⟨rfl,bx (by simp only[BC.len];omega)⟩,hcell⟩
      have ha0:dO (.store i s v) (EZ e h) H (nm nx)=Z ⟨raw undef,[nm id],[nm id],[(nm id,⟨ty,c'⟩)],[]⟩:=by
       simp only[dO,h1,h3,EJ,hg,hlen,c9,bJ,hput]
      have hrow:kS (.F ty p T (ca xs j z))=kS (.F ty p T xs):=by
       unfold ca;simp only[kS,dI]
      refine ⟨_,_,_,_,_,A,gP.wrt hinv hc hH ha0 (B:=.F ty p T (ca xs j z)) hb hm hmid hrow (λ_ _ he=>by cases he) (λH1 H2 d g b' D=>?_) (λH1 H2 y d g hy=>?_) (λn hn=>?_)⟩
      .simp only[lx,ay hne2,af]at D;subst D;let⟨fs,q1,q2,q3,q4,q5⟩:=hso H1 H2 d g;have hfl:(ca xs j z).flatMap (b8 T)=AI.splice (xs.flatMap (b8 T)) (j.toNat*T.size+off) fs:=VV (bN T) xs j.toNat _ z hx off fs (by omega) q4;refine ii.C hc2 rfl ?_ λs hx=>?_
       .rw[hc1];simp only[BC.toMx];rw[hfl];have:(AI.splice (xs.flatMap (b8 T)) (j.toNat*T.size+off) fs).map AV.f=AI.splice ((xs.flatMap (b8 T)).map .f) (j.toNat*T.size+off) (fs.map .f):=by unfold AI.splice;simp[nR,List.map_drop]
        rw[this];exact (iy.refl d _).splice _ q1
       .simp only[BC.toMx]at hx;obtain⟨q,hq,rfl⟩:=cv.1 hx;exact vu T _ q hq
      .simp only[co,af]at hy;subst hy;exact kY.refl d _
      .simp only[aE]at hn;subst hn;rw[d_,bD,b_.2 rfl];simp
    .cases A
   .cases A
  .rename_i ty l hb;split at A
   .rename_i hsz;simp only[ak]at hsz;let⟨s1,s2,s3⟩:=hsz;have s1:=ar s1;have s2:=ar s2;have s3:=ar s3;subst s1 s2 s3;let⟨hj,A⟩:=cV A;let⟨j0,j1,j2⟩:=sZ hj;split at A
    .rename_i cs hcs;split at A
     .rename_i hc1;have hc1:=ar hc1;let⟨h5,h6⟩:=Nz hcs h4;let⟨N,hl⟩:=fO h l (hinv.C id _ l hb);have hg:H.get (nm id)=Z ⟨ty,.mx N⟩:=by rw[hH,ct,hb];simp only[aH,lx,hl]
      have hcell:=tI h5 h6;have hlen:I.cs.length=1:=by rw[iP h5];exact hc1
      have e0:j.toNat*1+0=j.toNat:=by omega
      rw[e0]at h1;have hput:(BC.mx N).put j.toNat I.cs=Z (.mx (splice N j.toNat I.cs)):=by
       unfold BC.put;rw[aK]
       .rfl
       .simp only[ak];exact⟨⟨rfl,bx (by simp only[BC.len];rw[hlen,iP hl];omega)⟩,hcell⟩
      have ha0:dO (.store 1 s v) (EZ e h) H (nm nx)=Z ⟨raw undef,[nm id],[nm id],[(nm id,⟨ty,.mx (splice N j.toNat I.cs)⟩)],[]⟩:=by
       simp only[dO,h1,h3,EJ,hg,hlen,c9,bJ,hput]
      have hspl:∀h',cq h h'->cO h' (splice l j.toNat cs)=Z (splice N j.toNat I.cs):=λh' hr=>ui j.toNat (iG hr l N hl) (iG hr cs _ h5)
      have hr1:cq h (h.set id (Z (.C (Z ty) (splice l j.toNat cs)))):=cq.set λr hr=>by rw[bW,hb]at hr;cases hr
      have key:=gP.wrt (m:=0) (v:=.undef) (rd:=kz id) hinv hc hH ha0 (B:=.C (Z ty) (splice l j.toNat cs)) hb (dP.zero h) (by simp) rfl (λty' l2 he=>by cases he;exact mB _ _ _ (hspl _ hr1)) (λH1 H2 d g b' D=>by
       have:=hspl _ hr1;simp only[dZ,wD,bJ,lx,this,af]at D;subst D;exact ii.refl d _) (λH1 H2 y d g hy=>by
       simp only[co,af]at hy;subst hy;exact kY.refl d _) (λn hn=>by simp only[aE]at hn;subst hn;rw[d_];exact b_.2 rfl)
      rw[Hd]at key;exact⟨_,_,_,_,_,A,key⟩
     .cases A
    .cases A
   .cases A
  .cases A
 .cases A
def at9 {c:Operand} (hc:cY P o.op=Z (.zk A i m E s c)) (q:eH X W (.op (.zk A i m E s c)) e h nx K=Z r):j9 P o aa e h nx K r:=by
 cases hcm:GY (W A) with
 |none=>exact ao8 hinv hi hcm hc q
 |some n=>
  let⟨H,hH⟩:=jP h;simp only[eH,hcm]at q;split at q
  .rename_i zc k a k' b D hv I;let⟨hck,q⟩:=cV q;rw[ak]at hck;let⟨hcond,hn⟩:=hck;let⟨y,h1,h2⟩:=bE hi hv;let⟨y2,h3,h4⟩:=bE hi I;simp[co,af]at h2 h4;subst h2 h4;have han:aN a=n:=by grind
   let⟨_,_,hzc⟩:=xf h D;refine ⟨_,_,_,_,_,q,gP.new hinv hc hH (y0:=.G (nm nx) i n) (rdl:=[]) (b0:=⟨A,.fz (repl E n)⟩) (by simp[dO,h1,h3,gr,hcond,bJ,han]) (dP.zero h) (λty' l' he=>?_) (λH1 H2 d g b' ty=>?_) (λH1 H2 y d g N=>?_) (by simp)⟩
   .cases he;exact mB _ _ _ (Qm _ D n)
   .simp[lx,Qm _ D n,af]at ty;subst ty;refine ii.C rfl rfl (iy.refl d _) λx hx=>?_
    exact mE (tI (Qm h D n) (IB hzc n)) x hx
   .simp[co,af]at N;subst N;exact kY.refl d _
  .cases q
def ax8 (hc:cY P o.op=Z (.jt A i m E d)) (q:eH X W (.op (.jt A i m E d)) e h nx K=Z r):j9 P o aa e h nx K r:=by
 cases hcm:GY (W A) with
 |none=>exact ate hinv hi hcm hc q
 |some n=>
  let⟨H,hH⟩:=jP h;simp only[eH,hcm]at q;split at q
  .rename_i zc hz;split at q
   .rename_i cs hf;split at q
    .cases q
    .rename_i N;have N:m≠0:=λe=>N (by rw[e];rfl)
     let⟨cs',h1,h2,h3⟩:=Gh hi d _ cs _ hf (Qm h hz m);let⟨_,_,hzc⟩:=xf h hz;have hcs:=h3 (IB hzc m);have I:cq h ((dZ 0 h).set nx (Z (.C (Z A) cs))):=(cq.kill 0 h).trans (cq.set λr I=>by rw[bW,(hinv.kill 0).fresh]at I;cases I);have D:=iG I _ _ h2;refine ⟨_,_,_,_,_,q,gP.new hinv hc hH (y0:=.G (nm nx) i m) (rdl:=[]) (b0:=⟨A,pq cs'⟩) (by simp[dO,h1,ay N]) (dP.zero h) (λty' l' he=>?_) (λH1 H2 parts g b' ty=>?_) (λH1 H2 y parts g hy=>?_) (by simp)⟩
     .cases he;exact mB _ _ _ D
     .simp[lx,D,af]at ty;subst ty;let⟨q1,q2⟩:=o6 cs';refine ii.C q2 rfl ?_ λx hx=>?_
      .rw[q1];exact iy.refl parts _
      .exact mE (tI h2 hcs) x hx
     .simp[co,af]at hy;subst hy;exact kY.refl parts _
   .cases q
  .cases q
def axb {x:Operand} (hc:cY P o.op=Z (.app A i m s x)) (ty:eH X W (.op (.app A i m s x)) e h nx K=Z r):j9 P o aa e h nx K r:=by
 cases hcm:GY (W A) with
 |none=>exact atf hinv hi hcm hc ty
 |some n0=>
  let⟨H,hH⟩:=jP h;have hfr:=hinv.fresh;simp only[eH,hcm]at ty;split at ty
  .rename_i b y hv hv2;let⟨yb,h1,h2⟩:=bE hi hv;let⟨yy,h3,h4⟩:=bE hi hv2;unfold ap6 at ty;split at ty
   .rename_i id2 sz2 bytes;simp only[co,af]at h4;subst h4;split at ty
    .rename_i ty2 l2 hb2;split at ty
     .rename_i D;simp only[ak,dE]at D;let⟨⟨q1,q2⟩,q3⟩:=D;have q1:=ar q1;have q2:=ar q2;have q3:bytes≠0:=λe=>by grind
      subst q1;let⟨N,hl2⟩:=fO h l2 (hinv.C id2 _ l2 hb2);have hrow:=amp hH hb2 hl2 q2;split at ty
      .rename_i id sz1 n;simp only[co,af]at h2;subst h2;split at ty
       .rename_i ty1 l1 hb1;split at ty
        .rename_i D;simp only[ak,dE]at D;let⟨⟨⟨p1,p2⟩,p3⟩,p4⟩:=D;have p1:=ar p1;have p2:=eq_of_beq p2;have p3:=ar p3;have p4:id≠id2:=λe=>by simp_all
         subst p1 p2;let⟨hroom,ty⟩:=cV ty;let⟨l1',hl1⟩:=fO h l1 (hinv.C id _ l1 hb1);have hln:=iP hl1;have hg:H.get (nm id)=Z ⟨ty1,.mx l1'⟩:=by rw[hH,ct,hb1];simp only[aH,lx,hl1]
         have hidlt:id<nx:=hinv.low id _ hb1;generalize hB:fm.C (Z ty1) (l1++l2)=B at ty;have hd1:cq h (h.set id (Z (.qx J 0 0))):=cq.set λr I=>by rw[bW,hb1]at I;cases I
         have hd2:cq (h.set id (Z (.qx J 0 0))) ((h.set id (Z (.qx J 0 0))).set nx (Z B)):=cq.set λr I=>by
          rw[bW,PT.get_set,ay (by omega),hfr]at I;cases I
         have I:=hd1.trans hd2;have hsp:cO ((h.set id (Z (.qx J 0 0))).set nx (Z B)) (l1++l2)=Z (l1'++N):=iG I _ _ (oD hl1 hl2);have hb':erHF ((h.set id (Z (.qx J 0 0))).set nx (Z B)) (nm nx)=Z ⟨ty1,.mx (l1'++N)⟩:=by rw[ct,PT.get_set,aK rfl,<-hB]at *;simp only[aH,lx,hsp]
         have hbd:erHF ((h.set id (Z (.qx J 0 0))).set nx (Z B)) (nm id)=U:=by rw[ct,PT.get_set,ay (by omega),PT.get_set,aK rfl];rfl
         have hinv1:km (h.set id (Z (.qx J 0 0))) nx:=hinv.set hd1 hidlt (bi _) (λ_ _ he=>by cases he);have ha:dO (.app ty1 sz1 m s x) (EZ e h) H (nm nx)=Z ⟨.G (nm nx) sz1 (n+bytes),[nm id,nm id2],[nm nx,nm id],[(nm nx,⟨ty1,pq (l1'++N)⟩)],[nm nx]⟩:=by
          simp only[dO,h1,h3,hrow,hg];rw[aK (by
           simp only[c9,cD,Bool.and_true,BC.isCells,BC.len,hroom,ak,dE];refine ⟨?_,bx (by omega)⟩;simp only[mem,Bool.or_false];cases D:aB (nm id2) (nm id) with
           |false=>rfl
           |true=>exact bc (Bw (ar D)).symm p4)]
          simp only[BC.toMx,gF (show (l! l1')<=n*sz1 by omega)]
         refine ⟨_,_,_,_,_,ty,gP.mk' hc hH ha [nm nx,nm id] (λsz hi=>hi) (λq D=>?_) (λsz hi b' hbb=>?_) (λH1 H2 d hw1 _ hw2=>⟨λsz hi b b' hb hb2=>?_,λy hy=>?_⟩) (λq D=>?_) (λq D=>?_) (λq D=>?_) I (hinv1.set hd2 (by omega) (by omega) λty' l' he=>?_) (by omega)⟩
         .simp only[bk,cI,gH,not_or]at D;refine mC hinv I (iU.of λsz=>by
           by_cases e1:sz=nx
           .rw[e1,hfr,PT.get_set,aK rfl];exact .inr ⟨rfl,by rw[<- hB];rfl⟩
           .rw[PT.get_set,ay e1];by_cases e2:sz=id
            .rw[e2,hb1,PT.get_set,aK rfl];exact .inr ⟨rfl,rfl⟩
            .rw[PT.get_set,ay e2];exact .inl rfl) λsz ei=>?_
          subst ei;rw[PT.get_set,ay (λe=>D.1 (by rw[e])),PT.get_set,ay (λe=>D.2 (by rw[e]))]
         .simp only[bk,cI,gH]at hi;rcases hi with rfl|rfl
          .rw[aK (by simp)];exact⟨_,fF _ _⟩
          .grind
         .simp only[bk,cI,gH]at hi;rcases hi with rfl|rfl
          .rw[hw1 _ (by simp),fF]at hb;rw[hw2 _ (by simp),hb']at hb2;simp only[af]at hb hb2;subst hb hb2;let⟨m1,m2⟩:=o6 (l1'++N);exact ii.eq d m2 rfl m1
          .grind
         .simp only[co,af]at hy;subst hy;exact kY.refl d _
         .simp only[bk,cI,gH]at D;rw[bD,eu];rcases D with rfl|rfl
          .rw[d_];exact .inl (b_.2 rfl)
          .rw[d_];exact .inr (b_.2 rfl)
         .simp only[bk,cI,gH]at D;rw[bD,eu];rcases D with rfl|rfl
          .rw[d_];exact .inr (b_.2 rfl)
          .rw[d_];exact .inl (b_.2 rfl)
         .simp only[aE]at D;subst D;rw[d_];omega
         .rw[<- hB]at he;cases he;exact mB _ _ _ hsp
        .cases ty
       .cases ty
      .simp only[co,af]at h2;subst h2;let⟨hroom,ty⟩:=cV ty;have I:cq h ((dZ 0 h).set nx (Z (.C (Z A) l2))):=(cq.kill 0 h).trans (cq.set λr I=>by rw[bW,(hinv.kill 0).fresh]at I;cases I);have h2':=iG I _ _ hl2;refine ⟨_,_,_,_,_,ty,gP.new hinv hc hH (y0:=.G (nm nx) sz2 bytes) (rdl:=[nm id2]) (b0:=⟨A,pq N⟩) (by simp only[dO,h1,h3,hrow];simp[HV,CW,hroom,q3]) (dP.zero h) (λty' l' he=>?_) (λH1 H2 d g b' hb'=>?_) (λH1 H2 y d g hy=>?_) (λn hn=>?_)⟩
       .cases he;exact mB _ _ _ h2'
       .simp only[lx,h2',af]at hb';subst hb';let⟨p1,p2⟩:=o6 N;exact ii.eq d p2 rfl p1
       .simp only[co,af]at hy;subst hy;exact kY.refl d _
       .simp only[aE]at hn;subst hn;rw[d_];exact b_.2 rfl
      .cases ty
     .cases ty
    .cases ty
   .cases ty
  .cases ty
def awo {lo hi' mx:M Operand} (hc:cY P o.op=Z (.slc i s lo hi' mx)) (A:eH X W (.op (.slc i s lo hi' mx)) e h nx K=Z r):j9 P o aa e h nx K r:=by
 have hfr:=hinv.fresh;simp only[eH]at A;split at A
 .rename_i v hv;let⟨y,h1,h2⟩:=bE hi hv;split at A
  .split at A
   next hn=>let⟨n,hn⟩:=jT.1 hn;have h3:=UZ hn h2;exact j9.q (k:=0) hinv hc (λH _=>by simp only[dO,h1,h3,Option.isSome_some,bJ]) (cZ rfl) A
   .cases A
  .rename_i b;split at A
   .rename_i T xs k j hb;let⟨y2,h3,h4⟩:=bE hi hb;simp only[co,af]at h2 h4;subst h2 h4;split at A
    .rename_i D;have D:=ar D;subst D;let⟨I,A⟩:=cV A;have hfl:=fe (bN T) xs;have hcond:(c8 0 j&&c8 j (ah xs)&&dx (ah xs*T.size) (l! (xs.flatMap (b8 T))))=J:=by
      rw[I,cD];exact bx (by omega)
     simp only[c8,ak,bB]at I;have hlen:l! (xs.take j.toNat)=j.toNat:=by rw[bl];omega
     exact j9.q (k:=0) (y0:=.f (.sl ((xs.flatMap (b8 T)).take (j.toNat*T.size)) j.toNat)) hinv hc (λH _=>by simp only[dO,h1,h3,gr,hcond,bJ]) (cZ (by simp only[co,gr];rw[vq (bN T),hlen])) A
    .cases A
   .rename_i id k j hb;let⟨y2,h3,h4⟩:=bE hi hb;simp only[co,af]at h4;subst h4;split at A
    .rename_i ty p T xs N;split at A
     .rename_i D;have D:=ar D;subst D;let⟨I,A⟩:=cV A;let⟨H,hH⟩:=jP h;have hj0:=I;simp only[c8,gM,ak,bB]at I;have hp:¬((p&&l! xs==0)=J):=by
       simp only[ak,du];omega
      simp only[co,bW,N,aH,kS,dY,ay hp,af]at h2;subst h2;have hidlt:=hinv.low id _ N;have hne:nx≠id:=by omega
      have hg:H.get (nm id)=Z ⟨ty,.fz (xs.flatMap (b8 T))⟩:=by rw[hH,ct,N];simp only[aH,lx,ay hp]
      have fl:=fe (bN T) xs;have hcond:(T.size==T.size&&c8 0 j&&c8 j (ah xs))=J:=by
       simp only[c8,ak,bB,c9,true_and];omega
      have hlen:l! (xs.take j.toNat)=j.toNat:=by rw[bl];omega
      have ha0:dO (.slc T.size s U (Z b) U) (EZ e h) H (nm nx)=Z ⟨.G (nm nx) T.size j.toNat,[nm id],[nm nx,nm id],[(nm nx,⟨ty,.fz ((xs.take j.toNat).flatMap (b8 T))⟩)],[nm nx]⟩:=by
       have hc2:((BC.fz (xs.flatMap (b8 T))).isCells&&dx (ah xs*T.size) (BC.fz (xs.flatMap (b8 T))).len)=J:=by
        simp only[BC.isCells,cD,BC.len];exact bx (by omega)
       simp only[dO,h1,h3,gr,hcond,bJ,hg,hc2,BC.toMx,<-nR,vP,vq (bN T)]
      generalize hh':(h.set id (Z (.qx p T.size (ah xs)))).set nx (Z (.F ty aa T (cu j.toNat xs)))=h' at A;have hrA:cq h (h.set id (Z (.qx p T.size (ah xs)))):=cq.set λr hr=>by rw[bW,N]at hr;exact hr
      have hg2:∀sz,h'.get sz=if sz=nx then Z (.F ty aa T (cu j.toNat xs)) else if sz=id then Z (.qx p T.size (ah xs)) else h.get sz:=λsz=>by rw[<- hh',PT.get_set,PT.get_set]
      have hr:cq h h':=by
       rw[<- hh'];refine hrA.trans (cq.set λr hr=>?_);rw[bW,PT.get_set,ay hne,hfr]at hr;cases hr
      have hinv':km h' (nx+1):=by
       refine ⟨λsz ty l hil=>?_,λsz c hic=>?_⟩
       .rw[hg2]at hil;split at hil
        .cases hil
        .split at hil
         .cases hil
         .exact gI hr l (hinv.C sz _ l hil)
       .rw[hg2]at hic;split at hic
        .omega
        .split at hic
         .omega
         .have:=hinv.low sz c hic;omega
      have hme:iU h h':=(iU.of λsz=>by
       rw[hg2];by_cases e1:sz=nx
       .rw[aK e1,e1,hfr];exact .inr ⟨rfl,rfl⟩
       .rw[ay e1];by_cases e2:sz=id
        .rw[aK e2,e2,N];exact .inr ⟨rfl,rfl⟩
        .rw[ay e2];exact .inl rfl)
      have hsame:∀n,n≠nm nx->n≠nm id->erHF h' n=erHF h n:=λn h1 h2=>mC hinv hr hme λsz e=>by
       subst e;rw[hg2,ay (λe=>h1 (by rw[e])),ay (λe=>h2 (by rw[e]))]
      have hdead:erHF h' (nm id)=U:=by rw[ct,hg2,ay (by omega),aK rfl];rfl
      have hnew:erHF h' (nm nx)=Z ⟨ty,.fz ((xs.take j.toNat).flatMap (b8 T))⟩:=by rw[ct,hg2,aK rfl];rfl
      have hval:co h' (.G nx)=Z (.G (nm nx) T.size j.toNat):=by simp only[co,bW,hg2,bJ,aH,kS,dY,fY,cA,fM,hlen]
      refine ⟨_,_,_,_,_,A,?_⟩;refine gP.mk' hc hH ha0 [nm nx,nm id] (λsz hi=>hi) (λn hn=>?_) (λsz hi b' hb'=>?_) (λH1 H2 d hw1 _ hw2=>⟨λsz hi b b' hb1 hb2=>?_,λy hy=>?_⟩) (λn hn=>?_) (λn hn=>?_) (λn hn=>by simp only[aE]at hn;subst hn;rw[d_];omega) hr hinv' (by omega)
      .simp only[bk,cI,gH,not_or]at hn;exact hsame n hn.1 hn.2
      .simp only[bk,cI,gH]at hi;rcases hi with rfl|rfl
       .exact⟨_,by rw[aK (by simp)];exact fF _ _⟩
       .rw[hdead]at hb';cases hb'
      .simp only[bk,cI,gH]at hi;rcases hi with rfl|rfl
       .rw[hw1 _ (by simp),fF]at hb1;rw[hw2 _ (by simp),hnew]at hb2;simp only[af]at hb1 hb2;subst hb1 hb2;exact ii.refl d _
       .rw[hw2 _ (by simp),hdead]at hb2;cases hb2
      .rw[hval]at hy;cases hy;exact kY.refl d _
      .simp only[aE]at hn;subst hn;rw[d_];exact b_.2 rfl
      .simp only[bk,cI,gH]at hn;rcases hn with rfl|rfl<;>rw[d_,bD,b_.2 rfl]<;>simp
     .cases A
    .cases A
   .cases A
  .rename_i b;split at A
   .rename_i T xs k j hb;let⟨y2,h3,h4⟩:=bE hi hb;simp only[co,af]at h2 h4;subst h2 h4;split at A
    .rename_i D;have D:=ar D;subst D;let⟨I,A⟩:=cV A;have hfl:=fe (bN T) xs;have hcond:(c8 0 j&&c8 j (ah xs)&&dx (ah xs*T.size) (l! (xs.flatMap (b8 T))))=J:=by
      rw[I,cD];exact bx (by omega)
     simp only[c8,ak,bB]at I;have hlen:l! (xs.drop j.toNat)=ah xs-j.toNat:=by rw[fo]
     have htk:((xs.flatMap (b8 T)).drop (j.toNat*T.size)).take ((ah xs-j.toNat)*T.size)=(xs.flatMap (b8 T)).drop (j.toNat*T.size):=by
      refine gF ?_;rw[fo,hfl,Nat.sub_mul];exact bi _
     exact j9.q (k:=0) (y0:=.f (.sl ((xs.flatMap (b8 T)).drop (j.toNat*T.size)) (ah xs-j.toNat))) hinv hc (λH _=>by simp only[dO,h1,h3,gr,hcond,bJ,htk]) (cZ (by simp only[co,gr];rw[zZ (bN T),hlen])) A
    .cases A
   .rename_i id k j hb;let⟨y2,h3,h4⟩:=bE hi hb;simp only[co,af]at h4;subst h4;split at A
    .rename_i ty p T xs N;split at A
     .rename_i D;have D:=ar D;subst D;let⟨I,A⟩:=cV A;have hcond:(T.size==T.size&&c8 0 j&&gM j (ah xs))=J:=by
       simp only[ak]at I;rw[I.1,I.2,c9];rfl
      simp only[c8,gM,ak,bB]at I;have hp:¬((p&&l! xs==0)=J):=by
       simp only[ak,du];omega
      simp only[co,bW,N,aH,kS,dY,ay hp,af]at h2;subst h2;exact j9.q (k:=0) (y0:=.sl (nm id) (j.toNat*T.size) (ah xs-j.toNat)) hinv hc (λH _=>by simp only[dO,h1,h3,gr,hcond,bJ]) (cZ (by simp only[co,bW,N,aH,kS])) A
     .cases A
    .cases A
   .cases A
  .rename_i b b' hne;split at A
   .rename_i T xs k j k' j' hb hb';let⟨y2,h3,h4⟩:=bE hi hb;let⟨y3,h5,h6⟩:=bE hi hb';simp only[co,af]at h2 h4 h6;subst h2 h4 h6;split at A
    .rename_i D;have D:=ar D;subst D;let⟨I,A⟩:=cV A;have hfl:=fe (bN T) xs;have hcond:(decide (j=j')&&c8 0 j&&c8 j (ah xs)&&dx (ah xs*T.size) (l! (xs.flatMap (b8 T))))=J:=by
      rw[I,cD];exact bx (by omega)
     simp only[c8,ak,bB]at I;have hlen:l! (xs.take j.toNat)=j.toNat:=by rw[bl];omega
     refine j9.q (k:=0) (y0:=.qc ((xs.flatMap (b8 T)).take (j.toNat*T.size)) j.toNat) hinv hc (λH _=>?_) (cZ (by simp only[co];rw[vq (bN T),hlen])) A;simp only[dO,h1,h3,h5,gr,hcond,bJ]
    .cases A
   .cases A
  .rename_i b b';split at A
   .rename_i T xs k j k' m hb hb';let⟨y2,h3,h4⟩:=bE hi hb;let⟨y3,h5,h6⟩:=bE hi hb';simp only[co,af]at h2 h4 h6;subst h2 h4 h6;split at A
    .rename_i D;have D:=ar D;subst D;let⟨I,A⟩:=cV A;have hfl:=fe (bN T) xs;have hcond:(c8 0 j&&c8 j m&&c8 m (ah xs)&&dx (ah xs*T.size) (l! (xs.flatMap (b8 T))))=J:=by
      simp only[ak]at I ⊢;exact⟨⟨⟨I.1,I.2.1⟩,I.2.2⟩,bx (by omega)⟩
     simp only[c8,ak,bB]at I;have hlen:l! ((xs.drop j.toNat).take (m.toNat-j.toNat))=m.toNat-j.toNat:=by rw[bl,fo];omega
     exact j9.q (k:=0) (y0:=.f (.sl (((xs.flatMap (b8 T)).drop (j.toNat*T.size)).take ((m.toNat-j.toNat)*T.size)) (m.toNat-j.toNat))) hinv hc (λH _=>by simp only[dO,h1,h3,h5,gr,hcond,bJ]) (cZ (by simp only[co,gr];rw[vq (bN T),zZ (bN T),hlen])) A
    .cases A
   .cases A
  .cases A
 .cases A
def ax7 (hc:cY P o.op=Z (.clr i E s)) (A:eH X W (.op (.clr i E s)) e h nx K=Z r):j9 P o aa e h nx K r:=by
 let⟨H,hH⟩:=jP h;simp only[eH]at A;split at A
 .rename_i id j hv;split at A
  .rename_i ty p T xs N;split at A
   .rename_i D;simp only[ak]at D;let⟨⟨D,hz⟩,hco⟩:=D;have D:=ar D;have hz:=G8 hz;subst D hz;let⟨hj,A⟩:=cV A;simp[c8,gM,ak,bB]at hj;let⟨y,h1,h2⟩:=bE hi hv;simp[co,bW,N,aH,kS,af]at h2;subst h2;have hp:¬((p&&xs.length==0)=J):=by grind
    have fl:=fe (bN T) xs;have hg:H.get (nm id)=Z ⟨ty,.fz (xs.flatMap (b8 T))⟩:=by rw[hH,ct,N];simp only[aH,lx,ay hp]
    have hrl:(repl (uM T) (xs.length-j.toNat)).length=(xs.length-j.toNat)*T.size:=by
     have h9:=(K7 (H:=λ_=>U) (H':=λ_=>U) (λn b N=>by cases N) T (xs.length-j.toNat)).length;rw[bj,bj,fe (bN T),cR]at h9;exact h9.symm
    have hoff:j.toNat*T.size+(xs.length-j.toNat)*T.size=xs.length*T.size:=by rw[<- jl];congr 1;omega
    have hput:(BC.fz (xs.flatMap (b8 T))).put (j.toNat*T.size) ((repl (uM T) (xs.length-j.toNat)).map .f)=Z (.fz (splice (xs.flatMap (b8 T)) (j.toNat*T.size) (repl (uM T) (xs.length-j.toNat)))):=by
     unfold BC.put;rw[aK]
     .simp[Xr]
     .simp only[ak];refine ⟨⟨rfl,bx ?_⟩,JZ _ λq hq=>?_⟩
      .simp only[BC.len,bj];omega
      .obtain⟨v,hv,rfl⟩:=UE _ q hq;exact cQ.1 hco v hv
    have hblt:dw 0 (xs.length-j.toNat)=J:=bx (by omega);have ha0:dO (.clr T.size (uM T) s) (EZ e h) H (nm nx)=Z ⟨.qp [],[nm id],[nm id],[(nm id,⟨ty,.fz (splice (xs.flatMap (b8 T)) (j.toNat*T.size) (repl (uM T) (xs.length-j.toNat)))⟩)],[]⟩:=by
     simp[dO,h1,hg,hblt,bJ,hput]
    have hlen:(cu j.toNat xs++aD (ah xs-j.toNat) T.zero).length=xs.length:=by grind
    have hrow:kS (.F ty p T (cu j.toNat xs++aD (ah xs-j.toNat) T.zero))=kS (.F ty p T xs):=by simp[kS,hlen]
    refine ⟨_,_,_,_,_,A,gP.wrt (m:=0) (v:=.qp []) (rd:=kz id) hinv hc hH ha0 N (dP.zero h) (by simp) hrow (λ_ _ he=>by cases he) (λH1 H2 d g b' I=>?_) (λH1 H2 y d g hy=>?_) (λn hn=>?_)⟩
    .have hp2:¬((p&&(cu j.toNat xs++aD (ah xs-j.toNat) T.zero).length==0)=J):=by rw[hlen];exact hp
     simp only[lx,ay hp2,af]at I;subst I;refine ii.C rfl rfl ?_ λq hq=>?_
     .simp only[BC.toMx];unfold splice;rw[hrl,hoff,<-fl,List.drop_length,cJ,Ka,vq (bN T),b7,b7];exact (iy.refl d _).append (K7 d T _)
     .simp only[BC.toMx]at hq;obtain⟨q',hq',rfl⟩:=cv.1 hq;exact vu T _ q' hq'
    .simp[co,cO,af]at hy;subst hy;exact kY.refl d _
    .simp[aE]at hn;subst hn;rw[d_];exact b_.2 rfl
   .cases A
  .cases A
 .cases A
end ops
def Yd {V:Ty} {A:Y (T.den×V.den)} (q:mpE T V A=J):A.map (λp=>(rO T p.1,AV.f (gr V p.2)))=[]:=by
 unfold mpE at q;split at q
 .rfl
 .cases q
def aql {V:Ty} {A:Y (T.den×V.den)} (q:mpE T V A=J):aco T=J:=by
 unfold mpE at q;split at q
 .rfl
 .cases q
def aao (q:acp b T=J):aco T=J:=by
 cases T<;>cases b<;>first|rfl|cases q
def Sj (A:acp b T=J) (k q:T.den):wA .eql (rO T k) (rO T q)=Z (.bool (OG T k q))/\BE b (rO T k)=J/\gr T k= .raw (rO T k):=by
 cases T<;>cases b<;>first|cases A|skip
 .exact⟨by simp[wA,rO,OG,c9,bJ,af,EV];exact Bool.beq_eq_decide_eq _ _,rfl,rfl⟩
 .exact⟨by simp[wA,rO,OG,G7],rfl,rfl⟩
def UV {V:Ty} (A:acp b T=J) (k:T.den):∀D:Y (T.den×V.den),u4 (rO T k) (D.map λp=>(rO T p.1,AV.f (gr V p.2)))=Z ((wP k D).map λv=>AV.f (gr V v))
 |[]=>rfl
 |(q,v)::r=>by
  simp[eg,u4,(Sj A k q).1,wP];cases I:OG T k q with
  |true=>rfl
  |false=>simp[cA,fM];exact UV A k r
def aac {V:Ty} (A:acp b T=J) (k:T.den) (v:V.den):∀D:Y (T.den×V.den),Bz (rO T k) (.f (gr V v)) (D.map λp=>(rO T p.1,AV.f (gr V p.2)))=Z ((Kf k v D).map λp=>(rO T p.1,AV.f (gr V p.2)))
 |[]=>rfl
 |(q,I)::r=>by
  simp[eg,Bz,(Sj A k q).1,Kf];cases N:OG T k q with
  |true=>rfl
  |false=>simp[aac A k v r,cA,fM,eg]
def aow {ok:Bool} (q:co h u=Z y):co h (pkT ok u (.f .bool b))=Z (pkV ok y b):=by
 cases ok with
 |false=>exact q
 |true=>simp[pkT,pkV,co,cO,q];rfl
section ops
variable {R:Type} {P:Program} {o:Oper} {e:iu} {h:bf} {nx:Nat} {K:KO R} {r:R}
def Le.aggOf {l:Y FV} (D:∀x∈l,x.isCell=J):Le (.agg (l.map .f)) (.f (.agg l)):=by
 intro φ O w v A;cases A with
 |@agg _ vs N hcl hrr=>
  refine .f (.agg l vs (by grind) D λj y u I q=>?_);have:=hrr j (.f y) u (by grind) q;cases this with
  |f h=>exact h
def UN (S:Ty) (l:Y TV):M (S.den×Nat×Y TV):=match l with
 |c::r=>(match iJ PT.leaf S c with|some (x,m)=>Z (x,m,r)|none=>U)
 |[]=>U
def Qv:∀{l q:Y FV},l.map AV.f=q.map AV.f->l=q
 |[],[],_=>rfl
 |[],_::_,h|_::_,[],h=>by simp at h
 |x::r,y::r',h=>by
  simp[eg,iI,AV.f.injEq]at h;rw[h.1,Qv h.2]
def LP (h:bf):∀(ds:Y TypeDesc) (T:Ty),sM ds=Z T->∀(n:Nat) (l:Y TV) (x:T.den) (m:Nat) (r:Y TV),fL PT.leaf n T l=Z (x,m,r)->∀N,cO h l=Z N->∃I,cO h r=Z I/\N=(b8 T x).map .f++I
 |[],T,hd,n,l,x,m,r,hp,N,hl=>by
  simp[sM,af]at hd;subst hd;cases n with
  |zero=>simp[fL]at hp
  |succ n=>
   obtain⟨_,_,rfl⟩:=hp;exact⟨N,hl,rfl⟩
 |d::ds,T,hd,n,l,x,m,r,hp,N,hl=>by
  have plain:∀(S:Ty),S.one=J->(∀t,S≠ .sl t)->∀(v:TV) (a:S.den) (m:Nat) (y:AV),iJ PT.leaf S v=Z (a,m)->co h v=Z y->y= .f (gr S a):=by
   intro S hS hns v a m y D hy;cases v with
   |f Q q=>
    simp[iJ]at D;split at D
    next z hz=>obtain⟨rfl,_⟩:=D;obtain⟨e,rfl⟩:=ip hz;subst e;simp[co,af]at hy;exact hy.symm
    .cases D
   |emp|nil=>
    cases S with
    |sl t=>exact bc rfl (hns t)
    |_=>simp[iJ]at D
   |G id=>simp[iJ,PT.get]at D
   |_=>simp[iJ]at D
  have one:∀(S:Ty),S.one=J->(∀t,S≠ .sl t)->∀(n:Nat) (l:Y TV) (a:S.den) (m:Nat) (r:Y TV),fL PT.leaf n S l=Z (a,m,r)->∀N,cO h l=Z N->∃I,cO h r=Z I/\N=(b8 S a).map .f++I:=by
   intro S hS hns n l a m r hp N hl;cases n with
   |zero=>simp[fL]at hp
   |succ n=>
    cases l with
    |nil=>
     cases S with
     |int k|bool|str=>cases hp
     |sl t=>exact bc rfl (hns t)
     |_=>cases hS
    |cons c q=>
     have hpp:UN S (c::q)=Z (a,m,r):=by
      cases S with
      |int k=>simp[fL]at hp;simp[UN];cases hq:iJ PT.leaf (.int k) c with
       |none=>rw[hq]at hp;cases hp
       |some z=>rw[hq]at hp;exact hp
      |bool=>simp[fL]at hp;simp[UN];cases hq:iJ PT.leaf .bool c with
       |none=>rw[hq]at hp;cases hp
       |some z=>rw[hq]at hp;exact hp
      |str=>simp[fL]at hp;simp[UN];cases hq:iJ PT.leaf .str c with
       |none=>rw[hq]at hp;cases hp
       |some z=>rw[hq]at hp;exact hp
      |sl t=>exact bc rfl (hns t)
      |_=>cases hS
     simp[UN]at hpp;split at hpp
     next a1 m1 h1=>simp[af,aV]at hpp;obtain⟨rfl,rfl,rfl⟩:=hpp;obtain⟨y,I,rfl,g1,g2⟩:=db hl;have:=plain S hS hns c a1 m1 y h1 g1;subst this;exact⟨I,g2,by rw[(M7 S a1 hS).1];rfl⟩
     .cases hpp
  have two:∀(S A:Ty),S.one=J->(∀t,S≠ .sl t)->sM ds=Z A->T= .pr S A->∃I,cO h r=Z I/\N=(b8 T x).map .f++I:=by
   intro S A hS hns hU e;subst e;cases n with
   |zero=>simp[fL]at hp
   |succ n=>
    simp[fL]at hp;split at hp
    .rename_i x1 m1 r1 h1;split at hp
     next x2 m2 r2 h2=>simp[af,aV]at hp;obtain⟨rfl,rfl,rfl⟩:=hp;let⟨I,g1,g2⟩:=one S hS hns n l x1 m1 r1 h1 N hl;let⟨l3,g3,g4⟩:=LP h ds A hU n r1 x2 m2 r2 h2 I g1;exact⟨l3,g3,by rw[g2,g4,b8,b7,bm]⟩
     .cases hp
    .cases hp
  cases d with
  |int k=>
   simp[sM]at hd;split at hd
   next A hU=>simp[af]at hd;exact two (.int k) A rfl (λt h=>by cases h) hU hd.symm
   .cases hd
  |bool=>
   simp[sM]at hd;split at hd
   next A hU=>simp[af]at hd;exact two .bool A rfl (λt h=>by cases h) hU hd.symm
   .cases hd
  |string=>
   simp[sM]at hd;split at hd
   next A hU=>simp[af]at hd;exact two .str A rfl (λt h=>by cases h) hU hd.symm
   .cases hd
  |_=>simp[sM]at hd
def Gj:∀(ds:Y TypeDesc) (T:Ty),sM ds=Z T->∀a b:T.den,qB ds (b8 T a) (b8 T b)=Z (OG T a b)
 |[],T,hd,a,b=>by simp[sM,af]at hd;subst hd;rfl
 |d::ds,T,hd,a,b=>by
  cases d with
  |int k=>
   simp[sM]at hd;split at hd
   .rename_i y q;simp[af]at hd;subst hd;have A:=Gj ds y q a.2 b.2;simp[b8,ft,kR,qB,Ab,c9,bJ,OG];cases he:((a.1:Int)==b.1) with
    |true=>have D:(a.1:Int)=b.1:=by simpa using he
           grind
    |false=>have D:¬(a.1:Int)=b.1:=by simpa using he
            grind
   .cases hd
  |bool=>
   simp[sM]at hd;split at hd
   .rename_i y q;simp[af]at hd;subst hd;have A:=Gj ds y q a.2 b.2;simp[b8,ft,kR,qB,Ab,OG]
    grind
   .cases hd
  |string=>
   simp[sM]at hd;split at hd
   .rename_i y q;simp[af]at hd;subst hd;have A:=Gj ds y q a.2 b.2;simp[b8,ft,kR,qB,Ab,OG,G7];cases he:decide ((a.1:ζ)=b.1) with
    |true=>simp[A,cD]
    |false=>simp[fY]
   .cases hd
  |_=>simp[sM]at hd
def Ro (A:u.isC=aa) {N:Y TV} (I:u.cs=Z N) {ds:Y TypeDesc} (hd:sM ds=Z T) {a:T.den} (hp:fL PT.leaf 40 T N=Z (a,m,[])) (D:co h u=Z y):Le y (.f (.agg (b8 T a))):=by
 let⟨h1,_⟩:=Nz I D;let⟨l2,h2,h3⟩:=LP h ds T hd 40 N a m [] hp _ h1;simp[cO,af]at h2;subst h2;rw[cJ]at h3;cases u with
 |agg l=>
  simp[co]at D;split at D
  next l' _=>simp[af]at D;subst D;have:l'=(b8 T a).map .f:=h3;rw[this];exact Le.aggOf (pd T a)
  .cases D
 |f S x=>
  simp[co,af]at D;subst D;have ho:S.one=aa:=A;rw[C1]at h3;have:b8 S x=b8 T a:=Qv h3;rw[rZ S x ho,this];exact Le.refl _
 |qp l|undef|qj|qc S q=>simp[TV.cs,TV.isC]at I
 |zg id jj=>cases I
 |_=>cases A
variable (hinv:km h nx) (hi:sG e h)
include hinv hi
variable {X:FuncId->M cr} {W:TypeId->M Ty}
def ax5 {ds:Y TypeDesc} {y:Operand} {st:Bool} (hc:cY P o.op=Z (.jp b ds s y)) (D:eH X W (.op (.jp b ds s y)) e h nx K=Z r):j9 P o st e h nx K r:=by
 let⟨H,hH⟩:=jP h;simp[eH]at D;split at D
 .rename_i T u v hd hu hv;split at D
  .cases D
  .rename_i hcc;simp[eu,not_or,iQ]at hcc;split at D
   .rename_i lu lv hlu hlv;split at D
    .rename_i a m1 neg m2 hpa hpb;let⟨yu,h1,h2⟩:=bE hi hu;let⟨yv,h3,h4⟩:=bE hi hv;let⟨⟨⟨hc1,N⟩,hc3⟩,hc4⟩:=hcc;have l1:=Ro hc1 hlu hd hpa h2;have l2:=Ro N hlv hd hpb h4;have tmp:∀(z:Operand) (q:TV),eA e z=Z q->q.isC=aa->Yp z=aa->∃t,z= .tmp t:=by
      intro z q A hq hg;cases z with
      |tmp t=>exact⟨t,rfl⟩
      |const c=>
       have A:cst c=Z q:=by
        simp[eA,arc]at A;split at A
        .cases hg
        .exact A
       have:=(Nw h A).2.2;rw[hq]at this;cases this
      |func g=>simp[eA,af]at A;subst A;cases hq
      |global g=>
       simp[eA]at A;split at A
       .cases A;cases hq
       .cases A
     obtain⟨t,rfl⟩:=tmp s u hu hc1 hc3;obtain⟨t',rfl⟩:=tmp y v hv N hc4;have same:t=t'->b8 T a=b8 T neg:=by grind
     let I:wC:=((EZ e h).set t (Z (.f (.agg (b8 T a))))).set t' (Z (.f (.agg (b8 T neg))))
     have e1:lZ I (.tmp t)=Z (.f (.agg (b8 T a))):=by
      simp[lZ,I,PT.get_set]
      grind
     have e2:lZ I (.tmp t')=Z (.f (.agg (b8 T neg))):=by simp[lZ,I,PT.get_set,bJ]
     have ha:dO (.jp b ds (.tmp t) (.tmp t')) I H 0=Z ⟨raw (.bool (OG T a neg !=b)),[],[],[],[]⟩:=by
      simp[dO,e1,e2,Gj ds T hd a neg];rfl
     have ht:=Fy hc ha;rw[hH]at ht;have ht2:gJ P o (gk e h) (erHF h) _:=ht.envLe (e2:=gk e h) λx z _ A=>by
      simp[I,PT.get_set]at A;rw[<- CY];simp[lZ]at h1 h3;split at A
      .grind
      .split at A
       .grind
       .exact⟨z,A,Le.refl _⟩
     refine ⟨_,0,0,h,nx,D,⟨⟨_,ht2,λy hy=>?_,by simp[AS.eff,tL],by simp[AS.eff],by simp[AS.eff],by simp[AS.eff]⟩,λ_ _ h=>h,hinv,bi _,λ_=>⟨rfl,rfl⟩⟩⟩;simp[co,af]at hy;exact hy
    .cases D
   .cases D
 .cases D
def awu (I:cY P o.op=Z .mkm) (D:eH X W (.op .mkm) e h nx K=Z r):j9 P o aa e h nx K r:=by
 have _:=hi;let⟨H,N⟩:=jP h;refine ⟨_,_,_,_,_,D,gP.new hinv I N (y0:=.mp (nm nx)) (rdl:=[]) (b0:=⟨0,.mp []⟩) rfl (dP.zero h) (λ_ _ he=>by cases he) (λH1 H2 d g b' q=>?_) (λH1 H2 y d g A=>?_) (by simp)⟩
 .cases q;exact ii.refl d _
 .simp[co,af]at A;subst A;exact kY.refl d _
def awy {ok:Bool} {k:Operand} (hc:cY P o.op=Z (.lku b ok v s k)) (q:eH X W (.op (.lku b ok v s k)) e h nx K=Z r):j9 P o aa e h nx K r:=by
 let⟨H,hH⟩:=jP h;simp only[eH]at q;split at q
 .rename_i id KT kv hv hv2;split at q
  .rename_i K' V D hb;split at q
   .rename_i N;let⟨y,h1,h2⟩:=bE hi hv;let⟨y2,h3,h4⟩:=bE hi hv2;simp[co,af]at h2 h4;subst h2 h4;simp[ak]at N;have hg:H.get (nm id)=Z ⟨0,.mp (D.map λp=>(rO K' p.1,.f (gr V p.2)))⟩:=by rw[hH,ct,hb];show Z (nk.mk 0 (mpC K' V D))=_;rw[HC N.2]
    let⟨_,hok,henc⟩:=Sj N.1 kv kv;rw[henc]at h3;have hrd:∀n∈[nm id],aC (kz id) (ow n)=J:=λn hn=>by simp[aE]at hn;subst hn;rw[d_];exact b_.2 rfl
    split at q
    .rename_i hE;split at q
     next z hz=>have hzz:=(Nw h hz).1;exact⟨_,_,_,_,_,q,gP.pure (k:=0) hinv hc hH (y0:=pkV ok (raw v) aa) (rdl:=[nm id]) (by simp[dO,h1,h3,hg,hok,bJ,Yd hE,u4]) (λy I=>by rw[aow hzz]at I;cases I;exact Le.refl _) hrd nofun⟩
     .cases q
    .split at q
     .rename_i kv' A zv hkv hz;split at q
      .rename_i zv' hzv;let⟨e1,e2⟩:=ip hkv;cases e1;subst e2;let⟨e3,e4⟩:=ip hzv;cases e3;subst e4;have hzz:=(Nw h hz).1;simp[co,af]at hzz;refine ⟨_,_,_,_,_,q,gP.pure (k:=0) hinv hc hH (y0:=pkV ok (.f (gr _ (FD kv' D zv'))) (aqn kv' D)) (rdl:=[nm id]) ?_ (λy I=>by rw[aow (y:=.f (gr _ (FD kv' D zv'))) rfl]at I;cases I;exact Le.refl _) hrd nofun⟩;simp[dO,h1,h3,hg,hok,bJ,UV N.1];unfold FD aqn;cases hf:wP kv' D with
       |none=>simp[Option.map_none];rw[hzz]
       |some z=>rfl
      .cases q
     .cases q
   .cases q
  .cases q
 .cases q
def awt {k v:Operand} (hc:cY P o.op=Z (.mup b s k v)) (q:eH X W (.op (.mup b s k v)) e h nx K=Z r):j9 P o aa e h nx K r:=by
 let⟨H,hH⟩:=jP h;simp only[eH]at q;split at q
 .rename_i id KT N VT vv hv hv2 hv3;split at q
  .rename_i K' V es hb;split at q
   .rename_i D;simp[ak]at D;let⟨y,h1,h2⟩:=bE hi hv;let⟨y2,h3,h4⟩:=bE hi hv2;let⟨y3,h5,h6⟩:=bE hi hv3;simp[co,af]at h2 h4 h6;subst h2 h4 h6;have hg:H.get (nm id)=Z ⟨0,.mp (es.map λp=>(rO K' p.1,.f (gr V p.2)))⟩:=by rw[hH,ct,hb];show Z (nk.mk 0 (mpC K' V es))=_;rw[HC D.2]
    let⟨_,hok,henc⟩:=Sj D.1.1 N N;rw[henc]at h3;have hrd:∀n∈[nm id],aC (kz id) (ow n)=J:=λn hn=>by simp[aE]at hn;subst hn;rw[d_];exact b_.2 rfl
    split at q
    next hE=>exact⟨_,_,_,_,_,q,gP.wrt (k:=0) (m:=0) (v:=.undef) (rd:=kz id) hinv hc hH (y0:=raw undef) (b0:=⟨0,.mp [(rO KT N,.f (gr VT vv))]⟩) (rdl:=[nm id]) (by simp[dO,h1,h3,h5,hg,hok,bJ,Yd hE,Bz]) (B:=.mp KT VT [(N,vv)]) hb (dP.zero h) (by simp) rfl (λty' l2 he=>by cases he) (λH1 H2 d g b' A=>by simp[lx,HC (aao D.1.1),af]at A;subst A;exact ii.refl d _) (λH1 H2 y d g I=>by simp[co,af]at I;subst I;exact kY.refl d _) hrd⟩
    .split at q
     next kv' vv' hkv hvv=>let⟨e1,e2⟩:=ip hkv;cases e1;subst e2;let⟨e3,e4⟩:=ip hvv;cases e3;subst e4;exact⟨_,_,_,_,_,q,gP.wrt (k:=0) (m:=0) (v:=.undef) (rd:=kz id) hinv hc hH (y0:=raw undef) (b0:=⟨0,.mp ((Kf kv' vv' es).map λp=>(rO _ p.1,.f (gr _ p.2)))⟩) (rdl:=[nm id]) (by simp[dO,h1,h3,h5,hg,hok,bJ,aac D.1.1]) (B:=.mp _ _ (Kf kv' vv' es)) hb (dP.zero h) (by simp) rfl (λty' l2 he=>by cases he) (λH1 H2 d g b' A=>by simp[lx,HC (aao D.1.1),af]at A;subst A;exact ii.refl d _) (λH1 H2 y d g I=>by simp[co,af]at I;subst I;exact kY.refl d _) hrd⟩
     .cases q
   .cases q
  .cases q
 .cases q
def awq (N:cY P o.op=Z (.rng s)) (q:eH X W (.op (.rng s)) e h nx K=Z r):j9 P o aa e h nx K r:=by
 let⟨H,hH⟩:=jP h;simp only[eH]at q;split at q
 .rename_i x I;let⟨y,h1,h2⟩:=bE hi I;simp[co,af]at h2;subst h2;refine ⟨_,_,_,_,_,q,gP.new hinv N hH (y0:=.H (nm nx) 0) (rdl:=[]) (b0:=⟨0,.it ⟨jV x⟩ 0⟩) (by simp[dO,h1];rfl) (dP.zero h) (λ_ _ he=>by cases he) (λH1 H2 d g b' A=>?_) (λH1 H2 y d g D=>?_) (by simp)⟩
  .cases A;exact ii.refl d _
  .simp[co,af]at D;subst D;exact kY.refl d _
 .cases q
def awr (hc:cY P o.op=Z (.nxt s)) (A:eH X W (.op (.nxt s)) e h nx K=Z r):j9 P o aa e h nx K r:=by
 let⟨H,hH⟩:=jP h;simp only[eH]at A;split at A
 .rename_i id hv;split at A
  .rename_i K' V es N;split at A
   .rename_i x p hI;let⟨y,h1,h2⟩:=bE hi hv;simp[co,af]at h2;subst h2;have hg:H.get (nm id)=Z ⟨0,.it ⟨jV x⟩ p⟩:=by rw[hH,ct,N];show Z (nk.mk 0 (mpC K' V es))=_;rw[aqv hI]
    have hrd:∀n∈[nm id],aC (kz id) (ow n)=J:=λn hn=>by simp[aE]at hn;subst hn;rw[d_];exact b_.2 rfl
    rcases oG A with ⟨hp,A⟩|⟨hp,A⟩
    .have hp:=aX hp;have e2:(⟨jV x⟩:ByteArray).data.toList[p]? =Z (List.getD x p 0):=by grind
     exact⟨_,_,_,_,_,A,gP.wrt (k:=0) (m:=0) (rd:=kz id) hinv hc hH (y0:=.qp [raw (.bool J),raw (.int .i64 p),raw (.int .i32 (rnP x p))]) (b0:=⟨0,.it ⟨jV x⟩ (p+wdP x p)⟩) (rdl:=[nm id]) (by simp only[dO,h1,hg,e2];rfl) (B:=.mp itK .un [((x,aY (p+wdP x p)),())]) N (dP.zero h) (by simp) rfl (λty' l2 he=>by cases he) (λH1 H2 d g b' D=>by cases D;exact ii.refl d _) (λH1 H2 y d g I=>by cases I;exact kY.refl d _) hrd⟩
    .have hp:l! x<=p:=Nat.not_lt.1 λq=>by rw[show dw p (l! x)=J from bx q]at hp;cases hp
     have e2:(⟨jV x⟩:ByteArray).data.toList[p]? =U:=by grind
     exact⟨_,_,_,_,_,A,gP.wrt (k:=0) (m:=0) (rd:=kz id) hinv hc hH (y0:=.qp [raw (.bool aa)]) (b0:=⟨0,.it ⟨jV x⟩ p⟩) (rdl:=[nm id]) (by simp[dO,h1,hg,e2]) (B:=.mp itK .un [((x,aY p),())]) N (dP.zero h) (by simp) rfl (λty' l2 he=>by cases he) (λH1 H2 d g b' D=>by cases D;exact ii.refl d _) (λH1 H2 y d g I=>by cases I;exact kY.refl d _) hrd⟩
   .cases A
  .cases A
 .cases A
def K_op {s:Rr} (A:cY P o.op=Z s) (q:eH X W (.op s) e h nx K=Z r):j9 P o s.still e h nx K r:=by
 cases s with
 |mv x=>exact K_mv hinv hi A q
 |pick c a b=>exact at7 hinv hi A q
 |alloc ty z=>exact aob hinv hi A q
 |box ty x=>exact ax9 hinv hi A q
 |build z parts=>exact aoa hinv hi A q
 |jt ty sz len z parts=>exact ax8 hinv hi A q
 |load sz D x=>exact ata hinv hi A q
 |store sz x v=>exact ao7 hinv hi A q
 |zh x=>exact at8 hinv hi A q
 |bin op x y=>exact axa hinv hi A q
 |jp neg ds x y=>exact ax5 hinv hi A q
 |jh neg x y=>exact ax6 hinv hi A q
 |zf neg x=>exact ao9 hinv hi A q
 |not x=>exact aws hinv hi A q
 |conv k x=>exact atd hinv hi A q
 |zk ty sz bytes z l c=>exact at9 hinv hi A q
 |slc sz x I N mx=>exact awo hinv hi A q
 |jk off x=>exact ax3 hinv hi A q
 |fld off sz D x=>exact ax2 hinv hi A q
 |jy sz x i=>exact ax1 hinv hi A q
 |idx n sz D x i=>exact ax0 hinv hi A q
 |jx n sz x i=>exact atc hinv hi A q
 |ext x i=>exact ax4 hinv hi A q
 |len x=>exact awz hinv hi A q
 |lens x=>exact atb hinv hi A q
 |max x y=>exact awx hinv hi A q
 |min x y=>exact aww hinv hi A q
 |jq x i=>exact at6 hinv hi A q
 |tos x=>exact awn hinv hi A q
 |sla n sz x I=>exact awp hinv hi A q
 |app ty sz bytes s x=>exact axb hinv hi A q
 |clr sz z x=>exact ax7 hinv hi A q
 |mkf f caps=>exact awv hinv hi A q
 |mkm=>exact awu hinv hi A q
 |rng x=>exact awq hinv hi A q
 |nxt x=>exact awr hinv hi A q
 |lku str ok z x k=>exact awy hinv hi A q
 |mup str x k v=>exact awt hinv hi A q
 |_=>simp[eH]at q
end ops
mutual
def AV.qz (g:Nat->Nat):AV->AV
 |.f x=>.f x
 |.H id off=>.H (g id) off
 |.sl id off n=>.sl (g id) off n
 |.G id sz n=>.G (g id) sz n
 |.mp id=>.mp (g id)
 |.emp=>.emp
 |.qj=>.qj
 |.qc l n=>.qc l n
 |.agg l=>.agg (AV.renL g l)
 |.qp l=>.qp (AV.renL g l)
 |.qv q l=>.qv q (AV.renL g l)
def AV.renL (g:Nat->Nat):Y AV->Y AV
 |[]=>[]
 |x::r=>x.qz g::AV.renL g r
end
def nZ (g:Nat->Nat):∀l,AV.renL g l=l.map (AV.qz g)
 |[]=>rfl
 |x::r=>by rw[AV.renL,nZ g r];rfl
def Fn (g:Nat->Nat) (x:AV):(x.qz g).isCell=x.isCell:=by cases x<;>rfl
variable {g:Nat->Nat}
def cG.renTo {φ':PM} (A:∀i k,V i=Z k->φ' (g i)=Z k) (h:cG V O w y v):cG φ' O w (y.qz g) v:=by
 induction h with
 |f h=>exact .f h
 |H h=>exact .H (A _ _ h)
 |sl h D I=>exact .sl (A _ _ h) D I
 |G h D I hsh=>exact .G (A _ _ h) D I hsh
 |emp=>exact .emp
 |qj=>exact .qj
 |qc h=>exact .qc h
 |mp h=>exact .mp (A _ _ h)
 |agg hl hcl hr N=>
  simp[AV.qz,nZ];refine .agg (by grind) (λy q=>?_) λj y v q hv=>?_
  .obtain⟨x,hy,rfl⟩:=cv.1 q;rw[Fn];exact hcl x hy
  .grind
 |qp hl hr N=>
  simp[AV.qz,nZ];refine .qp (by grind) λj y v q hv=>?_
  grind
 |qv hl hr N=>
  simp[AV.qz,nZ];refine .qv (by grind) λj y v q hv=>?_
  grind
variable {p:Nat->Bool}
def cG.renFrom {φ':PM} (hk:∀i k,p i=J->V (g i)=Z k->φ' i=Z k) (h:cG V O w y v):∀x:AV,x.all p=J->y=x.qz g->cG φ' O w x v:=by
 induction h with
 |f h=>intro x hp e;cases x<;>simp[AV.qz,reduceCtorEq]at e;cases e;exact .f h
 |H h=>intro x hp e;cases x<;>simp only[AV.qz,reduceCtorEq]at e;cases e;exact .H (hk _ _ hp h)
 |sl h hn hc=>intro x hp e;cases x<;>simp only[AV.qz,reduceCtorEq]at e;cases e;exact .sl (hk _ _ hp h) hn hc
 |G h hn hc hsh=>intro x hp e;cases x<;>simp only[AV.qz,reduceCtorEq]at e;cases e;exact .G (hk _ _ hp h) hn hc hsh
 |emp=>intro x hp e;cases x<;>simp[AV.qz,reduceCtorEq]at e;exact .emp
 |qj=>intro x hp e;cases x<;>simp[AV.qz,reduceCtorEq]at e;exact .qj
 |qc h=>intro x hp e;cases x<;>simp only[AV.qz,reduceCtorEq]at e;cases e;exact .qc h
 |mp h=>intro x hp e;cases x<;>simp[AV.qz,reduceCtorEq]at e;cases e;exact .mp (hk _ _ hp h)
 |agg N hcl I q=>
  intro x hp e;cases x<;>simp[AV.qz,reduceCtorEq]at e;cases e;rw[nZ]at N hcl I q;refine .agg (by grind) (λx A=>?_) λj x v A D=>?_
  .have:=hcl (x.qz g) (cv.2 ⟨x,A,rfl⟩);rwa [Fn]at this
  .exact q j (x.qz g) v (by grind) D x (mX hp x (bn A)) rfl
 |qp N I q=>
  intro x hp e;cases x<;>simp[AV.qz,reduceCtorEq]at e;cases e;rw[nZ]at N I q;refine .qp (by grind) λj x v A D=>?_
  exact q j (x.qz g) v (by grind) D x (mX hp x (bn A)) rfl
 |qv N I q=>
  intro x hp e;cases x<;>simp only[AV.qz,reduceCtorEq]at e;cases e;rw[nZ]at N I q;refine .qv (by grind) λj x v A D=>?_
  exact q j (x.qz g) v (by grind) D x (mX hp x (bn A)) rfl
def BC.qz (g:Nat->Nat):BC->BC
 |.fz l=>.fz l
 |.mx l=>.mx (l.map (AV.qz g))
 |.mp q=>.mp (q.map λp=>(p.1,p.2.qz g))
 |.it s p=>.it s p
def nk.qz (g:Nat->Nat) (b:nk):nk:=⟨b.ty,b.c.qz g⟩
def jS.renTo {φ':PM} {O':Nat->Prop} (D:∀x v,cG V O w x v->cG φ' O' w (x.qz g) v) {o:Obj} (h:jS V O w z o):jS φ' O' w (z.qz g) o:=by
 let⟨ty,c⟩:=z;simp[nk.qz];cases c with
 |fz l=>
  let⟨arr,h1,h2,h3⟩:=h;refine ⟨arr,h1,h2,λj x A=>?_⟩;let⟨a,v,c,d⟩:=h3 j x A;obtain⟨q,_,rfl⟩:=td.1 A;exact⟨a,v,c,D _ _ d⟩
 |mx l=>
  simp[BC.qz];let⟨arr,h1,h2,h3⟩:=h;refine ⟨arr,h1,by simpa[BC.len] using h2,λj x A=>?_⟩;simp only[BC.get,bL]at A;obtain⟨q,I,rfl⟩:=td.1 A;let⟨a,v,c,d⟩:=h3 j q I;exact⟨by rw[Fn];exact a,v,c,D _ _ d⟩
 |mp N=>
  let⟨e,c,h1,h2,h3⟩:=h;refine ⟨e,c,h1,by rw[ac4];exact h2,λj x A=>?_⟩
  grind
 |it s p=>exact h
def jS.renFrom {φ':PM} {O':Nat->Prop} (D:∀x v,x.all p=J->cG V O w (x.qz g) v->cG φ' O' w x v) (I:z.c.all p=J) {o:Obj} (h:jS V O w (z.qz g) o):jS φ' O' w z o:=by
 let⟨ty,c⟩:=z;simp[nk.qz]at h;cases c with
 |fz l=>
  let⟨arr,h1,h2,h3⟩:=h;refine ⟨arr,h1,h2,λj x A=>?_⟩;let⟨a,v,c,d⟩:=h3 j x A;obtain⟨q,_,rfl⟩:=td.1 A;exact⟨a,v,c,D _ _ rfl d⟩
 |mx l=>
  simp[BC.qz]at h;let⟨arr,h1,h2,h3⟩:=h;refine ⟨arr,h1,by simpa[BC.len] using h2,λj x A=>?_⟩;simp[BC.get]at A;let⟨a,v,c,d⟩:=h3 j (x.qz g) (by simp only[BC.get,bL,A];rfl);rw[Fn]at a;exact⟨a,v,c,D _ _ (mX I x (bn A)) d⟩
 |mp N=>
  let⟨e,c,h1,h2,h3⟩:=h;refine ⟨e,c,h1,by rw[ac4]at h2;exact h2,λj x A=>?_⟩;let⟨m,a,z⟩:=h3 j (x.1,x.2.qz g) (by grind);exact⟨m,a,D _ _ (mX I x.2 (cv.2 ⟨x,bn A,rfl⟩)) z⟩
 |it s p=>exact h
mutual
def Bs (g:Nat->Nat):TV->TV
 |.G i=>.G (g i)
 |.zg i j=>.zg (g i) j
 |.agg l=>.agg (lb g l)
 |.qp l=>.qp (lb g l)
 |.qv q l=>.qv q (lb g l)
 |.f T v=>.f T v
 |.zw T xs j h off=>.zw T xs j h off
 |.qn a b c d=>.qn (g a) b c d
 |.H a b=>.H (g a) b
 |.qf a b c=>.qf (g a) b c
 |.emp=>.emp
 |.nil=>.nil
 |.mp i=>.mp (g i)
 |.undef=>.undef
 |.np=>.np
 |.qj=>.qj
 |.qc T xs=>.qc T xs
 |.sb s=>.sb (s.to (g s.id))
def lb (g:Nat->Nat):Y TV->Y TV
 |[]=>[]
 |x::r=>Bs g x::lb g r
end
def vk (g:Nat->Nat):∀l,lb g l=l.map (Bs g)
 |[]=>rfl
 |x::r=>by rw[lb,vk g r];rfl
def kQ (g:Nat->Nat):fm->fm
 |.C ty l=>.C ty (lb g l)
 |.F ty p T xs=>.F ty p T xs
 |.qx p sz n=>.qx p sz n
 |.mp K V A=>.mp K V A
 |.qk F a x=>.qk F (F.aid (g a)) x
 |.qr F a x k p=>.qr F (F.aid (g a)) x k (p.map λq=>(g q.1,q.2))
def LF (g:Nat->Nat) (b:fm):kS (kQ g b)=kS b:=by cases b<;>rfl
def rq (g:Nat->Nat) (n:Nat):Nat:=tP (g (ow n)) (ix n)
def Gf (g:Nat->Nat) (i k:Nat):rq g (tP i k)=tP (g i) k:=by unfold rq;rw[nu,xv]
def Eu (g:Nat->Nat) (i:Nat):rq g (nm i)=nm (g i):=Gf g i 0
def am5 (g:Nat->Nat) (i:Nat) (j:Int):rq g (obN i j)=obN (g i) j:=Gf g i _
def xm (g:Nat->Nat) (n:Nat):ow (rq g n)=g (ow n):=nu _ _
def zO (g:Nat->Nat) (n:Nat):ix (rq g n)=ix n:=xv _ _
def UB (g:Nat->Nat) (id j sz n:Nat):(vB id j sz n).qz (rq g)=vB (g id) j sz n:=by
 unfold vB;split
 .rfl
 .simp[AV.qz,Gf]
def amh (g:Nat->Nat) (s:Sb):YO (s.to (g s.id))=(YO s).qz (rq g):=by
 cases s with
 |nr id j sz n=>simp[Sb.to,Sb.id,YO,UB]
 |_=>simp[Sb.to,Sb.id,YO,AV.qz,am5,Gf]
mutual
def ar9 {g:Nat->Nat} {h1 h2:bf} (hrow:∀i r,eK h1 i=Z r->eK h2 (g i)=Z r):∀(v:TV) (y:AV),co h1 v=Z y->co h2 (Bs g v)=Z (y.qz (rq g))
 |.f _ _,y,he|.zw _ _ _ _ _,y,he=>by simp[co,af]at he;subst he;rfl
 |.qn _ _ _ _,y,he|.H _ _,y,he|.qf _ _ _,y,he=>by simp[co,af]at he;subst he;simp[Bs,co,AV.qz,Eu]
 |.G id,y,he=>by
  simp[co]at he;split at he
  .rename_i p sz n hr;simp[af]at he;subst he;simp[Bs,co,hrow id _ hr];unfold dY;split
   .rfl
   .simp[AV.qz,Eu]
  .cases he
 |.zg id jj,y,he=>by
  simp[co]at he;split at he
  .rename_i p sz n hr;simp[af]at he;subst he;simp[Bs,co,hrow id _ hr,AV.qz,Eu]
  .cases he
 |.emp,y,he|.nil,y,he=>by simp[co,af]at he;subst he;rfl
 |.mp _,y,he=>by simp[co,af]at he;subst he;simp[Bs,co,AV.qz,Eu]
 |.agg l,y,he|.qp l,y,he|.qv q l,y,he=>by
  simp[co]at he;split at he
  .rename_i l' hl;simp[af]at he;subst he;simp[Bs,co,qu hrow l l' hl,AV.qz]
  .cases he
 |.undef,y,he|.np,y,he|.qj,y,he|.qc _ _,y,he=>by simp[co,af]at he;subst he;rfl
 |.sb s,y,he=>by simp[co,af]at he;subst he;simp[Bs,co,amh]
def qu {g:Nat->Nat} {h1 h2:bf} (hrow:∀i r,eK h1 i=Z r->eK h2 (g i)=Z r):∀(l:Y TV) (l':Y AV),cO h1 l=Z l'->cO h2 (lb g l)=Z (AV.renL (rq g) l')
 |[],l',he=>by simp[cO,af]at he;subst he;rfl
 |x::r,l',he=>by
  obtain⟨y,l2,rfl,e1,e2⟩:=db he;exact qA (ar9 hrow x y e1) (qu hrow r l2 e2)
end
def Hr (g:Nat->Nat) (a sz:Nat):∀(q:η) (k:Nat),(lH a sz k q).map (AV.qz (rq g))=lH (g a) sz k q
 |[],_=>rfl
 |l::r,k=>by simp[lH,eg,UB,Hr g a sz r (k+1)]
def acg (g:Nat->Nat) (p:Bool) (id sz n:Nat):(dY p id sz n).qz (rq g)=dY p (g id) sz n:=by
 unfold dY;split
 .rfl
 .simp[AV.qz,Eu]
def V0 (g:Nat->Nat) (a:Nat) (F:wd) (x:F.ty.den):MX (F.aid (g a)) F x=(MX a F x).map (nk.qz (rq g)):=by
 cases F with
 |rr ty sz=>exact (gW (λz=>Z (nk.mk ty (.mx z))) (Hr g a sz x 0)).symm
 |ir ty T=>rfl
def adi (g:Nat->Nat) (a:Nat) (k:ν) (F:wd) (x:F.ty.den) (p:M (Nat×Bool×Nat)):ab6 (F.aid (g a)) k F x (p.map λq=>(g q.1,q.2))=(ab6 a k F x p).map (nk.qz (rq g)):=by
 cases F with
 |rr ty sz=>
  cases p with
  |none=>rfl
  |some q=>
   have:=Hr g a sz x 0;simp[ab6,wd.aid,bS,nk.qz,BC.qz,List.map_set,acg]
   grind
 |ir ty T=>rfl
def adm (g:Nat->Nat) (k:Nat) (ty:TypeId) (T:Ty) (xss:Y (Y T.den)):rX k ty T xss=(rX k ty T xss).map (nk.qz (rq g)):=by
 unfold rX;cases xss[k]? with
 |none=>rfl
 |some xs=>
  simp[aH,adk];split<;>rfl
def MW (g:Nat->Nat) (i k:Nat) (F:wd) (x:F.ty.den):Ky (g i) k F x=(Ky i k F x).map (nk.qz (rq g)):=by
 cases F with
 |ir ty T=>
  exact adm g k ty T x
 |rr ty sz=>rfl
def UX (g:Nat->Nat) (i k:Nat) (b:fm):zG (g i) k (kQ g b)=(zG i k b).map (nk.qz (rq g)):=by
 cases b with
 |qk F a x=>exact MW g i k F x
 |qr F a x j p=>
  cases p with
  |none=>
   simp[kQ,zG,Option.map_none];split
   .rfl
   .exact MW g i k F x
  |some q=>exact MW g i k F x
 |_=>rfl
def amk {h2:bf} (hrow:∀i r,eK h i=Z r->eK h2 (g i)=Z r) {b:fm} (he:lx h b=Z z):lx h2 (kQ g b)=Z (z.qz (rq g)):=by
 cases b with
 |F ty p T xs=>
  simp only[lx]at he;split at he
  .cases he
  next D=>simp[af]at he;subst he;simp only[kQ,lx,ay D];rfl
 |C ty l=>
  cases ty with
  |some ty=>
   simp[lx]at he;split at he
   next q A=>simp[af]at he;subst he;simp[kQ,lx,qu hrow l q A,nZ];rfl
   .cases he
  |none=>
   simp[lx]at he;split at he
   next q A=>simp[af]at he;subst he;simp[kQ,lx,qu hrow l q A,nZ,nk.qz,BC.qz]
   .cases he
 |qx p sz n=>cases he
 |mp K V I=>
  simp[lx,af]at he;subst he;simp[kQ,lx,nk.qz,af,nk.mk.injEq,true_and];unfold mpC;split
  .rfl
  .simp only[BC.qz,wF];rfl
 |qk F a x=>
  simp[lx]at he;simp[kQ,lx,V0,he,bS]
 |qr F a x k p=>
  simp[lx]at he;simp[kQ,lx,adi,he,bS]
def CX {h2:bf} (hrow:∀i r,eK h i=Z r->eK h2 (g i)=Z r) {b:fm} :∀{k:Nat},QM h i k b=Z z->QM h2 (g i) k (kQ g b)=Z (z.qz (rq g))
 |0,he=>amk hrow he
 |k+1,he=>by
  simp[QM]at he ⊢;rw[UX,he];rfl
def Fo (g:Nat->Nat) (a b:Y TV):lb g (a++b)=lb g a++lb g b:=by
 rw[vk,vk,vk,b7]
def rm (g:Nat->Nat):∀(n:Nat) (T:Ty) (v:T.den) (l:Y TV),cellsOf n T v=Z l->lb g l=l
 |0,_,_,_,he=>by simp[cellsOf]at he
 |n+1,.st t,v,l,he=>rm g n t v l he
 |n+1,.pr a b,v,l,he=>by
  simp[cellsOf]at he;split at he
  next x y A q=>simp[af]at he;subst he;rw[Fo,rm g n a v.1 x A,rm g n b v.2 y q]
  .cases he
 |n+1,.un,v,l,he=>by simp[cellsOf,af]at he;subst he;rfl
 |n+1,.ex,v,l,he=>rm g n QL (RE v) l he
 |n+1,.sm,v,l,he=>rm g n Qh (RD v) l he
 |n+1,.int k,v,l,he|n+1,.bool,v,l,he|n+1,.str,v,l,he|n+1,.sl t,v,l,he=>by simp[cellsOf,af]at he;subst he;rfl
abbrev Lj:Nat->Nat:=λi=>i
mutual
def ag8 (g:Nat->Nat):∀(p:PV) (x:p.ty.den),oL g p x=(oL Lj p x).map (lb g)
 |.d T,x=>by
  simp only[oL];cases h:cellsOf 40 T x with
  |none=>rfl
  |some l=>simp only[bS,rm g 40 T x l h]
 |.H i o,x|.qf i o z,x=>rfl
 |.qv q ps,x=>by simp only[oL,bS,lb,Bs,vk,wF];rfl
 |.nr i s,x|.G i,x|.mp i,x|.nil,x|.emp,x=>rfl
 |.agg ps,x=>CP g ps x
def CP (g:Nat->Nat):∀(ps:Y PV) (x:(PV.tyL ps).den),sH g ps x=(sH Lj ps x).map (lb g)
 |[],x=>rfl
 |p::r,x=>by
  simp only[sH];rw[ag8 g p,CP g r];cases oL Lj p (S7 p.ty (PV.tyL r) x) with
  |none=>rfl
  |some a=>
   cases sH Lj r (RM p.ty (PV.tyL r) x) with
   |none=>rfl
   |some b=>simp only[bS,Fo]
end
def arl (o:M (Y TV)):M TV:=match o with|some l=>Z (.agg l)|none=>U
def aj8 (g:Nat->Nat) (o:M (Y TV)):arl (o.map (lb g))=(arl o).map (Bs g):=by cases o<;>rfl
def ag6 (g:Nat->Nat) (p:PV) (x:p.ty.den):sQ g p x=(sQ Lj p x).map (Bs g):=by
 cases p with
 |agg A=>exact (gW arl (CP g A x)).trans (aj8 g _)
 |qv q A=>simp only[sQ,bS,Bs,vk,wF];rfl
 |_=>rfl
def vm (g:Nat->Nat):∀(q:Y PV) (x:(PV.tyL q).den),pH g q x=(pH Lj q x).map (lb g)
 |[],x=>rfl
 |p::r,x=>by
  simp[pH];rw[ag6 g p,vm g r];cases sQ Lj p (S7 p.ty (PV.tyL r) x) with
  |none=>rfl
  |some a=>
   cases pH Lj r (RM p.ty (PV.tyL r) x) with
   |_=>rfl
def Zs (ty:M TypeId) (o:M (Y TV)):M (M fm):=match o with|some l=>Z (Z (.C ty l))|none=>U
def Zr (g:Nat->Nat) (ty:M TypeId) (o:M (Y TV)):Zs ty (o.map (lb g))=(Zs ty o).map (ja (kQ g)):=by cases o<;>rfl
def ag9 (g:Nat->Nat) (b:PB) (x:b.ty.den):C6 g b x=(C6 Lj b x).map (ja (kQ g)):=by
 cases b with
 |C ty q=>exact (gW (Zs ty) (CP g q x)).trans (Zr g ty _)
 |qk F a=>cases F<;>rfl
 |_=>rfl
def xN (g:Nat->Nat):∀(bs:Y PB) (x:(PB.tyL bs).den),qY g bs x=(qY Lj bs x).map (List.map (ja (kQ g)))
 |[],x=>rfl
 |b::r,x=>by
  simp[qY];rw[ag9 g b,xN g r];cases C6 Lj b (S7 b.ty (PB.tyL r) x) with
  |none=>rfl
  |some a=>grind
def Fq (g:Nat->Nat):∀(bs:Y PB) (x:(PB.tyL bs).den) (l:Y (M fm)),qY g bs x=Z l->l! l=l! bs
 |[],x,l,h=>by simp[qY,af]at h;subst h;rfl
 |b::r,x,l,h=>by
  simp[qY]at h;split at h
  .split at h
   next q A=>simp[af]at h;subst h;simp[Fq g r _ q A]
   .cases h
  .cases h
def ML (h:bf) (i j:Nat):(kill h i).get j=if j=i then (h.get i).map uO else h.get j:=by
 unfold kill;cases q:h.get i with
 |none=>grind
 |some b=>rw[PT.get_set];rfl
def wR (g:Nat->Nat):∀(l:Y (M fm)) (i:Nat) (h:bf) (j:Nat),(∀k,k<l! l->j≠g (i+k))->(Da g i l h).get j=h.get j
 |[],i,h,j,_=>rfl
 |some c::r,i,h,j,q=>by
  rw[Da,wR g r (i+1) _ j (λk A=>by have:=q (k+1) (by grind);rwa [show i+1+k=i+(k+1) from by omega]),PT.get_set,ay];exact q 0 (by simp)
 |none::r,i,h,j,q=>by
  rw[Da,wR g r (i+1) _ j (λk A=>by have:=q (k+1) (by grind);rwa [show i+1+k=i+(k+1) from by omega]),ML,ay];exact q 0 (by simp)
def wS (g:Nat->Nat):∀(l:Y (M fm)) (i:Nat) (h:bf),(∀a b,a<l! l->b<l! l->g (i+a)=g (i+b)->a=b)->∀(k:Nat) (c:M fm),l[k]? =Z c->(Da g i l h).get (g (i+k))=(match c with|some b=>Z b|none=>(h.get (g (i+k))).map uO)
 |[],i,h,_,k,c,A=>by simp at A
 |o::r,i,h,hinj,k,c,A=>by
  have hinj':∀a b,a<l! r->b<l! r->g (i+1+a)=g (i+1+b)->a=b:=λa b I D e=>by
   have:=hinj (a+1) (b+1) (by grind) (by grind) (by grind);omega
  cases k with
  |zero=>
   simp at A;subst A;have hne:∀k,k<l! r->g (i+0)≠g (i+1+k):=λk A e=>by
    have:=hinj 0 (k+1) (by simp) (by grind) (by grind);omega
   cases o with
   |some b=>rw[Da,wR g r (i+1) _ _ hne];simp[dL];rw[PT.get_set,aK rfl]
   |none=>rw[Da,wR g r (i+1) _ _ hne];simp[dL];rw[ML,aK rfl]
  |succ k=>
   have q:r[k]? =Z c:=by grind
   have hne:g (i+(k+1))≠g i:=λe=>by
    have:=hinj (k+1) 0 (by grind) (by simp) (by omega);omega
   rw[show i+(k+1)=i+1+k from by omega]at hne ⊢;cases o with
   |some b=>
    rw[Da,wS g r (i+1) _ hinj' k c q];cases c with
    |some _=>rfl
    |none=>simp[PT.get_set,ay hne]
   |none=>
    rw[Da,wS g r (i+1) _ hinj' k c q];cases c with
    |some _=>rfl
    |none=>simp[ML,ay hne]
def An (h' h:bf):Prop:=∀i r,eK h' i=Z r->eK h i=Z r
section get
variable {h h':bf} {H H':HF} {g:Nat->Nat}
def kY.agg {q:Y AV} (A:iy H H' K q) (hc:∀x∈q,x.isCell=J):kY H H' (.agg K) (.agg q):=by
 intro φ E w v hrep hr;cases hr with
 |@agg _ vs hlen hcl hrr=>
  refine .agg (by rw[hlen,<-A.length]) hc λj y u D N=>?_
  let⟨x,I,hle⟩:=A.get j y D;exact hle φ E w u hrep (hrr j x u I N)
def UA (I:An h' h) {A:AV} (D:co h (.G i)=Z y) (q:co h' (.G i)=Z A):A=y:=by
 simp[co]at D q;cases h1:eK h' i with
 |none=>rw[h1]at q;cases q
 |some r=>
  rw[I i r h1]at D
  grind
def LL {g:Nat->Nat}:∀{q:Y j?} {vs:Y TV},LM g q vs=J->vs=q.map λp=>.H (g p.1) p.2
 |[],[],_=>rfl
 |[],_::_,h|_::_,[],h=>by simp[LM]at h
 |(i,o)::r,v::vs,h=>by
  cases v with
  |H D A=>
   simp only[LM,ak]at h;rw[eg,<-LL h.2,ar h.1.1,ar h.1.2]
  |_=>simp[LM]at h
def K_ (h:bf) (g:Nat->Nat):∀q:Y j?,cO h (q.map λp=>.H (g p.1) p.2)=Z (q.map λp=>.H (nm (g p.1)) p.2)
 |[]=>rfl
 |p::r=>by simp[eg,cO,co,K_ h g r]
mutual
def am3 (d:uu H H') (hr:An h' h):∀(p:PV) (l:Y TV) (x:p.ty.den) (m:Nat) (r:Y TV) (cs:Y TV) (l' cs':Y AV),ox g h p l=Z (x,m,r)->oL g p x=Z cs->cO h l=Z l'->cO h' cs=Z cs'->Hk h H H' m->∃l1 l2,l'=l1++l2/\cO h r=Z l2/\iy H H' l1 cs'
 |.d T,l,x,m,r,cs,l',cs',hg,hp,hl,hc,gv=>by
  obtain⟨l1,l2,e1,e2,e3⟩:=tM d 40 T l x m r l' hg hl gv;have:=(mD h' 40 T x cs hp).1;rw[hc]at this;cases this;exact⟨l1,l2,e1,e2,e3⟩
 |.H i q,l,x,m,r,cs,l',cs',hg,hp,hl,hc,gv=>by
  simp only[ox]at hg;split at hg
  .rename_i i' o' r';split at hg
   .rename_i hb;simp only[ak]at hb;have e1:=ar hb.1;have e2:=ar hb.2;subst e1 e2;simp only[af,aV]at hg;obtain⟨_,_,rfl⟩:=hg;simp only[oL,af]at hp;subst hp;obtain⟨y,l2,rfl,g1,g2⟩:=db hl;simp only[co,af]at g1;subst g1;simp only[cO,co,af]at hc;subst hc;exact⟨[_],l2,rfl,g2,kY.refl d _,trivial⟩
   .cases hg
  .cases hg
 |.qf i q z,l,x,m,r,cs,l',cs',hg,hp,hl,hc,gv=>by
  simp only[ox]at hg;split at hg
  .rename_i i' o' z' r';split at hg
   .rename_i hb;simp only[ak]at hb;have e1:=ar hb.1.1;have e2:=ar hb.1.2;have e3:=ar hb.2;subst e1 e2 e3;simp only[af,aV]at hg;obtain⟨_,_,rfl⟩:=hg;simp only[oL,af]at hp;subst hp;obtain⟨y,l2,rfl,g1,g2⟩:=db hl;simp only[co,af]at g1;subst g1;simp only[cO,co,af]at hc;subst hc;exact⟨[_],l2,rfl,g2,kY.refl d _,trivial⟩
   .cases hg
  .cases hg
 |.qv q ps,l,x,m,r,cs,l',cs',hg,hp,hl,hc,gv=>by
  simp only[ox]at hg;split at hg
  .rename_i q' vs r';split at hg
   .rename_i hb;simp only[ak]at hb;have e1:=ar hb.1;have e2:=LL hb.2;subst e1 e2;simp only[af,aV]at hg;obtain⟨_,_,rfl⟩:=hg;simp only[oL,af]at hp;subst hp;obtain⟨y,l2,rfl,g1,g2⟩:=db hl;simp only[co,K_,af]at g1;subst g1;simp only[cO,co,K_,af]at hc;subst hc;exact⟨[_],l2,rfl,g2,kY.refl d _,trivial⟩
   .cases hg
  .cases hg
 |.nr i q,l,x,m,r,cs,l',cs',hg,hp,hl,hc,gv=>by
  simp only[ox]at hg;split at hg
  .rename_i i' j' o' n' r';split at hg
   .rename_i hb;simp only[ak]at hb;have e1:=ar hb.1;have e2:=ar hb.2;subst e1 e2;simp only[af,aV]at hg;obtain⟨rfl,_,rfl⟩:=hg;simp only[oL,af]at hp;subst hp;obtain⟨y,l2,rfl,g1,g2⟩:=db hl;simp only[co,af]at g1;subst g1;simp only[cO,co,af]at hc;subst hc;exact⟨[_],l2,rfl,g2,kY.refl d _,trivial⟩
   .cases hg
  .cases hg
 |.G i,l,x,m,r,cs,l',cs',hg,hp,hl,hc,gv=>by
  simp only[ox]at hg;split at hg
  .rename_i i' r';split at hg
   .rename_i hb;have e1:=ar hb;subst e1;simp only[af,aV]at hg;obtain⟨_,_,rfl⟩:=hg;simp only[oL,af]at hp;subst hp;obtain⟨y,l2,rfl,g1,g2⟩:=db hl;obtain⟨y',l3,rfl,g3,g4⟩:=db hc;simp only[cO,af]at g4;subst g4;rw[UA hr g1 g3];exact⟨[_],l2,rfl,g2,kY.refl d _,trivial⟩
   .cases hg
  .cases hg
 |.mp i,l,x,m,r,cs,l',cs',hg,hp,hl,hc,gv=>by
  simp only[ox]at hg;split at hg
  .rename_i i' r';split at hg
   .rename_i hb;have e1:=ar hb;subst e1;simp only[af,aV]at hg;obtain⟨_,_,rfl⟩:=hg;simp only[oL,af]at hp;subst hp;obtain⟨y,l2,rfl,g1,g2⟩:=db hl;simp only[co,af]at g1;subst g1;simp only[cO,co,af]at hc;subst hc;exact⟨[_],l2,rfl,g2,kY.refl d _,trivial⟩
   .cases hg
  .cases hg
 |.nil,l,x,m,r,cs,l',cs',hg,hp,hl,hc,gv=>by
  simp only[ox]at hg;split at hg
  .simp only[af,aV]at hg;obtain⟨_,_,rfl⟩:=hg;simp only[oL,af]at hp;subst hp;obtain⟨y,l2,rfl,g1,g2⟩:=db hl;simp only[co,af]at g1;subst g1;simp only[cO,co,af]at hc;subst hc;exact⟨[_],l2,rfl,g2,kY.refl d _,trivial⟩
  .cases hg
 |.emp,l,x,m,r,cs,l',cs',hg,hp,hl,hc,gv=>by
  simp only[ox]at hg;split at hg
  .simp only[af,aV]at hg;obtain⟨_,_,rfl⟩:=hg;simp only[oL,af]at hp;subst hp;obtain⟨y,l2,rfl,g1,g2⟩:=db hl;simp only[co,af]at g1;subst g1;simp only[cO,co,af]at hc;subst hc;exact⟨[_],l2,rfl,g2,Le.nilEmp.toH d,trivial⟩
  .simp only[af,aV]at hg;obtain⟨_,_,rfl⟩:=hg;simp only[oL,af]at hp;subst hp;obtain⟨y,l2,rfl,g1,g2⟩:=db hl;simp only[co,af]at g1;subst g1;simp only[cO,co,af]at hc;subst hc;exact⟨[_],l2,rfl,g2,kY.refl d _,trivial⟩
  .cases hg
 |.agg ps,l,x,m,r,cs,l',cs',hg,hp,hl,hc,gv=>Gd d hr ps l x m r cs l' cs' hg hp hl hc gv
def Gd (d:uu H H') (hr:An h' h):∀(ps:Y PV) (l:Y TV) (x:(PV.tyL ps).den) (m:Nat) (r:Y TV) (cs:Y TV) (l' cs':Y AV),BT g h ps l=Z (x,m,r)->sH g ps x=Z cs->cO h l=Z l'->cO h' cs=Z cs'->Hk h H H' m->∃l1 l2,l'=l1++l2/\cO h r=Z l2/\iy H H' l1 cs'
 |[],l,x,m,r,cs,l',cs',hg,hp,hl,hc,gv=>by
  simp only[BT,af,aV]at hg;obtain⟨_,_,rfl⟩:=hg;simp only[sH,af]at hp;subst hp;simp only[cO,af]at hc;subst hc;exact⟨[],l',rfl,hl,trivial⟩
 |p::ps,l,x,m,r,cs,l',cs',hg,hp,hl,hc,gv=>by
  simp only[BT]at hg;split at hg
  .rename_i x1 m1 r1 h1;split at hg
   .rename_i x2 m2 r2 h2;cases hg;simp only[sH,u_,wI]at hp;split at hp
    .rename_i a ha;split at hp
     .rename_i b hb;cases hp;obtain⟨a',b',rfl,ea,eb⟩:=EA hc;obtain⟨ga,gb⟩:=gv.or;obtain⟨l1,l2,rfl,q1,q2⟩:=am3 d hr p l _ _ _ a l' a' h1 ha hl ea ga;obtain⟨l3,l4,rfl,q3,q4⟩:=Gd d hr ps _ _ _ _ b l2 b' h2 hb q1 eb gb;exact⟨l1++l3,l4,by simp,q3,q2.append q4⟩
     .cases hp
    .cases hp
   .cases hg
  .cases hg
end
mutual
def acl:∀(p:PV) (x:p.ty.den) (cs:Y TV),oL g p x=Z cs->lC cs=J
 |.d T,x,cs,hp=>(mD PT.leaf 40 T x cs hp).2
 |.H i q,x,cs,hp|.qf i q z,x,cs,hp|.qv q ps,x,cs,hp|.nr i q,x,cs,hp|.G i,x,cs,hp|.mp i,x,cs,hp|.nil,x,cs,hp|.emp,x,cs,hp=>by simp only[oL,af]at hp;subst hp;rfl
 |.agg ps,x,cs,hp=>zu ps x cs hp
def zu:∀(ps:Y PV) (x:(PV.tyL ps).den) (cs:Y TV),sH g ps x=Z cs->lC cs=J
 |[],x,cs,hp=>by simp only[sH,af]at hp;subst hp;rfl
 |p::ps,x,cs,hp=>by
  simp only[sH]at hp;split at hp
  .rename_i a ha;split at hp
   .rename_i b hb;cases hp;exact Xs (acl p _ a ha) (zu ps _ b hb)
   .cases hp
  .cases hp
end
def am2 (d:uu H H') (hr:An h' h) {p:PV} {v:TV} {x:p.ty.den} {y':AV} (D:xB g h p v=Z (x,m)) (hp:sQ g p x=Z u) (I:co h v=Z y) (A:co h' u=Z y') (gv:Hk h H H' m):kY H H' y y':=by
 cases p with
 |d T=>
  simp only[sQ,af]at hp;subst hp;simp only[co,af]at A;subst A;exact (TX d D I gv).1
 |agg ps=>
  simp only[xB]at D;split at D
  .cases D
  .rename_i hc;split at D
   .rename_i l hl;split at D
    .rename_i x1 m1 h1;cases D;simp only[sQ]at hp;split at hp
     .rename_i cs hcs;cases hp;simp only[co]at A;split at A
      .rename_i cs' hcs';cases A;let⟨e1,e2⟩:=Nz hl I;let⟨l1,l2,q1,q2,q3⟩:=Gd d hr ps l _ _ [] cs y.cs cs' h1 hcs e1 hcs' gv;simp only[cO,af]at q2;subst q2;rw[cJ]at q1;subst q1;have hcell:∀x∈cs',x.isCell=J:=mE (tI hcs' (zu ps _ cs hcs));cases v with
       |agg q=>
        simp only[co]at I;split at I
        .cases I;exact kY.agg q3 hcell
        .cases I
       |f S z=>
        simp only[co,af]at I;subst I;have ho:S.one=aa:=by simpa[TV.isC] using hc
        rw[C1]at q3;rw[rZ S z ho];intro φ E w v hrep hrel;exact kY.agg q3 hcell φ E w v hrep (Le.aggF _ _ _ _ hrel)
       |qp q|undef|qj|qc S q=>simp[TV.cs,TV.isC]at hl
       |sb q=>exact bc rfl hc
       |zg id jj=>cases hl
       |_=>simp[TV.isC]at hc
      .cases A
     .cases hp
    .cases D
   .cases D
 |H i q=>
  simp only[sQ,af]at hp;subst hp;simp only[xB]at D;split at D
  .rename_i h1;simp only[ox]at h1;split at h1
   .rename_i e;simp only[iI]at e;obtain⟨rfl,_⟩:=e;split at h1
    next N=>simp only[ak]at N;have e1:=ar N.1;have e2:=ar N.2;subst e1 e2;simp only[co,af]at I A;subst I A;exact kY.refl d _
    .cases h1
   .cases h1
  .cases D
 |qf i q z=>
  simp only[sQ,af]at hp;subst hp;simp only[xB]at D;split at D
  .rename_i h1;simp only[ox]at h1;split at h1
   .rename_i e;simp only[iI]at e;obtain⟨rfl,_⟩:=e;split at h1
    next N=>simp only[ak]at N;have e1:=ar N.1.1;have e2:=ar N.1.2;have e3:=ar N.2;subst e1 e2 e3;simp only[co,af]at I A;subst I A;exact kY.refl d _
    .cases h1
   .cases h1
  .cases D
 |qv q ps=>
  simp only[sQ,af]at hp;subst hp;simp only[xB]at D;split at D
  .rename_i h1;simp only[ox]at h1;split at h1
   .rename_i e;simp only[iI]at e;obtain⟨rfl,_⟩:=e;split at h1
    next N=>simp only[ak]at N;have e1:=ar N.1;have e2:=LL N.2;subst e1 e2;simp only[co,K_,af]at I A;subst I A;exact kY.refl d _
    .cases h1
   .cases h1
  .cases D
 |nr i q=>
  simp only[sQ,af]at hp;subst hp;simp only[xB]at D;split at D
  .rename_i h1;simp only[ox]at h1;split at h1
   .rename_i e;simp only[iI]at e;obtain⟨rfl,_⟩:=e;split at h1
    next N=>simp only[ak]at N;have e1:=ar N.1;have e2:=ar N.2;subst e1 e2;simp only[af,aV]at h1 D;obtain⟨rfl,_⟩:=D;obtain⟨rfl,_⟩:=h1;simp only[co,af]at I A;subst I A;exact kY.refl d _
    .cases h1
   .cases h1
  .cases D
 |G i=>
  simp only[sQ,af]at hp;subst hp;simp only[xB]at D;split at D
  .rename_i h1;simp only[ox]at h1;split at h1
   .rename_i e;simp only[iI]at e;obtain⟨rfl,_⟩:=e;split at h1
    next N=>have e1:=ar N;subst e1;rw[UA hr I A];exact kY.refl d _
    .cases h1
   .cases h1
  .cases D
 |mp i=>
  simp only[sQ,af]at hp;subst hp;simp only[xB]at D;split at D
  .rename_i h1;simp only[ox]at h1;split at h1
   .rename_i e;simp only[iI]at e;obtain⟨rfl,_⟩:=e;split at h1
    next N=>have e1:=ar N;subst e1;simp only[co,af]at I A;subst I A;exact kY.refl d _
    .cases h1
   .cases h1
  .cases D
 |nil=>
  simp only[sQ,af]at hp;subst hp;simp only[xB]at D;split at D
  .rename_i h1;simp only[ox]at h1;split at h1
   next e=>simp only[iI]at e;obtain⟨rfl,_⟩:=e;simp only[co,af]at I A;subst I A;exact kY.refl d _
   .cases h1
  .cases D
 |emp=>
  simp only[sQ,af]at hp;subst hp;simp only[xB]at D;split at D
  .rename_i h1;simp only[ox]at h1;split at h1
   next e=>simp only[iI]at e;obtain⟨rfl,_⟩:=e;simp only[co,af]at I A;subst I A;exact Le.nilEmp.toH d
   next e=>simp only[iI]at e;obtain⟨rfl,_⟩:=e;simp only[co,af]at I A;subst I A;exact kY.refl d _
   .cases h1
  .cases D
def Gb (d:uu H H') (hr:An h' h):∀(N:Y PV) (vs:Y TV) (x:(PV.tyL N).den) (m:Nat) (D:Y TV) (l I:Y AV),BS g h N vs=Z (x,m)->pH g N x=Z D->cO h vs=Z l->cO h' D=Z I->Hk h H H' m->iy H H' l I
 |[],[],x,m,D,l,I,q,hp,hl,A,gv=>by
  simp[pH,af]at hp;subst hp;simp[cO,af]at hl A;subst hl A;trivial
 |[],_::_,x,m,D,l,I,q,_,_,_,_|_::_,[],x,m,D,l,I,q,_,_,_,_=>by simp[BS]at q
 |p::N,v::vs,x,m,D,l,I,q,hp,hl,A,gv=>by
  simp[BS]at q;split at q
  .rename_i x1 m1 h1;split at q
   .rename_i x2 m2 h2;obtain⟨rfl,rfl⟩:=q;simp[pH,u_,wI]at hp;split at hp
    .rename_i a ha;split at hp
     next b hb=>simp[af]at hp;subst hp;obtain⟨y,l2,rfl,e1,e2⟩:=db hl;obtain⟨y',l3,rfl,e3,e4⟩:=db A;let⟨ga,gb⟩:=gv.or;exact⟨am2 d hr h1 ha e1 e3 ga,Gb d hr N vs _ _ b l2 l3 h2 hb e2 e4 gb⟩
     .cases hp
    .cases hp
   .cases q
  .cases q
inductive BM (g:Nat->Nat) (h:bf) (m:Nat):fm->fm->Prop
 |F (ty:TypeId) (p:Bool) (T:Ty) (xs:List T.den):BM g h m (.F ty p T xs) (.F ty p T xs)
 |mp (K V:Ty) (es:List (K.den×V.den)):BM g h m (.mp K V es) (.mp K V es)
 |qk (F:wd) (a:Nat) (x:F.ty.den):BM g h m (.qk F a x) (.qk F a x)
 |C (ty:Option TypeId) (ps:List PV) (x:(PV.tyL ps).den) (l l2:List TV) (m':Nat) (hg:BT g h ps l=Z (x,m',[])) (hp:sH g ps x=Z l2) (hm:∀i,aC m' i=J->aC m i=J):BM g h m (.C ty l) (.C ty l2)
def BM.mono (hm:∀m2,aC m m2=J->aC i m2=J) {b c:fm} (h1:BM g h m b c):BM g h i b c:=by
 cases h1 with
 |F ty p T xs=>exact .F ty p T xs
 |mp K V N=>exact .mp K V N
 |qk F a x=>exact .qk F a x
 |C ty A x l D m' I hp q=>exact .C ty A x l D m' I hp λm2 hi=>hm m2 (q m2 hi)
def am4 {b:PB} {x:b.ty.den} {c:fm} (q:Et g h i b=Z (x,m)) (hp:C6 g b x=Z (Z c)):∃b0,h.get (g i)=Z b0/\BM g h m b0 c:=by
 cases b with
 |F ty p T=>
  simp only[Et]at q;split at q
  .rename_i ty' p' S xs A;split at q
   .rename_i D;simp[ak,du]at D;obtain⟨rfl,rfl⟩:=D;split at q
    next z I=>obtain⟨rfl,rfl⟩:=q;obtain⟨e,rfl⟩:=ip I;cases e;simp[C6,af]at hp;subst hp;exact⟨_,A,.F _ _ _ _⟩
    .cases q
   .cases q
  .cases q
 |qy ty T=>
  simp[Et]at q;split at q
  .rename_i ty' p' S xs A;split at q
   .rename_i D;have D:ty=ty':=by grind
    subst D;split at q
    next z I=>obtain⟨rfl,rfl⟩:=q;obtain⟨e,rfl⟩:=ip I;cases e;simp[C6,af]at hp;subst hp;exact⟨_,A,.F _ _ _ _⟩
    .cases q
   .cases q
  .cases q
 |C ty ps=>
  simp[Et]at q;split at q
  .rename_i ty' l A;split at q
   .rename_i D;have D:ty=ty':=by grind
    subst D;split at q
    .rename_i z m1 I;obtain⟨rfl,rfl⟩:=q;simp[C6]at hp;split at hp
     next l2 N=>simp[af]at hp;subst hp;exact⟨_,A,.C ty ps _ l l2 _ I N λ_ h=>h⟩
     .cases hp
    .cases q
   .cases q
  .cases q
 |mp K V=>
  simp[Et]at q;split at q
  .rename_i K' V' es A;split at q
   next z I=>obtain⟨rfl,rfl⟩:=q;obtain⟨e,rfl⟩:=ip I;cases e;simp[C6,af]at hp;subst hp;exact⟨_,A,.mp _ _ _⟩
   .cases q
  .cases q
 |qk F a=>
  simp only[Et]at q;split at q
  .rename_i F' a' z A;split at q
   .rename_i hF;subst hF;split at q
    next ha=>obtain⟨rfl,rfl⟩:=q;simp[C6,af]at hp;subst hp;rw[ar ha];exact⟨_,A,.qk _ _ _⟩
    .cases q
   .cases q
  .cases q
 |qg=>simp[C6]at hp
def MM:∀(bs:Y PB) (i:Nat) (x:(PB.tyL bs).den) (m:Nat) (D:Y (M fm)),Ge g h i bs=Z (x,m)->qY g bs x=Z D->∀(k:Nat) c,D[k]? =Z (Z c)->∃b0,h.get (g (i+k))=Z b0/\BM g h m b0 c
 |[],i,x,m,D,A,hp,k,c,I=>by
  simp[qY,af]at hp;subst hp;simp at I
 |b::r,i,x,m,D,A,hp,k,c,I=>by
  simp[Ge]at A;split at A
  .rename_i x1 m1 h1;split at A
   .rename_i x2 m2 h2;obtain⟨rfl,rfl⟩:=A;simp[qY,u_,wI]at hp;split at hp
    .rename_i a ha;split at hp
     .rename_i q N;simp[af]at hp;subst hp;cases k with
      |zero=>
       simp at I;subst I;let⟨b0,e1,e2⟩:=am4 h1 ha;exact⟨b0,e1,e2.mono λi hi=>by rw[bD,hi];rfl⟩
      |succ k=>
       let⟨b0,e1,e2⟩:=MM r (i+1) _ _ q h2 N k c (by grind);rw[show i+1+k=i+(k+1) from by omega]at e1;exact⟨b0,e1,e2.mono λi hi=>by rw[bD,hi];simp⟩
     .cases hp
    .cases hp
   .cases A
  .cases A
end get
def VH {σ:PT Nat} (h:σ.get i=Z m):iF σ i=m:=by unfold iF;rw[h]
def ZY {σ:PT Nat}:∀(n i acc sm:Nat),afs σ n i acc=Z sm->
 (∀k,k<n->aC acc (iF σ (i+k))=aa)/\(∀a b,a<n->b<n->iF σ (i+a)=iF σ (i+b)->a=b)/\∀q,aC sm q=J↔aC acc q=J\/∃k,k<n/\iF σ (i+k)=q
 |0,i,acc,sm,h=>by
  simp[afs,af]at h
  grind
 |n+1,i,acc,sm,h=>by
  simp[afs]at h;split at h
  .rename_i a I;split at h
   .cases h
   .rename_i hna;have hna:aC acc a=aa:=by grind
    have hga:=VH I;let⟨h1,h2,h3⟩:=ZY n (i+1) (acc|||kz a) sm h;have hne:∀k,k<n->iF σ (i+1+k)≠a/\aC acc (iF σ (i+1+k))=aa:=λk D=>by
     have:=h1 k D;rw[bD,wq]at this;refine ⟨λe=>?_,this.1⟩;have h4:=this.2;rw[e]at h4;rw[b_.2 rfl]at h4;cases h4
    refine ⟨λk D=>?_,λx y hx N hxy=>?_,λq=>?_⟩
    .cases k with
     |zero=>rw[dL,hga];exact hna
     |succ k=>rw[show i+(k+1)=i+1+k from by omega];exact (hne k (by omega)).2
    .cases x with
     |zero=>
      cases y with
      |zero=>rfl
      |succ y=>grind
     |succ x=>
      cases y with
      |_=>grind
    .rw[h3,bD,eu];constructor
     .rintro ((A|A)|⟨k,D,A⟩)
      .exact .inl A
      .exact .inr ⟨0,by omega,by rw[dL,hga];exact b_.1 A⟩
      .exact .inr ⟨k+1,by omega,by rw[show i+(k+1)=i+1+k from by omega];exact A⟩
     .rintro (A|⟨k,D,A⟩)
      .exact .inl (.inl A)
      .cases k with
       |zero=>rw[dL,hga]at A;exact .inl (.inr (b_.2 A))
       |succ k=>exact .inr ⟨k,by omega,by rw[show i+1+k=i+(k+1) from by omega];exact A⟩
  .cases h
def VX {σ:PT Nat}:∀(n:Nat),ab3 σ n=J->∀i,i<n->iF σ i=i
 |0,_,i,hi=>by omega
 |n+1,h,i,hi=>by
  simp[ab3,ak]at h;by_cases e:i=n
  .subst e;cases q:σ.get i with
   |none=>rw[q]at h;exact bc h.1 (by simp)
   |some a=>rw[q]at h;rw[VH q];exact ar h.1
  .exact VX n h.2 i (by omega)
structure Lr (np:Nat) (t:Tm) (vs:List TV) (h:bf) (z:t.ty.den) (m:Nat) (σ:PT Nat) (sm:Nat):Prop where
 ex:∃x m1 y m2,z=mkp _ _ x y/\m=m1|||m2/\BS (iF σ) h t.vs vs=Z (x,m1)/\Ge (iF σ) h 0 t.bs=Z (y,m2)
 inj:∀a b,a<l! t.bs->b<l! t.bs->iF σ a=iF σ b->a=b
 sig:∀q,aC sm q=J↔∃k,k<l! t.bs/\iF σ k=q
 disj:∀i,aC m i=J->aC sm i=aa
 fix:∀i,i<np->iF σ i=i
def xX {t:Tm} {z:t.ty.den} {σ:PT Nat} {sm:Nat} (hm:Ej i t r h=Z ⟨z,m,σ,sm⟩):Lr i t r h z m σ sm:=by
 unfold Ej at hm;rw[wY]at hm;split at hm
 .rename_i sm' hs;split at hm
  .rename_i x N h1;split at hm
   .rename_i y m2 h2;split at hm
    next A=>simp[ak]at A;obtain⟨rfl,rfl,rfl,rfl⟩:=hm;let⟨g1,I,D⟩:=ZY _ _ _ _ hs;simp only[b9]at g1 I D;exact⟨⟨x,N,y,m2,rfl,rfl,h1,h2⟩,I,λq=>by rw[D];simp,λnp hi=>qT A.1 np hi,VX i A.2⟩
    .cases hm
   .cases hm
  .cases hm
 .cases hm
mutual
def zX {g:Nat->Nat} {h:bf}:∀(p:PV) (l:Y TV) (x:p.ty.den) (m:Nat) (r:Y TV),ox g h p l=Z (x,m,r)->dP h m
 |.d T,l,x,m,r,hg=>wJ 40 T l x m r hg
 |.H i q,l,x,m,r,hg|.qf i q z,l,x,m,r,hg|.nr i q,l,x,m,r,hg|.qv q ps,l,x,m,r,hg|.G i,l,x,m,r,hg|.mp i,l,x,m,r,hg=>by
  simp only[ox]at hg;split at hg
  .split at hg
   .simp only[af,aV]at hg;obtain⟨_,rfl,_⟩:=hg;exact dP.zero h
   .cases hg
  .cases hg
 |.nil,l,x,m,r,hg=>by
  simp only[ox]at hg;split at hg
  .simp only[af,aV]at hg;obtain⟨_,rfl,_⟩:=hg;exact dP.zero h
  .cases hg
 |.emp,l,x,m,r,hg=>by
  simp only[ox]at hg;split at hg
  .simp only[af,aV]at hg;obtain⟨_,rfl,_⟩:=hg;exact dP.zero h
  .simp only[af,aV]at hg;obtain⟨_,rfl,_⟩:=hg;exact dP.zero h
  .cases hg
 |.agg ps,l,x,m,r,hg=>Ll ps l x m r hg
def Ll {g:Nat->Nat} {h:bf}:∀(ps:Y PV) (l:Y TV) (x:(PV.tyL ps).den) (m:Nat) (r:Y TV),BT g h ps l=Z (x,m,r)->dP h m
 |[],l,x,m,r,hg=>by
  simp only[BT,af,aV]at hg;obtain⟨_,rfl,_⟩:=hg;exact dP.zero h
 |p::ps,l,x,m,r,hg=>by
  simp only[BT]at hg;split at hg
  .rename_i x1 m1 r1 h1;split at hg
   .rename_i x2 m2 r2 h2;simp only[af,aV]at hg;obtain⟨_,rfl,_⟩:=hg;exact (zX p l x1 m1 r1 h1).or (Ll ps r1 _ _ _ h2)
   .cases hg
  .cases hg
end
def aqy {p:PV} {x:p.ty.den} (A:xB g h p u=Z (x,m)):dP h m:=by
 cases p with
 |d T=>exact abr A
 |agg D=>
  simp only[xB]at A;split at A
  .cases A
  .split at A
   .split at A
    next x1 I h1=>simp only[af,aV]at A;obtain⟨_,rfl⟩:=A;exact Ll D _ _ _ _ h1
    .cases A
   .cases A
 |_=>
  simp only[xB]at A;split at A
  next h1=>simp only[af,aV]at A;obtain⟨_,rfl⟩:=A;exact zX _ _ _ _ _ h1
  .cases A
def S0 :∀(A:Y PV) (vs:Y TV) (x:(PV.tyL A).den) (m:Nat),BS g h A vs=Z (x,m)->dP h m
 |[],[],x,m,q=>by obtain⟨_,rfl⟩:=q;exact dP.zero h
 |[],_::_,x,m,q|_::_,[],x,m,q=>by simp[BS]at q
 |p::A,v::vs,x,m,q=>by
  simp[BS]at q;split at q
  .rename_i x1 D h1;split at q
   next x2 m2 h2=>obtain⟨_,rfl⟩:=q;exact (aqy h1).or (S0 A vs x2 m2 h2)
   .cases q
  .cases q
def aqz {b:PB} {x:b.ty.den} (q:Et g h i b=Z (x,m)):dP h m:=by
 cases b with
 |C ty A=>
  simp[Et]at q;split at q
  .split at q
   .split at q
    next h1=>obtain⟨_,rfl⟩:=q;exact Ll A _ _ _ _ h1
    .cases q
   .cases q
  .cases q
 |mp K V=>
  simp[Et]at q;split at q
  .split at q
   .obtain⟨_,rfl⟩:=q;exact dP.zero h
   .cases q
  .cases q
 |qg=>simp[Et,af,aV]at q;obtain⟨_,rfl⟩:=q;exact dP.zero h
 |_=>
  simp[Et]at q;split at q
  .split at q
   .split at q
    .obtain⟨_,rfl⟩:=q;exact dP.zero h
    .cases q
   .cases q
  .cases q
def S4 :∀(bs:Y PB) (i:Nat) (x:(PB.tyL bs).den) (m:Nat),Ge g h i bs=Z (x,m)->dP h m
 |[],i,x,m,q=>by obtain⟨_,rfl⟩:=q;exact dP.zero h
 |b::r,i,x,m,q=>by
  simp[Ge]at q;split at q
  .rename_i x1 A h1;split at q
   next x2 m2 h2=>obtain⟨_,rfl⟩:=q;exact (aqz h1).or (S4 r (i+1) x2 m2 h2)
   .cases q
  .cases q
structure oH (t:Tm) (x:t.ty.den) (vs:List TV) (h1:bf) (l1:List (Option fm)):Prop where
 pv:pH Lj t.vs (S7 _ _ x)=Z vs
 pb:qY Lj t.bs (RM _ _ x)=Z l1
 len:l! l1=l! t.bs
 at_:∀i b,h1.get i=Z b↔l1[i]? =Z (Z b)
 ok:lI h1 vs=J
 lt:rN (l! t.bs) vs=J
 C:∀i ty l,h1.get i=Z (.C ty l)->lI h1 l=J/\rN (l! t.bs) l=J
 qk:∀i F a x,h1.get i=Z (.qk F a x)->a<l! t.bs
 nox:∀i F a x k p,h1.get i≠Z (.qr F a x k p)
def agu (l:Y (M fm)) (i:Nat) (b:fm):(Da Lj 0 l PT.leaf).get i=Z b↔l[i]? =Z (Z b):=by
 by_cases hi:i<l! l
 .obtain⟨c,q⟩:∃c,l[i]? =Z c:=⟨l[i],aL hi⟩
  have:=wS Lj l 0 PT.leaf (λa b _ _ e=>by simp[Lj]at e;omega) i c q;rw[show Lj (0+i)=i from by simp only[Lj];omega]at this;rw[this,q];cases c with
  |some b'=>simp
  |none=>simp[PT.get]
 .rw[wR Lj l 0 PT.leaf i (λk A=>by simp[Lj];omega),jG (by omega)];simp[PT.get]
def ya {t:Tm} {x:t.ty.den} {vs:Y TV} {h1:bf} (hi:DB t x=Z (vs,h1)):∃D,oH t x vs h1 D:=by
 unfold DB at hi;split at hi
 .rename_i I hus;split at hi
  .rename_i h hh;split at hi
   .rename_i q;simp[ak]at q;simp[af,aV]at hi;obtain⟨rfl,rfl⟩:=hi;unfold Qo at hh;split at hh
    .rename_i D A;simp[af]at hh;refine ⟨D,hus,A,Fq _ _ _ _ A,λi b=>?_,q.1.1,q.1.2,λi ty l hil=>?_,λi F a x hil=>?_,λi F a x k p hil=>?_⟩
     .rw[<- hh];exact agu D i b
     .have:=PT.get_all _ h 1 0 i _ q.2 hil
      grind
     .have:=PT.get_all _ h 1 0 i _ q.2 hil;simp_all
     .have:=PT.get_all _ h 1 0 i _ q.2 hil;cases this
    .cases hh
   .cases hi
  .cases hi
 .cases hi
def R5 (nb:Nat) (n:Nat):Bool:=dw (ow n) nb
def Fs :R5 i m=J↔ow m<i:=⟨λh=>aX h,λh=>bx h⟩
def Z9 {k:Nat}:R5 m (tP i k)=J↔i<m:=by rw[Fs,nu]
def Hx :R5 m (nm i)=J↔i<m:=by
 rw[Fs,d_]
def UC (h:m<i) (j sz n:Nat):(vB m j sz n).all (R5 i)=J:=by
 unfold vB;split
 .rfl
 .exact Z9.2 h
def ami {s:Sb} (h:s.id<i):(YO s).all (R5 i)=J:=by
 cases s with
 |nr id j sz n=>exact UC h _ _ _
 |nl q=>rfl
 |_=>exact Z9.2 h
mutual
def aqp {nb:Nat} {h:bf}:∀(v:TV) (y:AV),Lg nb v=J->co h v=Z y->y.all (R5 nb)=J
 |.f _ _,y,_,he|.zw _ _ _ _ _,y,_,he=>by simp[co,af]at he;subst he;rfl
 |.qn id _ _ _,y,hl,he|.H id _,y,hl,he|.qf id _ _,y,hl,he=>by simp[co,af]at he;subst he;exact Hx.2 (aX hl)
 |.G id,y,hl,he=>by
  simp[co]at he;split at he
  .simp[af]at he;subst he;unfold dY;split
   .rfl
   .exact Hx.2 (aX hl)
  .cases he
 |.zg id jj,y,hl,he=>by
  simp[co]at he;split at he
  .simp[af]at he;subst he;exact Hx.2 (aX hl)
  .cases he
 |.emp,y,_,he|.nil,y,_,he=>by simp[co,af]at he;subst he;rfl
 |.mp id,y,hl,he=>by simp[co,af]at he;subst he;exact Hx.2 (aX hl)
 |.agg l,y,hl,he|.qp l,y,hl,he|.qv q l,y,hl,he=>by
  simp[co]at he;split at he
  .rename_i l' hl';simp[af]at he;subst he;exact u5 l l' hl hl'
  .cases he
 |.undef,y,_,he|.np,y,_,he|.qj,y,_,he|.qc _ _,y,_,he=>by simp[co,af]at he;subst he;rfl
 |.sb s,y,hl,he=>by simp[co,af]at he;subst he;exact ami (aX hl)
def u5 {nb:Nat} {h:bf}:∀(l:Y TV) (l':Y AV),rN nb l=J->cO h l=Z l'->AV.allL (R5 nb) l'=J
 |[],l',_,he=>by simp[cO,af]at he;subst he;rfl
 |x::r,l',hl,he=>by
  obtain⟨y,l2,rfl,e1,e2⟩:=db he;simp[rN,ak]at hl;simp[AV.allL,ak];exact⟨aqp x y hl.1 e1,u5 r l2 hl.2 e2⟩
end
def abv :∀{l:Y AV},(∀x∈l,x.all p=J)->AV.allL p l=J
 |[],_=>rfl
 |x::r,h=>by
  simp[AV.allL,ak];exact⟨h x (cj ..),abv λy q=>h y (bP _ q)⟩
def Qk (h:m<i) (sz:Nat):∀(A:η) (k:Nat),∀x∈lH m sz k A,x.all (R5 i)=J
 |[],_,x,q=>by cases q
 |l::r,k,x,q=>by
  rcases bk.1 q with rfl|q
  .exact UC h _ _ _
  .exact Qk h sz r (k+1) x q
def ai1 (h:m<i) {F:wd} {x:F.ty.den} (q:MX m F x=Z z):z.c.all (R5 i)=J:=by
 cases F with
 |rr ty sz=>
  simp[MX,af]at q;subst q;exact abv (Qk h sz x 0)
 |ir ty T=>cases q
def ai0 (h:i<m) {k:Nat} {F:wd} {x:F.ty.den} (A:Ky i k F x=Z z):z.c.all (R5 m)=J:=by
 cases F with
 |ir ty T=>
  let⟨o,_,q⟩:=Option.bind_eq_some_iff.1 A;unfold adk at q;split at q
  .cases q
  .cases q;rfl
 |_=>cases A
def oH.blk_all {t:Tm} {x:t.ty.den} {l1:Y (M fm)} (I:oH t x r h l1) {b:fm} (A:h.get i=Z b) (q:lx h b=Z z):z.c.all (R5 (l! t.bs))=J:=by
 cases b with
 |F ty p T xs=>
  simp only[lx]at q;split at q
  .cases q
  .simp[af]at q;subst q;rfl
 |C ty l=>
  cases ty with
  |some ty=>
   simp[lx]at q;split at q
   next D N=>simp[af]at q;subst q;exact u5 l D (I.C i _ l A).2 N
   .cases q
  |none=>
   simp[lx]at q;split at q
   next D N=>simp[af]at q;subst q;rfl
   .cases q
 |qx p sz n=>cases q
 |mp K V es=>
  simp[lx,af]at q;subst q;unfold mpC;split
  .rfl
  .simp[BC.all,wF];have key:∀l:Y (K.den×V.den),AV.allL (R5 (l! t.bs)) (l.map ((λx=>x.2)∘λp=>(rO K p.1,AV.f (gr V p.2))))=J:=λl=>by
    induction l with
    |nil=>rfl
    |cons e vs ih=>simp[eg,AV.allL,ak];exact⟨rfl,ih⟩
   exact key es
 |qk F a y=>exact ai1 (I.qk i F a y A) q
 |qr F a y k p=>exact bc A (I.nox i F a y k p)
def oH.lt_len {t:Tm} {x:t.ty.den} {q:Y (M fm)} (I:oH t x r h q) {b:fm} (A:h.get i=Z b):i<l! t.bs:=by
 rw[<- I.len];exact (bH.1 ((I.at_ i b).1 A)).1
def φ1 (nb:Nat) (g:Nat->Nat) (φ:PM):PM:=λn=>if R5 nb n then φ (rq g n) else U
def af8 (hi:ow m<i):φ1 i g V m=V (rq g m):=by
 unfold φ1;rw[aK (Fs.2 hi)]
def yY {k:Nat} (h:φ1 i g V m=Z k):ow m<i/\V (rq g m)=Z k:=by
 unfold φ1 at h;split at h
 next hp=>exact⟨Fs.1 hp,h⟩
 .cases h
def am6 (inj:∀a b,a<i->b<i->g a=g b->a=b) {q:Nat} (h:ow m<i) (h':ow q<i) (e:rq g m=rq g q):m=q:=by
 let⟨e1,e2⟩:=wL e;rw[<- lL m,<-lL q,inj _ _ h h' e1,e2]
def oH.erHF {t:Tm} {x:t.ty.den} {A:Y (M fm)} (I:oH t x r h A) (D:AI.erHF h i=Z z):ow i<l! t.bs/\z.c.all (R5 (l! t.bs))=J:=by
 let⟨c,h2,h3⟩:=iH D;have hi:=I.lt_len h2;refine ⟨hi,?_⟩;cases q:ix i with
 |zero=>rw[q]at h3;exact I.blk_all h2 h3
 |succ k=>
  rw[q]at h3;cases c with
  |qk F a y=>exact ai0 hi h3
  |qr F a y k p=>exact bc h2 (I.nox _ F a y k p)
  |_=>cases h3
structure ank (t:Tm) (x:t.ty.den) (vs:List TV) (h1:bf) (g:Nat->Nat) (φ:PM) (E E':Nat->Prop) (Hv:HF) (w:World):Prop where
 zj:qE (φ1 (l! t.bs) g φ) E' (erHF h1) w
 val:∀x v,x.all (R5 (l! t.bs))=J->cG φ (tot E φ Hv) w (x.qz (rq g)) v->cG (φ1 (l! t.bs) g φ) (tot E' (φ1 (l! t.bs) g φ) (erHF h1)) w x v
 qh:∀k,own (φ1 (l! t.bs) g φ) (erHF h1) k->own φ Hv k
 tot_:∀k,tot E' (φ1 (l! t.bs) g φ) (erHF h1) k->tot E φ Hv k
def qE.toId {t:Tm} {x:t.ty.den} {N:Y (M fm)} (I:oH t x r h N) (inj:∀a b,a<l! t.bs->b<l! t.bs->g a=g b->a=b) {E':Nat->Prop} (vs:qE V O S w)
 (hat:∀n y,AI.erHF h n=Z y->S (rq g n)=Z (y.qz (rq g)))
 (hE:∀k,E' k->tot O V S k) (hne:∀n k y,AI.erHF h n=Z y->V (rq g n)=Z k->¬E' k) (hel:∀k,E' k->k<w.heap.size):ank t x r h g V O E' S w:=by
 have own1:∀k,own (φ1 (l! t.bs) g V) (erHF h) k->own V S k:=by
  rintro k ⟨n,y,h2,h3⟩;let⟨hi,h4⟩:=yY h3;exact⟨rq g n,_,hat n y h2,h4⟩
 have tot1:∀k,tot E' (φ1 (l! t.bs) g V) (erHF h) k->tot O V S k:=λk q=>q.elim (hE k) λh1=>.inr (own1 k h1)
 have val:∀x v,x.all (R5 (l! t.bs))=J->cG V (tot O V S) w (x.qz (rq g)) v->cG (φ1 (l! t.bs) g V) (tot E' (φ1 (l! t.bs) g V) (erHF h)) w x v:=λx v hx hr=>by
  have h2:cG (φ1 (l! t.bs) g V) (tot O V S) w x v:=cG.renFrom (λi k hp q=>by unfold φ1;rw[aK hp];exact q) hr x hx rfl;exact h2.ext (λ_ _ h1=>h1) (ES.refl _ w) λk _ q=>tot1 k q
 refine ⟨⟨λn D b b' k A g2 g3 g4=>?_,λn y A=>?_,hel,λg' cells hg=>(vs.gl g' cells hg).ext (ES.refl _ w) λk _ q=>tot1 k q⟩,val,own1,tot1⟩
 .obtain⟨hi,h4⟩:=yY g3;let⟨hj,h5⟩:=yY g4;exact am6 inj hi hj (vs.inj _ _ _ _ k (hat n _ A) (hat D _ g2) h4 h5)
 .obtain⟨hi,hall⟩:=I.erHF A;let⟨k,p1,p2,ob,p3,p4⟩:=vs.at_ _ _ (hat n y A);exact⟨k,by rw[af8 hi];exact p1,hne n k y A p1,ob,p3,jS.renFrom val hall p4⟩
def BM.view {N:bf} {Hz':HF} (d:uu S Hz') (gv:Hk h S Hz' m) (hr:An N h) {b0 c:fm} (hb:BM g h m b0 c) {y':nk} (e0:lx h b0=Z z) (e1:lx N c=Z y'):ii S Hz' z y':=by
 cases hb with
 |F ty p T xs=>
  simp only[lx]at e0 e1;rw[e0]at e1;cases e1;exact ii.refl d z
 |C ty ps x l I m' hg hp hm=>
  have key:∀q cs',cO h l=Z q->cO N I=Z cs'->iy S Hz' q cs'/\∀x∈cs',x.isCell=J:=λq cs' D A=>by
   let⟨l1,l3,q1,q2,q3⟩:=Gd d hr ps l x m' [] I q cs' hg hp D A λi hi=>gv i (hm i hi)
   simp[cO,af]at q2;subst q2;rw[cJ]at q1;subst q1;exact⟨q3,mE (tI A (zu ps x I hp))⟩
  cases ty with
  |some ty=>
   simp[lx]at e0 e1;split at e0
   .rename_i q D;simp[af]at e0;subst e0;split at e1
    next cs' A=>simp[af]at e1;subst e1;exact ii.C rfl rfl (key _ _ D A).1 (key _ _ D A).2
    .cases e1
   .cases e0
  |none=>
   simp[lx]at e0 e1;split at e0
   .rename_i q D;simp[af]at e0;subst e0;split at e1
    next cs' A=>simp[af]at e1;subst e1;exact ii.none
    .cases e1
   .cases e0
 |_=>
  simp[lx]at e0 e1;rw[e0]at e1;cases e1;exact ii.refl d z
def BM.erB_some {A:bf} {nx:Nat} (hinv:km h nx) {b0 c:fm} (h0:h.get i=Z b0) (I:BM g h m b0 c) (e1:lx A c=Z z):∃y,lx h b0=Z y:=by
 cases I with
 |C ty N x l l2 m' hg hp hm=>
  let⟨l',D⟩:=fO h l (hinv.C i _ l h0);cases ty<;>exact⟨_,by simp[lx,D];rfl⟩
 |_=>exact⟨z,e1⟩
def BM.mem {b0 c:fm} (q:BM g h m b0 c) (i k:Nat):zG i k b0=zG i k c:=by cases q<;>rfl
def BM.G {b0 c:fm} (q:BM g h m b0 c):kS c=kS b0:=by
 cases q<;>rfl
structure pT (P:Program) (f:FuncId) (c:cr):Prop where
 qd:yT P f
 calls:∀x y,c.m x=Z y->∀vs hp l1 rs hq l2 la lr,oH c.pre x vs hp l1->oH c.post y rs hq l2->cO hp vs=Z la->cO hq rs=Z lr->
  ∀(φ:PM) (E:Nat->Prop) (w:World) (us:ξ),qE φ E (erHF hp) w->jR φ (tot E φ (erHF hp)) w la us->(∀n k,φ n=Z k->ow n<l! c.pre.bs)->
  Calls P f us.toArray w λen w'=>∃v φ',en= .returned v/\ES (own φ (erHF hp)) w w'/\(∀k,k<w.heap.size->own φ' (erHF hq) k->own φ (erHF hp) k)/\(∀n,ow n<l! c.pre.bs->φ' n=φ n)/\qE φ' E (erHF hq) w'/\cG φ' (tot E φ' (erHF hq)) w' (AX lr) v
def Qt :∀(bs:Y PB) (x:(PB.tyL bs).den) (l:Y (M fm)),Ee bs=J->qY g bs x=Z l->∀(i:Nat) (c:M fm),l[i]? =Z c->∃b,c=Z b
 |[],x,l,_,hp,i,c,D=>by simp[qY,af]at hp;subst hp;simp at D
 |b::r,x,l,I,hp,i,c,D=>by
  simp[qY]at hp;split at hp
  .rename_i a A;split at hp
   .rename_i q N;simp[af]at hp;subst hp;cases i with
    |zero=>
     simp at D;subst D;cases b with
     |qg=>simp[Ee]at I
     |C ty ps=>
      simp[C6]at A
      grind
     |_=>simp[C6,af]at A;exact⟨_,A.symm⟩
    |succ i=>
     refine Qt r _ q ?_ N i c (by grind);cases b<;>first|exact I|simp[Ee]at I
   .cases hp
  .cases hp
def IK {h2:bf} :∀n,vA h h2 g n=J->∀i,i<n->∀r,eK h (g i)=Z r->eK h2 (g i)=Z r
 |0,_,i,hi,_,_=>by omega
 |n+1,A,i,hi,r,D=>by
  simp[vA,ak]at A;by_cases e:i=n
  .subst e;let⟨p,s,k⟩:=r;have h1:=A.1;rw[D]at h1;cases h3:eK h2 (g i) with
   |none=>rw[h3]at h1;cases h1
   |some q=>simp_all
  .exact IK n A.2 i (by omega) r D
def jR.le {H':HF} (r:qE V O S w):∀{l A:Y AV} {q:ξ},iy S H' l A->jR V (tot O V S) w l q->jR V (tot O V H') w A q
 |[],[],[],_,_=>trivial
 |[],[],_::_,_,h|_::_,_::_,[],_,h|[],_::_,_,h,_|_::_,[],_,h,_=>h.elim
 |_::_,_::_,_::_,D,h=>⟨D.1 _ _ _ _ r h.1,jR.le r D.2 h.2⟩
def jR.toId {φ':PM} {O':Nat->Prop} (A:∀x v,x.all p=J->cG V O w (x.qz g) v->cG φ' O' w x v):∀{l:Y AV} {q:ξ},AV.allL p l=J->jR V O w (AV.renL g l) q->jR φ' O' w l q
 |[],[],_,_=>trivial
 |[],_::_,_,h|_::_,[],_,h=>h.elim
 |_::_,_::_,hp,h=>by
  simp[AV.allL,ak]at hp;exact⟨A _ _ hp.1 h.1,jR.toId A hp.2 h.2⟩
def Z2 :∀{A:Y TV} {q:Y AV},cO h A=Z q->co h (UD A)=Z (AX q)
 |[],q,he=>by simp[cO,af]at he;subst he;rfl
 |[x],q,he=>by
  obtain⟨y,D,rfl,e1,e2⟩:=db he;simp[cO,af]at e2;subst e2;exact e1
 |x::y::r,q,he=>by
  obtain⟨N,D,rfl,e1,e2⟩:=db he;obtain⟨I,l3,rfl,e3,e4⟩:=db e2;simp[UD,co,he,AX]
def afk (γ:Nat->Nat):∀l:Y AV,AX (AV.renL γ l)=(AX l).qz γ
 |[]|[x]|x::y::r=>rfl
def Uk :∀{l:Y AV},AV.allL p l=J->(AX l).all p=J
 |[],_=>rfl
 |[x],h=>by simp only[AV.allL,ak]at h;exact h.1
 |x::y::r,h=>h
def alf {q:Nat}:aC (((1<<<m)-1)<<<i) q=J↔i<=q/\q<i+m:=by
 rw[Nat.testBit_shiftLeft,CG,Nat.testBit_two_pow_sub_one]
 grind
def ald (l:ι) (B:Nat):ι:=l.flatMap λi=>(mI (B+1)).map λk=>tP i k
def UW {l:ι} :m∈ald l i↔ow m∈l/\ix m<=i:=by
 unfold ald;rw[lG];constructor
 .rintro⟨B,hi,q⟩;obtain⟨k,A,rfl⟩:=cv.1 q;rw[oI]at A;rw[nu,xv];exact⟨hi,by omega⟩
 .rintro⟨h1,h2⟩;exact⟨ow m,h1,cv.2 ⟨ix m,oI.2 (by omega),lL m⟩⟩
mutual
def AV.all_and {p q:Nat->Bool}:∀x:AV,x.all p=J->x.all q=J->x.all (λn=>p n&&q n)=J
 |.f _,_,_=>rfl
 |.H _ _,h1,h2|.sl _ _ _,h1,h2|.G _ _ _,h1,h2|.mp _,h1,h2=>by simp only[AV.all]at h1 h2 ⊢;rw[h1,h2];rfl
 |.emp,_,_|.qj,_,_|.qc _ _,_,_=>rfl
 |.agg l,h1,h2|.qp l,h1,h2|.qv _ l,h1,h2=>AV.allL_and l h1 h2
def AV.allL_and {p q:Nat->Bool}:∀l:Y AV,AV.allL p l=J->AV.allL q l=J->AV.allL (λn=>p n&&q n) l=J
 |[],_,_=>rfl
 |x::r,h1,h2=>by
  simp[AV.allL,ak]at h1 h2 ⊢;exact⟨AV.all_and x h1.1 h2.1,AV.allL_and r h1.2 h2.2⟩
end
def BC.all_and {q:Nat->Bool} {c:BC} (h1:c.all p=J) (h2:c.all q=J):c.all (λn=>p n&&q n)=J:=by
 cases c with
 |mx l=>exact AV.allL_and l h1 h2
 |mp A=>exact AV.allL_and _ h1 h2
 |_=>rfl
def XN (B n:Nat):Bool:=dx (ix n) B
def FO {n:Nat} (h:i<=m) (q:XN i n=J):XN m n=J:=bx (cP (aX q) h)
mutual
def AV.all_ix {B B':Nat} (h:B<=B'):∀x:AV,x.all (XN B)=J->x.all (XN B')=J
 |.f _,_=>rfl
 |.H _ _,h1|.sl _ _ _,h1|.G _ _ _,h1|.mp _,h1=>FO h h1
 |.emp,_|.qj,_|.qc _ _,_=>rfl
 |.agg l,h1|.qp l,h1|.qv _ l,h1=>AV.allL_ix h l h1
def AV.allL_ix {B B':Nat} (h:B<=B'):∀l:Y AV,AV.allL (XN B) l=J->AV.allL (XN B') l=J
 |[],_=>rfl
 |x::r,h1=>by
  simp[AV.allL,ak]at h1 ⊢;exact⟨AV.all_ix h x h1.1,AV.allL_ix h r h1.2⟩
end
mutual
def AV.ix_ex:∀x:AV,∃B,x.all (XN B)=J
 |.f _=>⟨0,rfl⟩
 |.H n _|.sl n _ _|.G n _ _|.mp n=>⟨ix n,bx (bi _)⟩
 |.emp|.qj|.qc _ _=>⟨0,rfl⟩
 |.agg l|.qp l|.qv _ l=>AV.ixL_ex l
def AV.ixL_ex:∀l:Y AV,∃B,AV.allL (XN B) l=J
 |[]=>⟨0,rfl⟩
 |x::r=>by
  obtain⟨a,ha⟩:=AV.ix_ex x;obtain⟨b,hb⟩:=AV.ixL_ex r;exact⟨a+b,by simp[AV.allL,ak];exact⟨AV.all_ix (by omega) x ha,AV.allL_ix (by omega) r hb⟩⟩
end
def BC.ix_ex (c:BC):∃B,c.all (XN B)=J:=by
 cases c with
 |mx l=>exact AV.ixL_ex l
 |mp q=>exact AV.ixL_ex _
 |_=>exact⟨0,rfl⟩
def BC.all_ix (h:i<=m) {c:BC} (h1:c.all (XN i)=J):c.all (XN m)=J:=by
 cases c with
 |mx l=>exact AV.allL_ix h l h1
 |mp q=>exact AV.allL_ix h _ h1
 |_=>rfl
def Lk (h:bf):∃B,∀n y,erHF h n=Z y->ix n<=B/\y.c.all (XN B)=J:=by
 let⟨A,hM⟩:=aae h;have key:∀a:Nat,∃B,∀n y,n<a->erHF h n=Z y->y.c.all (XN B)=J:=by
  intro a;induction a with
  |zero=>exact⟨0,λn y I=>by omega⟩
  |succ a N=>
   let⟨B,D⟩:=N;cases hx:erHF h a with
   |none=>exact⟨B,λn y I q=>by
     by_cases e:n=a
     .grind
     .exact D n y (by omega) q⟩
   |some z=>
    let⟨C,hC⟩:=BC.ix_ex z.c;exact⟨B+C,λn y I q=>by
     by_cases e:n=a
     .subst e;rw[hx]at q;cases q;exact BC.all_ix (by omega) hC
     .exact BC.all_ix (by omega) (D n y (by omega) q)⟩
 let⟨H,hH⟩:=jP h;let⟨L,hL⟩:=PT.bound H;let⟨B,D⟩:=key L;refine ⟨A+B,λn y q=>⟨cP (amj hM q) (by omega),BC.all_ix (by omega) (D n y ?_ q)⟩⟩;rcases bF n L with h1|h1
 .exact h1
 .simp_all
def ail {o:Oper} {e:iu} {c:cr} (hinv:km h i) (sp:pT P f c) {x:c.pre.ty.den} {σ:PT Nat} {sm:Nat} (A:Lr 0 c.pre r h x m σ sm) {vs:Y TV} {hp:bf} {l1:Y (M fm)} (I:oH c.pre x vs hp l1) (hng:Ee c.pre.bs=J) {y:c.post.ty.den} (hm:c.m x=Z y) {rs:Y TV} {hq:bf} {l2:Y (M fm)} (D:oH c.post y rs hq l2) (hle:l! c.pre.bs<=l! c.post.bs)
 (glo:∀nx,nx<l! c.pre.bs->g nx=iF σ nx) (ghi:∀nx,l! c.pre.bs<=nx->g nx=i+(nx-l! c.pre.bs)) {h2:bf} (hh2:h2=Da g 0 (l2.map (ja (kQ g))) (dZ m h)) (hsr:vA h h2 g (l! c.pre.bs)=J) (hla:cO h r=Z K)
 (hexec:∀(φ:PM) (E:Nat->Prop) (h':HF) (w:World) (a:Act),(∀t,.tmp t∈o.op.operands->∀y,gk e h t=Z y->cG φ (tot E φ h') w y (a.tmps.getD t undef))->qE φ E h' w->∃us:ξ,(execOp a.eval o).run P w= .ok (.enter f us.toArray) w/\jR φ (tot E φ h') w K us):
 gP P o aa e h i (UD (lb g rs)) (sm|||m) (sm|||m|||(((1<<<(l! c.post.bs-l! c.pre.bs))-1)<<<i)) h2 (i+(l! c.post.bs-l! c.pre.bs)):=by
 let⟨x1,m1,x2,m2,hx,hmm,gv,gb⟩:=A.ex;have hmr:dP h m:=by rw[hmm];exact (S0 _ _ _ _ gv).or (S4 _ _ _ _ gb)
 generalize hnp:l! c.pre.bs=np at*
 generalize hnq:l! c.post.bs=nq at*
 have pvg:pH (iF σ) c.pre.vs x1=Z (lb (iF σ) vs):=by
  have h3:=vm (iF σ) c.pre.vs x1;have h4:=I.pv;rw[hx,u_]at h4;rw[h3,h4];rfl
 have pbg:qY (iF σ) c.pre.bs x2=Z (l1.map (ja (kQ (iF σ)))):=by
  have h3:=xN (iF σ) c.pre.bs x2;have h4:=I.pb;rw[hx,wI]at h4;rw[h3,h4];rfl
 have hl1:∀nx,nx<np->∃b,l1[nx]? =Z (Z b):=λnx hi=>by
  have hi':nx<l! l1:=by rw[I.len,hnp];exact hi
  let⟨b,N⟩:=Qt c.pre.bs _ l1 hng I.pb nx l1[nx] (aL hi');exact⟨b,by rw[aL hi',N]⟩
 have hbm:∀nx b,l1[nx]? =Z (Z b)->∃b0,h.get (iF σ nx)=Z b0/\BM (iF σ) h m b0 (kQ (iF σ) b):=λnx b N=>by
  let⟨b0,q1,q2⟩:=MM c.pre.bs 0 x2 m2 _ gb pbg nx (kQ (iF σ) b) (by rw[bL,N];rfl);rw[b9]at q1;exact⟨b0,q1,q2.mono λj hj=>by rw[hmm,bD,hj];simp⟩
 have inj1:∀a b,a<np->b<np->iF σ a=iF σ b->a=b:=λa b ha N=>A.inj a b (by rw[hnp];exact ha) (by rw[hnp];exact N)
 have sig:∀q,aC sm q=J↔∃k,k<np/\iF σ k=q:=λq=>by rw[A.sig,hnp]
 have gnx:∀nx,nx<np->iF σ nx<i:=λnx hi=>by
  let⟨b,N⟩:=hl1 nx hi;let⟨b0,q1,_⟩:=hbm nx b N;exact hinv.low _ _ q1
 have hmS:∀nx,nx<np->aC m (iF σ nx)=aa:=λnx hi=>by
  cases hx:aC m (iF σ nx) with
  |false=>rfl
  |true=>have:=A.disj _ hx;rw[(sig _).2 ⟨nx,hi,rfl⟩]at this;cases this
 have injg:∀a b,a<nq->b<nq->g a=g b->a=b:=λa b ha N hab=>by
  by_cases h1:a<np
  .by_cases h2:b<np
   .rw[glo a h1,glo b h2]at hab;exact inj1 a b h1 h2 hab
   .rw[glo a h1,ghi b (by omega)]at hab;have:=gnx a h1;omega
  .by_cases h2:b<np
   .rw[ghi a (by omega),glo b h2]at hab;have:=gnx b h2;omega
   .rw[ghi a (by omega),ghi b (by omega)]at hab;omega
 let hv:bf:=Da (iF σ) 0 (l1.map (ja (kQ (iF σ)))) (dZ m h)
 have hv_at:∀nx b,l1[nx]? =Z (Z b)->hv.get (iF σ nx)=Z (kQ (iF σ) b):=λnx b N=>by
  have:=wS (iF σ) (l1.map (ja (kQ (iF σ)))) 0 (dZ m h) (λa b ha N=>by
   simp only[bj,I.len,hnp]at ha N;simp only[b9];exact inj1 a b ha N) nx (Z (kQ (iF σ) b)) (by rw[bL,N];rfl)
  rw[b9]at this;exact this
 have hv_ne:∀j,(∀nx,nx<np->j≠iF σ nx)->hv.get j=(dZ m h).get j:=λj hj=>
  wR (iF σ) _ 0 _ j λk hk=>by
   simp only[bj,I.len,hnp]at hk;rw[b9];exact hj k hk
 have rows_in:An hv h:=λj l hr=>by
  rw[bW]at hr ⊢;by_cases hj:∃nx,nx<np/\j=iF σ nx
  .obtain⟨nx,hi,rfl⟩:=hj;let⟨b,N⟩:=hl1 nx hi;let⟨b0,q1,q2⟩:=hbm nx b N;rw[hv_at nx b N]at hr;rw[q1];simp only[aH]at hr ⊢;rw[<- q2.G];exact hr
  .rw[hv_ne j (λnx hi e=>hj ⟨nx,hi,e⟩),iY]at hr;split at hr
   next ht=>let⟨ty,p,T,xs,N⟩:=hmr j ht;rw[N]at hr ⊢;exact hr
   .exact hr
 have rows_hp:∀nx l,eK hp nx=Z l->eK hv (iF σ nx)=Z l:=λnx l hr=>by
  rw[bW]at hr ⊢;cases N:hp.get nx with
  |none=>rw[N]at hr;cases hr
  |some b=>
   rw[N]at hr;rw[hv_at nx b ((I.at_ nx b).1 N)];simp only[aH,LF]at hr ⊢;exact hr
 have dead_m:∀nx,aC m nx=J->erHF hv (nm nx)=U:=λnx hi=>by
  rw[ct,hv_ne nx (λk hk e=>by rw[e,hmS k hk]at hi;cases hi)];let⟨p,sz,n,hd⟩:=vw hmr hi;rw[hd];rfl
 have h2_at:∀nx cc,l2[nx]? =Z cc->h2.get (g nx)=(match cc with|some b=>Z (kQ g b)|none=>((dZ m h).get (g nx)).map uO):=λnx cc hc=>by
  have:=wS g (l2.map (ja (kQ g))) 0 (dZ m h) (λa b ha N=>by
   simp only[bj,D.len,hnq]at ha N;simp only[b9];exact injg a b ha N) nx (cc.map (kQ g)) (by rw[bL,hc];rfl)
  rw[b9]at this;rw[hh2,this];cases cc<;>rfl
 have h2_ne:∀j,(∀nx,nx<nq->j≠g nx)->h2.get j=(dZ m h).get j:=λj hj=>by
  rw[hh2];refine wR g _ 0 _ j λk hk=>?_
  simp only[bj,D.len,hnq]at hk;rw[b9];exact hj k hk
 have rows_hq:∀nx l,eK hq nx=Z l->eK h2 (g nx)=Z l:=λnx l hr=>by
  rw[bW]at hr ⊢;cases N:hq.get nx with
  |none=>rw[N]at hr;cases hr
  |some b=>
   rw[N]at hr;rw[h2_at nx _ ((D.at_ nx b).1 N)];simp only[aH,LF]at hr ⊢;exact hr
 have rows2:cq h h2:=λj l hr=>by
  by_cases hj:∃nx,nx<np/\j=iF σ nx
  .obtain⟨nx,hi,rfl⟩:=hj;rw[<- glo nx hi]at hr ⊢;exact IK np hsr nx hi l hr
  .have hjn:j<i:=by
    rw[bW]at hr;cases N:h.get j with
    |none=>rw[N]at hr;cases hr
    |some b=>exact hinv.low j b N
   have:=cq.kill m h j l hr;rw[bW]at this ⊢;rw[h2_ne j (λnx hi e=>?_)]
   .exact this
   .by_cases hip:nx<np
    .exact hj ⟨nx,hip,by rw[e,glo nx hip]⟩
    .rw[ghi nx (by omega)]at e;omega
 let⟨lr,hlr⟩:=fO hq rs D.ok;let⟨lp,hlp⟩:=fO hp vs I.ok;have er2:∀n yb,erHF hq n=Z yb->erHF h2 (rq g n)=Z (yb.qz (rq g)):=λn yb hn=>by
  let⟨b,N,hyb⟩:=iH hn;unfold erHF;rw[xm,zO,h2_at _ _ ((D.at_ _ b).1 N)];exact CX rows_hq hyb
 have er2':∀n,ow n<nq->∀z,erHF h2 (rq g n)=Z z->∃yb,erHF hq n=Z yb/\z=yb.qz (rq g):=λn hi z hz=>by
  have hi':ow n<l! l2:=by rw[D.len,hnq];exact hi
  have hcc:=aL hi';unfold erHF at hz;rw[xm,zO]at hz;cases hcv:l2[ow n] with
  |none=>
   rw[hcv]at hcc;rw[h2_at _ U hcc]at hz;simp only at hz;cases hkg:(dZ m h).get (g (ow n)) with
   |none=>rw[hkg]at hz;cases hz
   |some b0=>rw[hkg]at hz;exact (ai3 hz).elim
  |some b=>
   rw[hcv]at hcc;have N:=(D.at_ _ b).2 hcc;rw[h2_at _ (Z b) hcc]at hz;have hz:QM h2 (g (ow n)) (ix n) (kQ g b)=Z z:=hz;have hyb:∃yb,QM hq (ow n) (ix n) b=Z yb:=by
    cases hk:ix n with
    |zero=>
     rw[hk]at hz;cases b with
     |F ty p T xs=>exact⟨z,hz⟩
     |C ty q=>
      let⟨q',hq'⟩:=fO hq q (D.C _ _ q N).1;cases ty<;>exact⟨_,by simp only[QM,lx,hq'];rfl⟩
     |qx p sz n=>cases hz
     |mp la V es=>exact⟨_,rfl⟩
     |qk F a x=>
      simp only[QM,kQ,lx,V0]at hz;let⟨y,hy,_⟩:=td.1 hz;exact⟨y,hy⟩
     |qr F a x k p=>exact bc N (D.nox _ F a x k p)
    |succ k=>
     rw[hk]at hz;simp only[QM,UX]at hz;let⟨y,hy,_⟩:=td.1 hz;exact⟨y,hy⟩
   let⟨yb,hyb⟩:=hyb;rw[CX rows_hq hyb]at hz;refine ⟨yb,?_,by cases hz;rfl⟩;unfold erHF;rw[N];exact hyb
 have dead2:∀nx,aC m nx=J->erHF h2 (nm nx)=U:=λnx hi=>by
  have hlt:=hmr.lt hinv hi;rw[ct,h2_ne nx (λk hk e=>?_)]
  .obtain⟨p,sz,n,hd⟩:=vw hmr hi;rw[hd];rfl
  .by_cases hkp:k<np
   .rw[e,glo k hkp,hmS k hkp]at hi;cases hi
   .rw[ghi k (by omega)]at e;omega
 have inv2:km h2 (i+(nq-np)):=by
  refine ⟨λj ty q hj=>?_,λj b hj=>?_⟩
  .by_cases hjg:∃nx,nx<nq/\j=g nx
   .obtain⟨nx,hi,rfl⟩:=hjg;have hi':nx<l! l2:=by rw[D.len,hnq];exact hi
    have hcc:=aL hi';cases hcv:l2[nx] with
    |none=>
     rw[hcv]at hcc;rw[h2_at nx U hcc]at hj;simp only at hj;cases hkg:(dZ m h).get (g nx) with
     |none=>rw[hkg]at hj;cases hj
     |some b0=>rw[hkg]at hj;exact (BD (fP hj)).elim
    |some b=>
     rw[hcv]at hcc;have N:=(D.at_ nx b).2 hcc;rw[h2_at nx (Z b) hcc]at hj;simp only[af]at hj;cases b with
     |C ty' q'=>
      simp only[kQ,fm.C.injEq]at hj;obtain⟨_,rfl⟩:=hj;let⟨z,hz⟩:=fO hq q' (D.C nx _ q' N).1;exact mB _ _ _ (qu rows_hq q' z hz)
     |_=>simp[kQ]at hj
   .rw[h2_ne j (λnx hi e=>hjg ⟨nx,hi,e⟩)]at hj;refine gI rows2 q ?_;have hkk:=(hinv.kill m).C j _ q hj;rw[iY]at hj;split at hj
    next ht=>let⟨_,_,_,_,N⟩:=hmr j ht;rw[N]at hj;cases hj
    .exact hinv.C j _ q hj
  .by_cases hjg:∃nx,nx<nq/\j=g nx
   .obtain⟨nx,hi,rfl⟩:=hjg;by_cases hip:nx<np
    .rw[glo nx hip];have:=gnx nx hip;omega
    .rw[ghi nx (by omega)];omega
   .rw[h2_ne j (λnx hi e=>hjg ⟨nx,hi,e⟩)]at hj;have:=(hinv.kill m).low j b hj;omega
 let⟨B1,hB1⟩:=Lk hp;let⟨B2,hB2⟩:=Lk hq;let⟨B3,hB3⟩:=Lk h;let⟨B4,hB4⟩:=Lk h2;let⟨B5,hB5⟩:=AV.ixL_ex lr;obtain⟨B,eB⟩:∃B,B=B1+B2+B3+B4+B5:=⟨_,rfl⟩
 let S:ι:=ald ((mI np).map (iF σ)) B
 have memS:∀n,n∈S↔(∃nx,nx<np/\ow n=iF σ nx)/\ix n<=B:=λn=>by
  simp only[S,UW,cv,oI];exact⟨λ⟨⟨nx,h1,h2⟩,h3⟩=>⟨⟨nx,h1,h2.symm⟩,h3⟩,λ⟨⟨nx,h1,h2⟩,h3⟩=>⟨⟨nx,h1,h2.symm⟩,h3⟩⟩
 let NN:ι:=ald ((mI (nq-np)).map λt=>i+t) B
 have Kg:∀n,n∈NN↔(∃t,t<nq-np/\ow n=i+t)/\ix n<=B:=λn=>by
  simp only[NN,UW,cv,oI];exact⟨λ⟨⟨nx,h1,h2⟩,h3⟩=>⟨⟨nx,h1,h2.symm⟩,h3⟩,λ⟨⟨nx,h1,h2⟩,h3⟩=>⟨⟨nx,h1,h2.symm⟩,h3⟩⟩
 have memW:∀n,n∈S++IV m++NN↔((∃nx,nx<nq/\ow n=g nx)/\ix n<=B)\/n∈IV m:=λn=>by
  rw[bt,bt,memS,Kg];constructor
  .rintro ((⟨⟨nx,hi,e⟩,hk⟩|hn)|⟨⟨t,ht,e⟩,hk⟩)
   .exact .inl ⟨⟨nx,by omega,by rw[glo nx hi];exact e⟩,hk⟩
   .exact .inr hn
   .exact .inl ⟨⟨np+t,by omega,by rw[ghi _ (by omega),show np+t-np=t from by omega];exact e⟩,hk⟩
  .rintro (⟨⟨nx,hi,e⟩,hk⟩|hn)
   .by_cases hip:nx<np
    .exact .inl (.inl ⟨⟨nx,hip,by rw[<- glo nx hip];exact e⟩,hk⟩)
    .exact .inr ⟨⟨nx-np,by omega,by rw[e,ghi nx (by omega)]⟩,hk⟩
   .exact .inl (.inr hn)
 have gamS:∀n,ow n<np->ix n<=B->rq (iF σ) n∈S:=λn hi hk=>(memS _).2 ⟨⟨ow n,hi,xm _ _⟩,by rw[zO];exact hk⟩
 have gamg:∀n,ow n<np->rq g n=rq (iF σ) n:=λn hi=>by unfold rq;rw[glo _ hi]
 have ungam:∀(g:Nat->Nat) (n nx:Nat),ow n=g nx->n=rq g (tP nx (ix n)):=λg n nx e=>by rw[Gf,<-e,lL]
 have hOpT:gJ P o (gk e h) (erHF h) ⟨AX (AV.renL (rq g) lr),S++IV m,S++IV m++NN,erHF h2,NN⟩:=by
  intro φ E h' w a hrd hwr hops hrep hN;have hS':∀n,n∈S->h' n=erHF h n:=λn hn=>hrd _ (dW _ hn)
  have hM':∀nx,aC m nx=J->h' (nm nx)=erHF h (nm nx):=λnx hi=>hrd _ (lw _ (mq.2 hi))
  let⟨us,hrun,hrel⟩:=hexec φ E h' w a hops hrep
  let Hv:HF:=λn=>if n∈S++IV m then erHF hv n else h' n
  have Hv_in:∀n,n∈S++IV m->Hv n=erHF hv n:=λn hn=>by simp only[Hv,hn,bJ]
  have Hv_out:∀n,n∉S++IV m->Hv n=h' n:=λn hn=>by simp only[Hv,hn,fM]
  have blkS:∀n,n∈S->∀z,erHF hv n=Z z->∃b0 c y0,h.get (ow n)=Z b0/\BM (iF σ) h m b0 c/\QM h (ow n) (ix n) b0=Z y0/\QM hv (ow n) (ix n) c=Z z:=λn hn z hz=>by
   let⟨⟨nx,hi,e⟩,_⟩:=(memS n).1 hn;let⟨b,N⟩:=hl1 nx hi;let⟨b0,q1,q2⟩:=hbm nx b N;unfold erHF at hz;rw[e,hv_at nx b N]at hz;have hz:QM hv (iF σ nx) (ix n) (kQ (iF σ) b)=Z z:=hz;rw[e];cases hk:ix n with
   |zero=>
    rw[hk]at hz;let⟨y0,hy0⟩:=BM.erB_some hinv q1 q2 hz;exact⟨b0,_,y0,q1,q2,hy0,hz⟩
   |succ k=>
    rw[hk]at hz;exact⟨b0,_,z,q1,q2,(q2.mem _ _).trans hz,hz⟩
  have hd:uu h' Hv:=λn b N=>by
   by_cases hn:n∈S++IV m
   .rw[Hv_in n hn]at N;rcases bt.1 hn with hs|hs
    .obtain⟨b0,c,y0,q1,_,q4,_⟩:=blkS n hs b N;exact⟨y0,by rw[hS' n hs];unfold erHF;rw[q1];exact q4⟩
    .obtain⟨nx,rfl,hi⟩:=o8.1 hs;rw[dead_m nx hi]at N;cases N
   .rw[Hv_out n hn]at N;exact⟨b,N⟩
  have gvv:Hk h h' Hv m:=λnx hi=>⟨hM' nx hi,by rw[Hv_in _ (lw _ (mq.2 hi)),dead_m nx hi]⟩
  have V:Od h' Hv:=⟨hd,λn b b' N hb'=>by
   by_cases hn:n∈S++IV m
   .rw[Hv_in n hn]at hb';rcases bt.1 hn with hs|hs
    .obtain⟨b0,c,y0,q1,q3,q4,q5⟩:=blkS n hs b' hb';rw[hS' n hs]at N;unfold erHF at N;rw[q1]at N;have N:QM h (ow n) (ix n) b0=Z b:=N;cases hk:ix n with
     |zero=>rw[hk]at N q5;exact BM.view hd gvv rows_in q3 N q5
     |succ k=>
      rw[hk]at N q5;have:=(q3.mem (ow n) k).symm.trans N;have q5:zG (ow n) k c=Z b':=q5;rw[q5]at this;cases this;exact ii.refl hd _
    .obtain⟨nx,rfl,hi⟩:=o8.1 hs;rw[dead_m nx hi]at hb';cases hb'
   .rw[Hv_out n hn,N]at hb';cases hb';exact ii.refl hd b⟩
  have hrepv:=V.zj hrep;have hlpg:cO hv (lb (iF σ) vs)=Z (AV.renL (rq (iF σ)) lp):=qu rows_hp vs lp hlp;have hrel1:jR φ (tot E φ Hv) w (AV.renL (rq (iF σ)) lp) us:=
   jR.le hrep (Gb hd rows_in c.pre.vs r x1 m1 _ K _ gv pvg hla hlpg (λnx hi=>gvv nx (by rw[hmm,bD,hi];rfl))) hrel
  let E':Nat->Prop:=λk=>E k\/∃n b,Hv n=Z b/\n∉S/\φ n=Z k
  have T:ank c.pre x vs hp (iF σ) φ E E' Hv w:=by
   refine qE.toId I (λa b ha N=>inj1 a b (by rw[<- hnp];exact ha) (by rw[<- hnp];exact N)) hrepv (λn yb hn=>?_) ?_ ?_ ?_
   .obtain⟨hi,_⟩:=I.erHF hn;rw[hnp]at hi;have hk:=(hB1 n yb hn).1;let⟨b,N,hyb⟩:=iH hn;rw[Hv_in _ (dW _ (gamS n hi (by omega)))];unfold erHF;rw[xm,zO,hv_at _ b ((I.at_ _ b).1 N)];exact CX rows_hp hyb
   .rintro k (hE|⟨n,b,h1,_,h3⟩)
    .exact .inl hE
    .exact .inr ⟨n,b,h1,h3⟩
   .intro n0 k y0 hn0 h3 hE0;let⟨hi,_⟩:=I.erHF hn0;rw[hnp]at hi;have hk:=(hB1 n0 y0 hn0).1;have h1:Hv (rq (iF σ) n0)=Z (y0.qz (rq (iF σ))):=by
     let⟨b,N,hyb⟩:=iH hn0;rw[Hv_in _ (dW _ (gamS n0 hi (by omega)))];unfold erHF;rw[xm,zO,hv_at _ b ((I.at_ _ b).1 N)];exact CX rows_hp hyb
    rcases hE0 with hE|⟨n,b',h4,h5,h6⟩
    .obtain⟨k',p1,p2,_⟩:=hrepv.at_ _ _ h1;rw[h3]at p1;cases p1;exact p2 hE
    .have:=hrepv.inj _ _ _ _ k h1 h4 h3 h6;exact h5 (by rw[<- this];exact gamS n0 hi (by omega))
   .rintro k (hE|⟨n,b,h1,_,h3⟩)
    .exact hrepv.el k hE
    .obtain⟨k',q1,_,ob,q3,_⟩:=hrepv.at_ n b h1;rw[h3]at q1;cases q1;exact (cW.1 q3).1
  have hcalls:=sp.calls x y hm vs hp l1 rs hq l2 lp lr I D hlp hlr (φ1 (l! c.pre.bs) (iF σ) φ) E' w us T.zj (jR.toId T.val (u5 vs lp I.lt hlp) hrel1) (λn k hk=>(yY hk).1);unfold K2;rw[hrun];refine Calls.mono hcalls ?_;rintro en w' ⟨v,φc',rfl,hext,hown,hnm,rp,rv'⟩
  let isN:Nat->Prop:=λn=>n∈NN
  let φ':PM:=λn=>if n∈NN then φc' (tP (np+(ow n-i)) (ix n)) else φ n
  have φ'_old:∀n,n∉NN->φ' n=φ n:=λn hn=>by simp only[φ',hn,fM]
  have loN:∀n,ow n<i->n∉NN:=λn hi hn=>by
   let⟨⟨t,_,e⟩,_⟩:=(Kg _).1 hn;omega
  have φ'_g:∀n,ow n<nq->ix n<=B->φ' (rq g n)=φc' n:=λn hi hk=>by
   by_cases hip:ow n<np
   .rw[gamg n hip,φ'_old _ (loN _ (by rw[xm];exact gnx _ hip)),hnm n (by rw[hnp];exact hip),af8 (by rw[hnp];exact hip)]
   .have hg:=ghi (ow n) (by omega);have:rq g n∈NN:=(Kg _).2 ⟨⟨ow n-np,by omega,by rw[xm,hg]⟩,by rw[zO];exact hk⟩;simp only[φ',this,bJ,xm,zO,hg];rw[show np+(i+(ow n-np)-i)=ow n from by omega,lL]
  have hsub:∀n k,φ n=Z k->φ' n=Z k:=λn k hk=>by
   by_cases hn:n∈NN
   .rw[hN n hn]at hk;cases hk
   .rw[φ'_old n hn];exact hk
  let F:HF:=dX h' (S++IV m++NN) (erHF h2)
  have F_g:∀n,n∈S++IV m++NN->F n=erHF h2 n:=λn hn=>by
   simp only[F,dX,hn,bJ]
  have F_out:∀n,n∉S++IV m++NN->F n=h' n:=λn hn=>by simp only[F,dX,hn,fM]
  have from_:∀n b,F n=Z b->(∃nx yb,ow nx<nq/\ix nx<=B/\n=rq g nx/\erHF hq nx=Z yb/\b=yb.qz (rq g))\/(h' n=Z b/\Hv n=Z b/\n∉S/\n∉NN/\φ' n=φ n):=λn b N=>by
   by_cases hn:n∈S++IV m++NN
   .rcases (memW n).1 hn with ⟨⟨nx,hi,e⟩,hk⟩|hs
    .rw[F_g n hn]at N;have e2:=ungam g n nx e;have ho:ow (tP nx (ix n))<nq:=by rw[nu];exact hi
     let⟨yb,q1,q2⟩:=er2' (tP nx (ix n)) ho b (by rw[<- e2];exact N);exact .inl ⟨tP nx (ix n),yb,ho,by rw[xv];exact hk,e2,q1,q2⟩
    .obtain⟨nx,rfl,hi⟩:=o8.1 hs;have:F (nm nx)=erHF h2 (nm nx):=by simp only[F,dX,hn,bJ]
     rw[this,dead2 nx hi]at N;cases N
   .rw[F_out n hn]at N;have h1:n∉S++IV m:=λhh=>hn (dW _ hh)
    have h3:n∉NN:=λhh=>hn (lw _ hh)
    exact .inr ⟨N,by rw[Hv_out n h1];exact N,λhh=>h1 (dW _ hh),h3,φ'_old n h3⟩
  have own':∀k,own φ' F k->own φc' (erHF hq) k\/∃n b,Hv n=Z b/\n∉S/\φ n=Z k:=by
   rintro k ⟨n,b,h1,h3⟩;rcases from_ n b h1 with ⟨nx,yb,hi,hk,rfl,q1,_⟩|⟨_,q2,q3,_,q5⟩
   .rw[φ'_g nx hi hk]at h3;exact .inl ⟨nx,yb,q1,h3⟩
   .exact .inr ⟨n,b,q2,q3,by rw[<- q5];exact h3⟩
  have mv:iv φ φ' h' F w w':=by
   refine ⟨hsub,hext.mono λk hk=>hd.own (T.qh k hk),λk hk ho=>?_⟩;rcases own' k ho with h1|⟨n,b,h1,_,h3⟩
   .exact hd.own (T.qh k (hown k hk h1))
   .exact hd.own ⟨n,b,h1,h3⟩
  have tot':∀k,tot E φ' F k->tot E' φc' (erHF hq) k:=by
   rintro k (h1|h1)
   .exact .inl (.inl h1)
   .rcases own' k h1 with h3|h3
    .exact .inr h3
    .exact .inl (.inr h3)
  let φr:PM:=λn=>if R5 nq n&&XN B n then φc' n else U
  have rel_r:∀x v,x.all (λn=>R5 nq n&&XN B n)=J->cG φc' (tot E' φc' (erHF hq)) w' x v->cG φr (tot E φ' F) w' x v:=λx v hx hr=>
   hr.restrict (λnx k hi hk=>by simp only[φr,hi,bJ];exact hk) tot' hx
  have rel_g:∀x v,cG φr (tot E φ' F) w' x v->cG φ' (tot E φ' F) w' (x.qz (rq g)) v:=λx v hr=>
   hr.renTo λn k hk=>by
    simp only[φr]at hk;split at hk
    next hpn=>simp only[ak]at hpn;rw[φ'_g n (Fs.1 hpn.1) (aX hpn.2)];exact hk
    .cases hk
  have hnqJ:=hnq;refine ⟨v,φ',rfl,mv,λn k hk=>?_,?_,?_⟩
  .by_cases hn:n∈NN
   .exact .inr hn
   .rw[φ'_old n hn]at hk;exact .inl hk
  .refine ⟨λn n' b b' k h1 h3 h4 h5=>?_,λn b h1=>?_,λk hk=>dg (hrep.el k hk) mv.ext.size,λg' cells hg=>mv.keepF (hrep.gl g' cells hg)⟩
   .rcases from_ n b h1 with ⟨nx,yb,hi,hik,rfl,hqi,_⟩|⟨q1,q2,q3,_,q5⟩
    .rw[φ'_g nx hi hik]at h4;rcases from_ n' b' h3 with ⟨j,yj,hj,hjk,rfl,t1,_⟩|⟨t1,t2,t3,_,t5⟩
     .rw[φ'_g j hj hjk]at h5;rw[rp.inj _ _ _ _ k hqi t1 h4 h5]
     .exfalso;let⟨k',p1,p2,_⟩:=rp.at_ _ _ hqi;rw[h4]at p1;cases p1;exact p2 (.inr ⟨n',b',t2,t3,by rw[<- t5];exact h5⟩)
    .rcases from_ n' b' h3 with ⟨j,yj,hj,hjk,rfl,hqj,_⟩|⟨t1,t2,t3,_,t5⟩
     .exfalso;rw[φ'_g j hj hjk]at h5;let⟨k',p1,p2,_⟩:=rp.at_ _ _ hqj;rw[h5]at p1;cases p1;exact p2 (.inr ⟨n,b,q2,q3,by rw[<- q5];exact h4⟩)
     .exact hrep.inj n n' b b' k q1 t1 (by rw[<- q5];exact h4) (by rw[<- t5];exact h5)
   .rcases from_ n b h1 with ⟨nx,yb,hi,hik,rfl,hqi,rfl⟩|⟨q1,q2,q3,_,q5⟩
    .obtain⟨k,p1,p2,ob,p3,p4⟩:=rp.at_ _ _ hqi;have hall:=(D.erHF hqi).2;rw[hnq]at hall;have hall2:=BC.all_and hall (BC.all_ix (show B2<=B by omega) (hB2 nx yb hqi).2);exact⟨k,by rw[φ'_g nx hi hik];exact p1,λhE=>p2 (.inl hE),ob,p3,(p4.restrict rel_r hall2).renTo rel_g⟩
    .obtain⟨k,p1,p2,ob,p3,p4⟩:=hrep.at_ n b q1;have hk:k<w.heap.size:=(cW.1 p3).1;refine ⟨k,hsub n k p1,p2,ob,?_,p4.mono λx v hr=>mv.qt hr⟩;rw[hext.jv k hk ?_]
     .exact p3
     .rintro⟨n',y',t1,t2⟩;let⟨hi,t3⟩:=yY t2;rw[hnp]at hi;have hik:=(hB1 n' y' t1).1;have hvi:Hv (rq (iF σ) n')=Z (y'.qz (rq (iF σ))):=by
       let⟨bb,t4,t5⟩:=iH t1;rw[Hv_in _ (dW _ (gamS n' hi (by omega)))];unfold erHF;rw[xm,zO,hv_at _ bb ((I.at_ _ bb).1 t4)];exact CX rows_hp t5
      have:=hrepv.inj _ _ _ _ k hvi q2 t3 p1;exact q3 (by rw[<- this];exact gamS n' hi (by omega))
  .have hall:(AX lr).all (λn=>R5 nq n&&XN B n)=J:=AV.all_and _ (Uk (by have:=u5 rs lr D.lt hlr;rwa [hnq]at this)) (Uk (AV.allL_ix (by omega) lr hB5));show cG φ' (tot E φ' F) w' (AX (AV.renL (rq g) lr)) v;rw[afk];exact rel_g _ _ (rel_r _ _ hall rv')
 have hrsg:cO h2 (lb g rs)=Z (AV.renL (rq g) lr):=qu rows_hq rs lr hlr;refine ⟨⟨_,hOpT,λz hz=>?_,?_,λn hn=>?_,λn hn=>?_,λn hn=>?_⟩,rows2,inv2,by omega,nofun⟩
 .rw[Z2 hrsg]at hz;cases hz;rfl
 .funext n;unfold dX;split
  .rfl
  .rename_i hn;by_cases hg:∃nx,nx<nq/\ow n=g nx
   .have hB:¬ix n<=B:=λhk=>hn ((memW _).2 (.inl ⟨hg,hk⟩))
    have n1:∀H:bf,(∀y,erHF H n=Z y->ix n<=B)->erHF H n=U:=λH hH=>by
     cases hx:erHF H n with
     |none=>rfl
     |some y=>exact bc (hH y hx) hB
    rw[n1 h λy hy=>cP (hB3 n y hy).1 (by omega),n1 h2 λy hy=>cP (hB4 n y hy).1 (by omega)]
   .have hg2:=h2_ne (ow n) λnx hi e=>hg ⟨nx,hi,e⟩
    unfold erHF;rw[hg2,iY];split
    .rename_i N;let⟨ty,p,T,xs,hx⟩:=hmr _ N;rw[hx];cases hk:ix n with
     |zero=>exact bc ((memW _).2 (.inr (by rw[xq hk];exact mq.2 N))) hn
     |succ k=>rfl
    .cases hx:h.get (ow n) with
     |none=>rfl
     |some b=>exact (v6 rows2 (λty r e=>hinv.C _ _ r (by rw[hx,e])) _ _).symm
 .rw[bD];rcases bt.1 hn with hs|hs
  .obtain⟨⟨nx,hi,e⟩,_⟩:=(memS n).1 hs;rw[(sig _).2 ⟨nx,hi,e.symm⟩];rfl
  .obtain⟨nx,rfl,hi⟩:=o8.1 hs;rw[d_,hi];simp
 .rw[bD,bD];rcases bt.1 hn with hs|hs
  .rcases bt.1 hs with hs|hs
   .obtain⟨⟨nx,hi,e⟩,_⟩:=(memS n).1 hs;rw[(sig _).2 ⟨nx,hi,e.symm⟩];rfl
   .obtain⟨nx,rfl,hi⟩:=o8.1 hs;rw[d_,hi];simp
  .obtain⟨⟨t,ht,e⟩,_⟩:=(Kg n).1 hs;rw[alf.2 ⟨by omega,by omega⟩];simp
 .obtain⟨⟨t,ht,e⟩,_⟩:=(Kg n).1 hn;omega
def UI {xss:Y (Y T.den)} (q:ij a (l! xss)=J):xss[a.toNat]? =Z (Au xss a):=by
 let⟨_,_,h⟩:=sZ q;unfold Au
 grind
variable {c:η}
def ah9 (A:ij a (l! c)=J):c[a.toNat]? =Z (OF c a):=by
 let⟨_,_,h⟩:=sZ A;unfold OF
 grind
def ap1 {xss:Y (Y T.den)} (ty:h.get i=Z (.qk (.ir A T) m xss)) {j:Int} (q:ij j (l! xss)=J) (D:l! (Au xss j)≠0):erHF h (tP i (j.toNat+1))=Z ⟨A,.fz ((Au xss j).flatMap (b8 T))⟩:=by
 rw[pO,ty];show rX j.toNat A T xss=_;unfold rX;rw[UI q];simp[aH,adk]
 grind
def xL (a sz:Nat):∀(q:η) (k j:Nat),(lH a sz k q)[j]? =(q[j]?).map λl=>vB a (k+j) sz l.toNat
 |[],_,_|l::r,k,0=>by simp[lH]
 |l::r,k,j+1=>by
  simp[lH,List.getElem?_cons_succ,xL a sz r (k+1) j]
  grind
section ops
variable {R:Type} {P:Program} {cf:TypeId->M Ty} {o:Oper} {e:iu} {h:bf} {nx:Nat} {K:KO R} {r:R} (hinv:km h nx) (hi:sG e h)
include hinv hi
def ath (N:cY P o.op=Z (.zh s)) (A:Bf cf e h nx K (.zh s)=Z r):j9 P o b e h nx K r:=by
 simp[Bf]at A;split at A
 next I=>let⟨y,h1,h2⟩:=bE hi I;have D:=h2;simp[co,YO,af]at h2;subst h2;exact j9.q (k:=0) hinv N (λH _=>by simp[dO,h1]) (cZ D) A
 .cases A
def axf (I:cY P o.op=Z (.jk i s)) (A:Bf cf e h nx K (.jk i s)=Z r):j9 P o b e h nx K r:=by
 simp[Bf]at A;split at A
 next D=>let⟨y,h1,h2⟩:=bE hi D;simp[co,YO,af]at h2;subst h2;exact j9.q (k:=0) hinv I (λH _=>by simp[dO,h1,YO,qW]) (cZ rfl) A
 .cases A
def atj (hc:cY P o.op=Z (.load i b s)) (q:Bf cf e h nx K (.load i b s)=Z r):j9 P o aa e h nx K r:=by
 obtain⟨H,N⟩:=jP h;simp only[Bf]at q;split at q
 .rename_i id j x sz off hv;obtain⟨y,h1,h2⟩:=bE hi hv;simp only[co,YO,af]at h2;subst h2;split at q
  .rename_i ty T a xss hb;split at q
   .rename_i A;have A:=ar A;subst A;obtain⟨hj,q⟩:=cV q;obtain⟨hji,q⟩:=cV q;split at q
    .rename_i v hv2;obtain⟨z,p1,p2⟩:=afo hji hv2;have hne:l! (Au (T:=T) xss j)≠0:=by have:=(sZ hji).2.2;omega
     have hg:H.get (tP id (j.toNat+1))=Z ⟨ty,.fz ((Au (T:=T) xss j).flatMap (b8 T))⟩:=by rw[N];exact ap1 hb hj hne
     exact⟨_,_,_,_,_,q,gP.pure (k:=0) hinv hc N (y0:=.f z) (rdl:=[tP id (j.toNat+1)]) (by simp only[dO,h1,yK,hg,p2]) (cZ p1) (λn I=>by
      simp only[aE]at I;subst I;rw[nu];exact b_.2 rfl) nofun⟩
    .cases q
   .cases q
  .cases q
 .rename_i id x j off hv;obtain⟨y,h1,h2⟩:=bE hi hv;simp only[co,af]at h2;subst h2;split at q
  .rename_i hq;simp only[ak,dE]at hq;obtain⟨⟨q1,q2⟩,q3,q4⟩:=hq;have q1:=ar q1;have q3:=ar q3;have q4:=ar q4;subst q1 q2 q3 q4;have hrd:∀n∈[nm id],aC (kz id) (ow n)=J:=λn I=>by
    simp only[aE]at I;subst I;rw[d_];exact b_.2 rfl
   split at q
   .rename_i ty z a D hb;have hk0:=cV q;clear q;obtain⟨hj,q⟩:=hk0;have hg:H.get (nm id)=Z ⟨ty,.mx (lH a z 0 D)⟩:=by
     rw[N,ct,hb];rfl
    have A:(BC.mx (lH a z 0 D)).sub? (j.toNat*1+0) 1 aa=Z (vB a j.toNat z (OF D j).toNat):=by
     simp only[BC.sub?,BC.get,He,dL];have:=xL a z D 0 j.toNat;rw[b9]at this;refine this.trans ?_;exact gW (ja λl:Int=>vB a j.toNat z l.toNat) (ah9 hj)
    exact⟨_,_,_,_,_,q,gP.pure (k:=0) hinv hc N (y0:=vB a j.toNat z (OF D j).toNat) (rdl:=[nm id]) (by simp only[dO,h1,yK,hg,A]) (cZ rfl) hrd nofun⟩
   .cases q
  .cases q
 .cases q
def axe {sz:Operand} (hc:cY P o.op=Z (.jy i s sz)) (A:Bf cf e h nx K (.jy i s sz)=Z r):j9 P o b e h nx K r:=by
 simp only[Bf]at A;split at A
 .rename_i id k j hv N;split at A
  .rename_i p x n hr;split at A
   .rename_i I;simp only[ak]at I;have I:=ar I.1;let⟨D,A⟩:=cV A;let⟨y,h1,h2⟩:=bE hi hv;let⟨y2,h3,h4⟩:=bE hi N;simp[co,af]at h4;subst h4;let⟨j0,j1,j2⟩:=sZ D;have hne:¬((p&&n==0)=J):=by grind
    simp only[co,hr,dY,ay hne,af]at h2;subst h2;have hc1:(x==i&&c8 0 j&&gM j n)=J:=by
     simp[ij,ak]at D;simp[I,D.1,D.2]
    exact j9.q (k:=0) hinv hc (λH _=>by simp[dO,h1,h3,gr,hc1,bJ,dL]) (cZ rfl) A
   .cases A
  .cases A
 .rename_i id j x n k i' hv N;split at A
  .rename_i I;have I:=ar I;let⟨D,A⟩:=cV A;let⟨y,h1,h2⟩:=bE hi hv;let⟨y2,h3,h4⟩:=bE hi N;simp[co,af]at h4;subst h4;let⟨j0,j1,j2⟩:=sZ D;have hne:¬((n==0)=J):=by grind
   simp only[co,YO,vB,ay hne,af]at h2;subst h2;have hc1:(x==i&&c8 0 i'&&gM i' n)=J:=by
    simp[ij,ak]at D;simp[I,D.1,D.2]
   exact j9.q (k:=0) hinv hc (λH _=>by simp[dO,h1,h3,gr,hc1,bJ,YO,dL]) (cZ rfl) A
  .cases A
 .cases A
end ops
def QJ {ty:TypeId} {xss:Y (Y T.den)} {xs:Y T.den} (A:i≠m):rX i ty T (xss.set m xs)=rX i ty T xss:=by
 unfold rX
 grind
def VZ {ty:TypeId} {xss:Y (Y T.den)} {xs:Y T.den} (q:i<l! xss):rX i ty T (xss.set i xs)=adk ty T xs:=by
 unfold rX
 grind
def aiz (h:dw i m=J):i<m:=aX h
def ags {c:Nat} (h:i=m) (h2:c<m):c<i:=by omega
def k_ (a sz:Nat):∀(q:η) (k:Nat),l! (lH a sz k q)=l! q
 |[],_=>rfl
 |l::r,k=>by simp[lH,fX,k_ a sz r]
def UF {q:HF} (d:uu S q):∀n,iy S q ((repl [.slice U 0 0] n).map .f) (aD n .emp)
 |0=>trivial
 |n+1=>⟨Le.nilEmp.toH d,UF d n⟩
section ops
variable {R:Type} {P:Program} {cf:TypeId->M Ty} {o:Oper} {e:iu} {h:bf} {nx:Nat} {K:KO R} {r:R} (hinv:km h nx) (hi:sG e h)
include hinv hi
def aoc {v:Operand} (hc:cY P o.op=Z (.store i s v)) (q:Bf cf e h nx K (.store i s v)=Z r):j9 P o aa e h nx K r:=by
 let⟨H,hH⟩:=jP h;simp only[Bf]at q;split at q
 .rename_i id x j off rr hv hv2;let⟨yb,h1,h2⟩:=bE hi hv;let⟨D,h3,h4⟩:=bE hi hv2;simp only[co,af]at h2;subst h2;split at q
  .rename_i hq;simp only[ak]at hq;let⟨q1,q2,q3⟩:=hq;have q1:=ar q1;have q2:=ar q2;have q3:=ar q3;subst q1 q2 q3;split at q
   .rename_i ty z a A ty2 p T xs hb hb2;split at q
    .rename_i N;have N:=ar N;subst N;have I:=cV q;clear q;let⟨hj,q⟩:=I;have I:=cV q;clear q;let⟨hp,q⟩:=I;let⟨_,_,hjl⟩:=sZ hj;have hyy:D=dY J rr T.size xs.length:=by
      simp only[co,bW,hb2,aH,kS,af]at h4;rw[<- h4];cases p with
      |true=>rfl
      |false=>
       have hp:(!(aB (ah xs) 0))=J:=hp;have hp:ah xs≠0:=λe=>by rw[e]at hp;cases hp
       unfold dY;rw[ay (by simp),ay (by simpa using hp)]
     have hg:H.get (nm id)=Z ⟨ty,.mx (lH a T.size 0 A)⟩:=by rw[hH,ct,hb];rfl
     have hcs:D.cs=[D]:=by rw[hyy];unfold dY;split<;>rfl
     have hcell:D.isCell=J:=by rw[hyy];unfold dY;split<;>rfl
     have hput:(BC.mx (lH a T.size 0 A)).put (j.toNat*1+0) D.cs=Z (.mx (AI.splice (lH a T.size 0 A) j.toNat [D])):=by
      rw[hcs,He,dL];unfold BC.put;rw[aK]
      .rfl
      .simp only[ak,h_,hcell,and_true];refine ⟨rfl,bx ?_⟩;have hl:(lH a T.size 0 A).length=ah (α:=Int) A:=k_ a T.size A 0;show j.toNat+1<=(lH a T.size 0 A).length;rw[hl];exact hjl
     have hlen:D.cs.length=1:=by rw[hcs];rfl
     have ha0:dO (.store 1 s v) (EZ e h) H 0=Z ⟨raw undef,[nm id],[nm id],[(nm id,⟨ty,.mx (AI.splice (lH a T.size 0 A) j.toNat [D])⟩)],[]⟩:=by
      simp only[dO,h1,h3,EJ,hg,hlen,c9,bJ,hput]
     refine ⟨_,_,_,_,_,q,gP.wrt (m:=0) (v:=.undef) (rd:=kz id) hinv hc hH ha0 hb (dP.zero h) (by simp) rfl (λ_ _ he=>by cases he) (λH1 H2 d g b' hb'=>?_) (λH1 H2 y d g hy=>?_) (λn hn=>?_)⟩
     .cases hb';have hl:(lH a T.size 0 A).length=ah (α:=Int) A:=k_ a T.size A 0;rw[X0 (ags hl hjl),hyy];exact ii.refl d _
     .simp only[co,af]at hy;subst hy;exact kY.refl d _
     .simp only[aE]at hn;subst hn;rw[d_];exact b_.2 rfl
    .cases q
   .cases q
  .cases q
 .cases q
def gP.app1 {s:Rr} (hc:cY P o.op=Z s) {H:ie} (hH:H.get=erHF h) {rdl:ι} {b1:nk} (ha:dO s (EZ e h) H i=Z ⟨y,rdl,[nm nx,m],[(nm nx,z)],[nm nx]⟩) {h':bf} {rd N:Nat}
 (hsame:∀n,n≠nm nx->n≠m->erHF h' n=erHF h n) (hne:nm nx≠m) (hdead:erHF h' m=U) (hnew:erHF h' (nm nx)=Z b1) (hblk:∀A q,uu A q->ii A q z b1) (hval:∀A q y0,uu A q->co h' u=Z y0->kY A q y y0)
 (hrd:∀n∈rdl,aC rd (ow n)=J) (hwr:aC N (ow m)=J) (hwn:aC N nx=J) (hrows:cq h h') (hinv':km h' (nx+1)):gP P o aa e h nx u rd N h' (nx+1):=by
 have _:=hinv;have _:=hi;refine gP.mk' hc hH ha [nm nx,m] (λk hi=>hi) (λn I=>?_) (λk hi b' hb'=>?_) (λA q d hw1 _ hw2=>⟨λk hi b b' hb1 hb2=>?_,λy0 hy=>hval A q y0 d hy⟩) hrd (λn I=>?_) (λn I=>by simp[aE]at I;subst I;rw[d_];omega) hrows hinv' (by omega)
 .grind
 .simp[bk,cI,gH]at hi;rcases hi with rfl|rfl
  .exact⟨_,by rw[aK (by simp)];exact fF _ _⟩
  .grind
 .simp[bk,cI,gH]at hi;rcases hi with rfl|rfl
  .rw[hw1 _ (by simp),fF]at hb1
   grind
  .grind
 .simp[bk,cI,gH]at I;rcases I with rfl|rfl
  .rw[d_];exact hwn
  .exact hwr
def gP.app0 {s:Rr} (hc:cY P o.op=Z s) {H:ie} (hH:H.get=erHF h) {rdl:ι} {b1:nk} (ha:dO s (EZ e h) H i=Z ⟨y,rdl,[nm nx],[(nm nx,z)],[nm nx]⟩) {h':bf} {wr:Nat}
 (hsame:∀n,n≠nm nx->erHF h' n=erHF h n) (hnew:erHF h' (nm nx)=Z b1) (hblk:∀A q,uu A q->ii A q z b1) (hval:∀A q y0,uu A q->co h' u=Z y0->kY A q y y0)
 (hrd:∀n∈rdl,aC m (ow n)=J) (hwn:aC wr nx=J) (hrows:cq h h') (hinv':km h' (nx+1)):gP P o aa e h nx u m wr h' (nx+1):=by
 have _:=hinv;have _:=hi;refine gP.mk' hc hH ha [nm nx] (λk hi=>hi) (λn D=>?_) (λk hi b' hb'=>?_) (λA q d I _ hw2=>⟨λk hi b b' N hb2=>?_,λy0 hy=>hval A q y0 d hy⟩) hrd (λn D=>?_) (λn D=>by simp[aE]at D;subst D;rw[d_];omega) hrows hinv' (by omega)
 .grind
 .simp[aE]at hi;subst hi;exact⟨_,by rw[aK (by simp)];exact fF _ _⟩
 .simp[aE]at hi;subst hi;rw[I _ (by simp),fF]at N
  grind
 .simp[aE]at D;subst D;rw[d_];exact hwn
def axg {x:Operand} (hc:cY P o.op=Z (.app A i m s x)) (q:Bf cf e h nx K (.app A i m s x)=Z r):j9 P o aa e h nx K r:=by
 let⟨H,hH⟩:=jP h;have hfr:=hinv.fresh;simp only[Bf]at q;split at q
 .rename_i id j sb n y hv hv2;let⟨yb,h1,h2⟩:=bE hi hv;let⟨yy,h3,h4⟩:=bE hi hv2;simp only[co,YO,af]at h2;split at q
  .rename_i ty' T a xss hb;split at q
   .rename_i hq;simp only[ak]at hq;let⟨q1,q2,q3⟩:=hq;have q1:=ar q1;have q2:=ar q2;have q3:=eq_of_beq q3;subst q1 q2 q3;have hk0:=cV q;clear q;let⟨hj,q⟩:=hk0;split at q
    .rename_i ty bytes hys;split at q
     .cases q
     .rename_i hmid;have hmid:aC bytes id=aa:=by simpa using hmid
      have hk0:=cV q;clear q;let⟨hqq,q⟩:=hk0;simp only[ak]at hqq;let⟨hn,hroom⟩:=hqq;have hn:=ar hn;let⟨rdl,h5,h6⟩:=RY hH hys h4;generalize hxs:Au (T:=T) xss j=xs at*
      have hidlt:=hinv.low id _ hb;have hne:nx≠id:=by omega
      let⟨_,_,hjl⟩:=sZ hj;generalize hh':(h.set id (Z (.qk (.ir A T) a (xM (T:=T) xss j [])))).set nx (Z (.F A J T (xs++ty)))=h' at q;have D:∀sz,h'.get sz=if sz=nx then Z (.F A J T (xs++ty)) else if sz=id then Z (.qk (.ir A T) a (xM (T:=T) xss j [])) else h.get sz:=λsz=>by rw[<- hh',PT.get_set,PT.get_set]
      have hr:cq h h':=λsz r hi=>by
       rw[bW]at hi ⊢;rw[D];by_cases e1:sz=nx
       .rw[e1,hfr]at hi;cases hi
       .rw[ay e1];by_cases e2:sz=id
        .rw[aK e2];rw[e2,hb]at hi;exact hi
        .rw[ay e2];exact hi
      have hinv':km h' (nx+1):=by
       refine ⟨λsz A l hil=>?_,λsz c hic=>?_⟩
       .rw[D]at hil;split at hil
        .cases hil
        .split at hil
         .cases hil
         .exact gI hr l (hinv.C sz _ l hil)
       .rw[D]at hic;split at hic
        .omega
        .split at hic
         .omega
         .have:=hinv.low sz c hic;omega
      have hsame:∀n,n≠nm nx->n≠tP id (j.toNat+1)->erHF h' n=erHF h n:=λn e1 e2=>by
       unfold erHF;rw[D (ow n)];by_cases f1:ow n=nx
       .rw[aK f1,f1,hfr];simp only[aH,Option.bind_none];cases hx:ix n with
        |zero=>exact bc (by rw[xq hx,f1]) e1
        |succ k=>rfl
       .rw[ay f1];by_cases f2:ow n=id
        .rw[aK f2,f2,hb];simp only[aH];cases hx:ix n with
         |zero=>rfl
         |succ k=>
          refine QJ (T:=T) λe3=>?_
          exact e2 (by rw[<- lL n,hx,f2,e3])
        .rw[ay f2];cases hx:h.get (ow n) with
         |none=>rfl
         |some b=>exact v6 hr (λA l e=>hinv.C _ _ l (by rw[hx,e])) _ _
      have hdead:erHF h' (tP id (j.toNat+1))=U:=by
       rw[pO,D,ay (by omega),aK rfl];exact VZ (T:=T) hjl
      have hnew:erHF h' (nm nx)=if (xs++ty).length==0 then U else Z ⟨A,.fz ((xs++ty).flatMap (b8 T))⟩:=by
       rw[ct,D,aK rfl];rfl
      have hval:co h' (.G nx)=Z (dY J nx T.size (xs++ty).length):=by
       simp only[co,bW,D,bJ,aH,kS]
      have w1:aC (kz id|||kz nx) nx=J:=by rw[bD,b_.2 (rfl:nx=nx)];simp
      have hrd:∀n∈rdl,aC (kz id|||bytes) (ow n)=J:=λn hn=>by
       obtain⟨sz,rfl,hm⟩:=h6 n hn;rw[d_,bD,hm];simp
      refine ⟨_,_,_,_,_,q,?_⟩;by_cases hz:n=0
      .subst hz;have hyb:yb= .emp:=by rw[<- h2];rfl
       subst hyb;have hnil:xs=[]:=fd.1 hn.symm;have hold:erHF h (tP id (j.toNat+1))=U:=by
        rw[pO,hb];show rX j.toNat A T xss=U;unfold rX;rw[UI hj,hxs,hnil];rfl
       have hsame0:∀n,n≠nm nx->erHF h' n=erHF h n:=λn hn=>by
        by_cases e2:n=tP id (j.toNat+1)
        .subst e2;rw[hdead,hold]
        .exact hsame n hn e2
       rw[b9]at hroom;rw[hnil,kR]at hnew hval;have I:dO (.app A T.size m s x) (EZ e h) H (nm nx)=if ah ty==0 then Z ⟨.emp,rdl,[],[],[]⟩ else Z ⟨.G (nm nx) T.size (ah ty),rdl,[nm nx],[(nm nx,⟨A,pq ((ty.flatMap (b8 T)).map .f)⟩)],[nm nx]⟩:=by
        simp only[dO,h1,h3,h5,HV,hroom,uv,bJ]
       by_cases hl:ah ty=0
       .rw[hl]at I;simp only[c9,bJ]at I;have hnil2:ty=[]:=fd.1 hl;refine gP.mk' hc hH I [] (by simp) (λn _=>?_) (by simp) (λH1 H2 d _ _ _=>⟨by simp,λy N=>?_⟩) hrd (by simp) (by simp) hr hinv' (by omega)
        .by_cases e1:n=nm nx
         .subst e1;rw[hnew,hnil2,ct,hfr];rfl
         .exact hsame0 n e1
        .rw[hval,hnil2]at N;cases N;exact kY.refl d _
       .rw[ay (by simpa using hl),vP]at I;rw[ay (by simpa using hl)]at hnew;refine gP.app0 hinv hi hc hH I hsame0 hnew (λH1 H2 d=>ii.refl d _) (λH1 H2 y d N=>?_) hrd w1 hr hinv';rw[hval]at N;unfold dY at N;rw[ay (by simpa using hl)]at N;cases N;exact kY.refl d _
      .have hyb:yb= .G (tP id (j.toNat+1)) T.size n:=by rw[<- h2];unfold vB;rw[ay (by simpa using hz)]
       subst hyb;have hg:H.get (tP id (j.toNat+1))=Z ⟨A,.fz (xs.flatMap (b8 T))⟩:=by rw[hH,<-hxs];exact ap1 hb hj (by rw[hxs];omega)
       have fl:=fe (bN T) xs;have tk:(xs.flatMap (b8 T)).take (n*T.size)=xs.flatMap (b8 T):=by rw[hn,<-fl,cH]
       have hmem:mem (tP id (j.toNat+1)) rdl=aa:=by
        cases hx:mem (tP id (j.toNat+1)) rdl with
        |false=>rfl
        |true=>
         let⟨sz,e,hm⟩:=h6 _ (aqo.1 hx);have:=(wL e).2;omega
       have I:dO (.app A T.size m s x) (EZ e h) H (nm nx)=Z ⟨.G (nm nx) T.size (n+ty.length),tP id (j.toNat+1)::rdl,[nm nx,tP id (j.toNat+1)],[(nm nx,⟨A,.fz ((xs++ty).flatMap (b8 T))⟩)],[nm nx]⟩:=by
        have hcnd:(T.size==T.size&& !(mem (tP id (j.toNat+1)) rdl)&&(BC.fz (xs.flatMap (b8 T))).isCells&&dx (n*T.size) (BC.fz (xs.flatMap (b8 T))).len&&A==A&&bh (n+ty.length) m)=J:=by
         have:dx (n*T.size) (BC.fz (xs.flatMap (b8 T))).len=J:=bx (by simp only[BC.len];rw[hn];omega);rw[this,hmem,hroom];simp[BC.isCells]
        simp only[dO,h1,h3,h5,hg,hcnd,bJ,BC.toMx,<-nR,tk,<-b7,vP,Ka]
       have hl3:(xs++ty).length=n+ty.length:=by rw[aF,hn]
       rw[ay (by simp only[du];omega)]at hnew;refine gP.app1 hinv hi hc hH I hsame (λe=>by have:=(wL e).2;omega) hdead hnew (λH1 H2 d=>ii.refl d _) (λH1 H2 y d N=>?_) (λn' hn'=>?_) (by rw[nu,bD,b_.2 (rfl:id=id)];rfl) w1 hr hinv'
       .rw[hval,hl3]at N;unfold dY at N;rw[ay (by simp only[cD,du];omega)]at N;cases N;exact kY.refl d _
       .rcases bk.1 hn' with rfl|hn'
        .rw[nu,bD,b_.2 (rfl:id=id)];rfl
        .exact hrd _ hn'
    .cases q
   .cases q
  .cases q
 .cases q
def ati {c:Operand} (hc:cY P o.op=Z (.zk A i m E s c)) (ty:Bf cf e h nx K (.zk A i m E s c)=Z r):j9 P o aa e h nx K r:=by
 let⟨H,hH⟩:=jP h;have hfr:=hinv.fresh;simp only[Bf]at ty;split at ty
 .rename_i q T k a k' b hty hv hv2;split at ty
  .rename_i hq;simp only[ak]at hq;let⟨q1,q2⟩:=hq;have q1:=ar q1;subst q1;have hz:E=[.slice U 0 0]:=by
    unfold ah2 at q2
    grind
   subst hz;let⟨hcond,ty⟩:=cV ty;let⟨y,h1,h2⟩:=bE hi hv;let⟨y2,h3,h4⟩:=bE hi hv2;simp[co,af]at h2 h4;subst h2 h4;generalize hn:aN a=n at ty;have ha0:dO (.zk A 1 m [.slice U 0 0] s c) (EZ e h) H (nm nx)=Z ⟨.G (nm nx) 1 n,[],[nm nx],[(nm nx,⟨A,.fz (repl [.slice U 0 0] n)⟩)],[nm nx]⟩:=by
    simp[dO,h1,h3,gr,hcond,bJ,hn]
   generalize hh':(h.set nx (Z (.qk (.rr A T.size) (nx+1) (aD n (0:Int))))).set (nx+1) (Z (.qk (.ir (stN q) T) 0 (aD n ([]:Y T.den))))=h' at ty;have hg:∀sz,h'.get sz=if sz=nx+1 then Z (.qk (.ir (stN q) T) 0 (aD n ([]:Y T.den))) else if sz=nx then Z (.qk (.rr A T.size) (nx+1) (aD n (0:Int))) else h.get sz:=λsz=>by
    rw[<- hh',PT.get_set,PT.get_set]
   have hfr2:h.get (nx+1)=U:=by
    cases D:h.get (nx+1) with
    |none=>rfl
    |some b=>have:=hinv.low _ b D;omega
   have hr:cq h h':=λsz r hi=>by
    rw[bW]at hi ⊢
    grind
   have hl:ah (α:=Int) (aD n (0:Int))=n:=cR ..;have hall:∀(bytes k:Nat),lH (nx+1) T.size k (aD bytes (0:Int))=aD bytes .emp:=λbytes=>by
    induction bytes with
    |zero=>intro k;rfl
    |succ bytes ih=>intro k;rw[mY,mY];simp[lH,ih];rfl
   have hnew:erHF h' (nm nx)=Z ⟨A,.mx (aD n .emp)⟩:=by
    rw[ct,hg,ay (by omega),aK rfl];show Z (nk.mk A (.mx (lH (nx+1) T.size 0 (aD n (0:Int)))))=_;rw[hall]
   refine ⟨_,_,_,_,_,ty,gP.mk' hc hH ha0 [nm nx] (λsz hi=>hi) (λbytes hm=>?_) (λsz hi b' hb'=>?_) (λH1 H2 d hw1 _ hw2=>⟨λsz hi b b' N I=>?_,λy hy=>?_⟩) (by simp) (λbytes hm=>?_) (λbytes hm=>?_) hr ⟨λsz A s hil=>?_,λsz c' hic=>?_⟩ (by omega)⟩
   .have hm:bytes≠nm nx:=by simpa using hm
    unfold erHF;rw[hg];by_cases f0:ow bytes=nx+1
    .rw[aK f0,f0,hfr2];cases ix bytes with
     |zero=>rfl
     |succ k=>
      show rX k (stN q) T (aD n ([]:Y T.den))=U;unfold rX;rw[mj];split<;>rfl
    .rw[ay f0];by_cases f1:ow bytes=nx
     .rw[aK f1,f1,hfr];cases D:ix bytes with
      |zero=>exact bc (by rw[xq D,f1]) hm
      |succ k=>rfl
     .rw[ay f1];cases D:h.get (ow bytes) with
      |none=>rfl
      |some b=>exact v6 hr (λA s e=>hinv.C _ _ s (by rw[D,e])) _ _
   .simp[aE]at hi;subst hi;exact⟨_,by rw[aK (by simp)];exact fF _ _⟩
   .simp[aE]at hi;subst hi;rw[hw1 _ (by simp),fF]at N;rw[hw2 _ (by simp),hnew]at I;simp[af]at N I;subst N I;refine ii.C rfl rfl ?_ λx D=>?_
    .simp[BC.toMx];exact UF d n
    .simp only[BC.toMx]at D;rw[te]at D;rw[D.2];rfl
   .simp only[co,bW,hg,bJ]at hy;rw[ay (by omega)]at hy;simp only[aH,kS,Aa,dY,fY,cA,fM,af]at hy;subst hy;rw[hl];exact kY.refl d _
   .simp[aE]at hm;subst hm;rw[d_];exact b_.2 rfl
   .simp[aE]at hm;subst hm;rw[d_];omega
   .rw[hg]at hil;split at hil
    .cases hil
    .split at hil
     .cases hil
     .exact gI hr s (hinv.C sz _ s hil)
   .rw[hg]at hic;split at hic
    .omega
    .split at hic
     .omega
     .have:=hinv.low sz c' hic;omega
  .cases ty
 .cases ty
end ops
mutual
def FV.fl:FV->Bool
 |.raw _=>J
 |.agg l=>FV.flL l
 |.sl _ _=>aa
 |.H _ _=>aa
def FV.flL:Y FV->Bool
 |[]=>J
 |x::r=>x.fl&&FV.flL r
end
def ab2:∀{l:Y FV},FV.flL l=J->∀x∈l,x.fl=J
 |[],_,x,q=>by cases q
 |y::l,h,x,q=>by
  simp[FV.flL,ak]at h;rcases bk.1 q with rfl|q
  .exact h.1
  .exact ab2 h.2 x q
def ahy:∀{l:Y FV},(∀x∈l,x.fl=J)->FV.flL l=J
 |[],_=>rfl
 |y::l,h=>by simp[FV.flL,ak];exact⟨h y (by simp),ahy λx q=>h x (by grind)⟩
def nA.flat {O':Nat->Prop} {w':World} {x:FV} (h:nA O w x v):x.fl=J->nA O' w' x v:=by
 induction h with
 |raw v=>intro _;exact .raw v
 |agg cells vs hl hcl D q=>intro h;exact .agg cells vs hl hcl λj x v A N=>q j x v A N (ab2 h x (bn A))
 |_=>intro h;cases h
mutual
def AV.fl:AV->Bool
 |.f x=>x.fl
 |.emp=>J
 |.qj=>J
 |.agg l|.qp l=>AV.flL l
 |.H _ _=>aa
 |.sl _ _ _=>aa
 |.G _ _ _=>aa
 |.mp _=>aa
 |.qv _ l=>AV.flL l
 |.qc _ _=>aa
def AV.flL:Y AV->Bool
 |[]=>J
 |x::r=>x.fl&&AV.flL r
end
def G_:∀{l:Y AV},AV.flL l=J->∀x∈l,x.fl=J
 |[],_,x,q=>by cases q
 |y::l,h,x,q=>by
  simp[AV.flL,ak]at h;rcases bk.1 q with rfl|q
  .exact h.1
  .exact G_ h.2 x q
def abw:∀{l:Y AV},(∀x∈l,x.fl=J)->AV.flL l=J
 |[],_=>rfl
 |y::l,h=>by simp[AV.flL,ak];exact⟨h y (by simp),abw λx q=>h x (by grind)⟩
def cG.flat {φ':PM} {O':Nat->Prop} {w':World} (h:cG V O w y v):y.fl=J->cG φ' O' w' y v:=by
 induction h with
 |f h=>intro hf;exact .f (h.flat hf)
 |emp=>intro _;exact .emp
 |qj=>intro _;exact .qj
 |agg I hcl N A=>intro hf;exact .agg I hcl λj y v q D=>A j y v q D (G_ hf y (bn q))
 |qp I N A=>intro hf;exact .qp I λj y v q D=>A j y v q D (G_ hf y (bn q))
 |qv I N A=>intro hf;exact .qv I λj y v q D=>A j y v q D (G_ hf y (bn q))
 |_=>intro hf;cases hf
mutual
def ar3 (γ:Nat->Nat):∀x:AV,x.fl=J->x.qz γ=x
 |.f x,_|.emp,_|.qj,_=>rfl
 |.agg l,h|.qp l,h=>by simp[AV.qz];rw[Gg γ l h]
 |.H _ _,h|.sl _ _ _,h|.qc _ _,h|.G _ _ _,h|.mp _,h=>by cases h
 |.qv _ l,h=>by simp[AV.qz];rw[Gg γ l h]
def Gg (γ:Nat->Nat):∀l:Y AV,AV.flL l=J->AV.renL γ l=l
 |[],_=>rfl
 |x::r,h=>by
  simp[AV.flL,ak]at h;rw[AV.renL,ar3 γ x h.1,Gg γ r h.2]
end
def CZ:∀(T:Ty),T.flat=J->∀x:T.den,∀y∈b8 T x,y.fl=J
 |.int _,_,x,y,q|.bool,_,x,y,q|.str,_,x,y,q=>by simp[b8,aE]at q;subst q;rfl
 |.sl _,h,x,y,q=>by cases h
 |.st t,h,x,y,q=>CZ t h x y q
 |.pr a b,h,x,y,q=>by
  simp[Ty.flat,ak]at h;simp[b8,bt]at q;exact q.elim (CZ a h.1 x.1 y) (CZ b h.2 x.2 y)
 |.un,_,x,y,q=>by simp[b8]at q
 |.ex,h,_,_,_|.sm,h,_,_,_=>by cases h
def aml (T:Ty) (h:T.flat=J) (x:T.den):(gr T x).fl=J:=by
 cases q:T.one with
 |true=>
  have:=CZ T h x (gr T x) (by rw[(M7 T x q).1];simp);exact this
 |false=>rw[rZ T x q];exact ahy (CZ T h x)
def Uq (a b:Ty):(spr a b).flat=(a.flat&&b.flat):=by
 cases a<;>cases b<;>simp[spr,Kb,Ty.flat]
def L9 :∀{a b:Y TV},rN i (a++b)=J->rN i a=J/\rN i b=J
 |[],b,h=>⟨rfl,h⟩
 |x::r,b,h=>by
  simp[ft,rN,ak]at h ⊢;let⟨h1,h2⟩:=L9 h.2;exact⟨⟨h.1,h1⟩,h2⟩
def Z6 {q:Y j?} (h:rN 0 (q.map λp=>.H (g p.1) p.2)=J):q=[]:=by
 cases q with
 |nil=>rfl
 |cons p r=>simp[rN,Lg]at h
mutual
def al3 {g:Nat->Nat} {h:bf}:∀(p:PV) (x:p.ty.den) (cs:Y TV) (l:Y AV),p.ty.flat=J->oL g p x=Z cs->rN 0 cs=J->cO h cs=Z l->∀y∈l,y.fl=J
 |.d T,x,cs,l,hf,hp,_,hl,y,hy=>by
  have:=(mD h 40 T x cs hp).1;rw[hl]at this;cases this;obtain⟨q,hq,rfl⟩:=cv.1 hy;exact CZ T hf x q hq
 |.H i q,x,cs,l,hf,hp,hlt,hl,y,hy|.qf i q z,x,cs,l,hf,hp,hlt,hl,y,hy=>by
  simp only[oL,af]at hp;subst hp;simp[rN,Lg]at hlt
 |.qv q ps,x,cs,l,hf,hp,hlt,hl,y,hy=>by
  simp only[oL,af]at hp;subst hp;simp only[rN,Lg,ak]at hlt;have:=Z6 hlt.1;subst this;simp only[cO,co,wE,af]at hl;subst hl;rw[aE]at hy;subst hy;rfl
 |.nr i q,x,cs,l,hf,hp,hlt,hl,y,hy|.G i,x,cs,l,hf,hp,hlt,hl,y,hy|.mp i,x,cs,l,hf,hp,hlt,hl,y,hy=>by
  simp only[oL,af]at hp;subst hp;simp[rN,Lg]at hlt
 |.nil,x,cs,l,hf,hp,hlt,hl,y,hy|.emp,x,cs,l,hf,hp,hlt,hl,y,hy=>by
  simp only[oL,af]at hp;subst hp;simp only[cO,co,af]at hl;subst hl;simp only[aE]at hy;subst hy;rfl
 |.agg ps,x,cs,l,hf,hp,hlt,hl,y,hy=>LK ps x cs l hf hp hlt hl y hy
def LK {g:Nat->Nat} {h:bf}:∀(ps:Y PV) (x:(PV.tyL ps).den) (cs:Y TV) (l:Y AV),(PV.tyL ps).flat=J->sH g ps x=Z cs->rN 0 cs=J->cO h cs=Z l->∀y∈l,y.fl=J
 |[],x,cs,l,hf,hp,hlt,hl,y,hy=>by
  simp only[sH,af]at hp;subst hp;simp only[cO,af]at hl;subst hl;cases hy
 |p::ps,x,cs,l,hf,hp,hlt,hl,y,hy=>by
  simp only[PV.tyL]at hf;rw[Uq,ak]at hf;simp only[sH]at hp;split at hp
  .rename_i a ha;split at hp
   .rename_i b hb;cases hp;obtain⟨a',b',rfl,e1,e2⟩:=EA hl;have hsp:=L9 hlt;rcases bt.1 hy with hy|hy
    .exact al3 p _ a a' hf.1 ha hsp.1 e1 y hy
    .exact LK ps _ b b' hf.2 hb hsp.2 e2 y hy
   .cases hp
  .cases hp
end
def al1 {p:PV} {x:p.ty.den} (hf:p.ty.flat=J) (hp:sQ g p x=Z u) (hlt:Lg 0 u=J) (A:co h u=Z y):y.fl=J:=by
 cases p with
 |d T=>
  simp only[sQ,af]at hp;subst hp;simp only[co,af]at A;subst A;exact aml T hf x
 |agg I=>
  simp only[sQ]at hp;split at hp
  .rename_i l hl;cases hp;simp only[co]at A;split at A
   next N D=>cases A;exact abw (LK I _ l N hf hl hlt D)
   .cases A
  .cases hp
 |qv q I=>
  simp only[sQ,af]at hp;subst hp;have:=Z6 hlt;subst this;simp only[co,cO,wE,af]at A;subst A;rfl
 |nil|emp=>simp only[sQ,af]at hp;subst hp;simp only[co,af]at A;subst A;rfl
 |_=>simp only[sQ,af]at hp;subst hp;simp[Lg]at hlt
def UJ :∀(A:Y PV) (x:(PV.tyL A).den) (q:Y TV) (l:Y AV),(PV.tyL A).flat=J->pH g A x=Z q->rN 0 q=J->cO h q=Z l->AV.flL l=J
 |[],x,q,l,hf,hp,hlt,D=>by
  simp[pH,af]at hp;subst hp;simp[cO,af]at D;subst D;rfl
 |p::A,x,q,l,hf,hp,hlt,D=>by
  simp[PV.tyL]at hf;rw[Uq,ak]at hf;simp[pH]at hp;split at hp
  .rename_i a ha;split at hp
   next b N=>simp[af]at hp;subst hp;obtain⟨y,I,rfl,e1,e2⟩:=db D;simp[rN,ak]at hlt;simp[AV.flL,ak];exact⟨al1 hf.1 ha hlt.1 e1,UJ A _ b I hf.2 N hlt.2 e2⟩
   .cases hp
  .cases hp
def ako:∀{l:Y AV},AV.flL l=J->(AX l).fl=J
 |[],_=>rfl
 |[x],h=>by simp only[AV.flL,ak]at h;exact h.1
 |x::y::r,h=>h
def an1 {e:iu} {c:cr} (hinv:km h i) (sp:pT P f c) {x:c.pre.ty.den} {σ:PT Nat} {sm:Nat} (A:Lr 0 c.pre r h x m σ sm) {vs:Y TV} {hp:bf} {l1:Y (M fm)} (I:oH c.pre x vs hp l1) {y:c.post.ty.den} (hm:c.m x=Z y) {rs:Y TV} {hq:bf} {l2:Y (M fm)} (B:oH c.post y rs hq l2) (hp0:l! c.pre.bs=0) (hq0:l! c.post.bs=0) (hfl:(PV.tyL c.post.vs).flat=J)
 (g:Nat->Nat) (hla:cO h r=Z K)
 (hexec:∀(φ:PM) (E:Nat->Prop) (h':HF) (w:World) (a:Act),(∀t,.tmp t∈j.op.operands->∀y,gk e h t=Z y->cG φ (tot E φ h') w y (a.tmps.getD t undef))->qE φ E h' w->∃us:ξ,(execOp a.eval j).run P w= .ok (.enter f us.toArray) w/\jR φ (tot E φ h') w K us):
 gP P j aa e h i (UD (lb g rs)) m 0 h i:=by
 let⟨x1,m1,x2,m2,hx,hmm,gv,gb⟩:=A.ex;have hmr:dP h m:=by rw[hmm];exact (S0 _ _ _ _ gv).or (S4 _ _ _ _ gb)
 have pvg:pH (iF σ) c.pre.vs x1=Z (lb (iF σ) vs):=by
  have h3:=vm (iF σ) c.pre.vs x1;have h4:=I.pv;rw[hx,u_]at h4;rw[h3,h4];rfl
 let⟨lr,hlr⟩:=fO hq rs B.ok;let⟨lp,hlp⟩:=fO hp vs I.ok;have hfl':AV.flL lr=J:=UJ c.post.vs _ rs lr hfl B.pv (by rw[<- hq0];exact B.lt) hlr;have hpe:∀nx,hp.get nx=U:=λnx=>by
  cases N:hp.get nx with
  |none=>rfl
  |some b=>have:=I.lt_len N;omega
 have hqe:∀nx,hq.get nx=U:=λnx=>by
  cases N:hq.get nx with
  |none=>rfl
  |some b=>have:=B.lt_len N;omega
 have rows_hp:∀nx l,eK hp nx=Z l->eK (dZ m h) (iF σ nx)=Z l:=λnx l q=>by rw[bW,hpe]at q;cases q
 have rows_hq:∀nx l,eK hq nx=Z l->eK h (g nx)=Z l:=λnx l q=>by rw[bW,hqe]at q;cases q
 have rows_in:An (dZ m h) h:=λo l q=>by
  rw[bW]at q ⊢;rw[iY]at q;split at q
  next ht=>let⟨ty,p,T,xs,N⟩:=hmr o ht;rw[N]at q ⊢;exact q
  .exact q
 have hOpT:gJ P j (gk e h) (erHF h) ⟨AX lr,IV m,[],λ_=>U,[]⟩:=by
  intro φ E h' w a hrd hwr hops hrep hN;let⟨us,hrun,hrel⟩:=hexec φ E h' w a hops hrep
  let Hv:HF:=λn=>if n∈IV m then U else h' n
  have Hv_in:∀n,n∈IV m->Hv n=U:=λn D=>by grind
  have Hv_out:∀n,n∉IV m->Hv n=h' n:=λn D=>by grind
  have hd:uu h' Hv:=λn b N=>by grind
  have gvv:Hk h h' Hv m:=λnx hi=>⟨hrd _ (mq.2 hi),Hv_in _ (mq.2 hi)⟩
  have V:Od h' Hv:=⟨hd,λn b b' N hb'=>by
   by_cases D:n∈IV m
   .grind
   .rw[Hv_out n D,N]at hb';cases hb';exact ii.refl hd b⟩
  have hrepv:=V.zj hrep;have hlpg:cO (dZ m h) (lb (iF σ) vs)=Z (AV.renL (rq (iF σ)) lp):=qu rows_hp vs lp hlp;have hrel1:jR φ (tot E φ Hv) w (AV.renL (rq (iF σ)) lp) us:=
   jR.le hrep (Gb hd rows_in c.pre.vs r x1 m1 _ K _ gv pvg hla hlpg (λnx hi=>gvv nx (by grind))) hrel
  let E':Nat->Prop:=λk=>E k\/∃n b,Hv n=Z b/\φ n=Z k
  have T:ank c.pre x vs hp (iF σ) φ E E' Hv w:=by
   refine qE.toId I (λa b ha=>by omega) hrepv (λn yb D=>by have:=(I.erHF D).1;omega) ?_ (λn k y D=>by have:=(I.erHF D).1;omega) ?_
   .rintro k (hE|⟨n,b,h1,h3⟩)
    .exact .inl hE
    .exact .inr ⟨n,b,h1,h3⟩
   .rintro k (hE|⟨n,b,h1,h3⟩)
    .exact hrepv.el k hE
    .obtain⟨k',q1,_,ob,q3,_⟩:=hrepv.at_ n b h1
     grind
  have hcalls:=sp.calls x y hm vs hp l1 rs hq l2 lp lr I B hlp hlr (φ1 (l! c.pre.bs) (iF σ) φ) E' w us T.zj (jR.toId T.val (u5 vs lp I.lt hlp) hrel1) (λn k hk=>(yY hk).1);unfold K2;rw[hrun];refine Calls.mono hcalls ?_;rintro en w' ⟨v,φc',rfl,hext,hown,hnm,rp,rv'⟩;have hno:∀k,¬own (φ1 (l! c.pre.bs) (iF σ) φ) (erHF hp) k:=by
   rintro k ⟨n,b,h1,_⟩;let⟨bb,h3,_⟩:=iH h1;rw[hpe]at h3;cases h3
  have mv:iv φ φ h' h' w w':=⟨λ_ _ h=>h,hext.mono λk hk=>bc hk (hno k),λ_ _ h=>h⟩
  refine ⟨v,φ,rfl,?_,λ_ _ h=>.inl h,?_,?_⟩
  .rw[tL];exact mv
  .rw[tL];refine hrep.moved mv λk hk=>?_
   let⟨n,b,h1,h3⟩:=hk;let⟨k',q1,_,ob,q3,_⟩:=hrep.at_ n b h1;rw[h3]at q1;cases q1;exact hext.jv k (cW.1 q3).1 (hno k)
  .exact rv'.flat (ako hfl')
 have hrsg:cO h (lb g rs)=Z (AV.renL (rq g) lr):=qu rows_hq rs lr hlr;refine ⟨⟨_,hOpT,λz hz=>?_,?_,λn D=>?_,by simp,by simp⟩,λ_ _ h=>h,hinv,bi _,nofun⟩
 .rw[Z2 hrsg,Gg _ lr hfl']at hz;cases hz;rfl
 .exact tL _ _
 .obtain⟨nx,rfl,hi⟩:=o8.1 D;rw[d_];exact hi
def cr.full (c:cr):cr:=⟨c.pre,⟨c.post.vs,c.pre.bs⟩,λx=>av (c.m x) λy=>Z (mkp (PV.tyL c.post.vs) (PB.tyL c.pre.bs) (S7 _ _ y) (RM _ _ x))⟩
def aM (P:Program) (f:FuncId) (c:cr):Prop:=if dx (l! c.pre.bs) (l! c.post.bs)=J then pT P f c else pT P f c.full
def pT.toC {c:cr} (h:pT P f c) (q:dx (l! c.pre.bs) (l! c.post.bs)=J):aM P f c:=by
 unfold aM;rw[aK q];exact h
def aM.holds {c:cr} (h:aM P f c) (q:dx (l! c.pre.bs) (l! c.post.bs)=J):pT P f c:=by
 unfold aM at h;rw[aK q]at h;exact h
def alk (a b:Ty) (z:(spr a b).den):mkp a b (S7 a b z) (RM a b z)=z:=by cases a<;>cases b<;>rfl
open Classical in
def roM {pre:Tm} {vs:Y PV} (m:pre.ty.den->M (Tm.ty ⟨vs,pre.bs⟩).den) (x:pre.ty.den):M (Tm.ty ⟨vs,[]⟩).den:=
 av (m x) λy=>if RM (PV.tyL vs) (PB.tyL pre.bs) y=RM _ _ x then Z (mkp (PV.tyL vs) (PB.tyL []) (S7 (PV.tyL vs) (PB.tyL pre.bs) y) ()) else U
def aM.ro {P:Program} {f:FuncId} {pre:Tm} {vs:Y PV} {m:pre.ty.den->M (Tm.ty ⟨vs,pre.bs⟩).den} {m':pre.ty.den->M (Tm.ty ⟨vs,[]⟩).den} (h:pT P f ⟨pre,⟨vs,pre.bs⟩,m⟩) (hb:dx (l! pre.bs) 0=aa) (N:∀x y,m' x=Z y->roM m x=Z y):aM P f ⟨pre,⟨vs,[]⟩,m'⟩:=by
 unfold aM;rw[ay (by grind)];refine ⟨h.qd,λx y hxy=>?_⟩;refine h.calls x y ?_;let⟨z,D,hzy⟩:=dR hxy;have h1:=N x z D;let⟨y0,I,h2⟩:=dR h1;split at h2
 .rename_i heq;have h2:=fP h2;have hzy:=fP hzy;subst h2;have A:mkp (PV.tyL vs) (PB.tyL pre.bs) (S7 (PV.tyL vs) (PB.tyL pre.bs) y0) (RM (PV.tyL pre.vs) (PB.tyL pre.bs) x)=y:=(gW (λq=>mkp (PV.tyL vs) (PB.tyL pre.bs) q (RM (PV.tyL pre.vs) (PB.tyL pre.bs) x)) (u_ (PV.tyL vs) (PB.tyL []) _ ()).symm).trans hzy;rw[<- heq]at A;have:=(alk (PV.tyL vs) (PB.tyL pre.bs) y0).symm.trans A
  grind
 .cases h2
def gP.drop {e:iu} {h':bf} {rd wr W wr':Nat} (t:gP P j aa e h i u rd wr h' m) (hW:∀nx,aC W nx=J->(∀n,ow n=nx->erHF h' n=erHF h n)/\aC rd nx=J) (hw:∀nx,aC wr nx=J->aC W nx=J\/aC wr' nx=J):gP P j aa e h i u rd wr' h' m:=by
 let⟨⟨f,h1,h2,h3,h4,h5,I⟩,r,nx,g,st⟩:=t;have hup:∀H:HF,(∀n∈f.wr,H n=erHF h n)->dX H (f.wr.filter λn=> !(aC W (ow n))) f.nw=dX H f.wr f.nw:=λH hH=>by
  funext n;unfold dX;by_cases q:n∈f.wr
  .by_cases hb:aC W (ow n)=J
   .rw[ay (by grind),aK q];have:=congrFun h3 n;unfold dX at this
    grind
   .grind
  .grind
 refine ⟨⟨⟨f.val,f.rd++(f.wr.filter λn=>aC W (ow n)),f.wr.filter λn=> !(aC W (ow n)),f.nw,f.N⟩,?_,h2,?_,λn q=>?_,λn q=>?_,I⟩,r,nx,g,nofun⟩
 .intro φ E H w a hrd hwr hops hrep D;have k1:∀nx∈f.rd,H nx=erHF h nx:=λnx hi=>hrd nx (dW _ hi)
  have k2:∀nx∈f.wr,H nx=erHF h nx:=λnx hi=>by grind
  have:=h1 φ E H w a k1 k2 hops hrep D
  grind
 .grind
 .grind
 .grind
mutual
def agt {n n':Nat} (hle:n<=n'):∀(v:TV),Lg n v=J->Lg n' v=J
 |.G id,h|.zg id _,h|.qn id _ _ _,h|.H id _,h|.qf id _ _,h|.mp id,h=>by simp[Lg,Ow]at h ⊢;omega
 |.agg l,h|.qp l,h|.qv _ l,h=>x_ hle l h
 |.f _ _,_|.zw _ _ _ _ _,_|.emp,_|.nil,_|.undef,_|.np,_|.qj,_|.qc _ _,_=>rfl
 |.sb s,h=>by simp[Lg,Ow]at h ⊢;omega
def x_ {n n':Nat} (hle:n<=n'):∀(l:Y TV),rN n l=J->rN n' l=J
 |[],_=>rfl
 |x::r,h=>by
  simp[rN,ak]at h ⊢;exact⟨agt hle x h.1,x_ hle r h.2⟩
end
def QD {g g':Nat->Nat} {h:bf}:∀(bs:Y PB) (i:Nat) (x:(PB.tyL bs).den) (m:Nat),Lq bs=J->Ge g h i bs=Z (x,m)->∃l,qY g' bs x=Z l/\l! l=l! bs/\∀j,j<l! bs->∃ty p T xs,l[j]? =Z (Z (.F ty p T xs))/\h.get (g (i+j))=Z (.F ty p T xs)
 |[],i,x,m,_,q=>⟨[],rfl,rfl,λj D=>by simp at D⟩
 |.F ty p T::r,i,x,m,A,q=>by
  simp[Ge]at q;split at q
  .rename_i x1 m1 h1;split at q
   .rename_i x2 m2 h2;obtain⟨rfl,rfl⟩:=q;let⟨l,q1,q2,q3⟩:=QD (g:=g) (g':=g') (h:=h) r (i+1) x2 m2 A h2;simp only[Et]at h1;split at h1
    .rename_i ty' p' S xs hb;split at h1
     .rename_i N;simp[ak,du]at N;split at h1
      .rename_i z I;let⟨es,ez⟩:=ip I;refine ⟨Z (.F ty p T x1)::l,?_,by simp[q2],λj D=>?_⟩
       .simp[qY];rw[u_,wI,q1];rfl
       .grind
      .cases h1
     .cases h1
    .cases h1
   .cases q
  .cases q
 |.qy _ _::r,i,x,m,A,q|.C _ _::r,i,x,m,A,q|.mp _ _::r,i,x,m,A,q|.qg::r,i,x,m,A,q=>by cases A
def IU:∀{bs:Y PB},Lq bs=J->Ee bs=J
 |[],_=>rfl
 |.F _ _ _::r,h=>IU (bs:=r) h
 |.qy _ _::r,h|.C _ _::r,h|.mp _ _::r,h|.qg::r,h=>by cases h
def IL {h2:bf} :∀(n:Nat),(∀i,i<n->h2.get (g i)=h.get (g i))->vA h h2 g n=J
 |0,_=>rfl
 |n+1,A=>by
  simp[vA,ak];refine ⟨?_,IL n λi hi=>A i (by omega)⟩;have:eK h2 (g n)=eK h (g n):=by rw[bW,bW,A n (by omega)]
  rw[this];cases eK h (g n) with
  |none=>rfl
  |some q=>let⟨p,s,k⟩:=q;simp
def Hc (P:Program) (con:FuncId->M cr):Prop:=∀f c,con f=Z c->aM P (f%65536) c
def Uw (hf:f<65536):∀l:Y TV,aku f l%65536=f
 |[]=>lF hf
 |x::r=>by
  have q:=Uw hf r;unfold aku;split
  next he=>cases he
  .rw[P4];exact lF hf
  .rw[P4];exact lF hf
  .rw[P4];exact lF hf
  next he=>cases he;exact q
variable {X:FuncId->M cr}
def amw (hcon:Hc P X) {c:cr} (h:are X f r=Z c):aM P f c:=by
 unfold are at h;split at h
 .rename_i hf;have hf:=aiz hf;split at h
  .rename_i A q;simp[af]at h;subst h;have:=hcon _ _ q
   rwa [Uw hf]at this
  .have:=hcon _ _ h
   rwa [lF hf]at this
 .cases h
def abm (hcon:Hc P X) {e:iu} {la:KO R} {l:R} (hinv:km h i) (D:abn X f r h i la=Z l) (hla:cO h r=Z K)
 (hexec:∀(φ:PM) (E:Nat->Prop) (h':HF) (w:World) (a:Act),yT P f->(∀t,.tmp t∈j.op.operands->∀y,gk e h t=Z y->cG φ (tot E φ h') w y (a.tmps.getD t undef))->qE φ E h' w->∃us:ξ,(execOp a.eval j).run P w= .ok (.enter f us.toArray) w/\jR φ (tot E φ h') w K us):j9 P j aa e h i la l:=by
 unfold abn at D;split at D
 .rename_i c hc;have spc:=amw hcon hc;split at D
  .rename_i x m σ sm hM;split at D
   .rename_i q hq;let⟨vs,hp⟩:=q;let⟨l1,I⟩:=ya hq;let⟨y,hy,D⟩:=dR D;split at D
    .rename_i q2 hq2;let⟨rs1,hq1⟩:=q2;let⟨l2,z⟩:=ya hq2;split at D
     .rename_i hcond;simp only[ak]at hcond;have hle:=aX hcond.1;have sp:=spc.holds hcond.1;simp only at D;split at D
      .rename_i rs hrs;have hrs':=hrs;rw[vm,z.pv]at hrs';simp only[bS,af]at hrs';split at D
       next hb=>simp only[ak]at hb;have hq0:=ar hb.1.2;refine ⟨_,_,_,_,_,D,?_⟩;rw[<- hrs'];exact an1 hinv sp (xX hM) I hy z (by omega) hq0 hb.2 _ hla λφ E h' w a=>hexec φ E h' w a sp.qd
       .split at D
        .rename_i h2 N;let⟨hsr,D⟩:=cV D;refine ⟨_,_,_,_,_,D,?_⟩;rw[<- hrs'];unfold Qo at N;rw[xN,z.pb]at N;simp only[bS,af]at N;exact ail hinv sp (xX hM) I hcond.2 hy z hle (λnx hi=>by
          have:dw nx (l! c.pre.bs)=J:=bx hi;simp only[this,bJ]) (λnx hi=>by
          have:dw nx (l! c.pre.bs)=aa:=by
           cases hb:dw nx (l! c.pre.bs) with
           |false=>rfl
           |true=>have:=aX hb;omega
          simp only[this];rfl) N.symm hsr hla λφ E h' w a=>hexec φ E h' w a sp.qd
        .cases D
      .cases D
     .rename_i hcond;split at D
      .rename_i hro;simp only[ak]at hro;have hq0:=ar hro.1;have hng:=IU hro.2;have sp:pT P f c.full:=by
        unfold aM at spc
        rwa [ay (λhb=>hcond (by rw[hb,hng];rfl))]at spc
       simp only at D;split at D
       .rename_i rs hrs;split at D
        .rename_i h2 N;have hrs':=hrs;rw[vm,z.pv]at hrs';simp only[bS,af]at hrs';refine ⟨_,_,_,_,_,D,?_⟩;rw[<- hrs'];have A:=xX hM;unfold Qo at N;rw[xN,I.pb]at N;simp only[bS,af]at N;have hqe:∀nx,hq1.get nx=U:=λnx=>by
          cases hb:hq1.get nx with
          |none=>rfl
          |some b=>have:=z.lt_len hb;omega
         have J':oH c.full.post (mkp (PV.tyL c.post.vs) (PB.tyL c.pre.bs) (S7 _ _ y) (RM _ _ x)) rs1 hp l1:=
          ⟨by show pH Lj c.post.vs (S7 (PV.tyL c.post.vs) (PB.tyL c.pre.bs) _)=_;rw[u_];exact z.pv,by show qY Lj c.pre.bs (RM (PV.tyL c.post.vs) (PB.tyL c.pre.bs) _)=_;rw[wI];exact I.pb,I.len,I.at_,gI (λnx l hr=>by rw[bW,hqe]at hr;cases hr) _ z.ok,x_ (by omega) _ z.lt,I.C,I.qk,I.nox⟩
         let⟨x1,m1,x2,m2,hx,hmm,gv,gb⟩:=A.ex;let⟨r,q1,q2,q3⟩:=QD (g':=Lj) c.pre.bs 0 x2 m2 hro.2 gb;have hl1:l1=r:=by
          have:=I.pb;rw[hx,wI,q1]at this;cases this;rfl
         subst hl1;have hgi:∀nx,nx<l! c.pre.bs->(if dw nx (l! c.pre.bs) then iF σ nx else i+(nx-l! c.pre.bs))=iF σ nx:=λnx hi=>by simp_all
         have hsame:∀nx,nx<l! c.pre.bs->h2.get (iF σ nx)=h.get (iF σ nx):=λnx hi=>by
          let⟨ty,p,T,xs,w1,w2⟩:=q3 nx hi;rw[b9]at w2;have:=wS (λnx=>if dw nx (l! c.pre.bs) then iF σ nx else i+(nx-l! c.pre.bs)) (l1.map (ja (kQ (λnx=>if dw nx (l! c.pre.bs) then iF σ nx else i+(nx-l! c.pre.bs))))) 0 (dZ m h) (λa b ha hb e=>by
           simp only[bj,q2]at ha hb;rw[b9,b9,hgi a ha,hgi b hb]at e;exact A.inj a b ha hb e) nx (Z (.F ty p T xs)) (by rw[bL,w1];rfl)
          rw[b9,hgi nx hi]at this;rw[<- N,this,w2]
         have t:=ail (o:=j) (e:=e) hinv sp A I hng (y:=mkp (PV.tyL c.post.vs) (PB.tyL c.pre.bs) (S7 _ _ y) (RM _ _ x)) (by show av (c.m x) _=_;rw[hy];rfl) J' (bi _) (g:=λnx=>if dw nx (l! c.pre.bs) then iF σ nx else i+(nx-l! c.pre.bs)) hgi (λnx hi=>by
          have:dw nx (l! c.pre.bs)=aa:=by
           cases hb:dw nx (l! c.pre.bs) with
           |false=>rfl
           |true=>have:=aX hb;have hi:l! c.pre.bs<=nx:=hi;omega
          simp only[this];rfl) N.symm (IL _ λnx hi=>by rw[hgi nx hi];exact hsame nx hi) hla λφ E h' w a=>hexec φ E h' w a sp.qd
         have t':gP P j aa e h i (UD (lb (λnx=>if dw nx (l! c.pre.bs) then iF σ nx else i+(nx-l! c.pre.bs)) rs1)) (sm|||m) (sm|||m|||(((1<<<(l! c.pre.bs-l! c.pre.bs))-1)<<<i)) h2 (i+(l! c.pre.bs-l! c.pre.bs)):=t;rw[CE,dL]at t';refine t'.drop (W:=sm) (λnx hi=>?_) (λnx hi=>?_)
         .refine ⟨?_,by rw[bD,hi];rfl⟩;obtain⟨k,D,rfl⟩:=(A.sig nx).1 hi;let⟨ty,p,T,xs,_,w2⟩:=q3 k D;rw[b9]at w2;intro n hn;unfold erHF;rw[hn,hsame k D,w2];cases ix n<;>rfl
         .grind
        .cases D
       .cases D
      .cases D
    .cases D
   .cases D
  .cases D
 .cases D
variable {W:TypeId->M Ty}
def apx (hcon:Hc P X) {e:iu} {nx:SI} {K:KO R} {r:R} (hinv:km h i) (hi:sG e h) (I:pP P j.op=nx) (D:eH X W nx e h i K=Z r):j9 P j nx.still e h i K r:=by
 have callOps:∀(c:Call),j.op= .call c->∀x,x∈c.operands->x∈j.op.operands:=λc A x q=>by rw[A];exact q
 cases nx with
 |call f args=>
  simp[eH]at D;split at D
  .rename_i l hl;have A:∃c:Call,j.op= .call c/\c.callee= .value (.func f)/\c.args.toList=args:=by
    unfold pP at I;split at I
    .rename_i nx hi;unfold Co at hi
     grind
    .grind
   let⟨c,A,h1,h2⟩:=A;let⟨la,g1,g2⟩:=Fx hi hl;refine abm hcon hinv D g2 λφ E h' w a hcb hops hrep=>?_
   have hp:Uf φ E h' w a (EZ e h) j:=λx y q hy=>rY hrep (by rw[CY];exact hops) q hy
   refine ⟨args.map a.eval,?_,M0 hp args la (λx q=>callOps c A x (by simp[em,h1,<-h2]at q ⊢;exact .inr q)) g1⟩;unfold execOp;rw[A];have hm:c.args.map a.eval=(args.map a.eval).toArray:=by grind
   simp[resolve,h1,Act.eval,Deferred.ofValue,invoke,hm,uZ hcb]
  .cases D
 |jm x args=>
  simp[eH]at D;split at D
  .rename_i f cap l q hl;have A:∃c:Call,j.op= .call c/\c.callee= .value x/\c.args.toList=args:=by
    unfold pP at I;split at I
    .rename_i nx hi;unfold Co at hi
     grind
    .grind
   let⟨c,A,h1,h2⟩:=A;let⟨la,g1,g2⟩:=Fx hi hl;let⟨yx,g3,N⟩:=bE hi q;simp[co]at N;split at N
   .rename_i lc hlc;simp[af]at N;subst N;refine abm hcon hinv D (oD g2 hlc) λφ E h' w a hcb hops hrep=>?_
    have hp:Uf φ E h' w a (EZ e h) j:=λx y q hy=>rY hrep (by rw[CY];exact hops) q hy
    have hxv:=hp x _ (callOps c A x (by simp[em,h1])) g3;have hlv:=M0 hp args la (λx q=>callOps c A x (by simp[em,h1,<-h2]at q ⊢;exact .inr q)) g1;generalize hz:a.eval x=z at hxv;cases hxv with
    |@qv _ _ vs hvl hvr=>
     refine ⟨args.map a.eval++vs,?_,hlv.append (jR.of hvl hvr)⟩;unfold execOp;rw[A];have hm:c.args.map a.eval=(args.map a.eval).toArray:=by grind
     simp[resolve,h1,hz,Deferred.ofValue,invoke,hm,uZ hcb]
   .cases N
  .cases D
 |op s=>
  have I:s= .zd\/cY P j.op=Z s:=by
   unfold pP at I;split at I
   .rename_i nx hi;unfold Co at hi
    grind
   .grind
  rcases I with rfl|I
  .simp[eH]at D
  .exact K_op hinv hi I D
def F_op {e:iu} {s:Rr} {K:KO R} {r:R} (hinv:km h i) (hi:sG e h) (A:cY P j.op=Z s) (q:Bf W e h i K s=Z r):j9 P j s.still e h i K r:=by
 cases s with
 |load sz D x=>exact atj hinv hi A q
 |store sz x v=>exact aoc hinv hi A q
 |zh x=>exact ath hinv hi A q
 |jk off x=>exact axf hinv hi A q
 |jy sz x nx=>exact axe hinv hi A q
 |app ty sz bytes s x=>exact axg hinv hi A q
 |zk ty sz bytes z l c=>exact ati hinv hi A q
 |_=>exact bc q (by simp[Bf])
def aud (hcon:Hc P X) {e:iu} {nx:SI} {K:KO R} {r:R} (hinv:km h i) (hi:sG e h) (A:pP P j.op=nx) (q:opK X W nx e h i K=Z r):j9 P j nx.still e h i K r:=by
 unfold opK at q;split at q
 .split at q
  .rename_i s _;have A:s= .zd\/cY P j.op=Z s:=by
    unfold pP at A;split at A
    .rename_i nx hi;unfold Co at hi
     grind
    .grind
   rcases A with rfl|A
   .simp[Bf]at q
   .exact F_op hinv hi A q
  .cases q
 .exact apx hcon hinv hi A q
def gR (am:Nat) (e e':iu):Prop:=∀k,aC am k=aa->∀q,e'.get k=Z q->∃v,e.get k=Z v/\(vQ v=J->q=v)
def gR.refl (am:Nat) (e:iu):gR am e e:=λ_ _ q h=>⟨q,h,λ_=>rfl⟩
def gR.trans {a b c:iu} (h1:gR i a b) (h2:gR i b c):gR i a c:=λk q A D=>by
 let⟨v1,I,g2⟩:=h2 k q A D;let⟨v,g3,N⟩:=h1 k q v1 I
 grind
def gR.mono {a b:iu} (h:gR i a b) (hm:∀k,aC i k=J->aC m k=J):gR m a b:=λk q=>h k (by
 cases A:aC i k with
 |false=>rfl
 |true=>rw[hm k A]at q;cases q)
structure ajk (P:Program) (ops:Array Oper) (rest:List Oper) (sl:List pQ) (am:Nat) (s s':TS) (fs:List XK) (l:List (Oper×Bm)):Prop where
 jw:l.map (·.1)=rest
 chain:AT P ops l (gk s.e s.h) (erHF s.h) (gk s'.e s'.h) (erHF s'.h)
 fsl:l! fs=l! l
 jg:l! sl=l! l
 fp:∀(j:Nat) o f q,l[j]? =Z (o,f)->fs[j]? =Z q->(∀n∈f.rd,aC q.rd (ow n)=J)/\∀n∈f.wr,aC q.wr (ow n)=J
 still:∀(j:Nat) o f so,l[j]? =Z (o,f)->sl[j]? =Z so->so.op.still=J->f.rd=[]/\f.wr=[]
 names:∀(j:Nat) o f,l[j]? =Z (o,f)->∀n∈f.N,s.nx<=ow n/\ow n<s'.nx
 zl:∀(i j:Nat) oi fi oj fj,i<j->l[i]? =Z (oi,fi)->l[j]? =Z (oj,fj)->∀n∈fi.N,n∉fj.N
 zm:s.nx<=s'.nx
 qw:km s'.h s'.nx
 qm:sG s'.e s'.h
 keeps:gR am s.e s'.e
def al2 {e:iu} {h':bf} (hi:sG e h) (A:cq h h') (d:M Nat) (D:co h' u=Z y):Hw (gk e h) d y=gk (Ht e d u) h':=by
 funext t;have old:(e.get t).bind (co h)=(e.get t).bind (co h'):=by
  cases ht:e.get t with
  |none=>rfl
  |some x=>
   let⟨z,q⟩:=qF h x (hi t x ht);simp[aH,q,fW A x z q]
 cases d with
 |none=>simp[Hw,Ht,gk];exact old
 |some d=>
  simp[Hw,Ht,gk,PT.get_set,af]
  grind
def sG.put {e:iu} {h':bf} (hi:sG e h) (A:cq h h') (d:M Nat) (D:Qr h' u=J):sG (Ht e d u) h':=λt x q=>by
 cases d with
 |none=>exact oa A x (hi t x q)
 |some d=>
  simp[Ht,PT.get_set]at q;split at q
  .cases q;exact D
  .exact oa A x (hi t x q)
def V4 {e:iu} (ht:e.get i=Z u):gk (e.set i (Z u)) h=gk e h:=by
 funext k;simp[gk,PT.get_set]
 grind
def sG.set {e:iu} (hi:sG e h) (ht:e.get i=Z u):sG (e.set i (Z u)) h:=λk x q=>by
 rw[PT.get_set]at q;split at q
 next A=>cases q;exact hi _ _ ht
 .exact hi k x q
def XU {e:iu} {g:M (Nat×Bool)} {K:Bool->iu->M R} {r:R} (h:afd e g K=Z r):
 (g=U/\K J e=Z r)\/(∃t want b,g=Z (t,want)/\e.get t=Z (.f .bool b)/\K (b==want) (e.set t (Z (.f .bool b)))=Z r)\/∃t want,g=Z (t,want)/\e.get t=Z .undef/\K aa e=Z r:=by
 unfold afd at h;split at h
 .exact .inl ⟨rfl,h⟩
 .rename_i t want;split at h
  .rename_i b q;refine .inr (.inl ⟨t,want,b,rfl,q,?_⟩);cases want with
   |_=>rcases oG h with ⟨rfl,h⟩|⟨rfl,h⟩<;>exact h
  .grind
  .cases h
def LQ (hcon:Hc P X) (ham:∀(j:Nat) (o:Oper) (d:Nat),I[j]? =Z o->o.dst=Z d->aC i d=J):
 ∀(rest:Y Oper) (sl:Y pQ) (s:TS) (ops:Y XK) (K:TS->Y XK->M R) (r:R),(∀o∈rest,∃j:Nat,I[j]? =Z o)->nN P I rest=Z sl->OO X W sl s ops K=Z r->km s.h s.nx->sG s.e s.h->∃s' fs' l,K s' (ops.reverse++fs')=Z r/\ajk P I rest sl i s s' fs' l
 |[],sl,s,ops,K,r,hin,hc,A,hH,hE=>by
  simp only[nN,af]at hc;subst hc;simp only[OO]at A;exact⟨s,[],[],by simpa using A,rfl,.nil _ _,rfl,rfl,by simp,by simp,by simp,by simp,bi _,hH,hE,gR.refl _ _⟩
 |o::rest,sl,s,ops,K,r,hin,hc,A,hH,hE=>by
  simp only[nN]at hc;split at hc
  .rename_i sl' hsl';have hso:∃g,sl=⟨o.dst,pP P o.op,g⟩::sl'/\((g=U/\o.guard=U)\/∃j want t,g=Z (t,want)/\o.guard=Z (j,want)/\(I[j]?).bind (·.dst)=Z t):=by grind
   obtain⟨g,rfl,hg⟩:=hso;simp only[OO]at A;have hdst:∀d,o.dst=Z d->aC i d=J:=λd hd=>by
    let⟨j,hj⟩:=hin o (cj ..);exact ham j o d hj hd
   have hgs:∀t want,g=Z (t,want)->aC i t=J:=λt want hgt=>by grind
   have kput:∀(e:iu) (v:TV),gR i s.e e->gR i s.e (Ht e o.dst v):=λe v hke k A v' D=>by
    cases hd:o.dst with
    |none=>rw[hd]at D;exact hke k A v' D
    |some d=>
     rw[hd]at D;simp only[Ht,PT.get_set]at D;split at D
     next e2=>rw[e2,hdst d hd]at A;cases A
     .exact hke k A v' D
   have done:∀(f:Bm) (v:TV) (h':bf) (nx' rd wr:Nat) (e:iu),gk e s.h=gk s.e s.h->sG e s.h->gR i s.e e->IC P I o f (gk s.e s.h) (erHF s.h)->(∃y,co h' v=Z y/\f.val=y)->dX (erHF s.h) f.wr f.nw=erHF h'->(∀n∈f.rd,aC rd (ow n)=J)->(∀n∈f.wr,aC wr (ow n)=J)->(∀n∈f.N,s.nx<=ow n/\ow n<nx')->cq s.h h'->km h' nx'->s.nx<=nx'->((pP P o.op).still=J->f.rd=[]/\f.wr=[])->
    OO X W sl' ⟨Ht e o.dst v,h',nx'⟩ (⟨rd,wr⟩::ops) K=Z r->∃s' fs' l,K s' (ops.reverse++fs')=Z r/\ajk P I (o::rest) (⟨o.dst,pP P o.op,g⟩::sl') i s s' fs' l:=by
    intro f v h' nx' rd wr e hee hiE hke hst hval hheap hrd hwr hN hrows hinv' hgr hstill hrun;let⟨y,hy1,hy2⟩:=hval;let⟨s',fs',l,hK,L⟩:=LQ hcon ham rest sl' _ _ K r (λo' ho'=>hin o' (bP _ ho')) hsl' hrun hinv' (hiE.put hrows o.dst (Ib _ _ _ hy1));have hg2:nx'<=s'.nx:=L.zm;refine ⟨s',⟨rd,wr⟩::fs',(o,f)::l,by simpa using hK,by simp[L.jw],.cons hst ?_,by simp[L.fsl],by simp[L.jg],?_,?_,?_,?_,cP hgr hg2,L.qw,L.qm,(kput e v hke).trans L.keeps⟩
    .have e1:Hw (gk s.e s.h) o.dst f.val=gk (Ht e o.dst v) h':=by rw[<- hee,hy2];exact al2 hiE hrows o.dst hy1
     rw[e1,hheap];exact L.chain
    .intro j o' f' q' h1 h2;cases j with
     |zero=>simp at h1 h2;obtain⟨rfl,rfl⟩:=h1;subst h2;exact⟨hrd,hwr⟩
     |succ j=>exact L.fp j o' f' q' (by simpa using h1) (by simpa using h2)
    .intro j o' f' so h1 h2 h3;cases j with
     |zero=>simp at h1 h2;obtain⟨rfl,rfl⟩:=h1;subst h2;exact hstill h3
     |succ j=>exact L.still j o' f' so (by simpa using h1) (by simpa using h2) h3
    .intro j o' f' h1 n hn;cases j with
     |zero=>
      simp at h1;obtain⟨rfl,rfl⟩:=h1;have:=hN n hn;exact⟨this.1,by omega⟩
     |succ j=>
      have:=L.names j o' f' (by simpa using h1) n hn;exact⟨cP hgr this.1,this.2⟩
    .intro am j oi fi oj fj hij h1 h2 n hn hn';cases j with
     |zero=>omega
     |succ j=>
      have hj:=L.names j oj fj (by simpa using h2) n hn';cases am with
      |zero=>
       simp at h1;obtain⟨rfl,rfl⟩:=h1;have h3:=(hN n hn).2;have h4:nx'<=ow n:=hj.1;omega
      |succ am=>exact L.zl am j oi fi oj fj (by omega) (by simpa using h1) (by simpa using h2) n hn hn'
   have runs:∀(e:iu),gk e s.h=gk s.e s.h->sG e s.h->gR i s.e e->(∀f,gJ P o (gk s.e s.h) (erHF s.h) f->IC P I o f (gk s.e s.h) (erHF s.h))->opK X W (pP P o.op) e s.h s.nx (λv rd wr h nx=>if Qr h v then OO X W sl' ⟨Ht e o.dst v,h,nx⟩ (⟨rd,wr⟩::ops) K else U)=Z r->∃s' fs' l,K s' (ops.reverse++fs')=Z r/\ajk P I (o::rest) (⟨o.dst,pP P o.op,g⟩::sl') i s s' fs' l:=by
    intro e hee hiE hke hstep A;let⟨v,rd,wr,h',nx',hK,T⟩:=aud hcon hH hiE rfl A;simp only[]at hK;split at hK
    .rename_i hok;let⟨f,t1,t2,t3,t4,t5,t6⟩:=T.ex;rw[hee]at t1;let⟨y,hy⟩:=qF h' v hok;refine done f v h' nx' rd wr e hee hiE hke (hstep f t1) ⟨y,hy,t2 y hy⟩ t3 t4 t5 t6 T.F T.inv T.zm (λhs=>?_) hK;let⟨r0,w0⟩:=T.st hs;subst r0 w0;constructor
     .cases hl:f.rd with
      |nil=>rfl
      |cons n q=>have:=t4 n (by rw[hl];simp);simp at this
     .cases hl:f.wr with
      |nil=>rfl
      |cons n q=>have:=t5 n (by rw[hl];simp);simp at this
    .cases hK
   have skips:∀(e:iu),gk e s.h=gk s.e s.h->sG e s.h->gR i s.e e->IC P I o mm (gk s.e s.h) (erHF s.h)->OO X W sl' ⟨Ht e o.dst .undef,s.h,s.nx⟩ (⟨0,0⟩::ops) K=Z r->∃s' fs' l,K s' (ops.reverse++fs')=Z r/\ajk P I (o::rest) (⟨o.dst,pP P o.op,g⟩::sl') i s s' fs' l:=by
    intro e hee hiE hke hstep A;exact done mm .undef s.h s.nx 0 0 e hee hiE hke hstep ⟨_,rfl,rfl⟩ (by funext am;simp[dX,mm]) (by simp[mm]) (by simp[mm]) (by simp[mm]) (cq.refl _) hH (bi _) (λ_=>⟨rfl,rfl⟩) A
   rcases XU A with ⟨h1,A⟩|⟨t,want,b,h1,hb,A⟩|⟨t,want,h1,hb,A⟩
   .refine runs s.e rfl hE (gR.refl _ _) (λf hf=>?_) A;rcases hg with ⟨_,hg⟩|⟨j,want,t,h2,_,_⟩
    .exact .run hg hf
    .rw[h1]at h2;cases h2
   .rcases hg with ⟨h2,_⟩|⟨j,want',t',h2,h3,h4⟩
    .rw[h1]at h2;cases h2
    .rw[h1]at h2;cases h2;have hgt:=hgs t want h1;have heb:gk s.e s.h t=Z (.f (.raw (.bool b))):=by simp only[gk,hb,aH,co];rfl
     have hke:gR i s.e (s.e.set t (Z (.f .bool b))):=λk A v' D=>by
      rw[PT.get_set]at D;split at D
      next ek=>rw[ek,hgt]at A;cases A
      .exact⟨v',D,λ_=>rfl⟩
     cases hbw:(b==want) with
     |true=>
      rw[hbw]at A;have:b=want:=by simpa using hbw
      subst this;exact runs _ (V4 hb) (hE.set hb) hke (λf hf=>.runG j t b h3 h4 heb hf) A
     |false=>
      rw[hbw]at A;refine skips _ (V4 hb) (hE.set hb) hke (.skip j t want h3 h4 (.bool b) heb ?_ rfl) A;intro D;cases D;simp at hbw
   .rcases hg with ⟨h2,_⟩|⟨j,want',t',h2,h3,h4⟩
    .rw[h1]at h2;cases h2
    .rw[h1]at h2;cases h2;exact skips _ rfl hE (gR.refl _ _) (.skip j t want h3 h4 undef (by simp only[gk,hb,aH,co]) (by unfold undef;simp) rfl) A
  .cases hc
def ale {sl:Y pQ} {s s':TS} {fs:Y XK} {l:Y p?} {prs:Y j?} (A:ajk P I I.toList sl i s s' fs l) (hp:Fr I sl=Z prs) (hok:Bt fs prs=J):NIP I l:=by
 unfold Fr at hp;simp only[]at hp;split at hp
 .rename_i hall;simp only[cQ,oI,ak]at hall;simp only[af]at hp;have hop:∀(j:Nat) o f,l[j]? =Z (o,f)->I[j]? =Z o:=λj o f D=>by
   have h1:(l.map (·.1))[j]? =Z o:=by rw[bL,D];rfl
   rw[A.jw]at h1;simpa using h1
  have hsize:∀(j:Nat) o,I[j]? =Z o->j<I.size:=λj o h=>(cW.1 h).1
  have hprs:∀am j,(am,j)∈prs->∃a b,fs[am]? =Z a/\fs[j]? =Z b/\Cg a.wr b.rd=J/\Cg a.wr b.wr=J/\Cg b.wr a.rd=J:=by
   clear hp hall;induction prs with
   |nil=>intro am j h;cases h
   |cons p prs ih=>
    let⟨i0,j0⟩:=p;simp only[Bt,ak,S9]at hok
    grind
  refine ⟨λj o ho e he hb=>?_,λam j oi fi oj fj hij hi D=>?_,A.zl⟩
  .grind
  .have h1:=hop am oi fi hi;have h2:=hop j oj fj D;have hcase:=(hall j (hsize j oj h2)).2 am hij;rw[h1,h2]at hcase;simp only[eu]at hcase;by_cases N:aC ((EI I.toList []).getD j 0) am=J
   .left;rw[aA]at N;cases ops:(EI I.toList [])[j]? with
    |none=>rw[ops]at N;simp at N
    |some B=>
     rw[ops]at N;exact Ix (ops:=I) I.toList [] (λj o D=>by simpa using D) (λj B D=>by simp at D) j B ops am (by simpa using N)
   .right;have hap:=hcase.resolve_left N;refine ⟨hap,?_⟩;have hil:am<l! l:=(bH.1 hi).1;have hjl:j<l! l:=(bH.1 D).1;have hsi:=aL (show am<l! sl by rw[A.jg];exact hil);have hsj:=aL (show j<l! sl by rw[A.jg];exact hjl);by_cases hst:(sl[am]'(by rw[A.jg];exact hil)).op.still=J
    .obtain⟨q1,q2⟩:=A.still am oi fi _ hi hsi hst
     grind
    .by_cases hst2:(sl[j]'(by rw[A.jg];exact hjl)).op.still=J
     .obtain⟨q1,q2⟩:=A.still j oj fj _ D hsj hst2
      grind
     .have hmem:(am,j)∈prs:=by
       rw[<- hp,lG];refine ⟨j,oI.2 (hsize j oj h2),?_⟩
       grind
      let⟨a,b,ha,hb,d1,d2,d3⟩:=hprs am j hmem;let⟨f1,f2⟩:=A.fp am oi fi a hi ha;let⟨g1,g2⟩:=A.fp j oj fj b D hb;refine ⟨λx ops=>⟨λq=>?_,λq=>?_⟩,λx ops q=>?_⟩
      .have:=qT d1 (ow x) (f2 x ops);rw[g1 x q]at this;cases this
      .have:=qT d2 (ow x) (f2 x ops);rw[g2 x q]at this;cases this
      .have:=qT d3 (ow x) (g2 x ops);rw[f1 x q]at this;cases this
 .cases hp
structure l_ (P:Program) (E:Nat->Prop) (nt np:Nat) (φ:PM) (s:TS) (a:Act) (w:World):Prop where
 zj:qE φ E (erHF s.h) w
 env:Oq φ (tot E φ (erHF s.h)) w (gk s.e s.h) a
 dom:∀n k,φ n=Z k->ow n<s.nx
 low:np<=s.nx
 qw:km s.h s.nx
 qm:sG s.e s.h
 inert:∀d∈a.defers,ajy P d
 size:a.tmps.size=nt
structure Cx (np:Nat) (φ φ':PM) (H H':HF) (w w':World):Prop where
 ext:ES (own φ H) w w'
 qh:∀k,k<w.heap.size->own φ' H' k->own φ H k
 par:∀n,ow n<np->φ' n=φ n
def Cx.refl (np:Nat) (φ:PM) (H:HF) (w:World):Cx np φ φ H H w w:=⟨ES.refl _ _,λ_ _ h=>h,λ_ _=>rfl⟩
def Cx.trans {φ' φ'':PM} {H' H'':HF} {w' w'':World} (a:Cx i V φ' S H' w w') (b:Cx i φ' φ'' H' H'' w' w''):Cx i V φ'' S H'' w w'' where
 ext:=⟨b.ext.os.trans a.ext.os,b.ext.tape.trans a.ext.tape,b.ext.output.trans a.ext.output,cP a.ext.size b.ext.size,
  λk q A=>(b.ext.jv k (dg q a.ext.size) (λh=>A (a.qh k q h))).trans (a.ext.jv k q A),
  λk q=>(b.ext.jd k (dg q a.ext.size)).trans (a.ext.jd k q)⟩
 qh:=λk q h=>a.qh k q (b.qh k (dg q a.ext.size) h)
 par:=λnp hi=>(b.par np hi).trans (a.par np hi)
def ag1 {s:TS} (hm:P.follows .mixedOrders=J) (hcon:Hc P X) (c:l_ P O i m V s N w) {id:Nat} {sl:Y pQ} {prs:Y j?} {am:Nat} (ham:∀(j:Nat) (o:Oper) (d:Nat),I[j]? =Z o->o.dst=Z d->aC am d=J)
 (hd:(I.toList.all λo=>match o.dst with|some d=>decide (d<i)|none=>J)=J) (hc:nN P I I.toList=Z sl) (hp:Fr I sl=Z prs) {K:TS->M R} {r:R} (hr:OO X W sl s [] (λs' fs=>if Bt fs prs then K s' else U)=Z r) 
 (hQ:∀a w' s' φ',K s'=Z r->l_ P O i m φ' s' a w'->Cx m V φ' (erHF s.h) (erHF s'.h) w w'->gR am s.e s'.e->B .normal a w'):(Code.region id I b).wp P B N w:=by
 let⟨s',fs',l,ops,L⟩:=LQ hcon ham I.toList sl s [] _ r (λo ho=>by
  let⟨j,D⟩:=eO ho;exact⟨j,by simpa using D⟩) hc hr c.qw c.qm
 have ops:(if Bt fs' prs then K s' else U)=Z r:=ops;by_cases hok:Bt fs' prs=J
 .rw[aK hok]at ops;refine IN (φ0:=V) (E:=O) hm L.jw L.chain (ale L hp hok) ?_ ?_ c.zj c.env ?_
  .intro n A;let⟨p,q,A⟩:=lG.1 A;let⟨j,D⟩:=eO q;have:=L.names j p.1 p.2 D n A;cases hx:V n with
   |none=>rfl
   |some k=>have:=c.dom n k hx;omega
  .intro j o ho d hd';have:=cQ.1 hd o (by grind);rw[hd']at this;rw[c.size];simpa using this
  .rintro a w' ⟨φ',m',d',r',en',df',sz'⟩;have hnm:∀n k,φ' n=Z k->V n=Z k\/(s.nx<=ow n/\ow n<s'.nx):=λn k hik=>by
    rcases d' n k hik with h|h
    .exact .inl h
    .obtain⟨p,q,A⟩:=lG.1 h;let⟨j,D⟩:=eO q;exact .inr (L.names j p.1 p.2 D n A)
   have hg:=L.zm;have hlow:=c.low;refine hQ a w' s' φ' ops ⟨r',en',λn k hik=>?_,by omega,L.qw,L.qm,by rw[df'];exact c.inert,by rw[sz'];exact c.size⟩ ⟨m'.ext,m'.qh,λnt hi=>?_⟩ L.keeps
   .rcases hnm n k hik with h|h
    .have:=c.dom n k h;omega
    .exact h.2
   .cases hx:V nt with
    |some k=>exact m'.sub _ _ hx
    |none=>
     cases hy:φ' nt with
     |none=>rfl
     |some k=>grind
 .grind
end
end Go.Proofs.YtmmgdigihgnnnaaGreatDoor.AI
