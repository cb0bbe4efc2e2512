/-
  Texts of the proof, part 4 of 5: what is used to prove the statement. No condition.
-/
import Derived.Test.YtloaobgmjdjhhaaGreatDoorEpochQuietQ2
import Derived.Defers
namespace Go.Proofs.YtloaobgmjdjhhaaGreatDoor.AI
open Go.RowKit
set_option maxRecDepth 100000
set_option maxHeartbeats 4000000
set_option linter.unusedVariables false
set_option linter.unusedSimpArgs false
open Act renaming put→Nh
open _root_.Bool renaming true→J,false→af
open Call renaming operands→eU
open _root_.Int renaming ofNat→aN,toNat→aP
open _root_.List renaming length→ai,replicate→aB,length_cons→bX,take→dI,range→dR,length_nil→gr,cons_append→gx,nil_append→j8,toArray→kQ,take_succ_cons→vH,replicate_succ→vI
open _root_.Nat renaming beq→aA,testBit→aM,add_zero→cZ,ble→eO,blt→gu,min→iW
open Oper renaming wp→Hh
open _root_.Option renaming some→M,none→D,bind_some→aF,map_some→ca,map→ma
open Region renaming wanted→iP
open Sem renaming run→ki
open Value.bool renaming injEq→B5
open World renaming cell?→Nc
noncomputable section
theorem bind_some {α β:Type} {x:I α} {f:α->I β} {y:β} (h:x.bind f=M y):∃a,x=M a/\f a=M y:=by
 cases x with
 |none=>cases h
 |some a=>exact⟨a,rfl,h⟩
theorem map_some {α β:Type} {x:I α} {f:α->β} {y:β} (h:x.map f=M y):∃a,x=M a/\f a=y:=by
 cases x with
 |none=>cases h
 |some a=>exact⟨a,rfl,by simpa using h⟩
theorem mf {c:Bool} {β:Type} {x:I β} {y:β} (h:(if c then x else D)=M y):c=J/\x=M y:=by
 cases c with
 |true=>exact⟨rfl,by simpa using h⟩
 |false=>simp at h
theorem Ic {P:Program} {o:Oper} {e:zJ} {h:oh} {nx:Nat} {s:Yz} {R:B3} (hc:dl P o.op=M s) (L:eL s e h nx=M R):gM P o e.get h.get R.eff:=by
 unfold dl at hc;split at hc
 .rename_i x A;simp only[ah]at hc;subst hc;exact alw (.inl A) L
 .rename_i x A;simp only[ah]at hc;subst hc;exact alw (.inr A) L
 .rename_i c a b A;simp only[ah]at hc;subst hc;exact aig A L
 .rename_i t A;obtain⟨z,h1,hc⟩:=bind_some hc;obtain⟨h2,hc⟩:=mf hc;simp only[ah]at hc;subst hc;exact aez A h1 h2 L
 .rename_i t x A;simp only[ah]at hc;subst hc;exact am8 A L
 .rename_i t ps A;split at hc
  .rename_i fs hu;obtain⟨z,h1,hc⟩:=bind_some hc;obtain⟨h2,hc⟩:=mf hc;obtain⟨ps',U,rfl⟩:=map_some hc;simp only[al]at h2;exact W1 A h1 h2.1 U (.inl ⟨fs,hu,h2.2⟩) L
  .rename_i n el hu;obtain⟨z,h1,hc⟩:=bind_some hc;obtain⟨h2,hc⟩:=mf hc;obtain⟨ps',U,rfl⟩:=map_some hc;simp only[al]at h2;obtain⟨sz,Z⟩:=iQ.1 h2.2;exact W1 A h1 h2.1 U (.inr ⟨n,el,sz,hu,Z⟩) L
  .cases hc
 .rename_i t n ps A;obtain⟨el,h1,hc⟩:=bind_some hc;obtain⟨z,h2,hc⟩:=bind_some hc;obtain⟨sz,U,hc⟩:=bind_some hc;obtain⟨Z,hc⟩:=mf hc;obtain⟨ps',h5,rfl⟩:=map_some hc;simp only[al,cU,bne_iff_ne]at Z;exact am7 A (sB h1) h2 U Z.1.1.1 Z.1.1.2 Z.2 (a8 Z.1.2) h5 L
 .rename_i t x A;obtain⟨sz,h1,hc⟩:=bind_some hc;obtain⟨ag,h2,rfl⟩:=map_some hc;exact aij A h1 h2 L
 .rename_i t x v A;obtain⟨sz,h1,rfl⟩:=map_some hc;exact aey A h1 L
 .rename_i x A;simp only[ah]at hc;subst hc;exact aih A L
 .rename_i op t x y t' A;split at hc
  .simp only[ah]at hc;subst hc;exact agt A L
  .simp only[ah]at hc;subst hc;exact agt A L
  .rename_i hu;split at hc
   .simp only[ah]at hc;subst hc;exact ags (neg:=af) A rfl hu L
   .simp only[ah]at hc;subst hc;exact ags (neg:=J) A rfl hu L
   .cases hc
  .rename_i el hu;split at hc
   .simp only[ah]at hc;subst hc;exact WZ (neg:=af) A rfl rfl hu L
   .simp only[ah]at hc;subst hc;exact WZ (neg:=J) A rfl rfl hu L
   .cases hc
  .rename_i fs hu;obtain⟨ds,h1,hc⟩:=bind_some hc;unfold Zu at h1;rw[hu]at h1;simp only[]at h1;split at h1
   .cases h1
   .rename_i hst;have hst:P.stoodInHeld t=af:=by simpa using hst
    split at hc
    .simp only[ah]at hc;subst hc;exact agr (neg:=af) A rfl hu hst h1 L
    .simp only[ah]at hc;subst hc;exact agr (neg:=J) A rfl hu hst h1 L
    .cases hc
  .cases hc
 .rename_i t x A;simp only[ah]at hc;subst hc;exact alu A L
 .rename_i t x A;split at hc
  .simp only[ah]at hc;subst hc;exact alv A L
  .cases hc
 .rename_i s' d x A;split at hc
  .rename_i k k' h1 h2;simp only[ah]at hc;subst hc;exact aip A h1 h2 L
  .cases hc
 .rename_i t l c A;obtain⟨el,h1,hc⟩:=bind_some hc;obtain⟨z,h2,hc⟩:=bind_some hc;obtain⟨sz,U,hc⟩:=bind_some hc;obtain⟨b,h5,hc⟩:=bind_some hc;obtain⟨Z,hc⟩:=mf hc;simp only[al,cU,bne_iff_ne]at Z;simp only[ah]at hc;subst hc;exact aii A (sB h1) h2 U h5 Z.1.1 Z.1.2 Z.2 L
 .rename_i t x lo hi mx A;obtain⟨el,h1,hc⟩:=bind_some hc;obtain⟨sz,h2,rfl⟩:=map_some hc;exact alr A (sB h1) h2 L
 .rename_i t x k A;split at hc
  .rename_i fs hu;obtain⟨f,h1,hc⟩:=bind_some hc;obtain⟨sz,h2,hc⟩:=bind_some hc;obtain⟨U,hc⟩:=mf hc;simp only[ah]at hc;subst hc;exact am4 A hu h1 h2 (by simpa using U) L
  .cases hc
 .rename_i t x k A;split at hc
  .rename_i fs hu;obtain⟨f,h1,hc⟩:=bind_some hc;obtain⟨sz,h2,hc⟩:=bind_some hc;obtain⟨ag,U,rfl⟩:=map_some hc;exact am3 A hu h1 h2 U L
  .cases hc
 .rename_i t x i A;split at hc
  .rename_i el hu;obtain⟨sz,h1,rfl⟩:=map_some hc;exact am2 A hu h1 L
  .rename_i n el hu;obtain⟨sz,h1,rfl⟩:=map_some hc;exact ain A hu h1 L
  .cases hc
 .rename_i t x i A;split at hc
  .rename_i n el hu;obtain⟨sz,h1,hc⟩:=bind_some hc;obtain⟨ag,h2,rfl⟩:=map_some hc;exact am1 A hu h1 h2 L
  .rename_i hu;simp only[ah]at hc;subst hc;exact aif A hu L
  .cases hc
 .rename_i x i A;simp only[ah]at hc;subst hc;exact am5 A L
 .rename_i f first caps A
  obtain⟨h1,hc⟩:=mf hc;simp only[ah]at hc;subst hc;have h2:first=#[]:=by simpa using h1
  subst h2;exact aly A L
 .rename_i t A;split at hc
  .simp only[ah]at hc;subst hc;exact alx A L
  .cases hc
 .rename_i t x k ok A;split at hc
  .rename_i kt el hu;split at hc
   .rename_i q z h1 h2;obtain⟨U,hc⟩:=mf hc;simp only[ah]at hc;subst hc;exact agq (str:=af) A hu h1 ⟨q,rfl⟩ h2 L
   .rename_i z h1 h2;obtain⟨U,hc⟩:=mf hc;simp only[ah]at hc;subst hc;exact agq (str:=J) A hu h1 rfl h2 L
   .cases hc
  .cases hc
 .rename_i t m k v A;split at hc
  .rename_i kt el hu;split at hc
   .rename_i q h1;simp only[ah]at hc;subst hc;exact agp (str:=af) A hu h1 ⟨q,rfl⟩ L
   .rename_i h1;simp only[ah]at hc;subst hc;exact agp (str:=J) A hu h1 rfl L
   .cases hc
  .cases hc
 .rename_i t x A;split at hc
  .rename_i hu;simp only[ah]at hc;subst hc;exact als A hu L
  .cases hc
 .rename_i x A;simp only[ah]at hc;subst hc;exact alt A L
 .rename_i c A;obtain⟨callee,args,argTypes⟩:=c;have arr:∀{α:Type} {x:Array α} {l:Y α},x.toList=l->x=l.toArray:=λh=>by rw[<- h]
  unfold R1 at hc;simp only[]at hc;split at hc
  .split at hc
   .rename_i x t h1 h2;rw[arr h1,arr h2]at A;split at hc
    .rename_i el hu;simp only[ah]at hc;subst hc;exact aim A hu L
    .rename_i hu;simp only[ah]at hc;subst hc;exact ail A hu L
    .rename_i k v hu;simp only[ah]at hc;subst hc;exact aik A hu L
    .cases hc
   .cases hc
  .split at hc
   .rename_i x y h1;rw[arr h1]at A;simp only[ah]at hc;subst hc;exact am0 A L
   .cases hc
  .split at hc
   .rename_i x y h1;rw[arr h1]at A;simp only[ah]at hc;subst hc;exact alz A L
   .cases hc
  .split at hc
   .rename_i d x t u h1 h2;rw[arr h1,arr h2]at A;split at hc
    .rename_i el el' h1 h2;obtain⟨sz,U,hc⟩:=bind_some hc;obtain⟨Z,hc⟩:=mf hc;simp only[ah]at hc;subst hc;exact aio A (sB h1) (sB h2) U L
    .cases hc
   .cases hc
  .split at hc
   .rename_i x t h1 h2;rw[arr h1,arr h2]at A;obtain⟨el,U,hc⟩:=bind_some hc;obtain⟨z,Z,hc⟩:=bind_some hc;obtain⟨sz,h5,hc⟩:=bind_some hc;obtain⟨h6,hc⟩:=mf hc;simp only[al,cU,bne_iff_ne,ne_eq]at h6;simp only[ah]at hc;subst hc;exact am6 A (sB U) Z h6.1.1 h6.1.2 h6.2 L
   .cases hc
  .split at hc
   .rename_i s' x t u h1 h2;rw[arr h1,arr h2]at A;split at hc
    .rename_i el el' h1 h2;obtain⟨sz,U,hc⟩:=bind_some hc;obtain⟨b,Z,hc⟩:=bind_some hc;obtain⟨z,h5,hc⟩:=bind_some hc;obtain⟨h6,hc⟩:=mf hc;simp only[al,cU,bne_iff_ne]at h6;simp only[ah]at hc;subst hc;exact am9 A (sB h1) (sB h2) U Z h5 h6.2 h6.1 L
    .cases hc
   .cases hc
  .cases hc
 .cases hc
theorem mi {p:Nat->Bool}:∀{l:Y AV},AV.allL p l=J->∀x∈l,AV.all p x=J
 |[],_,x,a=>by cases a
 |y::l,h,x,a=>by
  simp only[AV.allL,al]at h;rcases bh.1 a with rfl|a
  .exact h.1
  .exact mi h.2 x a
theorem cM.restrict {φ φ':PM} {O O':Nat->Prop} {w:World} {p:Nat->Bool} (hs:∀i k,p i=J->φ i=M k->φ' i=M k) (q:∀k,O' k->O k) {x:AV} {v:Value} (h:cM φ O w x v):x.all p=J->cM φ' O' w x v:=by
 induction h with
 |f h=>intro _;exact .f (h.ext (O':=O') (HM.refl O w) λk _ hk=>q k hk)
 |ptr h=>intro hp;exact .ptr (hs _ _ hp h)
 |sl h hn hc=>intro hp;exact .sl (hs _ _ hp h) hn hc
 |row h hn hc hsh=>intro hp;exact .row (hs _ _ hp h) hn hc hsh
 |emp=>intro _;exact .emp
 |anyb=>intro _;exact .anyb
 |mp h=>intro hp;exact .mp (hs _ _ hp h)
 |agg hl hcl hr c=>intro hp;exact .agg hl hcl λj x v a hv=>c j x v a hv (mi hp x (aZ a))
 |tup hl hr c=>intro hp;exact .tup hl λj x v a hv=>c j x v a hv (mi hp x (aZ a))
 |clo hl hr c=>intro hp;exact .clo hl λj x v a hv=>c j x v a hv (mi hp x (aZ a))
theorem jd.restrict {φ φ':PM} {O O':Nat->Prop} {w w':World} {p:Nat->Bool} (hk:∀x v,x.all p=J->cM φ O w x v->cM φ' O' w' x v) {b:vG} {o:Obj} (hb:b.c.all p=J) (h:jd φ O w b o):jd φ' O' w' b o:=by
 unfold jd at h ⊢;cases hc:b.c with
 |fz l=>
  rw[hc]at h;obtain⟨arr,h1,h2,A⟩:=h;exact⟨arr,h1,h2,λj x z=>by
   obtain⟨a,v,c,d⟩:=A j x z;refine ⟨a,v,c,hk _ _ ?_ d⟩;simp only[BC.get]at z;cases hl:l[j]? with
   |none=>rw[hl]at z;cases z
   |some q=>rw[hl]at z;simp at z;subst z;rfl⟩
 |mx l=>
  rw[hc]at h hb;obtain⟨arr,h1,h2,A⟩:=h;exact⟨arr,h1,h2,λj x z=>by
   obtain⟨a,v,c,d⟩:=A j x z;exact⟨a,v,c,hk _ _ (mi hb x (aZ z)) d⟩⟩
 |mp es=>
  rw[hc]at h hb;obtain⟨e,c,h1,h2,A⟩:=h;exact⟨e,c,h1,h2,λj x z=>by
   obtain⟨m,a,b⟩:=A j x z;exact⟨m,a,hk _ _ (mi hb x.2 (db.2 ⟨x,aZ z,rfl⟩)) b⟩⟩
 |it s q=>rw[hc]at h;exact h
def aaw (m:Nat):ι:=(dR (m+1)).filter λi=>aM m i
theorem Ml {m i:Nat}:i∈aaw m↔aM m i=J:=by
 unfold aaw;rw[Fj,nI];constructor
 .exact λh=>h.2
 .intro h;refine ⟨?_,h⟩;have h1:=Nat.ge_two_pow_of_testBit h;have h2:=Nat.lt_two_pow_self (n:=i);omega
def ka (φ:PM) (O:Nat->Prop) (w:World):Y AV->ξ->Prop
 |[],[]=>True
 |x::xs,v::vs=>cM φ O w x v/\ka φ O w xs vs
 |_,_=>False
theorem ka.length {φ:PM} {O:Nat->Prop} {w:World}:∀{args:Y AV} {vs:ξ},ka φ O w args vs->vs.length=args.length
 |[],[],_=>rfl
 |[],_::_,h=>h.elim
 |_::_,[],h=>h.elim
 |_::_,_::_,h=>by simp[ka.length h.2]
theorem ka.mono {φ φ':PM} {O O':Nat->Prop} {w w':World} {p:Nat->Bool} (hk:∀x v,x.all p=J->cM φ O w x v->cM φ' O' w' x v):∀{args:Y AV} {vs:ξ},AV.allL p args=J->ka φ O w args vs->ka φ' O' w' args vs
 |[],[],_,_=>trivial
 |[],_::_,_,h=>h.elim
 |_::_,[],_,h=>h.elim
 |x::xs,_::_,hp,h=>by
  simp only[AV.allL,al]at hp;exact⟨hk _ _ hp.1 h.1,ka.mono hk hp.2 h.2⟩
theorem ka.append {φ:PM} {O:Nat->Prop} {w:World}:∀{xs a:Y AV} {vs us:ξ},ka φ O w xs vs->ka φ O w a us->ka φ O w (xs++a) (vs++us)
 |[],_,[],_,_,h=>h
 |[],_,_::_,_,h,_=>h.elim
 |_::_,_,[],_,h,_=>h.elim
 |_::_,_,_::_,_,h,h'=>⟨h.1,ka.append h.2 h'⟩
theorem ka.of {φ:PM} {O:Nat->Prop} {w:World}:∀{xs:Y AV} {vs:ξ},vs.length=xs.length->(∀(j:Nat) x v,xs[j]? =M x->vs[j]? =M v->cM φ O w x v)->ka φ O w xs vs
 |[],[],_,_=>trivial
 |[],_::_,h,_=>by simp at h
 |_::_,[],h,_=>by simp at h
 |x::xs,v::vs,hl,h=>⟨h 0 x v rfl rfl,ka.of (by simpa using hl) λj x v a hv=>h (j+1) x v (by simpa using a) (by simpa using hv)⟩
def DP (P:Program) (f:FuncId):Prop:=∃fn,P.funcs[f]? =M fn∧fn.body.isNone=af∧(fn.name== "runtime.NumGoroutine")=af
theorem On {φ:PM} {E:Nat->Prop} {h':HF} {w:World} {a:Act} {e:zJ} {o:Oper} (hp:Vs φ E h' w a e o):∀(xs:Y Operand) (c:Y AV),(∀x∈xs,x∈o.op.operands)->Wt e xs=M c->ka φ (tot E φ h') w c (xs.map a.eval)
 |[],c,_,h=>by simp only[Wt,ah]at h;subst h;trivial
 |x::xs,c,hm,h=>by
  simp only[Wt]at h;split at h
  .rename_i y q;split at h
   .rename_i ys' hys;simp only[ah]at h;subst h;exact⟨hp x y (hm x (c4 ..)) q,On hp xs ys' (λx s=>hm x (cE _ s)) hys⟩
   .cases h
  .cases h
theorem wX {P:Program} {f:FuncId} (hc:DP P f) (args:Array Value) (w:World):(callFunc f args).run P w= .ok (.enter f args) w:=by
 obtain⟨fn,h1,h2,q⟩:=hc;have a:fn.name≠ "runtime.NumGoroutine" :=by simpa using q
 have c:fn.body≠D:=by intro h;rw[h]at h2;cases h2
 simp[callFunc,program,ki,h1,c,a]
theorem Wn:∀(fs:Y FPm) (i:Nat),XO fs i=fs[i]?
 |[],i=>by simp[XO]
 |f::fs,0=>rfl
 |f::fs,i+1=>by simp[XO,Wn fs i]
theorem xz {a b:Nat} (h:Dn a b=J) (i:Nat) (c:aM a i=J):aM b i=af:=by
 unfold Dn at h;have h0:a&&&b=0:=ar h;have:=Nat.testBit_and a b i;rw[h0,c]at this;simpa using this.symm
structure Ctx where
 n0:Nat
 φ:PM
 E:Nat->Prop
 h:HF
 w:World
def abw (P:Program) (d:Deferred):Prop:=∀w:World,∃c cap f args,d.target= .fn c cap/\(invoke d.target d.args).run P w= .ok (.enter f args) w/\
 CallsD P f args .returning w λe a w'=>(∃v,e= .returned v)/\a= .returning/\w'=w
structure Cfg (P:Program) (C:Ctx) (nt:Nat) (s:IS) (a:Act) (w:World):Prop where
 ex:∃φ,je C.φ φ C.h s.h.get C.w w/\qX φ C.E s.h.get w/\M8 φ (tot C.E φ s.h.get) w s.e.get a/\(∀i k,φ i=M k->i<s.nx)/\∀i k,φ i=M k->C.φ i=M k\/C.n0<=i
 low:C.n0<=s.nx
 inert:∀d∈a.defers,abw P d
 size:a.tmps.size=nt
theorem Cfg.bool {P:Program} {C:Ctx} {nt:Nat} {s:IS} {a:Act} {w:World} (c:Cfg P C nt s a w) {t:Nat} {b:Bool} (ht:s.e.get t=M (.f (.raw (.bool b)))):a.eval (.tmp t)= .bool b:=by
 obtain⟨φ,_,_,en,_,_⟩:=c.ex;exact fm (en t _ ht)
theorem Ca {P:Program} {c:Code} {Q:Exit->Act->World->Prop} (y:Nat->Act->World->Prop) (round:∀n a w,y n a w->c.wp P (Exit.then (λa' w'=>∃m,m<n/\y m a' w') Q) a w) {n:Nat} {a:Act} {w:World} (h0:y n a w):(Code.loop c).wp P Q a w:=by
 have least:∀(n:Nat) (a:Act) (w:World),y n a w->∃m,y m a w/\∀k,y k a w->m<=k:=by
  intro n;induction n using Nat.strongRecOn with
  |_ n z=>
   intro a w hn;by_cases q:∃k,k<n/\y k a w
   .obtain⟨k,hk,s⟩:=q;exact z k hk a w s
   .exact⟨n,hn,λk hk=>Nat.le_of_not_lt λhlt=>q ⟨k,hlt,hk⟩⟩
 have pick:∀a w,∃m,(∃n,y n a w)->y m a w/\∀k,y k a w->m<=k:=λa w=>by
  by_cases q:∃n,y n a w
  .obtain⟨n,hn⟩:=q;obtain⟨m,hm⟩:=least n a w hn;exact⟨m,λ_=>hm⟩
  .exact⟨0,λh=>ct h q⟩
 let μ:Act->World->Nat:=λa w=>Classical.choose (pick a w)
 have hμ:∀a w,(∃n,y n a w)->y (μ a w) a w/\∀k,y k a w->μ a w<=k:=λa w=>Classical.choose_spec (pick a w)
 refine wp_loop (λa w=>∃n,y n a w) μ ⟨n,h0⟩ λa w s=>?_
 refine wp_mono (round (μ a w) a w (hμ a w s).1) λe a' w' he=>?_
 cases e with
 |normal=>
  obtain⟨m,hm,hIm⟩:=he;exact⟨⟨m,hIm⟩,Nat.lt_of_le_of_lt ((hμ a' w' ⟨m,hIm⟩).2 m hIm) hm⟩
 |exit id=>exact he
 |goto l=>exact he
 |ret=>exact he
 |panic c=>exact he
 |outgrown=>exact he
def Ex.to:Ex->Exit
 |.normal=>.normal
 |.exit id=>.exit id
 |.ret=>.ret
def Kz (P:Program) (inert:FuncId->Bool):Prop:=∀f,inert f=J->DP P f/\∀(args:Array Value) (w:World),CallsD P f args .returning w λe a w'=>(∃v,e= .returned v)/\a= .returning/\w'=w
theorem Ri {P:Program} {C:Ctx} {nt:Nat} {inert:FuncId->Bool} (hin:Kz P inert) {s:IS} {a:Act} {w:World} (c:Cfg P C nt s a w) {id:Nat} {ops:Array Oper} {dr:Bool} {f:FuncId} {caps:Y Operand} {t:Nat} (hd:(ops.toList.all λo=>match o.dst with|some d=>decide (d<nt)|none=>J)=J) (hdf:Dq ops dr=M (f,caps,t))
 {l:Y AV} (hl:Wt s.e caps=M l) (hi:inert f=J) {Q:Exit->Act->World->Prop} (hQ:∀a w,Cfg P C nt ⟨s.e.put (M t) (.clo f l),s.h,s.nx,s.wr⟩ a w->Q .normal a w):(Code.region id ops dr).wp P Q a w:=by
 unfold Dq at hdf;split at hdf
 .rename_i p q hops;split at hdf
  .rename_i f' first caps' t1 cl hpo hpg hpd hqo hqg hqd
   split at hdf
   .rename_i t2 hcl hca;split at hdf
    .rename_i hcond;simp only[al]at hcond;obtain⟨h1,h2⟩:=hcond;have h1:=ar h1;have h2:first=#[]:=by simpa using h2
     simp only[ah,aD]at hdf;obtain⟨rfl,rfl,rfl⟩:=hdf;subst h1;subst h2;have hops':ops=#[p,q]:=by rw[<- Array.toArray_toList (xs:=ops),hops]
     obtain⟨φ,m,r,en,dm⟩:=c.ex;obtain⟨hcb,hincalls⟩:=hin f' hi;have htn:t1<nt:=by
      have:=gy.1 hd p (by rw[hops];simp);rw[hpd]at this;simpa using this
     have hrelL:ka φ (tot C.E φ s.h.get) w l (caps'.toList.map a.eval):=by
      have hp':Vs φ C.E s.h.get w a s.e p:=λx y U Z=>tF r (xs:=p.op.operands) (λt _ y Z=>en t y Z) U Z
      exact On hp' caps'.toList l (λx U=>by rw[hpo];simpa[Op.operands] using U) hl
     have hcm:caps'.map a.eval=(caps'.toList.map a.eval).toArray:=by apply KJ;simp
     let A:Value:=.func (.func f') #[] (caps'.map a.eval)
     have hrel:cM φ (tot C.E φ s.h.get) w (.clo f' l) A:=by
      simp only[A];rw[hcm];refine .clo (hrelL.length) ?_;have:∀(xs:Y AV) (vs:ξ),ka φ (tot C.E φ s.h.get) w xs vs->∀(j:Nat) x v,xs[j]? =M x->vs[j]? =M v->cM φ (tot C.E φ s.h.get) w x v:=by
       intro xs;induction xs with
       |nil=>intro vs _ j x v U;simp at U
       |cons y xs ih=>
        intro vs h j x v U hv;cases vs with
        |nil=>exact h.elim
        |cons u vs=>
         cases j with
         |zero=>simp at U hv;subst U;subst hv;exact h.1
         |succ j=>exact ih vs h.2 j x v (by simpa using U) (by simpa using hv)
      exact this _ _ hrelL
     refine wp_region ?_;have hr2:dR ops.size=[0,1]:=by rw[hops'];rfl
     rw[hr2];have e0:ops[0]? =M p:=by rw[hops'];rfl
     have e1:ops[1]? =M q:=by rw[hops'];rfl
     rw[wpOps_cons];have hexec1:(execOp a.eval p).run P w= .ok (.value A) w:=by
      unfold execOp;rw[hpo];simp[Instr.makeFunc,A]
     have w1:iP p (yielded ops a.tmps)=J:=by unfold iP;rw[hpg]
     unfold wpOp;simp only[e0,w1,bF];left;unfold Hh;rw[hexec1];show wpOps P ops Q [1] (a.put p.dst A) w;rw[wpOps_cons];unfold wpOp;have w2:iP q (yielded ops (a.put p.dst A).tmps)=J:=by unfold iP;rw[hqg]
     simp only[e1,w2,bF];left;have heval:(a.put p.dst A).eval (.tmp t1)=A:=by
      show (a.put p.dst A).tmps.getD t1 undef=A;rw[H6 (by intro d z;rw[hpd]at z;cases z;rw[c.size];exact htn),aC hpd]
     have hargs:cl.args=#[]:=by rw[<- Array.toArray_toList (xs:=cl.args),hca]
     have hexec2:(execOp (a.put p.dst A).eval q).run P w= .ok (.defer {target:=.fn (.func f') (caps'.map a.eval),args:=#[]}) w:=by
      unfold execOp;rw[hqo];simp[resolve,hcl,heval,A,Deferred.ofValue,hargs]
     unfold Hh;rw[hexec2];show wpOps P ops Q [] _ w;refine hQ _ _ ⟨⟨φ,m,r,?_,dm⟩,c.low,?_,?_⟩
     .intro u x U;rw[hqd];show cM φ _ w x ((a.put p.dst A).tmps.getD u undef);rw[H6 (by intro d z;rw[hpd]at z;cases z;rw[c.size];exact htn)];have L:(s.e.put (M t1) (.clo f' l)).get u=M x:=U;rw[<- Zq]at L;unfold Cp at L;rw[hpd];by_cases hu:M t1=M u
      .rw[aC hu]at L ⊢;cases L;exact hrel
      .rw[ay hu]at L ⊢;exact en u x L
     .intro d z;rw[hqd]at z;have hd'':d={target:=.fn (.func f') (caps'.map a.eval),args:=#[]}\/d∈(a.put p.dst A).defers:=by
       simpa[Nh] using z
      rcases hd'' with rfl|hd''
      .intro w0;refine ⟨_,_,f',caps'.map a.eval,rfl,?_,hincalls _ w0⟩;simp[invoke,wX hcb]
      .rw[H7]at hd'';exact c.inert d hd''
     .rw[hqd];show (a.put p.dst A).tmps.size=nt;rw[PR];exact c.size
    .cases hdf
   .cases hdf
  .cases hdf
 .cases hdf
def Xi (tmps:Array Value):ResultVar->Sem Value
 |.tmp t=>pure (tmps.getD t undef)
 |.cell a t=>do
  let c<-asAddr (tmps.getD a undef)
  loadVar t c
theorem Tu (fn:Func) (tmps:Array Value):results fn tmps=(do let vs<-fn.results.mapM (Xi tmps);pure (if h:vs.size=1 then vs[0] else .tuple vs)):=by
 unfold results;congr 2
theorem Cz {P:Program} {fn:Func} {tmps:Array Value} {R:Ending->World->Prop} {w:World} {v:Value} (hr:(results fn tmps).run P w= .ok v w) (a:R (.returned v) w):∀(ds:Y Deferred),(∀d∈ds,abw P d)->Leaves P fn tmps R ds .returning w
 |[],_=>⟨v,hr,a⟩
 |d::ds,h=>by
  obtain⟨q,cap,f,args,h1,h2,c⟩:=h d (c4 ..) w;refine ⟨by simp,q,cap,f,args,h1,h2,c.mono ?_⟩;rintro e z w' ⟨⟨s,rfl⟩,rfl,rfl⟩;exact Cz hr a ds λd hd=>h d (cE _ hd)
theorem ka.get {φ:PM} {O:Nat->Prop} {w:World}:∀{xs:Y AV} {vs:ξ},ka φ O w xs vs->∀(j:Nat) x,xs[j]? =M x->∃v,vs[j]? =M v/\cM φ O w x v
 |[],_,_,j,x,a=>by simp at a
 |_::_,[],h,_,_,_=>h.elim
 |y::xs,u::vs,h,j,x,a=>by
  cases j with
  |zero=>simp at a;subst a;exact⟨u,rfl,h.1⟩
  |succ j=>exact ka.get h.2 j x (by simpa using a)
theorem RZ {P:Program} {f:FuncId} {a:SF} (h:zC P f=M a):∃fn c,P.funcs[f]? =M fn∧fn.body=M c∧(fn.name== "runtime.NumGoroutine")=af∧a.code=cj P fn.ntmps c∧vh P fn.results.toList=M a.res∧a.nt=fn.ntmps:=by
 unfold zC at h;split at h
 .rename_i fn hf;split at h
  .cases h
  .rename_i hn;split at h
   .rename_i c r hb hr;simp only[ah]at h;subst h;exact⟨fn,c,hf,hb,by simpa using hn,rfl,hr,rfl⟩
   .cases h
 .cases h
theorem aeo {a b:Value} (h:ai4 a b=J):a=b:=by
 unfold ai4 at h;split at h
 .simp at h;rw[h]
 .simp at h;rw[h.1,h.2]
 .rw[zG.1 h]
 .simp only[al]at h;rw[ar h.1,ar h.2]
 .rfl
 .rename_i x y;simp only[al,Array.isEmpty_iff]at h;rw[h.1,h.2]
 .cases h
def PT.mapO {α β:Type} (g:α->I β):PT α->PT β
 |.leaf=>.leaf
 |.node v l r=>.node (v.bind g) (PT.mapO g l) (PT.mapO g r)
theorem PT.get_mapO {α β:Type} (g:α->I β):∀(t:PT α) (i:Nat),(PT.mapO g t).get i=(t.get i).bind g
 |.leaf,i=>by simp[PT.mapO,PT.get]
 |.node v l r,0=>by simp[PT.mapO,PT.get]
 |.node v l r,j+1=>by
  simp only[PT.mapO,PT.get];split
  .exact PT.get_mapO g l _
  .exact PT.get_mapO g r _
theorem PT.get_updI {α:Type} (f:Nat->α->α):∀(t:PT α) (a b i:Nat),(PT.updI f a b t).get i=(t.get i).map (f (a*i+b))
 |.leaf,_,_,i=>by simp[PT.updI,PT.get]
 |.node v l r,a,b,0=>by cases v<;>simp[PT.updI,PT.get]
 |.node v l r,a,b,j+1=>by
  simp only[PT.updI,PT.get];split
  .rename_i hj;rw[PT.get_updI f l];have:2*a*(j/2)+(a+b)=a*(j+1)+b:=by
    have h2:j=2*(j/2):=by have:=ar hj;omega
    have c:2*a*(j/2)=a*j:=by rw[Hi 2 a,Nat.mul_assoc,<-h2]
    rw[c,Nat.mul_add];omega
   rw[this]
  .rename_i hj;rw[PT.get_updI f r];have:2*a*(j/2)+(2*a+b)=a*(j+1)+b:=by
    have h1:j%2≠0:=λh=>hj (by rw[h];rfl)
    have h2:j=2*(j/2)+1:=by omega
    have c:2*a*(j/2)=a*(2*(j/2)):=by rw[Hi 2 a,Nat.mul_assoc]
    have q:a*(j+1)=a*(2*(j/2))+2*a:=by
     conv=>lhs;rw[h2]
     rw[Nat.mul_add,Nat.mul_add];omega
    rw[c,q];omega
   rw[this]
theorem PT.bound {α:Type}:∀(t:PT α),∃B,∀i,B<=i->t.get i=D
 |.leaf=>⟨0,λi _=>rfl⟩
 |.node v l r=>by
  obtain⟨a,c⟩:=PT.bound l;obtain⟨b,hb⟩:=PT.bound r;refine ⟨2*(a+b)+3,λi hi=>?_⟩;cases i with
  |zero=>omega
  |succ j=>
   simp only[PT.get];split
   .exact c _ (by omega)
   .exact hb _ (by omega)
def PT.ofF {α:Type} (f:Nat->I α):Nat->PT α
 |0=>.leaf
 |n+1=>(PT.ofF f n).set n (f n)
theorem PT.get_ofF {α:Type} (f:Nat->I α):∀(n i:Nat),(PT.ofF f n).get i=if i<n then f i else D
 |0,i=>by simp[PT.ofF,PT.get]
 |n+1,i=>by
  rw[PT.ofF,PT.get_set,PT.get_ofF f n];by_cases h:i=n
  .subst h;simp
  .rw[ay h];by_cases h2:i<n
   .rw[aC h2,aC (by omega)]
   .rw[ay h2,ay (by omega)]
def nm (i:Nat):Nat:=2*i
def ow (n:Nat):Nat:=n/2
theorem dS (i:Nat):ow (nm i)=i:=by unfold ow nm;omega
theorem kY {i j:Nat} (h:nm i=nm j):i=j:=by unfold nm at h;omega
def fG (p:Bool) (id sz n:Nat):AV:=if p&&n==0 then .emp else .row (nm id) sz n
mutual
def ci (h:bg):TV->I AV
 |.f T v=>M (.f (gB T v))
 |.fel T xs j _ off=>M (.f (.ptr (xs.flatMap (bS T)) (j.toNat*T.size+off)))
 |.pel id sz j off=>M (.ptr (nm id) (j.toNat*sz+off))
 |.ptr id off=>M (.ptr (nm id) off)
 |.csl id sz n=>M (.row (nm id) sz n)
 |.row id=>match eH h id with|some (p,sz,n)=>M (fG p id sz n)|none=>D
 |.rtl id j=>match eH h id with|some (_,sz,n)=>M (.sl (nm id) (j.toNat*sz) (n-j.toNat))|none=>D
 |.emp=>M .emp
 |.nil=>M (.f (.raw (.slice D 0 0)))
 |.mp id=>M (.mp (nm id))
 |.agg l=>match cJ h l with|some l'=>M (.agg l')|none=>D
 |.tup l=>match cJ h l with|some l'=>M (.tup l')|none=>D
 |.clo g l=>match cJ h l with|some l'=>M (.clo g l')|none=>D
 |.undef=>M (.f (.raw undef))
 |.np=>M (.f (.raw (.pointer D)))
 |.anyb=>M .anyb
def cJ (h:bg):Y TV->I (Y AV)
 |[]=>M []
 |x::r=>match ci h x with
  |some y=>(match cJ h r with|some l=>M (y::l)|none=>D)
  |none=>D
end
def pN:(K:Ty)->K.den->Value
 |.int k,n=>.int k n
 |.str,s=>.string ⟨kQ s⟩
 |_,_=>undef
def ZJ:(K V:Ty)->Y (K.den×V.den)->BC
 |.st (.pr .str (.int .i64)),.un,es=>.it ⟨kQ (Ph es)⟩ (NQ es)
 |K,V,es=>.mp (es.map λp=>(pN K p.1,.f (gB V p.2)))
theorem yM {K V:Ty} {es:Y (K.den×V.den)} (h:TK K=J):ZJ K V es= .mp (es.map λp=>(pN K p.1,.f (gB V p.2))):=by
 unfold ZJ;split
 .cases h
 .rfl
theorem ahn {K V:Ty} {es:Y (K.den×V.den)} {s:ζ} {p:Nat} (h:itE K V es=M (s,p)):ZJ K V es= .it ⟨kQ s⟩ p:=by
 unfold itE at h;split at h
 .cases h;rfl
 .cases h
def oO:Nat->Y AV->Y (Value×AV)
 |_,[]=>[]
 |i,v::r=>(.int .i64 (aN i),v)::oO (i+1) r
theorem CF:∀(l:Y AV) (i j:Nat),(oO i l)[j]? =(l[j]?).map λv=>(.int .i64 (aN (i+j)),v)
 |[],i,j=>rfl
 |v::r,i,0=>rfl
 |v::r,i,j+1=>by
  rw[oO,List.getElem?_cons_succ,CF r (i+1) j,show i+1+j=i+(j+1) from by omega];rfl
theorem Em (k:Value):∀(l:Y AV) (i:Nat),k∈(oO i l).map (·.1)->v_ k
 |v::r,i,h=>by
  rcases bh.1 h with h|h
  .exact⟨_,h⟩
  .exact Em k r (i+1) h
theorem Mp:∀(l:Y AV) (i:Nat),(oO i l).map (·.2)=l
 |[],_=>rfl
 |v::r,i=>by rw[oO,eS,Mp r (i+1)]
theorem Qc (f:AV->AV):∀(l:Y AV) (i:Nat),(oO i l).map (λp=>(p.1,f p.2))=oO i (l.map f)
 |[],_=>rfl
 |v::r,i=>by rw[oO,eS,Qc f r (i+1)];rfl
theorem Mq:∀(l:Y AV) (i n:Nat),told (aN (i+n)) (oO i l)=l[n]?
 |[],i,n=>rfl
 |v::r,i,0=>by rw[oO,told,cZ,aC rfl];rfl
 |v::r,i,n+1=>by
  rw[oO,told,ay (λe=>by have:=Int.ofNat.inj e;omega),show i+(n+1)=i+1+n from by omega,Mq r (i+1) n];rfl
theorem Mr (y:AV) (n:Int):∀(l:Y AV) (i:Nat),n<aN i->lO n y (oO i l)=oO i l
 |[],i,_=>rfl
 |v::r,i,h=>by
  simp only[oO,lO];rw[Mr y n r (i+1) (Int.lt_trans h (Int.ofNat_lt.2 (qN i))),ay (λe=>by rw[e]at h;exact Int.lt_irrefl _ h)]
theorem Qb (y:AV):∀(l:Y AV) (i n:Nat),lO (aN (i+n)) y (oO i l)=oO i (l.set n y)
 |[],i,n=>rfl
 |v::r,i,0=>by
  simp only[oO,lO,cZ,List.set_cons_zero];rw[Mr y (aN i) r (i+1) (Int.ofNat_lt.2 (qN i)),aC trivial]
 |v::r,i,n+1=>by
  simp only[oO,lO,List.set_cons_succ];rw[ay (λe=>by have:=Int.ofNat.inj e;omega),show i+(n+1)=i+1+n from by omega,Qb y r (i+1) n]
theorem W3 {ty:TypeId} {es:Y (Value×AV)} {ents:Array MapEntry} (f:AV->AV):W5 ty (es.map λp=>(p.1,f p.2)) ents=W5 ty es ents:=by unfold W5;rw[Hj];rfl
theorem Tn {α:Type} {l:Y α} {n:Nat} {x:α} (h:n<l.length):splice l n [x]=l.set n x:=by
 rw[List.set_eq_take_append_cons_drop,aC h];simp[splice]
def jC (h:bg):io->I vG
 |.rows ty p T xs=>if p&&xs.length==0 then D else M ⟨ty,.fz (xs.flatMap (bS T))⟩
 |.cells (M ty) l=>match cJ h l with|some a=>M ⟨ty,.mx a⟩|none=>D
 |.cells D l=>match cJ h l with|some a=>M ⟨1,.mp (oO 0 a)⟩|none=>D
 |.dead _ _ _=>D
 |.mp K V es=>M ⟨0,ZJ K V es⟩
def fO (e:iT) (h:bg):EF:=λt=>(e.get t).bind (ci h)
def bt (h:bg):HF:=λn=>if n%2=0 then (h.get (n/2)).bind (jC h) else D
theorem bE (h:bg) (i:Nat):bt h (nm i)=(h.get i).bind (jC h):=by
 unfold bt nm;rw[aC (by omega),show 2*i/2=i from by omega]
theorem jB {h:bg} {n:Nat} {b:vG} (hb:bt h n=M b):∃i c,n=nm i/\h.get i=M c/\jC h c=M b:=by
 unfold bt at hb;split at hb
 .cases hc:h.get (n/2) with
  |none=>rw[hc]at hb;cases hb
  |some c=>rw[hc]at hb;exact⟨n/2,c,by unfold nm;omega,hc,hb⟩
 .cases hb
def Jg (e:iT) (h:bg):zJ:=PT.mapO (ci h) e
theorem uY (e:iT) (h:bg):(Jg e h).get=fO e h:=by funext t;exact PT.get_mapO _ _ _
theorem jS (h:bg):∃H:oh,H.get=bt h:=by
 obtain⟨B,a⟩:=PT.bound h;refine ⟨PT.ofF (bt h) (2*B),?_⟩;funext n;rw[PT.get_ofF];split
 .rfl
 .unfold bt;split
  .rw[a _ (by omega)];rfl
  .rfl
theorem cY {h:bg} {x:TV} {r:Y TV} {l:Y AV} (he:cJ h (x::r)=M l):∃y a,l=y::a/\ci h x=M y/\cJ h r=M a:=by
 simp only[cJ]at he;split at he
 .rename_i y c;split at he
  .rename_i a hl;simp only[ah]at he;exact⟨y,a,he.symm,c,hl⟩
  .cases he
 .cases he
theorem o7 {h:bg} {x:TV} {r:Y TV} {y:AV} {a:Y AV} (h1:ci h x=M y) (h2:cJ h r=M a):cJ h (x::r)=M (y::a):=by
 simp only[cJ,h1,h2]
theorem gI {h:bg}:∀{l:Y TV} {a:Y AV},cJ h l=M a->a.length=l.length
 |[],a,he=>by simp only[cJ,ah]at he;subst he;rfl
 |x::r,a,he=>by
  obtain⟨y,l2,rfl,_,h2⟩:=cY he;simp[gI h2]
theorem nE {h:bg}:∀{a b:Y TV} {a' b':Y AV},cJ h a=M a'->cJ h b=M b'->cJ h (a++b)=M (a'++b')
 |[],b,a',b',c,hb=>by simp only[cJ,ah]at c;subst c;exact hb
 |x::r,b,a',b',c,hb=>by
  obtain⟨y,l2,rfl,h1,h2⟩:=cY c;exact o7 h1 (nE h2 hb)
theorem BS {h:bg}:∀{a b:Y TV} {l:Y AV},cJ h (a++b)=M l->∃a' b',l=a'++b'/\cJ h a=M a'/\cJ h b=M b'
 |[],b,l,he=>⟨[],l,rfl,rfl,he⟩
 |x::r,b,l,he=>by
  obtain⟨y,l2,rfl,h1,h2⟩:=cY he;obtain⟨a',b',rfl,q,c⟩:=BS h2;exact⟨y::a',b',rfl,o7 h1 q,c⟩
theorem EM {h:bg}:∀{l:Y TV} {a:Y AV} (n:Nat),cJ h l=M a->cJ h (l.take n)=M (a.take n)
 |[],a,n,he=>by simp only[cJ,ah]at he;subst he;simp[cJ]
 |x::r,a,n,he=>by
  obtain⟨y,l2,rfl,h1,h2⟩:=cY he;cases n with
  |zero=>simp[cJ]
  |succ n=>exact o7 h1 (EM n h2)
theorem EP {h:bg}:∀{l:Y TV} {a:Y AV} (n:Nat),cJ h l=M a->cJ h (l.drop n)=M (a.drop n)
 |[],a,n,he=>by simp only[cJ,ah]at he;subst he;simp[cJ]
 |x::r,a,n,he=>by
  obtain⟨y,l2,rfl,h1,h2⟩:=cY he;cases n with
  |zero=>exact he
  |succ n=>simpa using EP n h2
theorem pO {h:bg} {l vs:Y TV} {a vs':Y AV} (off:Nat) (h1:cJ h l=M a) (h2:cJ h vs=M vs'):cJ h (splice l off vs)=M (splice a off vs'):=by
 unfold splice;rw[gI h2];exact nE (nE (EM _ h1) h2) (EP _ h1)
theorem lm {h:bg}:∀{l:Y TV} {a:Y AV},cJ h l=M a->∀(j:Nat) x,l[j]? =M x->∃y,a[j]? =M y/\ci h x=M y
 |[],a,he,j,x,q=>by simp at q
 |x::r,a,he,j,z,c=>by
  obtain⟨y,l2,rfl,h1,h2⟩:=cY he;cases j with
  |zero=>simp at c;subst c;exact⟨y,rfl,h1⟩
  |succ j=>simpa using lm h2 j z (by simpa using c)
mutual
theorem pa (h:bg):∀(u:TV),K3 h u=J->∃y,ci h u=M y
 |.f _ _,_=>⟨_,rfl⟩
 |.fel _ _ _ _ _,_=>⟨_,rfl⟩
 |.pel _ _ _ _,_=>⟨_,rfl⟩
 |.ptr _ _,_=>⟨_,rfl⟩
 |.csl _ _ _,_=>⟨_,rfl⟩
 |.row id,he=>by
  simp only[K3]at he;cases hr:eH h id with
  |none=>rw[hr]at he;cases he
  |some r=>obtain⟨p,sz,n⟩:=r;exact⟨_,by simp only[ci,hr];rfl⟩
 |.rtl id jj,he=>by
  simp only[K3]at he;cases hr:eH h id with
  |none=>rw[hr]at he;cases he
  |some r=>obtain⟨p,sz,n⟩:=r;exact⟨_,by simp only[ci,hr];rfl⟩
 |.emp,_=>⟨_,rfl⟩
 |.nil,_=>⟨_,rfl⟩
 |.mp _,_=>⟨_,rfl⟩
 |.agg l,he=>by obtain⟨y,hy⟩:=fd h l he;exact⟨_,by simp only[ci,hy];rfl⟩
 |.tup l,he=>by obtain⟨y,hy⟩:=fd h l he;exact⟨_,by simp only[ci,hy];rfl⟩
 |.clo g l,he=>by obtain⟨y,hy⟩:=fd h l he;exact⟨_,by simp only[ci,hy];rfl⟩
 |.undef,_=>⟨_,rfl⟩
 |.np,_=>⟨_,rfl⟩
 |.anyb,_=>⟨_,rfl⟩
theorem fd (h:bg):∀(l:Y TV),kX h l=J->∃l',cJ h l=M l'
 |[],_=>⟨[],rfl⟩
 |x::r,he=>by
  simp only[kX,al]at he;obtain⟨y,hy⟩:=pa h x he.1;obtain⟨l',hl⟩:=fd h r he.2;exact⟨_,o7 hy hl⟩
end
def bZ (h h':bg):Prop:=∀id r,eH h id=M r->eH h' id=M r
mutual
theorem gp {h h':bg} (hk:bZ h h'):∀(u:TV) (y:AV),ci h u=M y->ci h' u=M y
 |.f _ _,y,he=>he
 |.fel _ _ _ _ _,y,he=>he
 |.pel _ _ _ _,y,he=>he
 |.ptr _ _,y,he=>he
 |.csl _ _ _,y,he=>he
 |.row id,y,he=>by
  simp only[ci]at he ⊢;split at he
  .rename_i p sz n hr;rw[hk _ _ hr];exact he
  .cases he
 |.rtl id jj,y,he=>by
  simp only[ci]at he ⊢;split at he
  .rename_i p sz n hr;rw[hk _ _ hr];exact he
  .cases he
 |.emp,y,he=>he
 |.nil,y,he=>he
 |.mp _,y,he=>he
 |.agg l,y,he=>by
  simp only[ci]at he ⊢;split at he
  .rename_i l' hl;rw[gm hk l l' hl];exact he
  .cases he
 |.tup l,y,he=>by
  simp only[ci]at he ⊢;split at he
  .rename_i l' hl;rw[gm hk l l' hl];exact he
  .cases he
 |.clo g l,y,he=>by
  simp only[ci]at he ⊢;split at he
  .rename_i l' hl;rw[gm hk l l' hl];exact he
  .cases he
 |.undef,y,he=>he
 |.np,y,he=>he
 |.anyb,y,he=>he
theorem gm {h h':bg} (hk:bZ h h'):∀(l:Y TV) (l':Y AV),cJ h l=M l'->cJ h' l=M l'
 |[],l',he=>he
 |x::r,l',he=>by
  obtain⟨y,l2,rfl,h1,h2⟩:=cY he;exact o7 (gp hk x y h1) (gm hk r l2 h2)
end
mutual
theorem mU {h h':bg} (hk:bZ h h'):∀(u:TV),K3 h u=J->K3 h' u=J
 |.f _ _,_=>rfl
 |.fel _ _ _ _ _,_=>rfl
 |.pel _ _ _ _,_=>rfl
 |.ptr _ _,_=>rfl
 |.csl _ _ _,_=>rfl
 |.row id,he=>by
  simp only[K3]at he ⊢;cases hr:eH h id with
  |none=>rw[hr]at he;cases he
  |some r=>rw[hk _ _ hr];rfl
 |.rtl id jj,he=>by
  simp only[K3]at he ⊢;cases hr:eH h id with
  |none=>rw[hr]at he;cases he
  |some r=>rw[hk _ _ hr];rfl
 |.emp,_=>rfl
 |.nil,_=>rfl
 |.mp _,_=>rfl
 |.agg l,he=>iZ hk l he
 |.tup l,he=>iZ hk l he
 |.clo g l,he=>iZ hk l he
 |.undef,_=>rfl
 |.np,_=>rfl
 |.anyb,_=>rfl
theorem iZ {h h':bg} (hk:bZ h h'):∀(l:Y TV),kX h l=J->kX h' l=J
 |[],_=>rfl
 |x::r,he=>by
  simp only[kX,al]at he ⊢;exact⟨mU hk x he.1,iZ hk r he.2⟩
end
mutual
theorem EL (h:bg):∀(u:TV) (y:AV),ci h u=M y->K3 h u=J
 |.f _ _,_,_=>rfl
 |.fel _ _ _ _ _,_,_=>rfl
 |.pel _ _ _ _,_,_=>rfl
 |.ptr _ _,_,_=>rfl
 |.csl _ _ _,_,_=>rfl
 |.row id,y,he=>by
  simp only[K3,ci]at he ⊢;cases hr:eH h id with
  |none=>rw[hr]at he;cases he
  |some r=>rfl
 |.rtl id jj,y,he=>by
  simp only[K3,ci]at he ⊢;cases hr:eH h id with
  |none=>rw[hr]at he;cases he
  |some r=>rfl
 |.emp,_,_=>rfl
 |.nil,_,_=>rfl
 |.mp _,_,_=>rfl
 |.agg l,y,he=>by
  simp only[ci]at he;split at he
  .rename_i l' hl;exact j6 h l l' hl
  .cases he
 |.tup l,y,he=>by
  simp only[ci]at he;split at he
  .rename_i l' hl;exact j6 h l l' hl
  .cases he
 |.clo g l,y,he=>by
  simp only[ci]at he;split at he
  .rename_i l' hl;exact j6 h l l' hl
  .cases he
 |.undef,_,_=>rfl
 |.np,_,_=>rfl
 |.anyb,_,_=>rfl
theorem j6 (h:bg):∀(l:Y TV) (l':Y AV),cJ h l=M l'->kX h l=J
 |[],_,_=>rfl
 |x::r,l',he=>by
  obtain⟨y,l2,rfl,h1,h2⟩:=cY he;simp only[kX,al];exact⟨EL h x y h1,j6 h r l2 h2⟩
end
mutual
theorem Q4 (h h':bg):∀(u:TV),uf u=J->ci h u=ci h' u
 |.f _ _,_=>rfl
 |.fel _ _ _ _ _,_=>rfl
 |.pel _ _ _ _,_=>rfl
 |.ptr _ _,_=>rfl
 |.csl _ _ _,_=>rfl
 |.row id,he=>by cases he
 |.emp,_=>rfl
 |.nil,_=>rfl
 |.mp _,_=>rfl
 |.agg l,he=>by simp only[ci];rw[EO h h' l he]
 |.tup l,he=>by simp only[ci];rw[EO h h' l he]
 |.clo g l,he=>by cases he
 |.undef,_=>rfl
 |.np,_=>rfl
 |.anyb,_=>rfl
theorem EO (h h':bg):∀(l:Y TV),qx l=J->cJ h l=cJ h' l
 |[],_=>rfl
 |x::r,he=>by
  simp only[qx,al]at he;simp only[cJ];rw[Q4 h h' x he.1,EO h h' r he.2]
end
theorem NR {h:bg} {u:TV} {y:AV} (he:ci h u=M y) (hc:u.isC=J):y.isCell=J:=by
 cases u with
 |f T v=>cases T<;>simp only[ci,ah]at he<;>subst he<;>first|rfl|(simp [TV.isC,Ty.one]at hc)
 |fel T xs j hj off=>simp only[ci,ah]at he;subst he;rfl
 |pel id sz j off=>simp only[ci,ah]at he;subst he;rfl
 |ptr id off=>simp only[ci,ah]at he;subst he;rfl
 |csl id off z=>simp only[ci,ah]at he;subst he;rfl
 |row id=>
  simp only[ci]at he;split at he
  .simp only[ah]at he;subst he;unfold fG;split<;>rfl
  .cases he
 |rtl id a=>cases hc
 |emp=>simp only[ci,ah]at he;subst he;rfl
 |nil=>simp only[ci,ah]at he;subst he;rfl
 |mp id=>simp only[ci,ah]at he;subst he;rfl
 |agg l=>cases hc
 |tup l=>cases hc
 |clo g l=>
  simp only[ci]at he;split at he
  .simp only[ah]at he;subst he;rfl
  .cases he
 |undef=>cases hc
 |np=>simp only[ci,ah]at he;subst he;rfl
 |anyb=>cases hc
theorem r8 {h:bg}:∀{l:Y TV} {a:Y AV},cJ h l=M a->kH l=J->gK a=J
 |[],a,he,_=>by simp only[cJ,ah]at he;subst he;rfl
 |x::r,a,he,hc=>by
  obtain⟨y,l2,rfl,h1,h2⟩:=cY he;simp only[kH,al]at hc;simp only[gK,al];exact⟨NR h1 hc.1,r8 h2 hc.2⟩
def Le (x y:AV):Prop:=∀(φ:PM) (O:Nat->Prop) (w:World) (v:Value),cM φ O w x v->cM φ O w y v
theorem Le.refl (x:AV):Le x x:=λ_ _ _ _ h=>h
def lI (H H':HF) (x y:AV):Prop:=∀(φ:PM) (E:Nat->Prop) (w:World) (v:Value),qX φ E H w->cM φ (tot E φ H) w x v->cM φ (tot E φ H') w y v
def uJ (H H':HF):Prop:=∀i b,H' i=M b->∃b0,H i=M b0
theorem uJ.refl (H:HF):uJ H H:=λ_ b h=>⟨b,h⟩
theorem uJ.own {H H':HF} (d:uJ H H') {φ:PM} {k:Nat} (h:own φ H' k):own φ H k:=by
 obtain⟨i,b,h1,h2⟩:=h;obtain⟨b0,a⟩:=d i b h1;exact⟨i,b0,a,h2⟩
theorem uJ.tot {H H':HF} (d:uJ H H') {E:Nat->Prop} {φ:PM} {k:Nat} (h:tot E φ H' k):tot E φ H k:=h.imp id d.own
theorem cM.dom {H H':HF} (d:uJ H H') {φ:PM} {E:Nat->Prop} {w:World} {x:AV} {v:Value} (h:cM φ (tot E φ H) w x v):cM φ (tot E φ H') w x v:=
 h.ext (λ_ _ h=>h) (HM.refl _ w) λ_ _ hk=>d.tot hk
theorem nH.dom {H H':HF} (d:uJ H H') {φ:PM} {E:Nat->Prop} {w:World} {x:FV} {v:Value} (h:nH (tot E φ H) w x v):nH (tot E φ H') w x v:=
 h.ext (HM.refl _ w) λ_ _ hk=>d.tot hk
theorem Le.toH {H H':HF} (d:uJ H H') {x y:AV} (h:Le x y):lI H H' x y:=λφ E w v _ hr=>(h _ _ _ _ hr).dom d
theorem lI.refl {H H':HF} (d:uJ H H') (x:AV):lI H H' x x:=(Le.refl x).toH d
def ib (H H':HF):Y AV->Y AV->Prop
 |[],[]=>True
 |x::xs,y::a=>lI H H' x y/\ib H H' xs a
 |_,_=>False
theorem ib.refl {H H':HF} (d:uJ H H'):∀l,ib H H' l l
 |[]=>trivial
 |x::r=>⟨lI.refl d x,ib.refl d r⟩
theorem ib.length {H H':HF}:∀{l a:Y AV},ib H H' l a->a.length=l.length
 |[],[],_=>rfl
 |[],_::_,h=>h.elim
 |_::_,[],h=>h.elim
 |_::_,_::_,h=>by simp[ib.length h.2]
theorem ib.get {H H':HF}:∀{l c:Y AV},ib H H' l c->∀(j:Nat) y,c[j]? =M y->∃x,l[j]? =M x/\lI H H' x y
 |[],[],_,j,y,a=>by simp at a
 |[],_::_,h,_,_,_=>h.elim
 |_::_,[],h,_,_,_=>h.elim
 |x::xs,z::ys,h,j,y,a=>by
  cases j with
  |zero=>simp at a;subst a;exact⟨x,rfl,h.1⟩
  |succ j=>simpa using ib.get h.2 j y (by simpa using a)
theorem ib.append {H H':HF}:∀{a a' b b':Y AV},ib H H' a a'->ib H H' b b'->ib H H' (a++b) (a'++b')
 |[],[],_,_,_,h=>h
 |[],_::_,_,_,h,_=>h.elim
 |_::_,[],_,_,h,_=>h.elim
 |_::_,_::_,_,_,h,h'=>⟨h.1,ib.append h.2 h'⟩
theorem ib.take {H H':HF}:∀{a a':Y AV} (n:Nat),ib H H' a a'->ib H H' (a.take n) (a'.take n)
 |[],[],n,_=>by simp[ib]
 |[],_::_,_,h=>h.elim
 |_::_,[],_,h=>h.elim
 |_::_,_::_,0,_=>trivial
 |_::_,_::_,n+1,h=>⟨h.1,ib.take n h.2⟩
theorem ib.drop {H H':HF}:∀{a a':Y AV} (n:Nat),ib H H' a a'->ib H H' (a.drop n) (a'.drop n)
 |[],[],n,_=>by simp[ib]
 |[],_::_,_,h=>h.elim
 |_::_,[],_,h=>h.elim
 |_::_,_::_,0,h=>h
 |_::_,_::_,n+1,h=>ib.drop n h.2
theorem ib.splice {H H':HF} {a a' b b':Y AV} (off:Nat) (h1:ib H H' a a') (h2:ib H H' b b'):ib H H' (splice a off b) (splice a' off b'):=by
 unfold AI.splice;rw[h2.length];exact ((h1.take off).append h2).append (h1.drop _)
def iJ (H H':HF) (b b':vG):Prop:=∀(φ:PM) (E:Nat->Prop) (w:World) (o:Obj),qX φ E H w->jd φ (tot E φ H) w b o->jd φ (tot E φ H') w b' o
theorem iJ.refl {H H':HF} (d:uJ H H') (b:vG):iJ H H' b b:=λ_ _ _ _ _ h=>h.mono λ_ _ h=>h.dom d
theorem pG {φ:PM} {O:Nat->Prop} {w:World} {ty:TypeId} {c:BC} {o:Obj} (hc:c.isCells=J):jd φ O w ⟨ty,c⟩ o↔∃arr,o= .cells arr ty (0,0)/\vk φ O w c arr:=by
 unfold jd;cases c<;>simp[BC.isCells]at hc<;>rfl
theorem iJ.cells {H H':HF} {ty:TypeId} {c c':BC} (hc:c.isCells=J) (a:c'.isCells=J) (hl:ib H H' c.toMx c'.toMx) (hcell:∀x∈c'.toMx,x.isCell=J):iJ H H' ⟨ty,c⟩ ⟨ty,c'⟩:=by
 intro φ E w o hrep s;rw[pG hc]at s;rw[pG a];obtain⟨arr,h1,h2,U⟩:=s;refine ⟨arr,h1,by rw[BC.len_toMx a,hl.length,<-BC.len_toMx hc];exact h2,λj x q=>?_⟩;rw[BC.get_toMx a]at q;refine ⟨hcell x (aZ q),?_⟩;obtain⟨y,z,hle⟩:=hl.get j x q;obtain⟨_,v,L,A⟩:=U j y (by rw[BC.get_toMx hc];exact z);exact⟨v,L,hle _ _ _ _ hrep A⟩
def WF (ty:I TypeId) (l:Y AV):vG:=match ty with
 |some ty=>⟨ty,.mx l⟩
 |none=>⟨1,.mp (oO 0 l)⟩
theorem aiu {es:Y (Value×AV)} {ents:Array MapEntry}:W5 1 es ents↔(∀m∈ents.toList,v_ m.key)/\∀k∈es.map (·.1),v_ k:=by
 unfold W5;rw[ay (by decide)]
theorem MpV1 {ents:Array MapEntry} {j:Nat} {k v:Value}:MpV 1 ents j k v↔v=kw k ents.toList:=by
 unfold MpV;rw[ay (by decide)]
theorem iJ.told {H H':HF} {l c:Y AV} (hl:ib H H' l c):iJ H H' ⟨1,.mp (oO 0 l)⟩ ⟨1,.mp (oO 0 c)⟩:=by
 intro φ E w o hrep s;obtain⟨ents,clock,h1,h2,U⟩:=s;refine ⟨ents,clock,h1,aiu.2 ⟨(aiu.1 h2).1,λk hk=>Em k _ _ hk⟩,λj x a=>?_⟩;rw[CF]at a;cases hj:c[j]? with
 |none=>rw[hj]at a;cases a
 |some y=>
  rw[hj]at a;cases a;obtain⟨z,q,hle⟩:=hl.get j y hj;obtain⟨v,L,A⟩:=U j _ (by rw[CF,q];rfl);exact⟨v,L,hle _ _ _ _ hrep A⟩
theorem iJ.lay {H H':HF} (n:Nat):iJ H H' ⟨0,.mp []⟩ ⟨1,.mp (oO 0 (aB n (.f (.raw (.slice D 0 0)))))⟩:=by
 intro φ E w o hrep q;obtain⟨ents,clock,h1,h2,s⟩:=q;have h2:ents.toList.map (·.key)=[]:=by unfold W5 at h2;rw[aC rfl]at h2;exact h2
 have c:ents.toList=[]:=List.map_eq_nil_iff.1 h2;refine ⟨ents,clock,h1,aiu.2 ⟨λm hm=>(by rw[c]at hm;cases hm),λk hk=>Em k _ _ hk⟩,λj x a=>?_⟩;rw[CF]at a;cases hj:(aB n (AV.f (.raw (.slice D 0 0))))[j]? with
 |none=>rw[hj]at a;cases a
 |some y=>
  rw[hj]at a;cases a;have hm:=aZ hj;rw[List.mem_replicate]at hm;obtain⟨_,rfl⟩:=hm;exact⟨_,MpV1.2 rfl,by rw[c];exact .f (.raw _)⟩
theorem iJ.eq {H H':HF} (d:uJ H H') {ty:TypeId} {c c':BC} (hc:c.isCells=J) (a:c'.isCells=J) (hl:c.toMx=c'.toMx):iJ H H' ⟨ty,c⟩ ⟨ty,c'⟩:=by
 intro φ E w o hrep s;rw[pG hc]at s;rw[pG a];obtain⟨arr,h1,h2,U⟩:=s;refine ⟨arr,h1,by rw[BC.len_toMx a,<-hl,<-BC.len_toMx hc];exact h2,λj x q=>?_⟩;rw[BC.get_toMx a,<-hl,<-BC.get_toMx hc]at q;obtain⟨L,v,A,z⟩:=U j x q;exact⟨L,v,A,z.dom d⟩
structure G' (H H':HF):Prop where
 dom:uJ H H'
 blk:∀i b b',H i=M b->H' i=M b'->iJ H H' b b'
theorem G'.refl (H:HF):G' H H:=⟨uJ.refl H,λi b b' h h'=>by rw[h]at h';cases h';exact iJ.refl (uJ.refl H) b⟩
theorem G'.rep {H H':HF} (V:G' H H') {φ:PM} {E:Nat->Prop} {w:World} (r:qX φ E H w):qX φ E H' w:=by
 refine ⟨λi j b b' k c A z s=>?_,λi b c=>?_,r.el,λg cells hg=>(r.gl g cells hg).dom V.dom⟩
 .obtain⟨b0,a⟩:=V.dom i b c;obtain⟨b1,q⟩:=V.dom j b' A;exact r.inj i j b0 b1 k a q z s
 .obtain⟨b0,a⟩:=V.dom i b c;obtain⟨k,p1,p2,ob,p3,p4⟩:=r.at_ i b0 a;exact⟨k,p1,p2,ob,p3,V.blk i b0 b a c φ E w ob r p4⟩
theorem gM.view {P:Program} {o:Oper} {e:EF} {h:HF} {val val':AV} {rd wr wr' N:ι} {nw nw':HF} (ht:gM P o e h ⟨val,rd,wr,nw,N⟩) (hsub:∀i∈wr,i∈wr'\/i∈rd)
 (hv:∀h':HF,(∀i∈rd,h' i=h i)->(∀i∈wr',h' i=h i)->G' (eV h' wr nw) (eV h' wr' nw')/\lI (eV h' wr nw) (eV h' wr' nw') val val'):gM P o e h ⟨val',rd,wr',nw',N⟩:=by
 intro φ E h' w a h1 h2 L A z;have q:=ht φ E h' w a h1 (λi hi=>(hsub i hi).elim (h2 i) (h1 i)) L A z;obtain⟨V,hle⟩:=hv h' h1 h2;refine Po ?_ q;rintro a' w' ⟨v,φ',rfl,mv,nm',c,rel⟩;exact⟨v,φ',rfl,⟨mv.sub,mv.ext,λk hk s=>mv.own_ k hk (V.dom.own s)⟩,nm',V.rep c,hle _ _ _ _ c rel⟩
theorem Le.nil:Le (.f (.raw (.slice D 0 0))) (.f (.sl [] 0)):=by
 intro φ O w v hr;cases hr with
 |f hr=>cases hr;exact .f (.nil D 0 (by unfold maxLen;omega))
theorem Le.emp:Le .emp (.f (.sl [] 0)):=by
 intro φ O w v hr;cases hr with
 |emp=>exact .f (.nil _ 0 (by unfold maxLen;omega))
theorem Le.nilEmp:Le (.f (.raw (.slice D 0 0))) .emp:=by
 intro φ O w v hr;cases hr with
 |f hr=>cases hr;exact .emp
theorem Le.aggF {l:Y FV}:Le (.f (.agg l)) (.agg (l.map .f)):=by
 intro φ O w v hr;cases hr with
 |f hr=>
  cases hr with
  |agg _ vs hl hcl hrr=>
   refine .agg (by simp[hl]) (λx a=>?_) λj x u a hu=>?_
   .obtain⟨y,c,rfl⟩:=db.1 a;exact hcl y c
   .rw[ba]at a;cases hc:l[j]? with
    |none=>rw[hc]at a;cases a
    |some y=>rw[hc]at a;simp at a;subst a;exact .f (hrr j y u hc hu)
theorem ZK (l:Y AV):Le (Mi l) (.agg l):=by
 unfold Mi;split
 .rename_i fs h;rw[pQ h];exact Le.aggF
 .exact Le.refl _
theorem lI.aggL {H H':HF} {l:Y AV} {a:Y FV} (h:ib H H' l (a.map .f)) (hc:∀x∈a,x.isCell=J):lI H H' (.agg l) (.f (.agg a)):=by
 intro φ E w v hrep hr;cases hr with
 |@agg _ vs hl hcl hrr=>
  refine .f (.agg a vs (by rw[hl,<-h.length];simp) hc λj y u c hu=>?_);obtain⟨x,q,hle⟩:=h.get j (.f y) (by rw[ba,c];rfl);have:=hle φ E w u hrep (hrr j x u q hu);cases this with
  |f h=>exact h
theorem lI.row {H H':HF} (d:uJ H H') {id sz n:Nat} {ty:TypeId} {cells:Y FV} (h1:H id=M ⟨ty,.fz cells⟩) (h2:H' id=D) (hl:cells.length=n*sz):lI H H' (.row id sz n) (.f (.sl cells n)):=by
 intro φ E w v r hr;cases hr with
 |@row _ _ _ c k hφ hn hcap hsh=>
  obtain⟨k',z,A,_⟩:=r.at_ id _ h1;rw[hφ]at z;cases z;obtain⟨arr,p1,p2,p3⟩:=r.cs h1 hφ rfl;have hk:k<w.heap.size:=(cA.1 p1).1;have hlen:cells.length<=arr.size:=by simpa[BC.toMx] using p3
  have hnk:¬tot E φ H' k:=by
   rintro (L|⟨j,b,q,s⟩)
   .exact A L
   .obtain⟨b0,U⟩:=d j b q;have:=r.inj j id b0 _ k U h1 s hφ;subst this;rw[h2]at q;cases q
  have hget:∀(j:Nat) x,cells[j]? =M x->∃u,arr[j]? =M u/\nH (tot E φ H) w x u:=λj x a=>by
   have hj:j<cells.length:=(bi.1 a).1;have hja:j<arr.size:=by omega
   refine ⟨arr[j],by simp[hja],?_⟩;have:=p2.2.2 j (.f x) arr[j] (by simp[BC.toMx,a]) (by
    rw[cP,aC (by simpa[BC.toMx] using hj),co];simp[hja])
   cases this with
   |f h=>exact h
  refine .f (.sl cells n c k 0 (λj=>(arr[j]?).getD undef) hn hcap hnk hk (λx a=>?_) (λj hj=>?_) (λj x a=>?_))
  .have:=p2.2.1 (.f x) (by simp only[BC.toMx];exact db.2 ⟨x,a,rfl⟩);exact this
  .have:j<arr.size:=by omega
   simp[Nc,p1,this]
  .obtain⟨u,q,s⟩:=hget j x a;rw[q];exact s.dom d
theorem sA:∀l:Y Xp,Jm l=l.flatMap wv
 |[]=>rfl
 |x::r=>by rw[Jm,sA r];rfl
theorem zg:∀l:Y Sx,Jl l=l.flatMap xU
 |[]=>rfl
 |x::r=>by rw[Jl,zg r];rfl
theorem Jk (e:Xp):bS MA (Nl e)=wv e:=by
 cases e with
 |mk op n name l=>simp only[MA,Nl,bS,wv,Xp.op,Xp.n,Xp.name,Xp.l,sA];rfl
theorem Ra (x:MA.den):wv (ef x)=bS MA x:=by
 simp only[MA,ef,bS,wv,sA];rfl
theorem Jj (e:Sx):bS L_ (Nk e)=xU e:=by
 cases e with
 |mk op line name arg index expr body els=>simp only[L_,Nk,bS,xU,Sx.op,Sx.line,Sx.name,Sx.arg,Sx.index,Sx.expr,Sx.body,Sx.els,sA,zg];rfl
theorem Q_ (x:L_.den):xU (nS x)=bS L_ x:=by
 simp only[L_,nS,bS,xU,sA,zg];rfl
theorem xu (e:Xp):(wv e).length=4:=by cases e;simp[wv]
theorem C3 (e:Sx):(xU e).length=11:=by cases e;simp[xU,xu]
theorem bB:∀(T:Ty) (v:T.den),(bS T v).length=T.size
 |.int _,_=>rfl
 |.bool,_=>rfl
 |.str,_=>rfl
 |.sl _,_=>rfl
 |.st t,v=>bB t v
 |.pr a b,v=>by simp[bS,Ty.size,bB a,bB b]
 |.un,_=>rfl
 |.ex,v=>xu v
 |.sm,v=>C3 v
theorem Jn (e:Xp):∀x∈wv e,x.isCell=J:=by
 cases e with
 |mk op n name l=>
  intro x a;simp only[wv,bh,cu,gj]at a;rcases a with rfl|rfl|rfl|rfl<;>rfl
theorem Uw (e:Sx):∀x∈xU e,x.isCell=J:=by
 cases e with
 |mk op line name arg index expr body els=>
  intro x a;simp only[xU,bQ,bh,cu,gj]at a;rcases a with (a|a)|a
  .rcases a with rfl|rfl|rfl|rfl|rfl<;>rfl
  .exact Jn _ _ a
  .rcases a with rfl|rfl<;>rfl
theorem oa:∀(T:Ty) (v:T.den),∀x∈bS T v,x.isCell=J
 |.int _,_,x,c=>by simp only[bS,aJ]at c;subst c;rfl
 |.bool,_,x,c=>by simp only[bS,aJ]at c;subst c;rfl
 |.str,_,x,c=>by simp only[bS,aJ]at c;subst c;rfl
 |.sl _,_,x,c=>by simp only[bS,aJ]at c;subst c;rfl
 |.st t,v,x,c=>oa t v x c
 |.pr a b,v,x,c=>by
  simp only[bS,bQ]at c;exact c.elim (oa a v.1 x) (oa b v.2 x)
 |.un,_,x,c=>by simp[bS]at c
 |.ex,v,x,c=>Jn v x c
 |.sm,v,x,c=>Uw v x c
theorem C4:∀(T:Ty) (v:T.den),T.one=J->bS T v=[gB T v]/\T.size=1
 |.int _,_,_=>⟨rfl,rfl⟩
 |.bool,_,_=>⟨rfl,rfl⟩
 |.str,_,_=>⟨rfl,rfl⟩
 |.sl _,_,_=>⟨rfl,rfl⟩
 |.st _,_,h=>by cases h
 |.pr _ _,_,h=>by cases h
 |.un,_,h=>by cases h
 |.ex,_,h=>by cases h
 |.sm,_,h=>by cases h
theorem qD:∀(T:Ty) (v:T.den),T.one=af->gB T v= .agg (bS T v)
 |.int _,_,h=>by cases h
 |.bool,_,h=>by cases h
 |.str,_,h=>by cases h
 |.sl _,_,h=>by cases h
 |.st _,_,_=>rfl
 |.pr _ _,_,_=>rfl
 |.un,_,_=>rfl
 |.ex,_,_=>rfl
 |.sm,_,_=>rfl
theorem Aa (T:Ty) (v:T.den):(AV.f (gB T v)).cs=(bS T v).map .f:=by
 cases h:T.one with
 |true=>
  rw[(C4 T v h).1];cases T<;>simp only[Ty.one]at h<;>first|rfl|cases h
 |false=>rw[qD T v h];rfl
theorem fJ {α:Type} {f:α->Y FV} {n:Nat} (hf:∀x,(f x).length=n):∀(xs:Y α),(xs.flatMap f).length=xs.length*n
 |[]=>by simp
 |x::r=>by rw[fQ,bk,hf,fJ hf r,bX,iV];omega
theorem EI {α:Type} {f:α->Y FV} {n:Nat} (hf:∀x,(f x).length=n):∀(xs:Y α) (j:Nat) (x:α),xs[j]? =M x->∃r,(xs.flatMap f).drop (j*n)=f x++r
 |[],j,x,h=>by simp at h
 |y::r,j,x,h=>by
  cases j with
  |zero=>simp at h;subst h;exact⟨r.flatMap f,by simp⟩
  |succ j=>
   obtain⟨q,hq⟩:=EI hf r j x (by simpa using h);refine ⟨q,?_⟩;rw[fQ,show (j+1)*n=(f y).length+j*n from by rw[hf,iV];omega,uN];simp[hq]
theorem Q0 {α:Type} {f:α->Y FV} {n:Nat} (hf:∀x,(f x).length=n):∀(xs:Y α) (j:Nat) (x z:α),xs[j]? =M x->∀(off:Nat) (vs:Y FV),off+vs.length<=n->f z=AI.splice (f x) off vs->(xs.set j z).flatMap f=AI.splice (xs.flatMap f) (j*n+off) vs
 |[],j,x,z,h,_,_,_,_=>by simp at h
 |y::r,j,x,z,h,off,vs,hle,a=>by
  cases j with
  |zero=>
   simp at h;subst h;simp only[List.set_cons_zero,fQ,a,Nat.zero_mul,bG];unfold AI.splice;have q:=hf y;rw[List.take_append,uN];have e1:off-(f y).length=0:=by omega
   have e2:off+vs.length-(f y).length=0:=by omega
   rw[e1,e2];simp[jX]
  |succ j=>
   have c:=Q0 hf r j x z (by simpa using h) off vs hle a;simp only[List.set_cons_succ,fQ,c];unfold AI.splice;have q:=hf y;have e0:(j+1)*n=(f y).length+j*n:=by rw[hf,iV];omega
   rw[e0,List.take_append,uN];have e1:(f y).length+j*n+off-(f y).length=j*n+off:=by omega
   have e2:(f y).length+j*n+off+vs.length-(f y).length=j*n+off+vs.length:=by omega
   rw[e1,e2,gf (by omega:(f y).length<=(f y).length+j*n+off),rP (by omega:(f y).length<=(f y).length+j*n+off+vs.length)];simp[jX]
theorem rH (T:Ty) (xs:Y T.den):∀x∈xs.flatMap (bS T),x.isCell=J:=λx a=>by
 obtain⟨y,_,h⟩:=uL.1 a;exact oa T y x h
theorem im {S T:Ty} {v:S.den} {x:T.den} (h:uy T v=M x):∃e:S=T,x=e▸v:=by
 unfold uy at h;split at h
 .rename_i e;simp only[ah]at h;exact⟨e,h.symm⟩
 .cases h
theorem l9 (h:bg):∀(n:Nat) (T:Ty) (v:T.den) (l:Y TV),cellsOf n T v=M l->cJ h l=M ((bS T v).map .f)/\kH l=J
 |0,_,_,_,he=>by simp[cellsOf]at he
 |n+1,.st t,v,l,he=>l9 h n t v l he
 |n+1,.pr a b,v,l,he=>by
  simp only[cellsOf]at he;split at he
  .rename_i x y q c;simp only[ah]at he;subst he;obtain⟨h1,h2⟩:=l9 h n a v.1 x q;obtain⟨s,L⟩:=l9 h n b v.2 y c;refine ⟨by rw[bS,cQ];exact nE h1 s,?_⟩;clear h1 s q c;induction x with
   |nil=>exact L
   |cons z r A=>simp only[kH,al,gx]at h2 ⊢;exact⟨h2.1,A h2.2⟩
  .cases he
 |n+1,.un,v,l,he=>by simp only[cellsOf,ah]at he;subst he;exact⟨rfl,rfl⟩
 |n+1,.ex,v,l,he=>by rw[bS,<-Jk];exact l9 h n MA (Nl v) l he
 |n+1,.sm,v,l,he=>by rw[bS,<-Jj];exact l9 h n L_ (Nk v) l he
 |n+1,.int k,v,l,he=>by simp only[cellsOf,ah]at he;subst he;exact⟨rfl,rfl⟩
 |n+1,.bool,v,l,he=>by simp only[cellsOf,ah]at he;subst he;exact⟨rfl,rfl⟩
 |n+1,.str,v,l,he=>by simp only[cellsOf,ah]at he;subst he;exact⟨rfl,rfl⟩
 |n+1,.sl t,v,l,he=>by simp only[cellsOf,ah]at he;subst he;exact⟨rfl,rfl⟩
theorem Nz {y:AV} (h:y.isCell=J):y.cs=[y]:=by
 cases y with
 |f x=>cases x<;>first|rfl|cases h
 |agg l=>cases h
 |_=>rfl
theorem JY {h:bg} {v:TV} {l:Y TV} {y:AV} (hv:v.cs=M l) (a:ci h v=M y):cJ h l=M y.cs/\kH l=J:=by
 have one:(if v.isC then M [v] else D)=M l->cJ h l=M y.cs/\kH l=J:=λhv=>by
  split at hv
  .rename_i hc;simp only[ah]at hv;subst hv;exact⟨by rw[Nz (NR a hc)];exact o7 a rfl,by simp[kH,hc]⟩
  .cases hv
 cases v with
 |agg q=>
  simp only[TV.cs]at hv;split at hv
  .rename_i hc;simp only[ah]at hv;subst hv;simp only[ci]at a;split at a
   .rename_i c hl;simp only[ah]at a;subst a;exact⟨hl,hc⟩
   .cases a
  .cases hv
 |f T x=>
  simp only[TV.cs]at hv;simp only[ci,ah]at a;subst a;rw[Aa];exact l9 h 40 T x l hv
 |fel T xs j hj off=>exact one hv
 |pel id sz j off=>exact one hv
 |ptr id off=>exact one hv
 |csl id off z=>exact one hv
 |row id=>exact one hv
 |emp=>exact one hv
 |nil=>exact one hv
 |mp id=>exact one hv
 |rtl id s=>exact one hv
 |tup q=>exact one hv
 |clo g q=>exact one hv
 |undef=>exact one hv
 |np=>exact one hv
 |anyb=>exact one hv
def DW (h:bg) (H H':HF) (m:Nat):Prop:=∀id,aM m id=J->H (nm id)=bt h (nm id)/\H' (nm id)=D
theorem DW.zero {h:bg} {H H':HF}:DW h H H' 0:=λid hid=>by simp at hid
theorem DW.or {h:bg} {H H':HF} {a b:Nat} (g:DW h H H' (a|||b)):DW h H H' a/\DW h H H' b:=
 ⟨λid hid=>g id (by rw[bp,hid];rfl),λid hid=>g id (by rw[bp,hid];simp)⟩
theorem bV {i j:Nat}:aM (kC i) j=J↔i=j:=by
 unfold kC;rw[Nat.one_shiftLeft,Nat.testBit_two_pow];simp
section pack
variable {h:bg} {H H':HF}
theorem xC (d:uJ H H') {T:Ty} {v:TV} {x:T.den} {m:Nat} {y:AV} (a:iO h T v=M (x,m)) (c:ci h v=M y) (g:DW h H H' m):lI H H' y (.f (gB T x))/\y.cs.length=T.size/\(T.one=J->y.isCell=J)/\ib H H' y.cs ((bS T x).map .f):=by
 cases v with
 |f S v=>
  simp only[iO]at a;split at a
  .rename_i z s;simp only[ah,aD]at a;obtain⟨rfl,_⟩:=a;obtain⟨e,rfl⟩:=im s;subst e;simp only[ci,ah]at c;subst c;refine ⟨lI.refl d _,by rw[Aa,bx,bB],λL=>?_,by rw[Aa];exact ib.refl d _⟩;cases S<;>simp only[Ty.one]at L<;>first|rfl|cases L
  .cases a
 |emp=>
  simp only[iO]at a;split at a
  .simp only[ah,aD]at a;obtain⟨rfl,_⟩:=a;simp only[ci,ah]at c;subst c;exact⟨Le.emp.toH d,rfl,λ_=>rfl,⟨Le.emp.toH d,trivial⟩⟩
  .cases a
 |nil=>
  simp only[iO]at a;split at a
  .simp only[ah,aD]at a;obtain⟨rfl,_⟩:=a;simp only[ci,ah]at c;subst c;exact⟨Le.nil.toH d,rfl,λ_=>rfl,⟨Le.nil.toH d,trivial⟩⟩
  .cases a
 |row id=>
  simp only[iO]at a;split at a
  .rename_i ty p S xs hb;split at a
   .rename_i z s;simp only[ah,aD]at a;obtain⟨rfl,rfl⟩:=a;obtain⟨e,rfl⟩:=im s;subst e;obtain⟨A,U⟩:=g id (bV.2 rfl);rw[bE,hb]at A;simp only[ci,eH,hb,ah]at c;subst c;have key:lI H H' (fG p id S.size xs.length) (.f (gB (.sl S) xs)):=by
     unfold fG;split
     .rename_i hp;simp only[al,cU]at hp;have:xs=[]:=gP.1 hp.2;subst this;exact Le.emp.toH d
     .rename_i hp;simp only[aF,jC,ay hp]at A;exact lI.row d A U (fJ (bB S) xs)
    have hc:(fG p id S.size xs.length).isCell=J:=by unfold fG;split<;>rfl
    refine ⟨key,by rw[Nz hc];rfl,λ_=>hc,?_⟩;rw[Nz hc];exact⟨key,trivial⟩
   .cases a
  .cases a
 |fel T xs j hj off=>simp[iO]at a
 |pel id sz j off=>simp[iO]at a
 |ptr id off=>simp[iO]at a
 |csl id off z=>simp[iO]at a
 |mp id=>simp[iO]at a
 |rtl id Z=>simp[iO]at a
 |agg q=>simp[iO]at a
 |tup q=>simp[iO]at a
 |clo f q=>simp[iO]at a
 |undef=>simp[iO]at a
 |np=>simp[iO]at a
 |anyb=>simp[iO]at a
theorem r_ (d:uJ H H'):∀(n:Nat) (T:Ty) (l:Y TV) (x:T.den) (m:Nat) (r:Y TV) (s:Y AV),e9 h n T l=M (x,m,r)->cJ h l=M s->DW h H H' m->∃l1 l2,s=l1++l2/\cJ h r=M l2/\ib H H' l1 ((bS T x).map .f)
 |0,_,_,_,_,_,_,hp,_,_=>by simp[e9]at hp
 |n+1,.st t,l,x,m,r,s,hp,hl,g=>r_ d n t l x m r s hp hl g
 |n+1,.pr a b,l,x,m,r,s,hp,hl,g=>by
  simp only[e9]at hp;split at hp
  .rename_i z m1 r1 h1;split at hp
   .rename_i U m2 r2 h2;simp only[ah,aD]at hp;obtain⟨rfl,rfl,rfl⟩:=hp;obtain⟨ga,gb⟩:=g.or;obtain⟨l1,l2,rfl,L,A⟩:=r_ d n a l z m1 r1 s h1 hl ga;obtain⟨l3,Z,rfl,q3,q4⟩:=r_ d n b r1 U m2 r2 l2 h2 L gb;refine ⟨l1++l3,Z,by simp,q3,?_⟩;rw[bS,cQ];exact A.append q4
   .cases hp
  .cases hp
 |n+1,.un,l,x,m,r,s,hp,hl,g=>by
  simp only[e9,ah,aD]at hp;obtain⟨_,_,rfl⟩:=hp;exact⟨[],s,rfl,hl,trivial⟩
 |n+1,.ex,l,x,m,r,s,hp,hl,g=>by
  simp only[e9]at hp;split at hp
  .rename_i z m1 r1 h1;simp only[ah,aD]at hp;obtain⟨rfl,rfl,rfl⟩:=hp;rw[bS,Ra];exact r_ d n MA l z m1 r1 s h1 hl g
  .cases hp
 |n+1,.sm,l,x,m,r,s,hp,hl,g=>by
  simp only[e9]at hp;split at hp
  .rename_i z m1 r1 h1;simp only[ah,aD]at hp;obtain⟨rfl,rfl,rfl⟩:=hp;rw[bS,Q_];exact r_ d n L_ l z m1 r1 s h1 hl g
  .cases hp
 |n+1,.int k,l,x,m,r,s,hp,hl,g=>by
  simp only[e9]at hp;split at hp
  .rename_i c q;split at hp
   .rename_i z m1 h1;simp only[ah,aD]at hp;obtain⟨rfl,rfl,rfl⟩:=hp;obtain⟨y,l2,rfl,L,A⟩:=cY hl;exact⟨[y],l2,rfl,A,⟨(xC d h1 L g).1,trivial⟩⟩
   .cases hp
  .cases hp
 |n+1,.bool,l,x,m,r,s,hp,hl,g=>by
  simp only[e9]at hp;split at hp
  .rename_i c q;split at hp
   .rename_i z m1 h1;simp only[ah,aD]at hp;obtain⟨rfl,rfl,rfl⟩:=hp;obtain⟨y,l2,rfl,L,A⟩:=cY hl;exact⟨[y],l2,rfl,A,⟨(xC d h1 L g).1,trivial⟩⟩
   .cases hp
  .cases hp
 |n+1,.str,l,x,m,r,s,hp,hl,g=>by
  simp only[e9]at hp;split at hp
  .rename_i c q;split at hp
   .rename_i z m1 h1;simp only[ah,aD]at hp;obtain⟨rfl,rfl,rfl⟩:=hp;obtain⟨y,l2,rfl,L,A⟩:=cY hl;exact⟨[y],l2,rfl,A,⟨(xC d h1 L g).1,trivial⟩⟩
   .cases hp
  .cases hp
 |n+1,.sl t,l,x,m,r,s,hp,hl,g=>by
  simp only[e9]at hp;split at hp
  .rename_i c q;split at hp
   .rename_i z m1 h1;simp only[ah,aD]at hp;obtain⟨rfl,rfl,rfl⟩:=hp;obtain⟨y,l2,rfl,L,A⟩:=cY hl;exact⟨[y],l2,rfl,A,⟨(xC d h1 L g).1,trivial⟩⟩
   .cases hp
  .cases hp
theorem Tw (d:uJ H H') {n:Nat} {T:Ty} {l:Y TV} {x:T.den} {m:Nat} {a:Y AV} (hp:e9 h n T l=M (x,m,[])) (hl:cJ h l=M a) (g:DW h H H' m):ib H H' a ((bS T x).map .f):=by
 obtain⟨l1,l2,rfl,c,q⟩:=r_ d n T l x m [] a hp hl g;simp only[cJ,ah]at c;subst c;simpa using q
theorem O2 (d:uJ H H') {T:Ty} {v:TV} {x:T.den} {m:Nat} {y:AV} (a:DG h T v=M (x,m)) (c:ci h v=M y) (g:DW h H H' m):lI H H' y (.f (gB T x))/\ib H H' y.cs ((bS T x).map .f):=by
 have other:iO h T v=M (x,m)->lI H H' y (.f (gB T x))/\ib H H' y.cs ((bS T x).map .f):=λa=>by
  obtain⟨h1,_,_,h2⟩:=xC d a c g;exact⟨h1,h2⟩
 cases v with
 |agg l=>
  simp only[DG]at a;split at a
  .cases a
  .rename_i A;split at a
   .rename_i s m1 h1;simp only[ah,aD]at a;obtain⟨rfl,rfl⟩:=a;simp only[ci]at c;split at c
    .rename_i L hl;simp only[ah]at c;subst c;have:=Tw d h1 hl g;refine ⟨?_,this⟩;rw[qD T s (by simpa using A)];exact lI.aggL this (oa T s)
    .cases c
   .cases a
 |f S v=>exact other a
 |fel T xs j hj off=>exact other a
 |pel id sz j off=>exact other a
 |ptr id off=>exact other a
 |csl id off z=>exact other a
 |row id=>exact other a
 |emp=>exact other a
 |nil=>exact other a
 |mp id=>exact other a
 |rtl id U=>exact other a
 |tup q=>exact other a
 |clo g q=>exact other a
 |undef=>exact other a
 |np=>exact other a
 |anyb=>exact other a
theorem Ct (d:uJ H H') {T:Ty}:∀(n:Nat) (l:Y TV) (xs:Y T.den) (m:Nat) (a:Y AV),yF h T n l=M (xs,m)->cJ h l=M a->DW h H H' m->ib H H' a ((xs.flatMap (bS T)).map .f)/\xs.length=n
 |0,[],xs,m,a,hp,hl,g=>by
  simp only[yF,ah,aD]at hp;obtain⟨rfl,_⟩:=hp;simp only[cJ,ah]at hl;subst hl;exact⟨trivial,rfl⟩
 |0,_::_,xs,m,a,hp,hl,g=>by simp[yF]at hp
 |n+1,l,xs,m,a,hp,hl,g=>by
  simp only[yF]at hp;split at hp
  .rename_i q m1 r1 h1;split at hp
   .rename_i c m2 h2;simp only[ah,aD]at hp;obtain⟨rfl,rfl⟩:=hp;obtain⟨L,A⟩:=g.or;obtain⟨l1,l2,rfl,z,s⟩:=r_ d 40 T l q m1 r1 a h1 hl L;obtain⟨q3,q4⟩:=Ct d n r1 c m2 l2 h2 z A;refine ⟨?_,by simp[q4]⟩;rw[fQ,cQ];exact s.append q3
   .cases hp
  .cases hp
theorem uo (h:bg):∀(n:Nat) (T:Ty) (v:T.den) (off sz:Nat) (ag:Bool) (u:TV),om n T v off sz ag=M u->off+sz<=T.size/\∃y,ci h u=M (.f y)/\(ag=af->sz=1/\(bS T v)[off]? =M y)/\(ag=J->y= .agg (((bS T v).drop off).take sz))
 |0,_,_,_,_,_,_,hg=>by simp[om]at hg
 |n+1,.st t,v,off,sz,ag,u,hg=>by
  simp only[om]at hg;split at hg
  .rename_i hc;simp only[al]at hc;obtain⟨⟨h1,h2⟩,rfl⟩:=hc;have h1:=ar h1;have h2:=ar h2;subst h1;subst h2;simp only[ah]at hg;subst hg;refine ⟨by simp[Ty.size],_,rfl,λh=>(by cases h),λ_=>?_⟩;simp only[gB,bS,List.drop_zero];rw[<- bB t v,cO]
  .exact uo h n t v off sz ag u hg
 |n+1,.pr a b,v,off,sz,ag,u,hg=>by
  simp only[om]at hg;have hla:=bB a v.1;have hlb:=bB b v.2;split at hg
  .rename_i hlt;have hlt:off<a.size:=a8 hlt;obtain⟨h1,y,h2,q,c⟩:=uo h n a v.1 off sz ag u hg;refine ⟨by simp only[Ty.size];omega,y,h2,λe=>?_,λe=>?_⟩
   .obtain⟨z,s⟩:=q e;exact⟨z,by rw[bS,bP (by omega)];exact s⟩
   .rw[c e,bS];have:((bS a v.1++bS b v.2).drop off).take sz=((bS a v.1).drop off).take sz:=by
     rw[DV (by omega),ly (by simp;omega)]
    rw[this]
  .rename_i hlt;have hlt:¬off<a.size:=λh=>hlt (bC h)
   obtain⟨h1,y,h2,q,c⟩:=uo h n b v.2 (off-a.size) sz ag u hg;refine ⟨by simp only[Ty.size];omega,y,h2,λe=>?_,λe=>?_⟩
   .obtain⟨z,s⟩:=q e;exact⟨z,by rw[bS,b8 (by omega),hla];exact s⟩
   .rw[c e,bS];have:(bS a v.1++bS b v.2).drop off=(bS b v.2).drop (off-a.size):=by
     rw[uN,hla,rP (by omega)];simp
    rw[this]
 |n+1,.un,v,off,sz,ag,u,hg=>by simp[om]at hg
 |n+1,.ex,v,off,sz,ag,u,hg=>by
  simp only[om]at hg;split at hg
  .rename_i hc;simp only[al]at hc;obtain⟨⟨h1,h2⟩,rfl⟩:=hc;have h1:=ar h1;have h2:=ar h2;subst h1;subst h2;simp only[ah]at hg;subst hg;refine ⟨by simp[Ty.size],_,rfl,λh=>(by cases h),λ_=>?_⟩;simp only[gB,bS,List.drop_zero];rw[<- xu v,cO]
  .obtain⟨h1,y,h2,q,c⟩:=uo h n MA (Nl v) off sz ag u hg;rw[Jk]at q c;exact⟨h1,y,h2,q,c⟩
 |n+1,.sm,v,off,sz,ag,u,hg=>by
  simp only[om]at hg;split at hg
  .rename_i hc;simp only[al]at hc;obtain⟨⟨h1,h2⟩,rfl⟩:=hc;have h1:=ar h1;have h2:=ar h2;subst h1;subst h2;simp only[ah]at hg;subst hg;refine ⟨by simp[Ty.size],_,rfl,λh=>(by cases h),λ_=>?_⟩;simp only[gB,bS,List.drop_zero];rw[<- C3 v,cO]
  .obtain⟨h1,y,h2,q,c⟩:=uo h n L_ (Nk v) off sz ag u hg;rw[Jj]at q c;exact⟨h1,y,h2,q,c⟩
 |n+1,.int k,v,off,sz,ag,u,hg=>by
  simp only[om]at hg;split at hg
  .rename_i hc;simp only[al,eD]at hc;obtain⟨⟨h1,h2⟩,rfl⟩:=hc;have h1:=ar h1;have h2:=ar h2;subst h1;subst h2;simp only[ah]at hg;subst hg;exact⟨by simp[Ty.size],_,rfl,λ_=>⟨rfl,rfl⟩,λh=>by cases h⟩
  .cases hg
 |n+1,.bool,v,off,sz,ag,u,hg=>by
  simp only[om]at hg;split at hg
  .rename_i hc;simp only[al,eD]at hc;obtain⟨⟨h1,h2⟩,rfl⟩:=hc;have h1:=ar h1;have h2:=ar h2;subst h1;subst h2;simp only[ah]at hg;subst hg;exact⟨by simp[Ty.size],_,rfl,λ_=>⟨rfl,rfl⟩,λh=>by cases h⟩
  .cases hg
 |n+1,.str,v,off,sz,ag,u,hg=>by
  simp only[om]at hg;split at hg
  .rename_i hc;simp only[al,eD]at hc;obtain⟨⟨h1,h2⟩,rfl⟩:=hc;have h1:=ar h1;have h2:=ar h2;subst h1;subst h2;simp only[ah]at hg;subst hg;exact⟨by simp[Ty.size],_,rfl,λ_=>⟨rfl,rfl⟩,λh=>by cases h⟩
  .cases hg
 |n+1,.sl t,v,off,sz,ag,u,hg=>by
  simp only[om]at hg;split at hg
  .rename_i hc;simp only[al,eD]at hc;obtain⟨⟨h1,h2⟩,rfl⟩:=hc;have h1:=ar h1;have h2:=ar h2;subst h1;subst h2;simp only[ah]at hg;subst hg;exact⟨by simp[Ty.size],_,rfl,λ_=>⟨rfl,rfl⟩,λh=>by cases h⟩
  .cases hg
theorem To {α:Type} (l vs:Y α) (h:vs.length=l.length):AI.splice l 0 vs=vs:=by
 unfold AI.splice;rw[bG,h,List.drop_length];simp
theorem Pz {α:Type} (a b vs:Y α) (off:Nat) (h:off+vs.length<=a.length):AI.splice (a++b) off vs=AI.splice a off vs++b:=by
 unfold AI.splice;rw[ly (by omega),DV (by omega)];simp[jX]
theorem Nt {α:Type} (a b vs:Y α) (off:Nat) (h:a.length<=off):AI.splice (a++b) off vs=a++AI.splice b (off-a.length) vs:=by
 unfold AI.splice;rw[List.take_append,uN,gf h,rP (by omega),show off+vs.length-a.length=off-a.length+vs.length from by omega];simp[jX]
def W2 (H H':HF) (y:AV) (T:Ty) (v z:T.den) (off sz:Nat):Prop:=∃fs:Y FV,ib H H' y.cs (fs.map .f)/\fs.length=sz/\off+sz<=T.size/\bS T z=AI.splice (bS T v) off fs/\∀x∈fs,x.isCell=J
theorem W2.whole {y:AV} {T:Ty} {v z:T.den} {off sz:Nat} (h0:off=0) (hs:sz=T.size) (hl:ib H H' y.cs ((bS T z).map .f)):W2 H H' y T v z off sz:=by
 subst h0;subst hs;exact⟨bS T z,hl,bB T z,by omega,(To _ _ (by rw[bB,bB])).symm,oa T z⟩
theorem vO (d:uJ H H') {u:TV} {y:AV} (c:ci h u=M y):∀(n:Nat) (T:Ty) (v:T.den) (off sz:Nat) (z:T.den) (m:Nat),gX h u n T v off sz=M (z,m)->DW h H H' m->W2 H H' y T v z off sz
 |0,_,_,_,_,_,_,hg,_=>by simp[gX]at hg
 |n+1,.st t,v,off,sz,z,m,hg,g=>by
  simp only[gX]at hg;split at hg
  .rename_i q hq;split at hq
   .rename_i hc;simp only[al]at hc;simp only[ah]at hg;subst hg;exact .whole (ar hc.1) (ar hc.2) (O2 d hq c g).2
   .cases hq
  .exact vO d c n t v off sz z m hg g
 |n+1,.pr a b,v,off,sz,z,m,hg,g=>by
  simp only[gX]at hg;have hla:=bB a v.1;split at hg
  .rename_i hlt;split at hg
   .rename_i s m1 h1;simp only[ah,aD]at hg;obtain⟨rfl,rfl⟩:=hg;obtain⟨fs,L,A,q3,q4,q5⟩:=vO d c n a v.1 off sz s m1 h1 g;refine ⟨fs,L,A,by simp only[Ty.size];omega,?_,q5⟩;rw[bS,bS,Pz _ _ _ _ (by omega),q4]
   .cases hg
  .rename_i hlt;have hlt:¬off<a.size:=λh=>hlt (bC h)
   split at hg
   .rename_i s m1 h1;simp only[ah,aD]at hg;obtain⟨rfl,rfl⟩:=hg;obtain⟨fs,L,A,q3,q4,q5⟩:=vO d c n b v.2 (off-a.size) sz s m1 h1 g;refine ⟨fs,L,A,by simp only[Ty.size];omega,?_,q5⟩;rw[bS,bS,Nt _ _ _ _ (by omega),q4,hla]
   .cases hg
 |n+1,.un,v,off,sz,z,m,hg,g=>by simp[gX]at hg
 |n+1,.ex,v,off,sz,z,m,hg,g=>by
  simp only[gX]at hg;split at hg
  .rename_i q hq;split at hq
   .rename_i hc;simp only[al]at hc;simp only[ah]at hg;subst hg;exact .whole (ar hc.1) (ar hc.2) (O2 d hq c g).2
   .cases hq
  .split at hg
   .rename_i s m1 h1;simp only[ah,aD]at hg;obtain⟨rfl,rfl⟩:=hg;obtain⟨fs,L,A,q3,q4,q5⟩:=vO d c n MA (Nl v) off sz s m1 h1 g;exact⟨fs,L,A,q3,by rw[bS,bS,Ra,q4,Jk],q5⟩
   .cases hg
 |n+1,.sm,v,off,sz,z,m,hg,g=>by
  simp only[gX]at hg;split at hg
  .rename_i q hq;split at hq
   .rename_i hc;simp only[al]at hc;simp only[ah]at hg;subst hg;exact .whole (ar hc.1) (ar hc.2) (O2 d hq c g).2
   .cases hq
  .split at hg
   .rename_i s m1 h1;simp only[ah,aD]at hg;obtain⟨rfl,rfl⟩:=hg;obtain⟨fs,L,A,q3,q4,q5⟩:=vO d c n L_ (Nk v) off sz s m1 h1 g;exact⟨fs,L,A,q3,by rw[bS,bS,Q_,q4,Jj],q5⟩
   .cases hg
 |n+1,.int k,v,off,sz,z,m,hg,g=>by
  simp only[gX]at hg;split at hg
  .rename_i hc;simp only[al]at hc;exact .whole (ar hc.1) (ar hc.2) (xC d hg c g).2.2.2
  .cases hg
 |n+1,.bool,v,off,sz,z,m,hg,g=>by
  simp only[gX]at hg;split at hg
  .rename_i hc;simp only[al]at hc;exact .whole (ar hc.1) (ar hc.2) (xC d hg c g).2.2.2
  .cases hg
 |n+1,.str,v,off,sz,z,m,hg,g=>by
  simp only[gX]at hg;split at hg
  .rename_i hc;simp only[al]at hc;exact .whole (ar hc.1) (ar hc.2) (xC d hg c g).2.2.2
  .cases hg
 |n+1,.sl t,v,off,sz,z,m,hg,g=>by
  simp only[gX]at hg;split at hg
  .rename_i hc;simp only[al]at hc;exact .whole (ar hc.1) (ar hc.2) (xC d hg c g).2.2.2
  .cases hg
theorem Kg:∀{a b:ξ},R_ a b=J->a=b
 |[],[],_=>rfl
 |[],_::_,h=>by cases h
 |_::_,[],h=>by cases h
 |x::xs,y::ys,h=>by
  simp only[R_,al]at h;rw[aeo h.1,Kg h.2]
theorem zero_ok (d:uJ H H'):∀T:Ty,ib H H' ((sV T).map raw) ((bS T T.zero).map .f)
 |.int k=>⟨lI.refl d _,trivial⟩
 |.bool=>⟨lI.refl d _,trivial⟩
 |.str=>⟨lI.refl d _,trivial⟩
 |.sl t=>⟨Le.nil.toH d,trivial⟩
 |.st t=>zero_ok d t
 |.pr a b=>by
  simp only[sV,Ty.zero,bS,cQ];exact (zero_ok d a).append (zero_ok d b)
 |.un=>trivial
 |.ex=>⟨lI.refl d _,lI.refl d _,lI.refl d _,Le.nil.toH d,trivial⟩
 |.sm=>⟨lI.refl d _,lI.refl d _,lI.refl d _,lI.refl d _,Le.nil.toH d,lI.refl d _,lI.refl d _,lI.refl d _,Le.nil.toH d,Le.nil.toH d,Le.nil.toH d,trivial⟩
theorem Hn (d:uJ H H') (T:Ty):∀n,ib H H' ((repl (sV T) n).map .f) (((aB n T.zero).flatMap (bS T)).map .f)
 |0=>trivial
 |n+1=>by
  rw[repl,vI,fQ,cQ,cQ];have h1:=zero_ok (H:=H) (H':=H') d T;have:((sV T).map .raw).map AV.f=(sV T).map raw:=by rw[Hj];rfl
  rw[this];exact h1.append (Hn d T n)
end pack
structure ml (h:bg) (nx:Nat):Prop where
 cells:∀id ty l,h.get id=M (.cells ty l)->kX h l=J
 low:∀id b,h.get id=M b->id<nx
def tI (e:iT) (h:bg):Prop:=∀t v,e.get t=M v->K3 h v=J
structure iS (P:Program) (o:Oper) (still:Bool) (e:iT) (h:bg) (nx:Nat) (v:TV) (rd wr:Nat) (h':bg) (nx':Nat):Prop where
 ex:∃f:Bh,gM P o (fO e h) (bt h) f/\(∀y,ci h' v=M y->f.val=y)/\eV (bt h) f.wr f.nw=bt h'/\(∀n∈f.rd,aM rd (ow n)=J)/\(∀n∈f.wr,aM wr (ow n)=J)/\(∀n∈f.N,nx<=ow n/\ow n<nx')
 rows:bZ h h'
 inv:ml h' nx'
 grows:nx<=nx'
 st:still=J->rd=0/\wr=0
def kV {R:Type} (P:Program) (o:Oper) (still:Bool) (e:iT) (h:bg) (nx:Nat) (K:KO R) (r:R):Prop:=
 ∃v rd wr h' nx',K v rd wr h' nx'=M r/\iS P o still e h nx v rd wr h' nx'
theorem dZ {R:Type} {b:Bool} {k:b=J->I R} {r:R} (h:chk b k=M r):∃hb:b=J,k hb=M r:=by
 cases b with
 |true=>exact⟨rfl,h⟩
 |false=>cases h
theorem py {R:Type} {b:Bool} {t f:I R} {r:R} (h:aG b t f=M r):(b=J/\t=M r)\/(b=af/\f=M r):=by
 cases b with
 |true=>exact .inl ⟨rfl,h⟩
 |false=>exact .inr ⟨rfl,h⟩
theorem dJ {α R:Type} {o:I α} {k:α->I R} {r:R} (h:av o k=M r):∃x,o=M x/\k x=M r:=by
 cases o with
 |some x=>exact⟨x,rfl,h⟩
 |none=>cases h
theorem Eo {j:Int} {n:Nat} (h:fD j n=J):0<=j/\j<n/\j.toNat<n:=by
 simp only[fD,cX,fK,al,bL]at h;omega
theorem gM.envLe {P:Program} {o:Oper} {e e2:EF} {h:HF} {f:Bh} (ht:gM P o e h f) (hle:∀t y,.tmp t∈o.op.operands->e t=M y->∃q,e2 t=M q/\Le q y):gM P o e2 h f:=by
 intro φ E h' w a h1 h2 L A z;refine ht φ E h' w a h1 h2 (λt c y s=>?_) A z;obtain⟨q,Z,U⟩:=hle t y c s;exact U _ _ _ _ (L t c q Z)
theorem JW (h:bg) {v:Value} {u:TV} (hc:cst v=M u):ci h u=M (raw v)/\v.oneCell'=J/\u.isC=J:=by
 unfold cst at hc;split at hc<;>cases hc<;>exact⟨rfl,rfl,rfl⟩
theorem vg (h:bg):∀{z:ξ} {l:Y TV},JV z=M l->cJ h l=M (z.map raw)/\(∀x∈z,x.oneCell'=J)/\kH l=J
 |[],l,hc=>by simp only[JV,ah]at hc;subst hc;exact⟨rfl,by simp,rfl⟩
 |v::r,l,hc=>by
  simp only[JV]at hc;split at hc
  .rename_i x U c hl;simp only[ah]at hc;subst hc;obtain⟨h1,h2,L⟩:=JW h c;obtain⟨A,s,q⟩:=vg h hl;refine ⟨o7 h1 A,λy a=>?_,by simp[kH,L,q]⟩;rcases bh.1 a with rfl|a
   .exact h2
   .exact s y a
  .cases hc
theorem bI {e:iT} {h:bg} (hi:tI e h) {x:Operand} {v:TV} (a:fR e x=M v):∃y,mP (Jg e h) x=M y/\ci h v=M y:=by
 cases x with
 |tmp t=>
  simp only[fR]at a;obtain⟨y,q⟩:=pa h v (hi t v a);refine ⟨y,?_,q⟩;simp only[mP];rw[uY];simp only[fO,a,aF,q]
 |const c=>
  simp only[fR]at a;unfold ahw at a;split at a
  .rename_i vs;split at a
   .rename_i h1;split at a
    .rename_i l hl;simp only[ah]at a;subst a;refine ⟨.agg (vs.toList.map raw),?_,by simp only[ci,(vg h hl).1]⟩;simp only[mP,EZ,h1,bF];rfl
    .cases a
   .cases a
  .rename_i hn;refine ⟨raw c,?_,(JW h a).1⟩;simp only[mP];unfold EZ;split
   .rename_i vs;exact ct rfl (hn vs)
   .rfl
 |func g=>
  simp only[fR,ah]at a;subst a;exact⟨_,rfl,rfl⟩
 |global g=>
  simp only[fR]at a;cases hg:G g with
  |none=>rw[hg]at a;cases a
  |some cells=>
   rw[hg]at a;simp only[ah]at a;subst a;have hcells:cells=CA:=by
    unfold G at hg;split at hg
    .cases hg;rfl
    .cases hg
   subst hcells;exact⟨_,by simp only[mP,hg];rfl,rfl⟩
theorem yH {e:iT} {h:bg} (hi:tI e h):∀{xs:Y Operand} {l:Y TV},Fq e xs=M l->∃c,Wt (Jg e h) xs=M c/\cJ h l=M c
 |[],l,a=>by simp only[Fq,ah]at a;subst a;exact⟨[],rfl,rfl⟩
 |x::xs,l,a=>by
  simp only[Fq]at a;split at a
  .rename_i y s;split at a
   .rename_i L hys;simp only[ah]at a;subst a;obtain⟨q,h1,h2⟩:=bI hi s;obtain⟨c,A,z⟩:=yH hi hys;exact⟨q::c,by simp only[Wt,h1,A],o7 h2 z⟩
   .cases a
  .cases a
section ops
variable {R:Type} {P:Program} {o:Oper} {e:iT} {h:bg} {nx:Nat} {K:KO R} {r:R}
theorem iS.pure {s:Yz} {st:Bool} (hinv:ml h nx) (hc:dl P o.op=M s) {H:oh} (z:H.get=bt h) {k:Nat} {y0:AV} {rdl:ι} (q:eL s (Jg e h) H k=M ⟨y0,rdl,[],[],[]⟩) {v:TV} (hv:∀y,ci h v=M y->Le y0 y) {rd:Nat} (hrd:∀n∈rdl,aM rd (ow n)=J) (hst:st=J->rd=0):iS P o st e h nx v rd 0 h nx:=by
 have ht:=Ic hc q;rw[uY,z]at ht;refine ⟨?_,λ_ _ h=>h,hinv,bU _,λhs=>⟨hst hs,rfl⟩⟩;have key:∀y,Le y0 y->gM P o (fO e h) (bt h) ⟨y,rdl,[],jm [],[]⟩:=λy hle=>
  gM.view ht (λi hi=>by cases hi) λh' _ _=>⟨G'.refl _,hle.toH (uJ.refl _)⟩
 cases c:ci h v with
 |none=>exact⟨_,ht,λy a=>by simp at a,by simp[B3.eff,tS],hrd,by simp[B3.eff],by simp[B3.eff]⟩
 |some y=>exact⟨_,key y (hv y c),λA a=>by simpa using a,by simp[tS],hrd,by simp,by simp⟩
theorem kV.q {s:Yz} {st:Bool} (hinv:ml h nx) (hc:dl P o.op=M s) {k:Nat} {y0:AV} (c:∀H:oh,H.get=bt h->eL s (Jg e h) H k=rv y0) {v:TV} (hv:∀y,ci h v=M y->Le y0 y) (hk:K v 0 0 h nx=M r):kV P o st e h nx K r:=by
 obtain⟨H,a⟩:=jS h;exact⟨v,0,0,h,nx,hk,iS.pure hinv hc a (c H a) hv (by simp) λ_=>rfl⟩
theorem dw {y0:AV} {v:TV} (hv:ci h v=M y0):∀y,ci h v=M y->Le y0 y:=λy a=>by rw[hv]at a;cases a;exact Le.refl _
theorem afv {T:Ty} {xs:Y T.den} {j:Int} (hj:fD j xs.length=J) {off sz:Nat} {ag:Bool} {u:TV} (hg:om 40 T (aI xs j) off sz ag=M u):
 ∃y,ci h u=M (.f y)/\(BC.fz (xs.flatMap (bS T))).sub? (j.toNat*T.size+off) sz ag=M (.f y):=by
 obtain⟨h1,y,h2,A,z⟩:=uo h 40 T _ off sz ag u hg;refine ⟨y,h2,?_⟩;obtain⟨_,_,hlt⟩:=Eo hj;have a:xs[j.toNat]? =M (aI xs j):=by
  unfold aI;rw[au,ax hlt];rfl
 obtain⟨q,hq⟩:=EI (bB T) xs j.toNat _ a;have hlen:=fJ (bB T) xs;have hle:(j.toNat+1)*T.size<=xs.length*T.size:=cK _ hlt;rw[iV]at hle;have hl:=bB T (aI xs j);cases ag with
 |false=>
  obtain⟨s,c⟩:=A rfl;subst s;simp only[BC.sub?,BC.get];have:(xs.flatMap (bS T))[j.toNat*T.size+off]? =M y:=by
   rw[<- hZ,hq,bP (by omega)];exact c
  rw[this];rfl
 |true=>
  simp only[BC.sub?];rw[aC (bC (by omega)),z rfl,<-List.drop_drop,hq,DV (by omega),ly (by simp;omega)]
theorem afw {T:Ty} {v:T.den} {off sz:Nat} {ag:Bool} {u:TV} (hg:om 40 T v off sz ag=M u):
 ∃y,ci h u=M (.f y)/\(BC.fz (bS T v)).sub? off sz ag=M (.f y):=by
 obtain⟨h1,y,h2,s,q⟩:=uo h 40 T _ off sz ag u hg;refine ⟨y,h2,?_⟩;have hl:=bB T v;cases ag with
 |false=>
  obtain⟨c,a⟩:=s rfl;subst c;simp only[BC.sub?,BC.get,a];rfl
 |true=>
  simp only[BC.sub?];rw[aC (bC (by omega)),q rfl]
theorem VK {l:Y TV} {a:Y AV} (hl:cJ h l=M a) {off sz:Nat} {ag:Bool} {u:TV} (hs:Tk l off sz ag=M u):∃y,ci h u=M y/\(BC.mx a).sub? off sz ag=M y:=by
 cases ag with
 |false=>
  simp only[Tk]at hs;split at hs
  .rename_i h1;have h1:=ar h1;subst h1;obtain⟨y,h2,c⟩:=lm hl off u hs;exact⟨y,c,by simp only[BC.sub?,BC.get,h2]⟩
  .cases hs
 |true=>
  simp only[Tk]at hs;split at hs
  .rename_i h1;simp only[ah]at hs;subst hs;have h2:=EM sz (EP off hl);exact⟨.agg ((a.drop off).take sz),by simp only[ci,h2],by simp only[BC.sub?,gI hl,h1,bF]⟩
  .cases hs
theorem Qa {v:TV} {n:Nat} {y:AV} (hn:lenOf h v=M n) (a:ci h v=M y):y.slen=M n:=by
 unfold lenOf at hn;split at hn
 .simp only[ah]at hn;subst hn;simp only[ci,ah]at a;subst a;rfl
 .simp only[ah]at hn;subst hn;simp only[ci,ah]at a;subst a;rfl
 .simp only[ah]at hn;subst hn;simp only[ci,ah]at a;subst a;rfl
 .rename_i id;simp only[ci]at a;cases hr:eH h id with
  |none=>rw[hr]at hn;cases hn
  |some q=>
   obtain⟨p,sz,m⟩:=q;rw[hr]at hn a;simp only[ah]at hn a;subst hn;subst a;unfold fG;split
   .rename_i hp;simp only[al,cU]at hp;rw[hp.2];rfl
   .rfl
 .simp only[ah]at hn;subst hn;simp only[ci,ah]at a;subst a;rfl
 .cases hn
theorem DF (a b:ζ):r7 ⟨a.toArray⟩ ⟨b.toArray⟩=decide (a=b):=by
 unfold r7;simp only[Bool.beq_eq_decide_eq]
theorem aen {op:BinOp} {u v:TV} {q:TV->I R} (hk:ai3 op u v q=M r):∃a b c t,ci h u=M (raw a)/\ci h v=M (raw b)/\tG op a b=M c/\ci h t=M (raw c)/\q t=M r:=by
 unfold ai3 at hk;split at hk
 .rename_i k a k' b;split at hk
  .rename_i hkk;have hkk':k=k':=by simpa using hkk
   subst hkk';refine ⟨.int k a,.int k b,?_⟩;cases op<;>simp only[reduceCtorEq]at hk<;>first
    |cases hk
    |exact⟨_,_,rfl,rfl,(by simp only[tG,cS,bF]<;>rfl),rfl,hk⟩
    |(obtain ⟨hb,hk⟩:=dZ hk
      have s:(b==(0:Int))=af:=by simpa using hb
      exact⟨_,_,rfl,rfl,by simp only[tG,cS,bF,s,cz,dT],rfl,hk⟩)
  .cases hk
 .rename_i a b;refine ⟨.string ⟨kQ a⟩,.string ⟨kQ b⟩,?_⟩;split at hk
  .exact⟨.bool (decide ((a:ζ)=b)),_,rfl,rfl,by simp only[tG,DF],rfl,hk⟩
  .exact⟨.bool (!decide ((a:ζ)=b)),_,rfl,rfl,by simp only[tG,DF],rfl,hk⟩
  .cases hk
 .cases hk
theorem WR {T:Ty}:∀{l:Y TV} {xs:Y T.den},yo T l=M xs->∀k,k<l.length->l[k]? =M (.f T (xs.getD k T.zero))
 |[],xs,_,k,hk=>by simp at hk
 |.f S v::r,xs,a,k,hk=>by
  simp only[yo]at a;split at a
  .rename_i x c;split at a
   .rename_i l hl;simp only[ah]at a;subst a;obtain⟨es,ex⟩:=im c;cases es;subst ex;cases k with
    |zero=>rfl
    |succ k=>simpa using WR hl k (by simpa using hk)
   .cases a
  .cases a
 |.fel _ _ _ _ _::r,xs,a,k,hk=>by simp[yo]at a
 |.pel _ _ _ _::r,xs,a,k,hk=>by simp[yo]at a
 |.ptr _ _::r,xs,a,k,hk=>by simp[yo]at a
 |.csl _ _ _::r,xs,a,k,hk=>by simp[yo]at a
 |.row _::r,xs,a,k,hk=>by simp[yo]at a
 |.emp::r,xs,a,k,hk=>by simp[yo]at a
 |.nil::r,xs,a,k,hk=>by simp[yo]at a
 |.mp _::r,xs,a,k,hk=>by simp[yo]at a
 |.agg _::r,xs,a,k,hk=>by simp[yo]at a
 |.tup _::r,xs,a,k,hk=>by simp[yo]at a
 |.clo _ _::r,xs,a,k,hk=>by simp[yo]at a
 |.undef::r,xs,a,k,hk=>by simp[yo]at a
 |.np::r,xs,a,k,hk=>by simp[yo]at a
 |.anyb::r,xs,a,k,hk=>by simp[yo]at a
theorem WP {l:Y TV} {T:Ty} {xs:Y T.den} (a:ab1 l=M ⟨T,xs⟩):∀k,k<l.length->l[k]? =M (.f T (xs.getD k T.zero)):=by
 unfold ab1 at a;split at a
 .split at a
  .rename_i l1 hl;simp only[ah]at a;cases a;exact WR hl
  .cases a
 .cases a
variable (hinv:ml h nx) (hi:tI e h)
include hinv hi
theorem K_mv {con:FuncId->I cq} {b_:TypeId->I Ty} {x:Operand} {st:Bool} (hc:dl P o.op=M (.mv x)) (hk:dX con b_ (.op (.mv x)) e h nx K=M r):kV P o st e h nx K r:=by
 simp only[dX]at hk;split at hk
 .rename_i v hv;obtain⟨y,h1,h2⟩:=bI hi hv;exact kV.q (k:=0) hinv hc (λH _=>by simp only[eL,h1]) (dw h2) hk
 .cases hk
theorem ajv {con:FuncId->I cq} {b_:TypeId->I Ty} {c a b:Operand} {st:Bool} (hc:dl P o.op=M (.pick c a b)) (hk:dX con b_ (.op (.pick c a b)) e h nx K=M r):kV P o st e h nx K r:=by
 simp only[dX]at hk;split at hk
 .rename_i t hv;obtain⟨y,h1,h2⟩:=bI hi hv;simp only[ci,ah]at h2;subst h2;rcases py hk with ⟨rfl,s⟩|⟨rfl,s⟩
  .split at s
   .rename_i v z;obtain⟨U,L,A⟩:=bI hi z;exact kV.q (k:=0) hinv hc (λH _=>by simp only[eL,h1,gB,bF,L]) (dw A) s
   .cases s
  .split at s
   .rename_i v z;obtain⟨U,L,A⟩:=bI hi z;exact kV.q (k:=0) hinv hc (λH _=>by simp only[eL,h1,gB,L,cz,dT]) (dw A) s
   .cases s
 .cases hk
theorem ajw {con:FuncId->I cq} {b_:TypeId->I Ty} {x:Operand} {st:Bool} (hc:dl P o.op=M (.nilc x)) (hk:dX con b_ (.op (.nilc x)) e h nx K=M r):kV P o st e h nx K r:=by
 simp only[dX]at hk;split at hk;all_goals first
  |(rename_i hv
    obtain⟨y,h1,h2⟩:=bI hi hv;have a:=h2;simp only[ci,ah]at h2;subst h2;exact kV.q (k:=0) hinv hc (λH _=>by simp only[eL,h1]) (dw a) hk)
  |skip
 .rename_i g cap hv;obtain⟨y,h1,h2⟩:=bI hi hv;have a:=h2;simp only[ci]at h2;split at h2
  .simp only[ah]at h2;subst h2;exact kV.q (k:=0) hinv hc (λH _=>by simp only[eL,h1]) (dw a) hk
  .cases h2
 .cases hk
theorem an1 {con:FuncId->I cq} {b_:TypeId->I Ty} {x:Operand} {st:Bool} (hc:dl P o.op=M (.not x)) (hk:dX con b_ (.op (.not x)) e h nx K=M r):kV P o st e h nx K r:=by
 simp only[dX]at hk;split at hk
 .rename_i b hv;obtain⟨y,h1,h2⟩:=bI hi hv;simp only[ci,ah]at h2;subst h2;exact kV.q (k:=0) hinv hc (λH _=>by simp only[eL,h1,gB];rfl) (dw rfl) hk
 .cases hk
theorem ak3 {con:FuncId->I cq} {b_:TypeId->I Ty} {k:IntKind} {x:Operand} {st:Bool} (hc:dl P o.op=M (.conv k x)) (hk:dX con b_ (.op (.conv k x)) e h nx K=M r):kV P o st e h nx K r:=by
 simp only[dX]at hk;split at hk
 .rename_i k' n hv;obtain⟨y,h1,h2⟩:=bI hi hv;simp only[ci,ah]at h2;subst h2;exact kV.q (k:=0) hinv hc (λH _=>by simp only[eL,h1,gB];rfl) (dw rfl) hk
 .cases hk
theorem anf {con:FuncId->I cq} {b_:TypeId->I Ty} {neg:Bool} {x y:Operand} {st:Bool} (hc:dl P o.op=M (.eqb neg x y)) (hk:dX con b_ (.op (.eqb neg x y)) e h nx K=M r):kV P o st e h nx K r:=by
 simp only[dX]at hk;split at hk
 .rename_i a b hv c;obtain⟨y,h1,h2⟩:=bI hi hv;obtain⟨A,z,s⟩:=bI hi c;simp only[ci,ah]at h2 s;subst h2;subst s;exact kV.q (k:=0) hinv hc (λH _=>by simp only[eL,h1,z,gB];rfl) (dw rfl) hk
 .cases hk
theorem afg {con:FuncId->I cq} {b_:TypeId->I Ty} {neg:Bool} {x:Operand} {st:Bool} (hc:dl P o.op=M (.isnil neg x)) (hk:dX con b_ (.op (.isnil neg x)) e h nx K=M r):kV P o st e h nx K r:=by
 simp only[dX]at hk;split at hk
 .rename_i hv;obtain⟨y,h1,h2⟩:=bI hi hv;simp only[ci,ah]at h2;subst h2;exact kV.q (k:=0) hinv hc (λH _=>by simp only[eL,h1,tB,bF];rfl) (dw rfl) hk
 .rename_i hv;obtain⟨y,h1,h2⟩:=bI hi hv;simp only[ci,ah]at h2;subst h2;exact kV.q (k:=0) hinv hc (λH _=>by simp only[eL,h1]) (dw rfl) hk
 .rename_i T xs hv;obtain⟨y,h1,h2⟩:=bI hi hv;simp only[ci,ah]at h2;subst h2;rcases py hk with ⟨c,a⟩|⟨c,a⟩
  .have c:=ar c;exact kV.q (k:=0) (y0:=.anyb) hinv hc (λH _=>by simp only[eL,h1,gB,c]) (dw rfl) a
  .have c:=ik c;obtain⟨n,hn⟩:=Nat.exists_eq_succ_of_ne_zero c;exact kV.q (k:=0) (y0:=raw (.bool neg)) hinv hc (λH _=>by simp only[eL,h1,gB,hn]) (dw rfl) a
 .rename_i id hv;split at hk
  .rename_i ty T xs hb;obtain⟨y,h1,h2⟩:=bI hi hv;simp only[ci,eH,hb,fG,lA,cz,dT,ah]at h2;subst h2;exact kV.q (k:=0) (y0:=raw (.bool neg)) hinv hc (λH _=>by simp only[eL,h1]) (dw rfl) hk
  .cases hk
 .cases hk
theorem an6 {con:FuncId->I cq} {b_:TypeId->I Ty} {x y:Operand} {st:Bool} (hc:dl P o.op=M (.max x y)) (hk:dX con b_ (.op (.max x y)) e h nx K=M r):kV P o st e h nx K r:=by
 simp only[dX]at hk;split at hk
 .rename_i k a k' b hv c;obtain⟨y,h1,h2⟩:=bI hi hv;obtain⟨A,z,s⟩:=bI hi c;simp only[ci,ah]at h2 s;subst h2;subst s;split at hk
  .exact kV.q (k:=0) hinv hc (λH _=>by simp only[eL,h1,z,gB];rfl) (dw rfl) hk
  .cases hk
 .cases hk
theorem an5 {con:FuncId->I cq} {b_:TypeId->I Ty} {x y:Operand} {st:Bool} (hc:dl P o.op=M (.min x y)) (hk:dX con b_ (.op (.min x y)) e h nx K=M r):kV P o st e h nx K r:=by
 simp only[dX]at hk;split at hk
 .rename_i k a k' b hv c;obtain⟨y,h1,h2⟩:=bI hi hv;obtain⟨A,z,s⟩:=bI hi c;simp only[ci,ah]at h2 s;subst h2;subst s;split at hk
  .exact kV.q (k:=0) hinv hc (λH _=>by simp only[eL,h1,z,gB];rfl) (dw rfl) hk
  .cases hk
 .cases hk
theorem anc {con:FuncId->I cq} {b_:TypeId->I Ty} {off:Nat} {x:Operand} {st:Bool} (hc:dl P o.op=M (.fad off x)) (hk:dX con b_ (.op (.fad off x)) e h nx K=M r):kV P o st e h nx K r:=by
 simp only[dX]at hk;split at hk;all_goals first
  |(rename_i hv
    obtain⟨y,h1,h2⟩:=bI hi hv;simp only[ci,ah]at h2;subst h2;exact kV.q (k:=0) hinv hc (λH _=>by simp only[eL,h1,sI]) (dw rfl) hk)
  |cases hk
theorem anb {con:FuncId->I cq} {b_:TypeId->I Ty} {off sz:Nat} {ag:Bool} {x:Operand} {st:Bool} (hc:dl P o.op=M (.fld off sz ag x)) (hk:dX con b_ (.op (.fld off sz ag x)) e h nx K=M r):kV P o st e h nx K r:=by
 simp only[dX]at hk;split at hk
 .rename_i l hv;split at hk
  .rename_i u hs;obtain⟨y,h1,h2⟩:=bI hi hv;simp only[ci]at h2;split at h2
   .rename_i z hl;simp only[ah]at h2;subst h2;obtain⟨y,c,a⟩:=VK hl hs;exact kV.q (k:=0) hinv hc (λH _=>by simp only[eL,h1,a]) (dw c) hk
   .cases h2
  .cases hk
 .rename_i T v hv;split at hk
  .cases hk
  .rename_i s;split at hk
   .rename_i u hs;obtain⟨y,h1,h2⟩:=bI hi hv;simp only[ci,ah]at h2;rw[qD T v (by simpa using s)]at h2;subst h2;obtain⟨y,c,a⟩:=afw (h:=h) hs;exact kV.q (k:=0) hinv hc (λH _=>by simp only[eL,h1,a]) (dw c) hk
   .cases hk
 .cases hk
theorem an9 {con:FuncId->I cq} {b_:TypeId->I Ty} {n sz:Nat} {ag:Bool} {x i:Operand} {st:Bool} (hc:dl P o.op=M (.idx n sz ag x i)) (hk:dX con b_ (.op (.idx n sz ag x i)) e h nx K=M r):kV P o st e h nx K r:=by
 simp only[dX]at hk;split at hk
 .rename_i v0 k j hv A;split at hk
  .rename_i T xs hA;obtain⟨hb,hk⟩:=dZ hk;cases ag with
   |true=>cases hA
   |false=>
   simp only[al4]at hA;split at hA
   .rename_i hsz;simp only[al,eD]at hsz;have hsz1:=ar hsz.1;subst hsz1;split at hA
    .rename_i l hl;split at hA
     .rename_i hn;have hn:=ar hn;obtain⟨y,h1,h2⟩:=bI hi hv;obtain⟨y2,L,c⟩:=bI hi A;simp only[ci,ah]at c;subst c;have hj:j.toNat<l.length:=by
       simp only[al,cX,fK,bL]at hb;omega
      have hg:=WP hA j.toNat hj;obtain⟨he,_⟩:=JY hl h2;obtain⟨z,a,s⟩:=lm he j.toNat _ hg;have s:ci h (.f T (aI xs j))=M z:=s;refine kV.q (k:=0) hinv hc (λH _=>?_) (dw s) hk;cases v0 with
      |agg q=>
       simp only[ci]at h2;split at h2
       .rename_i l' _;simp only[ah]at h2;subst h2;have a:l'[j.toNat]? =M z:=a;simp only[eL,h1,L,gB,hb,bF,BC.sub?,BC.get,Nat.mul_one,a]
       .cases h2
      |f S u=>
       have U:S.one=af:=by
        have:=hsz.2;simpa[TV.isC] using this
       simp only[ci,ah]at h2;rw[qD S u U]at h2;subst h2;have a:((bS S u).map AV.f)[j.toNat]? =M z:=a;rw[ba]at a;simp only[eL,h1,L,gB,hb,bF,BC.sub?,BC.get,Nat.mul_one,a]
      |_=>simp[TV.cs,TV.isC]at hl hsz
     .cases hA
    .cases hA
   .cases hA
  .split at hk
   .rename_i l;obtain⟨hb,hk⟩:=dZ hk;split at hk
    .rename_i u hs;obtain⟨y,h1,h2⟩:=bI hi hv;obtain⟨y2,L,c⟩:=bI hi A;simp only[ci,ah]at c;subst c;simp only[ci]at h2;split at h2
     .rename_i l' hl;simp only[ah]at h2;subst h2;obtain⟨y,h3,Z⟩:=VK hl hs;exact kV.q (k:=0) hinv hc (λH _=>by simp only[eL,h1,L,gB,hb,bF,Z]) (dw h3) hk
     .cases h2
    .cases hk
   .rename_i T v _;split at hk
    .cases hk
    .rename_i U;obtain⟨hb,hk⟩:=dZ hk;split at hk
     .rename_i u hs;obtain⟨y,h1,h2⟩:=bI hi hv;obtain⟨y2,L,c⟩:=bI hi A;simp only[ci,ah]at c h2;subst c;rw[qD T v (by simpa using U)]at h2;subst h2;obtain⟨y,h3,Z⟩:=afw (h:=h) hs;exact kV.q (k:=0) hinv hc (λH _=>by simp only[eL,h1,L,gB,hb,bF,Z]) (dw h3) hk
     .cases hk
   .cases hk
 .cases hk
theorem ak1 {con:FuncId->I cq} {b_:TypeId->I Ty} {n sz:Nat} {x i:Operand} {st:Bool} (hc:dl P o.op=M (.iada n sz x i)) (hk:dX con b_ (.op (.iada n sz x i)) e h nx K=M r):kV P o st e h nx K r:=by
 simp only[dX]at hk;split at hk
 .rename_i id off k j hv a;obtain⟨y,h1,h2⟩:=bI hi hv;obtain⟨z,s,c⟩:=bI hi a;simp only[ci,ah]at c h2;subst c;subst h2;split at hk
  .obtain⟨hb,hk⟩:=dZ hk;exact kV.q (k:=0) (y0:=.ptr (nm id) (off+j.toNat*sz)) hinv hc (λH _=>by simp only[eL,h1,s,gB,hb,bF]) (dw (by simp only[ci];rw[Nat.add_comm])) hk
  .obtain⟨hb,hk⟩:=dZ hk;exact kV.q (k:=0) hinv hc (λH _=>by simp only[eL,h1,s,gB,hb,bF]) (dw rfl) hk
 .cases hk
theorem and {con:FuncId->I cq} {b_:TypeId->I Ty} {i:Nat} {x:Operand} {st:Bool} (hc:dl P o.op=M (.ext x i)) (hk:dX con b_ (.op (.ext x i)) e h nx K=M r):kV P o st e h nx K r:=by
 simp only[dX]at hk;split at hk
 .rename_i l hv;split at hk
  .rename_i u hs;obtain⟨y,h1,h2⟩:=bI hi hv;simp only[ci]at h2;split at h2
   .rename_i s hl;simp only[ah]at h2;subst h2;obtain⟨y,c,a⟩:=lm hl i u hs;exact kV.q (k:=0) hinv hc (λH _=>by simp only[eL,h1,c]) (dw a) hk
   .cases h2
  .cases hk
 .cases hk
theorem an8 {con:FuncId->I cq} {b_:TypeId->I Ty} {x:Operand} {st:Bool} (hc:dl P o.op=M (.len x)) (hk:dX con b_ (.op (.len x)) e h nx K=M r):kV P o st e h nx K r:=by
 simp only[dX]at hk;split at hk
 .rename_i v hv;split at hk
  .rename_i n hn;obtain⟨y,h1,h2⟩:=bI hi hv;have a:=Qa hn h2;exact kV.q (k:=0) hinv hc (λH _=>by simp only[eL,h1,a];rfl) (dw rfl) hk
  .cases hk
 .cases hk
theorem ajz {con:FuncId->I cq} {b_:TypeId->I Ty} {x:Operand} {st:Bool} (hc:dl P o.op=M (.lens x)) (hk:dX con b_ (.op (.lens x)) e h nx K=M r):kV P o st e h nx K r:=by
 simp only[dX]at hk;split at hk
 .rename_i s hv;obtain⟨y,h1,h2⟩:=bI hi hv;simp only[ci,ah]at h2;subst h2;exact kV.q (k:=0) hinv hc (λH _=>by simp only[eL,h1,gB];rfl) (dw rfl) hk
 .cases hk
theorem aju {con:FuncId->I cq} {b_:TypeId->I Ty} {x i:Operand} {st:Bool} (hc:dl P o.op=M (.sidx x i)) (hk:dX con b_ (.op (.sidx x i)) e h nx K=M r):kV P o st e h nx K r:=by
 simp only[dX]at hk;split at hk
 .rename_i s k j hv a;obtain⟨hj,hk⟩:=dZ hk;obtain⟨y,h1,h2⟩:=bI hi hv;obtain⟨U,L,c⟩:=bI hi a;simp only[ci,ah]at h2 c;subst h2;subst c;obtain⟨A,Z,z⟩:=Eo hj;have e1:cX 0 j=J:=by simp[cX,A]
  have e2:(⟨kQ s⟩:ByteArray).data.toList[j.toNat]? =M (List.getD s j.toNat 0):=by
   show s[j.toNat]? =_;rw[au,ax z];rfl
  exact kV.q (k:=0) (y0:=raw (.int .u8 (aN (List.getD s j.toNat 0).toNat))) hinv hc (λH _=>by simp only[eL,h1,L,gB,e1,bF,e2];rfl) (dw rfl) hk
 .cases hk
theorem ana {con:FuncId->I cq} {b_:TypeId->I Ty} {sz:Nat} {x i:Operand} {st:Bool} (hc:dl P o.op=M (.iad sz x i)) (hk:dX con b_ (.op (.iad sz x i)) e h nx K=M r):kV P o st e h nx K r:=by
 simp only[dX]at hk;split at hk
 .rename_i id k j hv a;split at hk
  .rename_i ty p T xs hb;split at hk
   .rename_i hs;have hs:=ar hs;obtain⟨hj,hk⟩:=dZ hk;obtain⟨y,h1,h2⟩:=bI hi hv;obtain⟨L,z,c⟩:=bI hi a;simp only[ci,ah]at c;subst c;obtain⟨j0,Z,U⟩:=Eo hj;have hne:¬((p&&xs.length==0)=J):=by
     simp only[al,cU];omega
    simp only[ci,eH,hb,fG,ay hne,ah]at h2;subst h2;have A:(T.size==sz&&cX 0 j&&fK j xs.length)=J:=by
     simp only[fD,al]at hj;simp[hs,hj.1,hj.2]
    exact kV.q (k:=0) hinv hc (λH _=>by simp only[eL,h1,z,gB,A,bF,cZ]) (dw rfl) hk
   .cases hk
  .cases hk
 .rename_i T xs k j hv a;split at hk
  .rename_i hs;have hs:=ar hs;obtain⟨hj,hk⟩:=dZ hk;obtain⟨y,h1,h2⟩:=bI hi hv;obtain⟨L,z,c⟩:=bI hi a;simp only[ci,ah]at c h2;subst c;subst h2;have s:(cX 0 j&&fK j (ai xs))=J:=hj;exact kV.q (k:=0) hinv hc (λH _=>by simp only[eL,h1,z,gB,s,bF,cZ,hs]) (dw rfl) hk
  .cases hk
 .rename_i id sz' n k j hv a;split at hk
  .rename_i hs;have hs:=ar hs;subst hs;obtain⟨hj,hk⟩:=dZ hk;obtain⟨y,h1,h2⟩:=bI hi hv;obtain⟨L,z,c⟩:=bI hi a;simp only[ci,ah]at c h2;subst c;subst h2;have s:(sz'==sz'&&cX 0 j&&fK j n)=J:=by simp only[al]at hj ⊢;exact⟨⟨cS _,hj.1⟩,hj.2⟩
   exact kV.q (k:=0) hinv hc (λH _=>by simp only[eL,h1,z,gB,s,bF]) (dw rfl) hk
  .cases hk
 .cases hk
theorem an4 {con:FuncId->I cq} {b_:TypeId->I Ty} {f:FuncId} {caps:Y Operand} {st:Bool} (hc:dl P o.op=M (.mkf f caps)) (hk:dX con b_ (.op (.mkf f caps)) e h nx K=M r):kV P o st e h nx K r:=by
 simp only[dX]at hk;split at hk
 .rename_i l hv;obtain⟨a,h1,h2⟩:=yH hi hv;exact kV.q (k:=0) hinv hc (y0:=.clo f a) (λH _=>by simp only[eL,h1]) (dw (by simp only[ci,h2])) hk
 .cases hk
theorem anj {con:FuncId->I cq} {b_:TypeId->I Ty} {op:BinOp} {x y:Operand} {st:Bool} (hc:dl P o.op=M (.bin op x y)) (hk:dX con b_ (.op (.bin op x y)) e h nx K=M r):kV P o st e h nx K r:=by
 simp only[dX]at hk;split at hk
 .rename_i u v hv s;obtain⟨a,b,c,t,h1,h2,h3,h4,Z⟩:=aen (h:=h) hk;obtain⟨y,U,L⟩:=bI hi hv;obtain⟨y2,A,z⟩:=bI hi s;rw[h1]at L;cases L;rw[h2]at z;cases z;simp only[raw]at U A;exact kV.q (k:=0) hinv hc (λH _=>by simp only[eL,U,A,h3]) (dw h4) Z
 .cases hk
end ops
def mR:io->I (Bool×Nat×Nat)
 |.rows _ p T xs=>M (p,T.size,xs.length)
 |.dead p sz n=>M (p,sz,n)
 |_=>D
theorem bR (h:bg) (i:Nat):eH h i=(h.get i).bind mR:=by
 unfold eH;cases h.get i with
 |none=>rfl
 |some b=>cases b<;>rfl
theorem bZ.refl (h:bg):bZ h h:=λ_ _ h=>h
theorem bZ.trans {a b c:bg} (h1:bZ a b) (h2:bZ b c):bZ a c:=λi r h=>h2 i r (h1 i r h)
theorem bZ.set {h:bg} {i:Nat} {b:io} (hb:∀r,eH h i=M r->mR b=M r):bZ h (h.set i (M b)):=λj r hj=>by
 rw[bR,PT.get_set];by_cases e:j=i
 .subst e;rw[aC rfl];exact hb r hj
 .rw[ay e,<-bR];exact hj
theorem Mb {b:io} {r:Bool×Nat×Nat} (h:mR b=M r):mR (uT b)=M r:=by cases b<;>first|exact h|cases h
theorem jb (m:Nat) (h:bg) (i:Nat):(eA m h).get i=if aM m i then (h.get i).map uT else h.get i:=by
 unfold eA;split
 .rename_i hm;have:=ar hm;subst this;simp
 .rw[PT.get_updI];simp only[Nat.one_mul,cZ];cases h.get i with
  |none=>simp
  |some b=>simp only[ca];split<;>rfl
theorem bZ.kill (m:Nat) (h:bg):bZ h (eA m h):=λi r hr=>by
 rw[bR]at hr ⊢;rw[jb];split
 .cases hb:h.get i with
  |none=>rw[hb]at hr;cases hr
  |some b=>rw[hb]at hr;exact Mb hr
 .exact hr
theorem ml.set {h:bg} {nx nx' i:Nat} {b:io} (hi:ml h nx) (hr:bZ h (h.set i (M b))) (hlt:i<nx') (hle:nx<=nx') (hb:∀ty l,b= .cells ty l->kX (h.set i (M b)) l=J):ml (h.set i (M b)) nx':=by
 refine ⟨λj ty l hj=>?_,λj c hj=>?_⟩
 .rw[PT.get_set]at hj;split at hj
  .simp only[ah]at hj;exact hb ty l hj
  .exact iZ hr l (hi.cells j _ l hj)
 .rw[PT.get_set]at hj;split at hj
  .rename_i e;subst e;exact hlt
  .exact dB (hi.low j c hj) hle
theorem ml.kill {h:bg} {nx:Nat} (hi:ml h nx) (m:Nat):ml (eA m h) nx:=by
 refine ⟨λj ty l hj=>?_,λj c hj=>?_⟩
 .rw[jb]at hj;refine iZ (bZ.kill m h) l (hi.cells j ty l ?_);split at hj
  .cases hb:h.get j with
   |none=>rw[hb]at hj;cases hj
   |some b=>rw[hb]at hj;cases b<;>simp[uT]at hj
  .exact hj
 .rw[jb]at hj;split at hj
  .cases hb:h.get j with
   |none=>rw[hb]at hj;cases hj
   |some b=>exact hi.low j b hb
  .exact hi.low j c hj
theorem Jh {h h':bg} (hr:bZ h h') {b:io} (hb:∀ty l,b= .cells ty l->kX h l=J):jC h' b=jC h b:=by
 cases b with
 |cells ty l=>
  obtain⟨a,hl⟩:=fd h l (hb ty l rfl);cases ty<;>simp only[jC,hl,gm hr l a hl]
 |_=>rfl
theorem XQ {h h':bg} {nx i:Nat} (hi:ml h nx) (hr:bZ h h') (hg:h'.get i=h.get i):bt h' (nm i)=bt h (nm i):=by
 rw[bE,bE,hg];cases hb:h.get i with
 |none=>rfl
 |some b=>exact Jh hr λty l e=>hi.cells i _ l (by rw[hb,e])
theorem wu (h:bg) {n:Nat} (hn:¬∃i,n=nm i):bt h n=D:=by
 unfold bt;rw[ay];intro h2;exact hn ⟨n/2,by unfold nm;omega⟩
theorem kz {h h':bg} {nx:Nat} (hi:ml h nx) (hr:bZ h h') {n:Nat} (hg:∀i,n=nm i->h'.get i=h.get i):bt h' n=bt h n:=by
 by_cases hn:∃i,n=nm i
 .obtain⟨i,rfl⟩:=hn;exact XQ hi hr (hg i rfl)
 .rw[wu h hn,wu h' hn]
def Ft (m:Nat):ι:=(aaw m).map nm
theorem nV {m n:Nat}:n∈Ft m↔∃i,n=nm i/\aM m i=J:=by
 unfold Ft;rw[db];constructor
 .rintro⟨i,h1,rfl⟩;exact⟨i,rfl,Ml.1 h1⟩
 .rintro⟨i,rfl,h1⟩;exact⟨i,Ml.2 h1,rfl⟩
theorem lV {m i:Nat}:nm i∈Ft m↔aM m i=J:=by
 rw[nV];constructor
 .rintro⟨j,h1,h2⟩;rw[kY h1];exact h2
 .exact λh=>⟨i,rfl,h⟩
def dQ (h:bg) (m:Nat):Prop:=∀i,aM m i=J->∃ty p T xs,h.get i=M (.rows ty p T xs)
theorem dQ.zero (h:bg):dQ h 0:=λi hi=>by simp at hi
theorem dQ.or {h:bg} {a b:Nat} (c:dQ h a) (hb:dQ h b):dQ h (a|||b):=λi hi=>by
 rw[bp,iY]at hi;exact hi.elim (c i) (hb i)
theorem nG {h:bg} {T:Ty} {v:TV} {x:T.den} {m:Nat} (a:iO h T v=M (x,m)):dQ h m:=by
 cases v with
 |f S v=>
  simp only[iO]at a;split at a
  .simp only[ah,aD]at a;rw[<- a.2];exact dQ.zero h
  .cases a
 |emp=>
  simp only[iO]at a;split at a
  .simp only[ah,aD]at a;rw[<- a.2];exact dQ.zero h
  .cases a
 |nil=>
  simp only[iO]at a;split at a
  .simp only[ah,aD]at a;rw[<- a.2];exact dQ.zero h
  .cases a
 |row id=>
  simp only[iO]at a;split at a
  .rename_i ty p S xs hb;split at a
   .simp only[ah,aD]at a;rw[<- a.2];intro i hi;have:=bV.1 hi;subst this;exact⟨ty,p,S,xs,hb⟩
   .cases a
  .cases a
 |fel T xs j hj off=>simp[iO]at a
 |pel id sz j off=>simp[iO]at a
 |ptr id off=>simp[iO]at a
 |csl id off z=>simp[iO]at a
 |mp id=>simp[iO]at a
 |rtl id c=>simp[iO]at a
 |agg q=>simp[iO]at a
 |tup q=>simp[iO]at a
 |clo f q=>simp[iO]at a
 |undef=>simp[iO]at a
 |np=>simp[iO]at a
 |anyb=>simp[iO]at a
theorem uP {h:bg}:∀(n:Nat) (T:Ty) (l:Y TV) (x:T.den) (m:Nat) (r:Y TV),e9 h n T l=M (x,m,r)->dQ h m
 |0,_,_,_,_,_,hp=>by simp[e9]at hp
 |n+1,.st t,l,x,m,r,hp=>uP n t l x m r hp
 |n+1,.pr a b,l,x,m,r,hp=>by
  simp only[e9]at hp;split at hp
  .rename_i c m1 r1 h1;split at hp
   .rename_i q m2 r2 h2;simp only[ah,aD]at hp;obtain⟨_,rfl,_⟩:=hp;exact (uP n a l c m1 r1 h1).or (uP n b r1 q m2 r2 h2)
   .cases hp
  .cases hp
 |n+1,.un,l,x,m,r,hp=>by
  simp only[e9,ah,aD]at hp;obtain⟨_,rfl,_⟩:=hp;exact dQ.zero h
 |n+1,.ex,l,x,m,r,hp=>by
  simp only[e9]at hp;split at hp
  .rename_i c m1 r1 h1;simp only[ah,aD]at hp;obtain⟨_,rfl,_⟩:=hp;exact uP n MA l c m1 r1 h1
  .cases hp
 |n+1,.sm,l,x,m,r,hp=>by
  simp only[e9]at hp;split at hp
  .rename_i c m1 r1 h1;simp only[ah,aD]at hp;obtain⟨_,rfl,_⟩:=hp;exact uP n L_ l c m1 r1 h1
  .cases hp
 |n+1,.int k,l,x,m,r,hp=>by
  simp only[e9]at hp;split at hp
  .split at hp
   .rename_i c m1 h1;simp only[ah,aD]at hp;obtain⟨_,rfl,_⟩:=hp;exact nG h1
   .cases hp
  .cases hp
 |n+1,.bool,l,x,m,r,hp=>by
  simp only[e9]at hp;split at hp
  .split at hp
   .rename_i c m1 h1;simp only[ah,aD]at hp;obtain⟨_,rfl,_⟩:=hp;exact nG h1
   .cases hp
  .cases hp
 |n+1,.str,l,x,m,r,hp=>by
  simp only[e9]at hp;split at hp
  .split at hp
   .rename_i c m1 h1;simp only[ah,aD]at hp;obtain⟨_,rfl,_⟩:=hp;exact nG h1
   .cases hp
  .cases hp
 |n+1,.sl t,l,x,m,r,hp=>by
  simp only[e9]at hp;split at hp
  .split at hp
   .rename_i c m1 h1;simp only[ah,aD]at hp;obtain⟨_,rfl,_⟩:=hp;exact nG h1
   .cases hp
  .cases hp
theorem WO {h:bg} {T:Ty} {v:TV} {x:T.den} {m:Nat} (a:DG h T v=M (x,m)):dQ h m:=by
 cases v with
 |agg l=>
  simp only[DG]at a;split at a
  .cases a
  .split at a
   .rename_i c m1 h1;simp only[ah,aD]at a;obtain⟨_,rfl⟩:=a;exact uP 40 T l c m1 [] h1
   .cases a
 |f S v=>exact nG (v:=.f S v) a
 |fel T xs j hj off=>exact nG (v:=.fel T xs j hj off) a
 |pel id sz j off=>exact nG (v:=.pel id sz j off) a
 |ptr id off=>exact nG (v:=.ptr id off) a
 |csl id off z=>exact nG (v:=.csl id off z) a
 |row id=>exact nG (v:=.row id) a
 |emp=>exact nG (v:=.emp) a
 |nil=>exact nG (v:=.nil) a
 |mp id=>exact nG (v:=.mp id) a
 |rtl id s=>exact nG (v:=.rtl id s) a
 |tup q=>exact nG (v:=.tup q) a
 |clo g q=>exact nG (v:=.clo g q) a
 |undef=>exact nG (v:=.undef) a
 |np=>exact nG (v:=.np) a
 |anyb=>exact nG (v:=.anyb) a
theorem Nx {h:bg} {T:Ty}:∀(n:Nat) (l:Y TV) (xs:Y T.den) (m:Nat),yF h T n l=M (xs,m)->dQ h m
 |0,[],xs,m,hp=>by simp only[yF,ah,aD]at hp;rw[<- hp.2];exact dQ.zero h
 |0,_::_,xs,m,hp=>by simp[yF]at hp
 |n+1,l,xs,m,hp=>by
  simp only[yF]at hp;split at hp
  .rename_i c m1 r1 h1;split at hp
   .rename_i a m2 h2;simp only[ah,aD]at hp;obtain⟨_,rfl⟩:=hp;exact (uP 40 T l c m1 r1 h1).or (Nx n r1 a m2 h2)
   .cases hp
  .cases hp
theorem zP {h:bg} {u:TV}:∀(n:Nat) (T:Ty) (v:T.den) (off sz:Nat) (z:T.den) (m:Nat),gX h u n T v off sz=M (z,m)->dQ h m
 |0,_,_,_,_,_,_,hg=>by simp[gX]at hg
 |n+1,.st t,v,off,sz,z,m,hg=>by
  simp only[gX]at hg;split at hg
  .rename_i q hq;split at hq
   .simp only[ah]at hg;subst hg;exact WO hq
   .cases hq
  .exact zP n t v off sz z m hg
 |n+1,.pr a b,v,off,sz,z,m,hg=>by
  simp only[gX]at hg;split at hg
  .split at hg
   .rename_i c m1 h1;simp only[ah,aD]at hg;obtain⟨_,rfl⟩:=hg;exact zP n a v.1 off sz c m1 h1
   .cases hg
  .split at hg
   .rename_i c m1 h1;simp only[ah,aD]at hg;obtain⟨_,rfl⟩:=hg;exact zP n b v.2 _ sz c m1 h1
   .cases hg
 |n+1,.un,v,off,sz,z,m,hg=>by simp[gX]at hg
 |n+1,.ex,v,off,sz,z,m,hg=>by
  simp only[gX]at hg;split at hg
  .rename_i q hq;split at hq
   .simp only[ah]at hg;subst hg;exact WO hq
   .cases hq
  .split at hg
   .rename_i c m1 h1;simp only[ah,aD]at hg;obtain⟨_,rfl⟩:=hg;exact zP n MA _ off sz c m1 h1
   .cases hg
 |n+1,.sm,v,off,sz,z,m,hg=>by
  simp only[gX]at hg;split at hg
  .rename_i q hq;split at hq
   .simp only[ah]at hg;subst hg;exact WO hq
   .cases hq
  .split at hg
   .rename_i c m1 h1;simp only[ah,aD]at hg;obtain⟨_,rfl⟩:=hg;exact zP n L_ _ off sz c m1 h1
   .cases hg
 |n+1,.int k,v,off,sz,z,m,hg=>by
  simp only[gX]at hg;split at hg
  .exact nG hg
  .cases hg
 |n+1,.bool,v,off,sz,z,m,hg=>by
  simp only[gX]at hg;split at hg
  .exact nG hg
  .cases hg
 |n+1,.str,v,off,sz,z,m,hg=>by
  simp only[gX]at hg;split at hg
  .exact nG hg
  .cases hg
 |n+1,.sl t,v,off,sz,z,m,hg=>by
  simp only[gX]at hg;split at hg
  .exact nG hg
  .cases hg
theorem tQ {h:bg} {m i:Nat} (hm:dQ h m) (hb:aM m i=J):∃p sz n,(eA m h).get i=M (.dead p sz n):=by
 obtain⟨ty,p,T,xs,h1⟩:=hm i hb;exact⟨p,T.size,xs.length,by rw[jb,aC hb,h1];rfl⟩
section ops
variable {R:Type} {P:Program} {o:Oper} {e:iT} {h:bg} {nx:Nat} {K:KO R} {r:R}
theorem ir (n:Nat) (b:vG):jm [(n,b)] n=M b:=by simp[jm]
theorem iS.mk' {s:Yz} (hc:dl P o.op=M s) {H:oh} (hH:H.get=bt h) {k:Nat} {y0:AV} {rdl wrl N:ι} {nw:NW} (ha:eL s (Jg e h) H k=M ⟨y0,rdl,wrl,nw,N⟩) {v:TV} {h':bg} {nx' rd wr:Nat} (wr':ι)
 (hsub:∀i∈wrl,i∈wr') (hsame:∀n,n∉wr'->bt h' n=bt h n)
 (hdom:∀i∈wr',∀b',bt h' i=M b'->∃b,(if i∈wrl then jm nw i else bt h i)=M b)
 (hblk:∀(A U:HF),uJ A U->(∀i∈wrl,A i=jm nw i)->(∀i∈wr',i∉wrl->A i=bt h i)->(∀i∈wr',U i=bt h' i)->(∀i∈wr',∀b b',A i=M b->U i=M b'->iJ A U b b')/\∀y,ci h' v=M y->lI A U y0 y)
 (hrd:∀n∈rdl,aM rd (ow n)=J) (hwr:∀n∈wr',aM wr (ow n)=J) (Z:∀n∈N,nx<=ow n/\ow n<nx') (hrows:bZ h h') (hinv':ml h' nx') (hg:nx<=nx'):iS P o af e h nx v rd wr h' nx':=by
 have ht:=Ic hc ha;rw[uY,hH]at ht;refine ⟨?_,hrows,hinv',hg,λhs=>by cases hs⟩;have base:∀(val:AV),(∀y,ci h' v=M y->y=val)->(ci h' v=D->val=y0)->gM P o (fO e h) (bt h) ⟨val,rdl,wr',bt h',N⟩:=by
  intro val hval hnone;refine gM.view ht (λi hi=>.inl (hsub i hi)) λh1 hr1 L=>?_
  have hd:uJ (eV h1 wrl (jm nw)) (eV h1 wr' (bt h')):=by
   intro i b hb;unfold eV at hb ⊢;by_cases hi:i∈wr'
   .rw[aC hi]at hb;obtain⟨b0,c⟩:=hdom i hi b hb;refine ⟨b0,?_⟩;by_cases z:i∈wrl
    .rw[aC z]at c ⊢;exact c
    .rw[ay z]at c ⊢;rw[L i hi];exact c
   .rw[ay hi]at hb;rw[ay (λz=>hi (hsub i z))];exact⟨b,hb⟩
  obtain⟨q1,q2⟩:=hblk _ _ hd (λi hi=>by unfold eV;rw[aC hi]) (λi hi z=>by unfold eV;rw[ay z];exact L i hi) (λi hi=>by unfold eV;rw[aC hi]);refine ⟨⟨hd,λi b b' hb q=>?_⟩,?_⟩
  .by_cases hi:i∈wr'
   .exact q1 i hi b b' hb q
   .unfold eV at hb q;rw[ay (λz=>hi (hsub i z))]at hb;rw[ay hi,hb]at q;cases q;exact iJ.refl hd b
  .cases hv:ci h' v with
   |none=>rw[hnone hv];exact lI.refl hd _
   |some y=>rw[<- hval y hv];exact q2 y hv
 have hu:eV (bt h) wr' (bt h')=bt h':=by
  funext n;unfold eV;split
  .rfl
  .rename_i hn;exact (hsame n hn).symm
 cases hv:ci h' v with
 |none=>exact⟨_,base y0 (λy a=>by rw[hv]at a;cases a) (λ_=>rfl),λy a=>(by cases a),hu,hrd,hwr,Z⟩
 |some y=>exact⟨_,base y (λy' a=>by rw[hv]at a;cases a;rfl) (λhn=>by rw[hv]at hn;cases hn),λy' a=>by cases a;rfl,hu,hrd,hwr,Z⟩
theorem CY (hi:tI e h):∀(parts:Y (Nat×Nat×Operand)) (cells cs:Y TV) (cells':Y AV),Jb cells e parts=M cs->cJ h cells=M cells'->∃cs',ze cells' (Jg e h) parts=M cs'/\cJ h cs=M cs'/\(kH cells=J->kH cs=J)
 |[],cells,cs,cells',hf,he=>by simp only[Jb,ah]at hf;subst hf;exact⟨cells',rfl,he,id⟩
 |(off,sz,x)::rest,cells,cs,cells',hf,he=>by
  simp only[Jb]at hf;split at hf
  .rename_i v hv;split at hf
   .rename_i q hq;split at hf
    .rename_i hc;simp only[al,cU]at hc;obtain⟨y,h1,h2⟩:=bI hi hv;obtain⟨A,h4⟩:=JY hq h2;obtain⟨cs',Z,U,L⟩:=CY hi rest (splice cells off q) cs (splice cells' off y.cs) hf (pO off he A);refine ⟨cs',?_,U,λc=>L ?_⟩
     .simp only[ze,h1];rw[aC,Z];simp only[al,cU];exact⟨⟨by rw[gI A];exact hc.1,by rw[gI he];exact hc.2⟩,r8 A h4⟩
     .clear Z U L hf;have app:∀a b:Y TV,kH a=J->kH b=J->kH (a++b)=J:=by
       intro a b c hb;induction a with
       |nil=>exact hb
       |cons z r s=>simp only[kH,al,gx]at c ⊢;exact⟨c.1,s c.2⟩
      have tk:∀(a:Y TV) n,kH a=J->kH (a.take n)=J:=by
       intro a;induction a with
       |nil=>intro n h;simp[kH]
       |cons z r s=>
        intro n h;cases n with
        |zero=>rfl
        |succ n=>simp only[kH,al,vH]at h ⊢;exact⟨h.1,s n h.2⟩
      have dr:∀(a:Y TV) n,kH a=J->kH (a.drop n)=J:=by
       intro a;induction a with
       |nil=>intro n h;simp[kH]
       |cons z r s=>
        intro n h;cases n with
        |zero=>exact h
        |succ n=>simp only[kH,al,vJ]at h ⊢;exact s n h.2
      unfold splice;exact app _ _ (app _ _ (tk _ _ c) h4) (dr _ _ c)
    .cases hf
   .cases hf
  .cases hf
variable (hinv:ml h nx) (hi:tI e h)
include hinv hi
theorem afh {con:FuncId->I cq} {b_:TypeId->I Ty} {z:ξ} {parts:Y (Nat×Nat×Operand)} {st:Bool} (hc:dl P o.op=M (.build z parts)) (hk:dX con b_ (.op (.build z parts)) e h nx K=M r):kV P o st e h nx K r:=by
 simp only[dX]at hk;split at hk
 .rename_i l hl;split at hk
  .rename_i cs hf;obtain⟨h1,_,_⟩:=vg h hl;obtain⟨cs',h2,c,_⟩:=CY hi parts l cs _ hf h1;refine kV.q (k:=0) (y0:=Mi cs') hinv hc (λH _=>by simp only[eL,h2]) (λy a=>?_) hk;simp only[ci,c,ah]at a;subst a;exact ZK cs'
  .cases hk
 .cases hk
theorem ajy {con:FuncId->I cq} {b_:TypeId->I Ty} {sz:Nat} {ag:Bool} {x:Operand} (hc:dl P o.op=M (.load sz ag x)) (hk:dX con b_ (.op (.load sz ag x)) e h nx K=M r):kV P o af e h nx K r:=by
 obtain⟨H,c⟩:=jS h;simp only[dX]at hk;split at hk
 .rename_i id off hv;obtain⟨y,h1,h2⟩:=bI hi hv;simp only[ci,ah]at h2;subst h2;split at hk
  .rename_i ty l hb;split at hk
   .rename_i v hs;obtain⟨L,hl⟩:=fd h l (hinv.cells id _ l hb);obtain⟨y,A,s⟩:=VK hl hs;have hg:H.get (nm id)=M ⟨ty,.mx L⟩:=by rw[c,bE,hb];simp only[aF,jC,hl]
    exact⟨v,kC id,0,h,nx,hk,iS.pure (k:=0) hinv hc c (y0:=y) (rdl:=[nm id]) (by simp only[eL,h1,DH,hg,s]) (dw A) (λn hn=>by simp only[aJ]at hn;subst hn;rw[dS];exact bV.2 rfl) (λh=>by cases h)⟩
   .cases hk
  .cases hk
 .rename_i id sz' j off hv;obtain⟨y,h1,h2⟩:=bI hi hv;simp only[ci,ah]at h2;subst h2;split at hk
  .rename_i ty p T xs hb;split at hk
   .rename_i hsz;have hsz:=ar hsz;obtain⟨hj,hk⟩:=dZ hk;split at hk
    .rename_i v hs;obtain⟨y,A,s⟩:=afv (h:=h) hj hs;have hne:¬((p&&xs.length==0)=J):=by
      have:=Eo hj;simp only[al,cU];omega
     have hg:H.get (nm id)=M ⟨ty,.fz (xs.flatMap (bS T))⟩:=by rw[c,bE,hb];simp only[aF,jC,ay hne]
     exact⟨v,kC id,0,h,nx,hk,iS.pure (k:=0) hinv hc c (y0:=.f y) (rdl:=[nm id]) (by simp only[eL,h1,DH,hg,hsz,s]) (dw A) (λn hn=>by simp only[aJ]at hn;subst hn;rw[dS];exact bV.2 rfl) (λh=>by cases h)⟩
    .cases hk
   .cases hk
  .rename_i ty l hb;split at hk
   .cases hk
   .split at hk
    .rename_i hsz;simp only[al]at hsz;have e1:=ar hsz.1.1;have e2:=ar hsz.1.2;have e3:=ar hsz.2;subst e1;subst e2;subst e3;split at hk
     .rename_i T xs hA;obtain⟨hj,hk⟩:=dZ hk;obtain⟨L,hl⟩:=fd h l (hinv.cells id _ l hb);have hg:H.get (nm id)=M ⟨ty,.mx L⟩:=by rw[c,bE,hb];simp only[aF,jC,hl]
      have hlt:j.toNat<l.length:=by
       simp only[fD,al,cX,fK,bL]at hj;omega
      obtain⟨z,U,a⟩:=lm hl j.toNat _ (WP hA j.toNat hlt);have a:ci h (.f T (aI xs j))=M z:=a;exact⟨_,kC id,0,h,nx,hk,iS.pure (k:=0) hinv hc c (y0:=z) (rdl:=[nm id]) (by simp only[eL,h1,DH,hg,BC.sub?,BC.get,Nat.mul_one,cZ,U]) (dw a) (λn hn=>by simp only[aJ]at hn;subst hn;rw[dS];exact bV.2 rfl) (λh=>by cases h)⟩
     .cases hk
    .cases hk
  .cases hk
 .rename_i T xs j hj off hv;obtain⟨y,h1,h2⟩:=bI hi hv;simp only[ci,ah]at h2;subst h2;split at hk
  .rename_i v hs;obtain⟨y,A,s⟩:=afv (h:=h) hj hs;exact kV.q (k:=0) (y0:=.f y) hinv hc (λH _=>by simp only[eL,h1,DH,s]) (dw A) hk
  .cases hk
 .cases hk
theorem afi {con:FuncId->I cq} {b_:TypeId->I Ty} {ty:TypeId} {z:ξ} (hc:dl P o.op=M (.alloc ty z)) (hk:dX con b_ (.op (.alloc ty z)) e h nx K=M r):kV P o af e h nx K r:=by
 have _:=hi;obtain⟨H,hH⟩:=jS h;simp only[dX]at hk;split at hk
 .rename_i l hl;obtain⟨_,Z,_⟩:=vg h hl;have hnone:h.get nx=D:=by
   cases hb:h.get nx with
   |none=>rfl
   |some b=>have:=hinv.low nx b hb;omega
  have hr:bZ h (h.set nx (M (.cells (M ty) l))):=bZ.set λr hr=>by rw[bR,hnone]at hr;cases hr
  obtain⟨h1,_,_⟩:=vg (h.set nx (M (.cells (M ty) l))) hl;have A:bt (h.set nx (M (.cells (M ty) l))) (nm nx)=M ⟨ty,.mx (z.map raw)⟩:=by rw[bE,PT.get_set,aC rfl];simp only[aF,jC,h1]
  refine ⟨_,_,_,_,_,hk,iS.mk' hc hH (k:=nm nx) (by simp only[eL];rfl) [nm nx] (λi hi=>hi) (λn hn=>?_) (λi hi b' _=>⟨⟨ty,.fz (z.map .raw)⟩,?_⟩) (λH1 H2 d s _ c=>⟨λi hi b b' hb a=>?_,λy L=>?_⟩) (by simp) ?_ ?_ hr (hinv.set hr (by omega) (by omega) λty' l' he=>?_) (by omega)⟩
  .refine kz hinv hr λi e=>?_
   subst e;rw[PT.get_set,ay (λe=>hn (by rw[e];simp))]
  .rw[aC hi];simp only[aJ]at hi;subst hi;simp[jm]
  .simp only[aJ]at hi;subst hi;rw[s _ (by simp)]at hb;rw[c _ (by simp),A]at a;rw[ir]at hb;simp only[ah]at hb a;subst hb;subst a;refine iJ.cells rfl rfl ?_ λx U=>?_
   .simp only[BC.toMx,Hj];exact ib.refl d _
   .simp only[BC.toMx]at U;obtain⟨q,hq,rfl⟩:=db.1 U;exact Z q hq
  .simp only[ci,ah]at L;subst L;exact lI.refl d _
  .intro n hn;simp only[aJ]at hn;subst hn;rw[dS];exact bV.2 rfl
  .intro n hn;simp only[aJ]at hn;subst hn;rw[dS];omega
  .cases he;exact j6 _ _ _ h1
 .cases hk
theorem ani {con:FuncId->I cq} {b_:TypeId->I Ty} {ty:TypeId} {x:Operand} (hc:dl P o.op=M (.box ty x)) (hk:dX con b_ (.op (.box ty x)) e h nx K=M r):kV P o af e h nx K r:=by
 obtain⟨H,hH⟩:=jS h;simp only[dX]at hk;split at hk
 .rename_i v hv;split at hk
  .rename_i l hl;obtain⟨y,h1,h2⟩:=bI hi hv;obtain⟨L,h4⟩:=JY hl h2;have hcell:=r8 L h4;have hnone:h.get nx=D:=by
    cases hb:h.get nx with
    |none=>rfl
    |some b=>have:=hinv.low nx b hb;omega
   have hr:bZ h (h.set nx (M (.cells (M ty) l))):=bZ.set λr hr=>by rw[bR,hnone]at hr;cases hr
   have A:=gm hr l _ L;have s:bt (h.set nx (M (.cells (M ty) l))) (nm nx)=M ⟨ty,.mx y.cs⟩:=by rw[bE,PT.get_set,aC rfl];simp only[aF,jC,A]
   refine ⟨_,_,_,_,_,hk,iS.mk' hc hH (k:=nm nx) (by simp only[eL,h1,hcell,bF];rfl) [nm nx] (λi hi=>hi) (λn hn=>?_) (λi hi b' _=>⟨⟨ty,pt y.cs⟩,?_⟩) (λH1 H2 d q _ c=>⟨λi hi b b' hb a=>?_,λy z=>?_⟩) (by simp) ?_ ?_ hr (hinv.set hr (by omega) (by omega) λty' l' he=>?_) (by omega)⟩
   .refine kz hinv hr λi e=>?_
    subst e;rw[PT.get_set,ay (λe=>hn (by rw[e];simp))]
   .rw[aC hi];simp only[aJ]at hi;subst hi;simp[jm]
   .simp only[aJ]at hi;subst hi;rw[q _ (by simp)]at hb;rw[c _ (by simp),s]at a;rw[ir]at hb;simp only[ah]at hb a;subst hb;subst a;obtain⟨Z,U⟩:=nU y.cs;refine iJ.cells U rfl ?_ λx hx=>?_
    .rw[Z];exact ib.refl d _
    .exact l_ hcell x hx
   .simp only[ci,ah]at z;subst z;exact lI.refl d _
   .intro n hn;simp only[aJ]at hn;subst hn;rw[dS];exact bV.2 rfl
   .intro n hn;simp only[aJ]at hn;subst hn;rw[dS];omega
   .cases he;exact j6 _ _ _ A
  .cases hk
 .cases hk
theorem aff {con:FuncId->I cq} {b_:TypeId->I Ty} {ty:TypeId} {sz bytes:Nat} {z:ξ} {l c:Operand} (hcm:Dw (b_ ty)=D) (hc:dl P o.op=M (.mksl ty sz bytes z l c)) (hk:dX con b_ (.op (.mksl ty sz bytes z l c)) e h nx K=M r):kV P o af e h nx K r:=by
 obtain⟨H,hH⟩:=jS h;simp only[dX,hcm]at hk;split at hk
 .rename_i T k a k' b hT hv U;split at hk
  .rename_i hsz;simp only[al]at hsz;have hs:=ar hsz.1;have hz:=Kg hsz.2;subst hs;subst hz;obtain⟨hck,hk⟩:=dZ hk;obtain⟨y,h1,h2⟩:=bI hi hv;obtain⟨y2,h3,h4⟩:=bI hi U;simp only[ci,ah]at h2 h4;subst h2;subst h4;have hnone:h.get nx=D:=by
    cases hb:h.get nx with
    |none=>rfl
    |some b=>have:=hinv.low nx b hb;omega
   generalize hB:io.rows ty af T (aB (aP a) T.zero)=B at hk;have hr:bZ h (h.set nx (M B)):=bZ.set λr hr=>by rw[bR,hnone]at hr;cases hr
   have Z:bt (h.set nx (M B)) (nm nx)=M ⟨ty,.fz ((aB (aP a) T.zero).flatMap (bS T))⟩:=by rw[bE,PT.get_set,aC rfl,<-hB];simp[jC]
   refine ⟨_,_,_,_,_,hk,iS.mk' hc hH (k:=nm nx) (by simp only[eL,h1,h3,gB,hck,bF];rfl) [nm nx] (λi hi=>hi) (λn hn=>?_) (λi hi b' _=>⟨⟨ty,.fz (repl (sV T) (aP a))⟩,?_⟩) (λH1 H2 d L _ A=>⟨λi hi b b' hb s=>?_,λy hy=>?_⟩) (by simp) ?_ ?_ hr (hinv.set hr (by omega) (by omega) λty' l' he=>?_) (by omega)⟩
   .refine kz hinv hr λi e=>?_
    subst e;rw[PT.get_set,ay (λe=>hn (by rw[e];simp))]
   .rw[aC hi];simp only[aJ]at hi;subst hi;simp[jm]
   .simp only[aJ]at hi;subst hi;rw[L _ (by simp)]at hb;rw[A _ (by simp),Z]at s;rw[ir]at hb;simp only[ah]at hb s;subst hb;subst s;refine iJ.cells rfl rfl (Hn d T _) λx hx=>?_
    simp only[BC.toMx]at hx;obtain⟨q,hq,rfl⟩:=db.1 hx;exact rH T _ q hq
   .simp only[ci,bR,PT.get_set,bF,<-hB,aF,mR,fG,lA,cz,dT,ah,bY]at hy;subst hy;exact lI.refl d _
   .intro n hn;simp only[aJ]at hn;subst hn;rw[dS];exact bV.2 rfl
   .intro n hn;simp only[aJ]at hn;subst hn;rw[dS];omega
   .rw[<- hB]at he;cases he
  .cases hk
 .cases hk
end ops
theorem zZ {α:Type} {f:α->Y FV} {n:Nat} (hf:∀x,(f x).length=n):∀(xs:Y α) (j:Nat),(xs.take j).flatMap f=(xs.flatMap f).take (j*n)
 |[],j=>by simp
 |x::r,0=>by simp
 |x::r,j+1=>by
  rw[vH,fQ,fQ,zZ hf r j,show (j+1)*n=(f x).length+j*n from by rw[hf,iV];omega,List.take_length_add_append]
theorem Ja {α:Type} {f:α->Y FV} {n:Nat} (hf:∀x,(f x).length=n):∀(xs:Y α) (j:Nat),(xs.drop j).flatMap f=(xs.flatMap f).drop (j*n)
 |[],j=>by simp
 |x::r,0=>by simp
 |x::r,j+1=>by
  rw[vJ,fQ,Ja hf r j,show (j+1)*n=(f x).length+j*n from by rw[hf,iV];omega,List.drop_length_add_append]
theorem PO {z:ξ}:∀(n:Nat) (x:FV),x∈repl z n->∃v∈z,x= .raw v
 |0,x,h=>by simp[repl]at h
 |n+1,x,h=>by
  rw[repl,bQ]at h;rcases h with h|h
  .obtain⟨v,hv,rfl⟩:=db.1 h;exact⟨v,hv,rfl⟩
  .exact PO n x h
theorem Gq:∀l:Y FV,(∀x∈l,x.isCell=J)->gK (l.map .f)=J
 |[],_=>rfl
 |z::r,h=>by simp only[eS,gK,al];exact⟨h z (by simp),Gq r λx a=>h x (by simp[a])⟩
section ops
variable {R:Type} {P:Program} {o:Oper} {e:iT} {h:bg} {nx:Nat} {K:KO R} {r:R}
theorem ml.fresh (hinv:ml h nx):h.get nx=D:=by
 cases hb:h.get nx with
 |none=>rfl
 |some b=>have:=hinv.low nx b hb;omega
theorem dQ.lt (hinv:ml h nx) {m:Nat} (hm:dQ h m) {i:Nat} (hi:aM m i=J):i<nx:=by
 obtain⟨_,_,_,_,hb⟩:=hm i hi;exact hinv.low i _ hb
theorem iS.new {s:Yz} (hinv:ml h nx) (hc:dl P o.op=M s) {H:oh} (hH:H.get=bt h) {y0:AV} {rdl:ι} {b0:vG} (ha:eL s (Jg e h) H (nm nx)=M ⟨y0,rdl,[nm nx],[(nm nx,b0)],[nm nx]⟩) {B:io} {v:TV} {m rd:Nat} (hm:dQ h m)
 (hB:∀ty l,B= .cells ty l->kX ((eA m h).set nx (M B)) l=J)
 (hblk:∀c a,uJ c a->DW h c a m->∀b',jC ((eA m h).set nx (M B)) B=M b'->iJ c a b0 b')
 (hval:∀c a y,uJ c a->DW h c a m->ci ((eA m h).set nx (M B)) v=M y->lI c a y0 y)
 (hrd:∀n∈rdl,aM rd (ow n)=J):iS P o af e h nx v rd (m|||kC nx) ((eA m h).set nx (M B)) (nx+1):=by
 have hk:=hinv.kill m;have hr0:=bZ.kill m h;have A:bZ (eA m h) ((eA m h).set nx (M B)):=bZ.set λr hr=>by rw[bR,hk.fresh]at hr;cases hr
 have hr:=hr0.trans A;have hgiv:∀i,aM m i=J->bt ((eA m h).set nx (M B)) (nm i)=D:=λi hi=>by
  have hlt:=hm.lt hinv hi;obtain⟨p,sz,n,hd⟩:=tQ hm hi;rw[bE,PT.get_set,ay (by omega),hd];rfl
 refine iS.mk' hc hH ha (nm nx::Ft m) (λi hi=>by simp only[aJ]at hi;subst hi;simp) (λn hn=>?_) (λi hi b' L=>?_) (λc a d U Z z=>?_) hrd ?_ ?_ hr (hk.set A (by omega) (by omega) hB) (by omega)
 .refine kz hinv hr λi e=>?_
  subst e;rw[PT.get_set,ay (λe=>hn (by rw[e];simp)),jb,ay];intro hb;exact hn (cE _ (lV.2 hb))
 .rcases bh.1 hi with rfl|hi
  .exact⟨b0,by rw[aC (by simp),ir]⟩
  .obtain⟨j,rfl,hj⟩:=nV.1 hi;rw[hgiv j hj]at L;cases L
 .have g:DW h c a m:=λi hi=>by
   have hlt:=hm.lt hinv hi;have hmem:nm i∈nm nx::Ft m:=cE _ (lV.2 hi);exact⟨Z _ hmem (λhc=>by simp only[aJ]at hc;have:=kY hc;omega),by rw[z _ hmem,hgiv i hi]⟩
  refine ⟨λi hi b b' hb q=>?_,λy hy=>hval c a y d g hy⟩;rcases bh.1 hi with rfl|hi'
  .rw[U _ (by simp),ir]at hb;rw[z _ hi,bE,PT.get_set,aC rfl]at q;simp only[ah]at hb;subst hb;exact hblk c a d g b' q
  .obtain⟨j,rfl,hj⟩:=nV.1 hi';rw[z _ hi,hgiv j hj]at q;cases q
 .intro n hn;rw[bp];rcases bh.1 hn with rfl|hn
  .rw[dS,bV.2 rfl];simp
  .obtain⟨j,rfl,hj⟩:=nV.1 hn;rw[dS,hj];rfl
 .intro n hn;simp only[aJ]at hn;subst hn;rw[dS];omega
theorem iS.wrt {s:Yz} (hinv:ml h nx) (hc:dl P o.op=M s) {H:oh} (hH:H.get=bt h) {id:Nat} {y0:AV} {rdl:ι} {b0:vG} {k:Nat} (ha:eL s (Jg e h) H k=M ⟨y0,rdl,[nm id],[(nm id,b0)],[]⟩) {Z B:io} (L:h.get id=M Z) {v:TV} {m rd:Nat} (hm:dQ h m) (hmid:aM m id=af)
 (hrow:mR B=mR Z) (hB:∀ty l,B= .cells ty l->kX ((eA m h).set id (M B)) l=J)
 (hblk:∀c a,uJ c a->DW h c a m->∀b',jC ((eA m h).set id (M B)) B=M b'->iJ c a b0 b')
 (hval:∀c a y,uJ c a->DW h c a m->ci ((eA m h).set id (M B)) v=M y->lI c a y0 y)
 (hrd:∀n∈rdl,aM rd (ow n)=J):iS P o af e h nx v rd (m|||kC id) ((eA m h).set id (M B)) nx:=by
 have hk:=hinv.kill m;have hr0:=bZ.kill m h;have hkid:(eA m h).get id=M Z:=by rw[jb,hmid];simpa using L
 have A:bZ (eA m h) ((eA m h).set id (M B)):=bZ.set λr hr=>by rw[bR,hkid]at hr;rw[hrow];exact hr
 have hr:=hr0.trans A;have hgiv:∀i,aM m i=J->bt ((eA m h).set id (M B)) (nm i)=D:=λi hi=>by
  have hne:i≠id:=λe=>by rw[e,hmid]at hi;cases hi
  obtain⟨p,sz,n,hd⟩:=tQ hm hi;rw[bE,PT.get_set,ay hne,hd];rfl
 refine iS.mk' hc hH ha (nm id::Ft m) (λi hi=>by simp only[aJ]at hi;subst hi;simp) (λn hn=>?_) (λi hi b' U=>?_) (λc a d hw1 hw0 z=>?_) hrd ?_ (by simp) hr (hk.set A (hinv.low id Z L) (by omega) hB) (by omega)
 .refine kz hinv hr λi e=>?_
  subst e;rw[PT.get_set,ay (λe=>hn (by rw[e];simp)),jb,ay];intro hb;exact hn (cE _ (lV.2 hb))
 .rcases bh.1 hi with rfl|hi
  .exact⟨b0,by rw[aC (by simp),ir]⟩
  .obtain⟨j,rfl,hj⟩:=nV.1 hi;rw[hgiv j hj]at U;cases U
 .have g:DW h c a m:=λi hi=>by
   have hne:i≠id:=λe=>by rw[e,hmid]at hi;cases hi
   have hmem:nm i∈nm id::Ft m:=cE _ (lV.2 hi);exact⟨hw0 _ hmem (λhc=>by simp only[aJ]at hc;exact hne (kY hc)),by rw[z _ hmem,hgiv i hi]⟩
  refine ⟨λi hi b b' hb q=>?_,λy hy=>hval c a y d g hy⟩;rcases bh.1 hi with rfl|hi'
  .rw[hw1 _ (by simp),ir]at hb;rw[z _ hi,bE,PT.get_set,aC rfl]at q;simp only[ah]at hb;subst hb;exact hblk c a d g b' q
  .obtain⟨j,rfl,hj⟩:=nV.1 hi';rw[z _ hi,hgiv j hj]at q;cases q
 .intro n hn;rw[bp];rcases bh.1 hn with rfl|hn
  .rw[dS,bV.2 rfl];simp
  .obtain⟨j,rfl,hj⟩:=nV.1 hn;rw[dS,hj];rfl
theorem Mc (h:bg) {z:ξ} {a:Y TV} (c:JV z=M a):∀len,cJ h (aB len a).flatten=M ((repl z len).map .f)
 |0=>rfl
 |n+1=>by
  rw[vI,List.flatten_cons,repl,cQ];refine nE ?_ (Mc h c n);rw[(vg h c).1];simp only[Hj];rfl
theorem VU {H:oh} (U:H.get=bt h) {T:Ty} {v:TV} {A:Y T.den} {m:Nat} {y:AV} (a:DG h (.sl T) v=M (A,m)) (c:ci h v=M y):∃rd,y.row? H T.size=M ((A.flatMap (bS T)).map .f,A.length,rd)/\∀n∈rd,∃i,n=nm i/\aM m i=J:=by
 have fl:=λs:Y T.den=>fJ (bB T) s
 have tk:∀s:Y T.den,(s.flatMap (bS T)).take (s.length*T.size)=s.flatMap (bS T):=λs=>by rw[<- fl,cO]
 cases v with
 |f S x=>
  simp only[DG,iO]at a;split at a
  .rename_i z L;simp only[ah,aD]at a;obtain⟨rfl,_⟩:=a;obtain⟨e,rfl⟩:=im L;subst e;simp only[ci,ah]at c;subst c;refine ⟨[],?_,by simp⟩;simp only[gB,AV.row?];rw[aC (bC (by rw[fl x];exact bU _)),tk]
  .cases a
 |emp=>
  simp only[DG,iO,ah,aD]at a;obtain⟨rfl,_⟩:=a;simp only[ci,ah]at c;subst c;exact⟨[],rfl,by simp⟩
 |nil=>
  simp only[DG,iO,ah,aD]at a;obtain⟨rfl,_⟩:=a;simp only[ci,ah]at c;subst c;exact⟨[],rfl,by simp⟩
 |row id=>
  simp only[DG,iO]at a;split at a
  .rename_i ty p S xs hb;split at a
   .rename_i z L;simp only[ah,aD]at a;obtain⟨rfl,rfl⟩:=a;obtain⟨e,rfl⟩:=im L;cases e;simp only[ci,eH,hb,ah]at c;subst c;unfold fG;split
    .rename_i hp;simp only[al,cU]at hp;have:xs=[]:=gP.1 hp.2;subst this;exact⟨[],rfl,by simp⟩
    .rename_i hp;have hg:H.get (nm id)=M ⟨ty,.fz (xs.flatMap (bS T))⟩:=by rw[U,bE,hb];simp only[aF,jC,ay hp]
     refine ⟨[nm id],?_,λn hn=>?_⟩
     .simp only[AV.row?,hg,cS,bF,BC.isCells,BC.len,jD];rw[aC (bC (by rw[fl xs];exact bU _))];simp only[BC.toMx,<-kR,tk]
     .simp only[aJ]at hn;exact⟨id,hn,bV.2 rfl⟩
   .cases a
  .cases a
 |agg l=>simp[DG,Ty.one]at a
 |fel T xs j hj off=>simp[DG,iO]at a
 |pel id sz j off=>simp[DG,iO]at a
 |ptr id off=>simp[DG,iO]at a
 |csl id off z=>simp[DG,iO]at a
 |mp id=>simp[DG,iO]at a
 |rtl id Z=>simp[DG,iO]at a
 |tup q=>simp[DG,iO]at a
 |clo f q=>simp[DG,iO]at a
 |undef=>simp[DG,iO]at a
 |np=>simp[DG,iO]at a
 |anyb=>simp[DG,iO]at a
theorem TZ {v:TV} {y:AV} (a:ci h v=M y) (hc:v.isC=J):gK y.cs=J:=by
 rw[Nz (NR a hc)];simp only[gK,Bool.and_true];exact NR a hc
theorem XT (T:Ty) (x:T.den):gK ((bS T x).map .f)=J:=by
 have:∀l:Y FV,(∀x∈l,x.isCell=J)->gK (l.map .f)=J:=by
  intro l hl;induction l with
  |nil=>rfl
  |cons z r a=>simp only[eS,gK,al];exact⟨hl z (by simp),a λx c=>hl x (by simp[c])⟩
 exact this _ (oa T x)
theorem g_ {T:Ty} {v:TV} {x:T.den} {m:Nat} {y:AV} (a:iO h T v=M (x,m)) (c:ci h v=M y):gK y.cs=J:=by
 cases v with
 |f S v=>simp only[ci,ah]at c;subst c;rw[Aa];exact XT S v
 |emp=>exact TZ c rfl
 |nil=>exact TZ c rfl
 |row id=>exact TZ c rfl
 |fel T xs j hj off=>simp[iO]at a
 |pel id sz j off=>simp[iO]at a
 |ptr id off=>simp[iO]at a
 |csl id off z=>simp[iO]at a
 |mp id=>simp[iO]at a
 |rtl id s=>simp[iO]at a
 |agg q=>simp[iO]at a
 |tup q=>simp[iO]at a
 |clo f q=>simp[iO]at a
 |undef=>simp[iO]at a
 |np=>simp[iO]at a
 |anyb=>simp[iO]at a
theorem HI {T:Ty} (s:T.one=J) {v:TV} {x:T.den} {m:Nat} (a:iO h T v=M (x,m)):v.isC=J:=by
 cases v with
 |f S v=>
  simp only[iO]at a;split at a
  .rename_i z c;obtain⟨e,_⟩:=im c;subst e;exact s
  .cases a
 |emp=>rfl
 |nil=>rfl
 |row id=>rfl
 |fel T xs j hj off=>simp[iO]at a
 |pel id sz j off=>simp[iO]at a
 |ptr id off=>simp[iO]at a
 |csl id off z=>simp[iO]at a
 |mp id=>simp[iO]at a
 |rtl id A=>simp[iO]at a
 |agg q=>simp[iO]at a
 |tup q=>simp[iO]at a
 |clo f q=>simp[iO]at a
 |undef=>simp[iO]at a
 |np=>simp[iO]at a
 |anyb=>simp[iO]at a
theorem Sf {a b:Y TV} (c:kH a=J) (hb:kH b=J):kH (a++b)=J:=by
 induction a with
 |nil=>exact hb
 |cons z r q=>simp only[kH,al,gx]at c ⊢;exact⟨c.1,q c.2⟩
theorem tL:∀(n:Nat) (T:Ty) (l:Y TV) (x:T.den) (m:Nat) (r:Y TV),e9 h n T l=M (x,m,r)->∃a,l=a++r/\kH a=J
 |0,_,_,_,_,_,hp=>by simp[e9]at hp
 |n+1,.st t,l,x,m,r,hp=>tL n t l x m r hp
 |n+1,.pr a b,l,x,m,r,hp=>by
  simp only[e9]at hp;split at hp
  .rename_i s m1 r1 h1;split at hp
   .rename_i z m2 r2 h2;simp only[ah,aD]at hp;obtain⟨_,_,rfl⟩:=hp;obtain⟨a1,rfl,L⟩:=tL n a l s m1 r1 h1;obtain⟨a2,rfl,A⟩:=tL n b r1 z m2 r2 h2;exact⟨a1++a2,by simp,Sf L A⟩
   .cases hp
  .cases hp
 |n+1,.un,l,x,m,r,hp=>by
  simp only[e9,ah,aD]at hp;obtain⟨_,_,rfl⟩:=hp;exact⟨[],rfl,rfl⟩
 |n+1,.ex,l,x,m,r,hp=>by
  simp only[e9]at hp;split at hp
  .rename_i s m1 r1 h1;simp only[ah,aD]at hp;obtain⟨_,_,rfl⟩:=hp;exact tL n MA l s m1 r1 h1
  .cases hp
 |n+1,.sm,l,x,m,r,hp=>by
  simp only[e9]at hp;split at hp
  .rename_i s m1 r1 h1;simp only[ah,aD]at hp;obtain⟨_,_,rfl⟩:=hp;exact tL n L_ l s m1 r1 h1
  .cases hp
 |n+1,.int k,l,x,m,r,hp=>by
  simp only[e9]at hp;split at hp
  .rename_i c q;split at hp
   .rename_i s m1 h1;simp only[ah,aD]at hp;obtain⟨_,_,rfl⟩:=hp;exact⟨[c],rfl,by simp[kH,HI rfl h1]⟩
   .cases hp
  .cases hp
 |n+1,.bool,l,x,m,r,hp=>by
  simp only[e9]at hp;split at hp
  .rename_i c q;split at hp
   .rename_i s m1 h1;simp only[ah,aD]at hp;obtain⟨_,_,rfl⟩:=hp;exact⟨[c],rfl,by simp[kH,HI rfl h1]⟩
   .cases hp
  .cases hp
 |n+1,.str,l,x,m,r,hp=>by
  simp only[e9]at hp;split at hp
  .rename_i c q;split at hp
   .rename_i s m1 h1;simp only[ah,aD]at hp;obtain⟨_,_,rfl⟩:=hp;exact⟨[c],rfl,by simp[kH,HI rfl h1]⟩
   .cases hp
  .cases hp
 |n+1,.sl t,l,x,m,r,hp=>by
  simp only[e9]at hp;split at hp
  .rename_i c q;split at hp
   .rename_i s m1 h1;simp only[ah,aD]at hp;obtain⟨_,_,rfl⟩:=hp;exact⟨[c],rfl,by simp[kH,HI rfl h1]⟩
   .cases hp
  .cases hp
theorem Kk {T:Ty} {v:TV} {x:T.den} {m:Nat} {y:AV} (s:DG h T v=M (x,m)) (c:ci h v=M y):gK y.cs=J:=by
 cases v with
 |agg l=>
  simp only[DG]at s;split at s
  .cases s
  .split at s
   .rename_i A m1 h1;obtain⟨a,e,U⟩:=tL 40 T l A m1 [] h1;rw[mb]at e;subst e;simp only[ci]at c;split at c
    .rename_i Z hl;simp only[ah]at c;subst c;exact r8 hl U
    .cases c
   .cases s
 |f S v=>exact g_ (v:=.f S v) s c
 |fel T xs j hj off=>exact g_ (v:=.fel T xs j hj off) s c
 |pel id sz j off=>exact g_ (v:=.pel id sz j off) s c
 |ptr id off=>exact g_ (v:=.ptr id off) s c
 |csl id off z=>exact g_ (v:=.csl id off z) s c
 |row id=>exact g_ (v:=.row id) s c
 |emp=>exact g_ (v:=.emp) s c
 |nil=>exact g_ (v:=.nil) s c
 |mp id=>exact g_ (v:=.mp id) s c
 |rtl id L=>exact g_ (v:=.rtl id L) s c
 |tup q=>exact g_ (v:=.tup q) s c
 |clo g q=>exact g_ (v:=.clo g q) s c
 |undef=>exact g_ (v:=.undef) s c
 |np=>exact g_ (v:=.np) s c
 |anyb=>exact g_ (v:=.anyb) s c
theorem re {u:TV} {y:AV} (c:ci h u=M y):∀(n:Nat) (T:Ty) (v:T.den) (off sz:Nat) (z:T.den) (m:Nat),gX h u n T v off sz=M (z,m)->gK y.cs=J
 |0,_,_,_,_,_,_,hg=>by simp[gX]at hg
 |n+1,.st t,v,off,sz,z,m,hg=>by
  simp only[gX]at hg;split at hg
  .rename_i q hq;split at hq
   .exact Kk hq c
   .cases hq
  .exact re c n t v off sz z m hg
 |n+1,.pr a b,v,off,sz,z,m,hg=>by
  simp only[gX]at hg;split at hg
  .split at hg
   .rename_i s m1 h1;exact re c n a v.1 off sz s m1 h1
   .cases hg
  .split at hg
   .rename_i s m1 h1;exact re c n b v.2 _ sz s m1 h1
   .cases hg
 |n+1,.un,v,off,sz,z,m,hg=>by simp[gX]at hg
 |n+1,.ex,v,off,sz,z,m,hg=>by
  simp only[gX]at hg;split at hg
  .rename_i q hq;split at hq
   .exact Kk hq c
   .cases hq
  .split at hg
   .rename_i s m1 h1;exact re c n MA _ off sz s m1 h1
   .cases hg
 |n+1,.sm,v,off,sz,z,m,hg=>by
  simp only[gX]at hg;split at hg
  .rename_i q hq;split at hq
   .exact Kk hq c
   .cases hq
  .split at hg
   .rename_i s m1 h1;exact re c n L_ _ off sz s m1 h1
   .cases hg
 |n+1,.int k,v,off,sz,z,m,hg=>by
  simp only[gX]at hg;split at hg
  .exact g_ hg c
  .cases hg
 |n+1,.bool,v,off,sz,z,m,hg=>by
  simp only[gX]at hg;split at hg
  .exact g_ hg c
  .cases hg
 |n+1,.str,v,off,sz,z,m,hg=>by
  simp only[gX]at hg;split at hg
  .exact g_ hg c
  .cases hg
 |n+1,.sl t,v,off,sz,z,m,hg=>by
  simp only[gX]at hg;split at hg
  .exact g_ hg c
  .cases hg
theorem Kn (l:Y FV):xD (l.map .f)=M l:=by
 induction l with
 |nil=>rfl
 |cons x r a=>simp only[eS,xD,a]
theorem Cy (l:Y FV):pt (l.map .f)= .fz l:=by unfold pt;rw[Kn]
theorem Gr:∀{a b:Y TV},kH a=J->kH b=J->kH (a++b)=J
 |[],_,_,hb=>hb
 |x::r,b,c,hb=>by
  simp only[kH,al]at c;simp only[gx,kH,al];exact⟨c.1,Gr c.2 hb⟩
theorem E_ {a:Y TV} (c:kH a=J):∀n,kH (aB n a).flatten=J
 |0=>rfl
 |n+1=>by rw[vI,List.flatten_cons];exact Gr c (E_ c n)
theorem ae5 {H:oh} (c:H.get=bt h) {id ty:Nat} {l:Y TV} {a:Y AV} (hb:h.get id=M (.cells (M ty) l)) (hl:cJ h l=M a) {n sz:Nat} (hn:l.length=n*sz):AV.row? H sz (.row (nm id) sz n)=M (a,n,[nm id]):=by
 have hg:H.get (nm id)=M ⟨ty,.mx a⟩:=by rw[c,bE,hb];simp only[aF,jC,hl]
 have hln:=gI hl;simp only[AV.row?,cS,bF,hg,BC.isCells,jD,BC.len,BC.toMx];rw[aC (bC (by omega)),gf (by omega)]
variable (hinv:ml h nx) (hi:tI e h)
include hinv hi
theorem ak4 {con:FuncId->I cq} {b_:TypeId->I Ty} {ty:TypeId} {sz len:Nat} {z:ξ} {parts:Y (Nat×Nat×Operand)} (hcm:Dw (b_ ty)=D) (hc:dl P o.op=M (.bsl ty sz len z parts)) (hk:dX con b_ (.op (.bsl ty sz len z parts)) e h nx K=M r):kV P o af e h nx K r:=by
 obtain⟨H,Z⟩:=jS h;simp only[dX,hcm]at hk;split at hk
 .rename_i T zc hT U;split at hk
  .rename_i hs;have hs:=ar hs;subst hs;split at hk
   .rename_i cs hf;split at hk
    .rename_i xs m hp;obtain⟨cs',h1,h2,_⟩:=CY hi parts _ cs _ hf (Mc h U len);have hm:=Nx len cs xs m hp;refine ⟨_,_,_,_,_,hk,iS.new hinv hc Z (y0:=if len=0 then .emp else .row (nm nx) T.size len) (rdl:=[]) (b0:=⟨ty,pt cs'⟩) (by simp only[eL,h1]) hm (λ_ _ he=>by cases he) (λH1 H2 d g b' a=>?_) (λH1 H2 y d g c=>?_) (by simp)⟩
     .simp only[jC]at a;split at a
      .cases a
      rw[ah]at a;subst a;obtain⟨L,A⟩:=nU cs';refine iJ.cells A rfl ?_ λx s=>?_
      .rw[L];exact (Ct d len cs xs m cs' hp h2 g).1
      .simp only[BC.toMx]at s;obtain⟨q,hq,rfl⟩:=db.1 s;exact rH T _ q hq
     .simp only[ci,bR,PT.get_set,bF,aF,mR,fG,ah]at c;rw[(Ct d len cs xs m cs' hp h2 g).2]at c;split at c
      .rename_i hq;simp only[al,cU]at hq;subst c;rw[aC hq.2];exact lI.refl d _
      .rename_i hq;subst c;rw[ay (λh0=>hq (by subst h0;rfl))];exact lI.refl d _
    .cases hk
   .cases hk
  .cases hk
 .cases hk
theorem ak5 {con:FuncId->I cq} {b_:TypeId->I Ty} {ty:TypeId} {sz bytes:Nat} {s x:Operand} (hcm:Dw (b_ ty)=D) (hc:dl P o.op=M (.app ty sz bytes s x)) (hk:dX con b_ (.op (.app ty sz bytes s x)) e h nx K=M r):kV P o af e h nx K r:=by
 obtain⟨H,hH⟩:=jS h;have hfr:=hinv.fresh;simp only[dX,hcm]at hk;split at hk
 .rename_i T b y hT hv hv2;split at hk
  .rename_i hs;have hs:=ar hs;subst hs;split at hk
   .rename_i q m hys;obtain⟨yb,h1,h2⟩:=bI hi hv;obtain⟨yy,h3,h4⟩:=bI hi hv2;obtain⟨rdl,h5,h6⟩:=VU hH hys h4;have onEmp:∀(rd':Nat),(∀n∈rdl,aM rd' (ow n)=J)->Iz yb=J->Le yb .emp->a_ (ai q) bytes=J->iS P o af e h nx (.row nx) rd' (kC nx) (h.set nx (M (.rows ty J T q))) (nx+1):=by
     intro rd' hrd' he hle hroom;have hr1:bZ h (h.set nx (M (.rows ty J T q))):=bZ.set λr hr=>by rw[bR,hfr]at hr;cases hr
     have hyb:∀id sz' n,yb≠ .row id sz' n:=by rintro id sz' n rfl;cases he
     have a:eL (.app ty T.size bytes s x) (Jg e h) H (nm nx)=if ai q==0 then M ⟨yb,rdl,[],[],[]⟩ else M ⟨.row (nm nx) T.size (ai q),rdl,[nm nx],[(nm nx,⟨ty,pt ((q.flatMap (bS T)).map .f)⟩)],[nm nx]⟩:=by
      simp only[eL,h1,h3,h5];cases yb with
      |row id sz' n=>exact ct rfl (hyb id sz' n)
      |_=>simp only[he,hroom,jE,bF]
     by_cases hl:ai q=0
     .rw[hl]at a;simp only[cS,bF]at a;have hnil:q=[]:=gP.1 hl;subst hnil;refine iS.mk' hc hH a [] (by simp) (λn _=>?_) (by simp) (λH1 H2 d _ _ _=>⟨by simp,λy z=>?_⟩) hrd' (by simp) (by simp) hr1 (hinv.set hr1 (by omega) (by omega) λ_ _ he=>by cases he) (by omega)
      .by_cases hn:n=nm nx
       .subst hn;rw[bE,bE,PT.get_set,aC rfl,hfr];rfl
       .refine kz hinv hr1 λi e=>?_
        subst e;rw[PT.get_set,ay (λe=>hn (by rw[e]))]
      .simp only[ci,bR,PT.get_set,bF,aF,mR,fG,gr,cS,jE,ah]at z;subst z;exact hle.toH d
     .rw[ay (by simpa using hl)]at a;rw[Cy]at a;have key:=iS.new (m:=0) (rd:=rd') hinv hc hH a (B:=.rows ty J T q) (v:=.row nx) (dQ.zero h) (λ_ _ he=>by cases he) (λH1 H2 d g b' U=>by
       simp only[jC]at U;rw[ay (by simpa using hl)]at U;simp only[ah]at U;subst U;exact iJ.refl d _) (λH1 H2 y d g z=>by
       simp only[ci,bR,PT.get_set,bF,aF,mR,fG]at z;rw[ay (by simpa using hl)]at z;simp only[ah]at z;subst z;exact lI.refl d _) hrd'
      rw[yh]at key;exact key
    split at hk
    .rename_i id;split at hk
     .rename_i ty' p S xs0 hb;split at hk
      .rename_i xs hxs;obtain⟨ee,rfl⟩:=im hxs;cases ee;split at hk
       .rename_i hcond;simp only[al,cU,eD]at hcond;obtain⟨rfl,hmid⟩:=hcond;obtain⟨hroom,hk⟩:=dZ hk;simp only[ci,eH,hb,ah]at h2;have hidlt:=hinv.low id _ hb;have hne:nx≠id:=by omega
        have hrd:∀n∈rdl,aM (kC id|||m) (ow n)=J:=λn hn=>by
         obtain⟨i,rfl,hm⟩:=h6 n hn;rw[dS,bp,hm];simp
        generalize hh':(h.set id (M (.dead p T.size (ai xs0)))).set nx (M (.rows ty' p T (xs0++q)))=h' at hk;have hrA:bZ h (h.set id (M (.dead p T.size (ai xs0)))):=bZ.set λr hr=>by rw[bR,hb]at hr;exact hr
        have Z:∀i,h'.get i=if i=nx then M (.rows ty' p T (xs0++q)) else if i=id then M (.dead p T.size (ai xs0)) else h.get i:=λi=>by rw[<- hh',PT.get_set,PT.get_set]
        have hr:bZ h h':=by
         rw[<- hh'];refine hrA.trans (bZ.set λr hr=>?_);rw[bR,PT.get_set,ay hne,hfr]at hr;cases hr
        have hinv':ml h' (nx+1):=by
         refine ⟨λi ty l hil=>?_,λi c hic=>?_⟩
         .rw[Z]at hil;split at hil
          .cases hil
          .split at hil
           .cases hil
           .exact iZ hr l (hinv.cells i _ l hil)
         .rw[Z]at hic;split at hic
          .omega
          .split at hic
           .omega
           .have:=hinv.low i c hic;omega
        have hsame:∀n,n≠nm nx->n≠nm id->bt h' n=bt h n:=λn h1 h2=>kz hinv hr λi e=>by
         subst e;rw[Z,ay (λe=>h1 (by rw[e])),ay (λe=>h2 (by rw[e]))]
        have hdead:bt h' (nm id)=D:=by rw[bE,Z,ay (by omega),aC rfl];rfl
        have hnew:bt h' (nm nx)=if p&&(xs0++q).length==0 then D else M ⟨ty',.fz ((xs0++q).flatMap (bS T))⟩:=by rw[bE,Z,aC rfl];rfl
        have hval:ci h' (.row nx)=M (fG p nx T.size (xs0++q).length):=by simp only[ci,bR,Z,bF,aF,mR]
        have hwm:∀n,n=nm nx\/n=nm id->aM (kC id|||kC nx) (ow n)=J:=λn hn=>by
         rcases hn with rfl|rfl<;>rw[dS,bp,bV.2 rfl]<;>simp
        refine ⟨_,_,_,_,_,hk,?_⟩;by_cases hp:(p&&xs0.length==0)=J
        ·
         have hyb:yb= .emp:=by rw[<- h2];unfold fG;rw[aC hp]
         subst hyb;simp only[al,cU]at hp;obtain⟨rfl,hl0⟩:=hp;have hnil:xs0=[]:=gP.1 hl0;subst hnil;have hroom':a_ (ai q) bytes=J:=by simpa using hroom
         have a:eL (.app ty' T.size bytes s x) (Jg e h) H (nm nx)=if ai q==0 then M ⟨.emp,rdl,[],[],[]⟩ else M ⟨.row (nm nx) T.size (ai q),rdl,[nm nx],[(nm nx,⟨ty',pt ((q.flatMap (bS T)).map .f)⟩)],[nm nx]⟩:=by
          simp only[eL,h1,h3,h5,Iz,hroom',jE,bF]
         have hdead0:bt h (nm id)=D:=by rw[bE,hb];rfl
         by_cases hl:ai q=0
         .rw[hl]at a;simp only[cS,bF]at a;have hnil:q=[]:=gP.1 hl;subst hnil;refine iS.mk' hc hH a [] (by simp) (λn _=>?_) (by simp) (λH1 H2 d _ _ _=>⟨by simp,λy z=>?_⟩) hrd (by simp) (by simp) hr hinv' (by omega)
          .by_cases hn:n=nm nx
           .subst hn;rw[hnew,bE,hfr];rfl
           .by_cases hn2:n=nm id
            .subst hn2;rw[hdead,hdead0]
            .exact hsame n hn hn2
          .rw[hval]at z;simp only[fG,mb,gr,cS,jE,bF,ah]at z;subst z;exact lI.refl d _
         .rw[ay (by simpa using hl),Cy]at a;refine iS.mk' hc hH a [nm nx] (λi hi=>hi) (λn hn=>?_) (λi hi b' _=>⟨_,by rw[aC hi];simp only[aJ]at hi;subst hi;exact ir _ _⟩) (λH1 H2 d hw1 _ hw2=>⟨λi hi b b' L A=>?_,λy z=>?_⟩) hrd (λn hn=>hwm n (.inl (by simpa using hn))) (λn hn=>by simp only[aJ]at hn;subst hn;rw[dS];omega) hr hinv' (by omega)
          .have hn1:n≠nm nx:=by simpa using hn
           by_cases hn2:n=nm id
           .subst hn2;rw[hdead,hdead0]
           .exact hsame n hn1 hn2
          .simp only[aJ]at hi;subst hi;rw[hw1 _ (by simp),ir]at L;rw[hw2 _ (by simp),hnew,ay (by simpa using hl)]at A;simp only[ah,j8]at L A;subst L;subst A;exact iJ.refl d _
          .rw[hval]at z;simp only[fG,j8]at z;rw[ay (by simpa using hl)]at z;simp only[ah]at z;subst z;exact lI.refl d _
        .have hyb:yb= .row (nm id) T.size xs0.length:=by rw[<- h2];unfold fG;rw[ay hp]
         subst hyb;have hg:H.get (nm id)=M ⟨ty',.fz (xs0.flatMap (bS T))⟩:=by rw[hH,bE,hb];simp only[aF,jC,ay hp]
         have fl:=fJ (bB T) xs0;have tk:(xs0.flatMap (bS T)).take (xs0.length*T.size)=xs0.flatMap (bS T):=by rw[<- fl,cO]
         have hmem:TO (nm id) rdl=af:=by
          cases hx:TO (nm id) rdl with
          |false=>rfl
          |true=>
           obtain⟨i,e,hm⟩:=h6 _ (ahk.1 hx);rw[<- kY e,hmid]at hm;cases hm
         have a:eL (.app ty' T.size bytes s x) (Jg e h) H (nm nx)=M ⟨.row (nm nx) T.size (xs0.length+q.length),nm id::rdl,[nm nx,nm id],[(nm nx,⟨ty',.fz ((xs0++q).flatMap (bS T))⟩)],[nm nx]⟩:=by
          have hcnd:(T.size==T.size&& !(TO (nm id) rdl)&&(BC.fz (xs0.flatMap (bS T))).isCells&&eO (xs0.length*T.size) (BC.fz (xs0.flatMap (bS T))).len&&ty'==ty'&&a_ (xs0.length+q.length) bytes)=J:=by
           have:eO (xs0.length*T.size) (BC.fz (xs0.flatMap (bS T))).len=J:=bC (by simp only[BC.len];omega);rw[this,hmem,hroom];simp[BC.isCells]
          simp only[eL,h1,h3,h5,hg,hcnd,bF,BC.toMx,<-kR,tk,<-cQ,Cy,List.flatMap_append]
         have hne2:¬((p&&(xs0++q).length==0)=J):=by
          simp only[al,cU,bk]at hp ⊢;intro hh;exact hp ⟨hh.1,by omega⟩
         refine iS.mk' hc hH a [nm nx,nm id] (λi hi=>hi) (λn hn=>?_) (λi hi b' U=>?_) (λH1 H2 d hw1 _ hw2=>⟨λi hi b b' L A=>?_,λy z=>?_⟩) (λn hn=>?_) (λn hn=>hwm n (by simpa using hn)) (λn hn=>by simp only[aJ]at hn;subst hn;rw[dS];omega) hr hinv' (by omega)
         .simp only[bh,cu,gj,not_or]at hn;exact hsame n hn.1 hn.2
         .simp only[bh,cu,gj]at hi;rcases hi with rfl|rfl
          .exact⟨_,by rw[aC (by simp)];exact ir _ _⟩
          .rw[hdead]at U;cases U
         .simp only[bh,cu,gj]at hi;rcases hi with rfl|rfl
          .rw[hw1 _ (by simp),ir]at L;rw[hw2 _ (by simp),hnew,ay hne2]at A;simp only[ah]at L A;subst L;subst A;exact iJ.refl d _
          .rw[hw2 _ (by simp),hdead]at A;cases A
         .rw[hval]at z;simp only[fG]at z;rw[ay hne2]at z;simp only[bk,ah]at z;subst z;exact lI.refl d _
         .rcases bh.1 hn with rfl|hn
          .rw[dS,bp,bV.2 rfl];rfl
          .exact hrd n hn
       .cases hk
      .cases hk
     .cases hk
    .obtain⟨hroom,hk⟩:=dZ hk;simp only[ci,ah]at h2;subst h2;exact⟨_,_,_,_,_,hk,onEmp m (λn hn=>by obtain⟨i,rfl,hm⟩:=h6 n hn;rw[dS];exact hm) rfl (Le.refl _) hroom⟩
    .obtain⟨hroom,hk⟩:=dZ hk;simp only[ci,ah]at h2;subst h2;exact⟨_,_,_,_,_,hk,onEmp m (λn hn=>by obtain⟨i,rfl,hm⟩:=h6 n hn;rw[dS];exact hm) rfl Le.nilEmp hroom⟩
    .cases hk
   .cases hk
  .cases hk
 .cases hk
theorem aai {T:Ty} (xs a:Y T.den):(MZ xs a).flatMap (bS T)=AI.splice (xs.flatMap (bS T)) 0 ((a.flatMap (bS T)).take (iW a.length xs.length*T.size)):=by
 have _:=hinv;have _:=hi;have fl:=λc:Y T.den=>fJ (bB T) c
 have tk:∀(c:Y T.den) n,(c.flatMap (bS T)).take (n*T.size)=(c.take n).flatMap (bS T):=by
  intro c;induction c with
  |nil=>intro n;simp
  |cons z r q=>
   intro n;cases n with
   |zero=>simp
   |succ n=>rw[fQ,vH,fQ,iV,List.take_append,bB,gf (by rw[bB];omega),show n*T.size+T.size-T.size=n*T.size from by omega,q n]
 have s:∀(c:Y T.den) n,(c.flatMap (bS T)).drop (n*T.size)=(c.drop n).flatMap (bS T):=by
  intro c;induction c with
  |nil=>intro n;simp
  |cons z r q=>
   intro n;cases n with
   |zero=>simp
   |succ n=>rw[fQ,vJ,iV,uN,bB,rP (by rw[bB];omega),show n*T.size+T.size-T.size=n*T.size from by omega,q n,j8]
 unfold MZ AI.splice;rw[tk,List.flatMap_append,fl,bJ];have e1:a.take (iW a.length xs.length)=a.take xs.length:=by
  rcases Nat.le_total a.length xs.length with h|h
  .rw[show iW a.length xs.length=a.length from sG h,cO,gf h]
  .rw[show iW a.length xs.length=xs.length from Nat.min_eq_right h]
 rw[e1];have e2:min (iW a.length xs.length) a.length=iW a.length xs.length:=sG (Nat.min_le_left _ _);rw[e2];simp only[List.take_zero,j8,bG];rw[s];congr 1;rcases Nat.le_total a.length xs.length with h|h
 .rw[show iW a.length xs.length=a.length from sG h]
 .rw[show iW a.length xs.length=xs.length from Nat.min_eq_right h,List.drop_length,rP h]
theorem ak2 {con:FuncId->I cq} {b_:TypeId->I Ty} {sz:Nat} {d x:Operand} (hc:dl P o.op=M (.copy sz d x)) (hk:dX con b_ (.op (.copy sz d x)) e h nx K=M r):kV P o af e h nx K r:=by
 obtain⟨H,L⟩:=jS h;simp only[dX]at hk;split at hk
 .rename_i id y hv s;split at hk
  .rename_i ty p T xs hb;split at hk
   .rename_i hs;have hs:=ar hs;subst hs;split at hk
    .rename_i a m hys;split at hk
     .rename_i hcond;simp only[al,eD]at hcond;obtain⟨hmid,rfl⟩:=hcond;obtain⟨yb,h1,h2⟩:=bI hi hv;obtain⟨yy,h3,h4⟩:=bI hi s;obtain⟨rdl,h5,Z⟩:=VU L hys h4;simp only[ci,eH,hb,fG,lA,cz,dT,ah]at h2;subst h2;have fl:=fJ (bB T) xs;have fl2:=fJ (bB T) a;have hg:H.get (nm id)=M ⟨ty,.fz (xs.flatMap (bS T))⟩:=by rw[L,bE,hb];simp[jC]
      have hmem:TO (nm id) rdl=af:=by
       cases c:TO (nm id) rdl with
       |false=>rfl
       |true=>
        obtain⟨i,e,hm⟩:=Z _ (ahk.1 c);rw[<- kY e,hmid]at hm;cases hm
      have hle:iW a.length xs.length*T.size<=xs.length*T.size:=cK _ (Nat.min_le_right _ _);have A:eL (.copy T.size d x) (Jg e h) H (nm nx)=M ⟨raw (.int .i64 (iW a.length xs.length)),nm id::rdl,[nm id],[(nm id,⟨ty,.fz ((MZ xs a).flatMap (bS T))⟩)],[]⟩:=by
       have hcnd:(T.size==T.size&& !(TO (nm id) rdl)&&eO (xs.length*T.size) (BC.fz (xs.flatMap (bS T))).len)=J:=by
        have:eO (xs.length*T.size) (BC.fz (xs.flatMap (bS T))).len=J:=bC (by simp only[BC.len];omega);rw[this,hmem];simp
       have hput:(BC.fz (xs.flatMap (bS T))).put 0 (((a.flatMap (bS T)).map .f).take (iW a.length xs.length*T.size))=M (.fz ((MZ xs a).flatMap (bS T))):=by
        rw[<- kR];unfold BC.put;rw[aC]
        .simp only[Kn];rw[aai hinv hi]
        .simp only[al];refine ⟨⟨rfl,bC ?_⟩,?_⟩
         .simp only[BC.len,bx,bJ];omega
         .have:∀l:Y FV,(∀x∈l,x.isCell=J)->gK (l.map .f)=J:=by
           intro l hl;induction l with
           |nil=>rfl
           |cons z r ih=>simp only[eS,gK,al];exact⟨hl z (by simp),ih λx c=>hl x (by simp[c])⟩
          exact this _ λx c=>rH T a x (hY c)
       simp only[eL,h1,h3,hg,h5,hcnd,bF,hput]
      have hrow:mR (.rows ty af T (MZ xs a))=mR (.rows ty af T xs):=by
       have:(MZ xs a).length=xs.length:=by unfold MZ;rw[bk,bJ,mN];omega
       simp only[mR,this]
      have key:=iS.wrt (m:=0) (v:=.f (.int .i64) (aN (iW (ai a) (ai xs)))) (rd:=kC id|||m) hinv hc L A (B:=.rows ty af T (MZ xs a)) hb (dQ.zero h) (by simp) hrow (λ_ _ he=>by cases he) (λH1 H2 d g b' q=>by
       simp only[jC,lA,cz,dT,ah]at q;subst q;exact iJ.refl d _) (λH1 H2 y d g U=>by
       simp only[ci,ah]at U;subst U;exact lI.refl d _) (λn hn=>by
       rcases bh.1 hn with rfl|hn
       .rw[dS,bp,bV.2 rfl];rfl
       .obtain⟨i,rfl,hm⟩:=Z n hn;rw[dS,bp,hm];simp)
      rw[yh]at key;exact⟨_,_,_,_,_,hk,key⟩
     .cases hk
    .cases hk
   .cases hk
  .cases hk
 .cases hk
theorem afe {con:FuncId->I cq} {b_:TypeId->I Ty} {sz:Nat} {x v:Operand} (hc:dl P o.op=M (.store sz x v)) (hk:dX con b_ (.op (.store sz x v)) e h nx K=M r):kV P o af e h nx K r:=by
 obtain⟨H,hH⟩:=jS h;simp only[dX]at hk;split at hk
 .rename_i id off y hv hv2;obtain⟨yb,h1,h2⟩:=bI hi hv;obtain⟨s,h3,h4⟩:=bI hi hv2;simp only[ci,ah]at h2;subst h2;split at hk
  .rename_i ty l hb;split at hk
   .rename_i cs hcs;split at hk
    .rename_i hcond;simp only[al,cU]at hcond;obtain⟨h5,h6⟩:=JY hcs h4;obtain⟨A,hl⟩:=fd h l (hinv.cells id _ l hb);have hg:H.get (nm id)=M ⟨ty,.mx A⟩:=by rw[hH,bE,hb];simp only[aF,jC,hl]
     have hcell:=r8 h5 h6;have hlen:s.cs.length=sz:=by rw[gI h5];exact hcond.1
     have hput:(BC.mx A).put off s.cs=M (.mx (splice A off s.cs)):=by
      unfold BC.put;rw[aC]
      .rfl
      .simp only[al];exact⟨⟨rfl,by simp only[BC.len];rw[hlen,gI hl];exact hcond.2⟩,hcell⟩
     have Z:eL (.store sz x v) (Jg e h) H (nm nx)=M ⟨raw undef,[nm id],[nm id],[(nm id,⟨ty,.mx (splice A off s.cs)⟩)],[]⟩:=by
      simp only[eL,h1,h3,Kj,hg,hlen,cS,bF,hput]
     have hspl:∀h',bZ h h'->cJ h' (splice l off cs)=M (splice A off s.cs):=λh' hr=>pO off (gm hr l A hl) (gm hr cs _ h5)
     have L:bZ h (h.set id (M (.cells (M ty) (splice l off cs)))):=bZ.set λr hr=>by rw[bR,hb]at hr;cases hr
     have key:=iS.wrt (m:=0) (v:=.undef) (rd:=kC id) hinv hc hH Z (B:=.cells (M ty) (splice l off cs)) hb (dQ.zero h) (by simp) rfl (λty' l2 he=>by cases he;exact j6 _ _ _ (hspl _ L)) (λH1 H2 d g b' a=>by
      have:=hspl _ L;simp only[eA,rO,bF,jC,this,ah]at a;subst a;exact iJ.refl d _) (λH1 H2 y d g hy=>by
      simp only[ci,ah]at hy;subst hy;exact lI.refl d _) (λn hn=>by simp only[aJ]at hn;subst hn;rw[dS];exact bV.2 rfl)
     rw[yh]at key;exact⟨_,_,_,_,_,hk,key⟩
    .cases hk
   .cases hk
  .cases hk
 .rename_i id sz' j off y hv hv2;obtain⟨yb,h1,h2⟩:=bI hi hv;obtain⟨s,h3,h4⟩:=bI hi hv2;simp only[ci,ah]at h2;subst h2;split at hk
  .rename_i ty p T xs hb;split at hk
   .rename_i hsz;have hsz:=ar hsz;subst hsz;obtain⟨hj,hk⟩:=dZ hk;split at hk
    .rename_i z m hset;split at hk
     .cases hk
     .rename_i hmid;have hmid:aM m id=af:=by simpa using hmid
      have hm:=zP 40 T _ off sz z m hset;obtain⟨j0,j1,j2⟩:=Eo hj;have hne:¬((p&&xs.length==0)=J):=by simp only[al,cU];omega
      have hne2:¬((p&&(cF xs j z).length==0)=J):=by unfold cF;rw[ia];exact hne
      have hg:H.get (nm id)=M ⟨ty,.fz (xs.flatMap (bS T))⟩:=by rw[hH,bE,hb];simp only[aF,jC,ay hne]
      have fl:=fJ (bB T) xs;have hx:xs[j.toNat]? =M (aI xs j):=by
       unfold aI;rw[au,ax j2];rfl
      have hle:(j.toNat+1)*T.size<=xs.length*T.size:=cK _ j2;rw[iV]at hle;have hso:∀H1 H2,uJ H1 H2->DW h H1 H2 m->W2 H1 H2 s T (aI xs j) z off sz:=λH1 H2 d g=>vO d h4 40 T _ off sz z m hset g
      have hshape:s.cs.length=sz/\off+sz<=T.size/\gK s.cs=J:=by
       have d0:uJ (bt h) (bt (eA m h)):=λi b hb=>by
        obtain⟨i',c,rfl,g1,g2⟩:=jB hb;rw[jb]at g1;by_cases ht:aM m i'=J
        .obtain⟨pp,ss,nn,g3⟩:=tQ hm ht;rw[jb]at g3;rw[g3]at g1;cases g1;cases g2
        .rw[ay ht]at g1;exact⟨b,by rw[bE,g1];simp only[aF];rw[<- Jh (bZ.kill m h) (λty l e=>hinv.cells i' _ l (by rw[g1,e]))];exact g2⟩
       obtain⟨fs,q1,q2,q3,q4,q5⟩:=hso _ _ d0 (λi hi=>⟨rfl,by
        obtain⟨pp,ss,nn,g3⟩:=tQ hm hi;rw[bE,g3];rfl⟩)
       refine ⟨by rw[<- q2,<-bx (f:=AV.f),q1.length],q3,?_⟩;exact re h4 40 T _ off sz z m hset
      obtain⟨hlen,hoff,hcell⟩:=hshape;obtain⟨c',hput,U,hc2⟩:∃c',(BC.fz (xs.flatMap (bS T))).put (j.toNat*T.size+off) s.cs=M c'/\c'.toMx=splice ((xs.flatMap (bS T)).map .f) (j.toNat*T.size+off) s.cs/\c'.isCells=J:=by
       unfold BC.put;rw[aC]
       .split
        .rename_i l ys hl hys;simp only[BC.fz.injEq]at hl;subst hl;refine ⟨_,rfl,?_,rfl⟩;rw[pQ hys];simp only[BC.toMx];unfold splice;simp[kR,List.map_drop]
        .exact⟨_,rfl,rfl,rfl⟩
       .simp only[al];exact⟨⟨rfl,bC (by simp only[BC.len];omega)⟩,hcell⟩
      have Z:eL (.store sz x v) (Jg e h) H (nm nx)=M ⟨raw undef,[nm id],[nm id],[(nm id,⟨ty,c'⟩)],[]⟩:=by
       simp only[eL,h1,h3,Kj,hg,hlen,cS,bF,hput]
      have hrow:mR (.rows ty p T (cF xs j z))=mR (.rows ty p T xs):=by
       unfold cF;simp only[mR,ia]
      refine ⟨_,_,_,_,_,hk,iS.wrt hinv hc hH Z (B:=.rows ty p T (cF xs j z)) hb hm hmid hrow (λ_ _ he=>by cases he) (λH1 H2 d g b' a=>?_) (λH1 H2 y d g hy=>?_) (λn hn=>?_)⟩
      .simp only[jC,ay hne2,ah]at a;subst a;obtain⟨fs,q1,q2,q3,q4,q5⟩:=hso H1 H2 d g;have hfl:(cF xs j z).flatMap (bS T)=AI.splice (xs.flatMap (bS T)) (j.toNat*T.size+off) fs:=Q0 (bB T) xs j.toNat _ z hx off fs (by omega) q4;refine iJ.cells hc2 rfl ?_ λx hx=>?_
       .rw[U];simp only[BC.toMx];rw[hfl];have:(AI.splice (xs.flatMap (bS T)) (j.toNat*T.size+off) fs).map AV.f=AI.splice ((xs.flatMap (bS T)).map .f) (j.toNat*T.size+off) (fs.map .f):=by unfold AI.splice;simp[kR,List.map_drop]
        rw[this];exact (ib.refl d _).splice _ q1
       .simp only[BC.toMx]at hx;obtain⟨q,hq,rfl⟩:=db.1 hx;exact rH T _ q hq
      .simp only[ci,ah]at hy;subst hy;exact lI.refl d _
      .simp only[aJ]at hn;subst hn;rw[dS,bp,bV.2 rfl];simp
    .cases hk
   .cases hk
  .rename_i ty l hb;split at hk
   .rename_i hsz;simp only[al]at hsz;obtain⟨s1,s2,s3⟩:=hsz;have s1:=ar s1;have s2:=ar s2;have s3:=ar s3;subst s1;subst s2;subst s3;obtain⟨hj,hk⟩:=dZ hk;obtain⟨j0,j1,j2⟩:=Eo hj;split at hk
    .rename_i cs hcs;split at hk
     .rename_i U;have U:=ar U;obtain⟨h5,h6⟩:=JY hcs h4;obtain⟨A,hl⟩:=fd h l (hinv.cells id _ l hb);have hg:H.get (nm id)=M ⟨ty,.mx A⟩:=by rw[hH,bE,hb];simp only[aF,jC,hl]
      have hcell:=r8 h5 h6;have hlen:s.cs.length=1:=by rw[gI h5];exact U
      have e0:j.toNat*1+0=j.toNat:=by omega
      rw[e0]at h1;have hput:(BC.mx A).put j.toNat s.cs=M (.mx (splice A j.toNat s.cs)):=by
       unfold BC.put;rw[aC]
       .rfl
       .simp only[al];exact⟨⟨rfl,bC (by simp only[BC.len];rw[hlen,gI hl];omega)⟩,hcell⟩
      have Z:eL (.store 1 x v) (Jg e h) H (nm nx)=M ⟨raw undef,[nm id],[nm id],[(nm id,⟨ty,.mx (splice A j.toNat s.cs)⟩)],[]⟩:=by
       simp only[eL,h1,h3,Kj,hg,hlen,cS,bF,hput]
      have hspl:∀h',bZ h h'->cJ h' (splice l j.toNat cs)=M (splice A j.toNat s.cs):=λh' hr=>pO j.toNat (gm hr l A hl) (gm hr cs _ h5)
      have L:bZ h (h.set id (M (.cells (M ty) (splice l j.toNat cs)))):=bZ.set λr hr=>by rw[bR,hb]at hr;cases hr
      have key:=iS.wrt (m:=0) (v:=.undef) (rd:=kC id) hinv hc hH Z (B:=.cells (M ty) (splice l j.toNat cs)) hb (dQ.zero h) (by simp) rfl (λty' l2 he=>by cases he;exact j6 _ _ _ (hspl _ L)) (λH1 H2 d g b' a=>by
       have:=hspl _ L;simp only[eA,rO,bF,jC,this,ah]at a;subst a;exact iJ.refl d _) (λH1 H2 y d g hy=>by
       simp only[ci,ah]at hy;subst hy;exact lI.refl d _) (λn hn=>by simp only[aJ]at hn;subst hn;rw[dS];exact bV.2 rfl)
      rw[yh]at key;exact⟨_,_,_,_,_,hk,key⟩
     .cases hk
    .cases hk
   .cases hk
  .cases hk
 .cases hk
theorem ajx {con:FuncId->I cq} {b_:TypeId->I Ty} {ty:TypeId} {sz bytes:Nat} {z:ξ} {l c:Operand} (hc:dl P o.op=M (.mksl ty sz bytes z l c)) (hk:dX con b_ (.op (.mksl ty sz bytes z l c)) e h nx K=M r):kV P o af e h nx K r:=by
 cases hcm:Dw (b_ ty) with
 |none=>exact aff hinv hi hcm hc hk
 |some n=>
  obtain⟨H,hH⟩:=jS h;simp only[dX,hcm]at hk;split at hk
  .rename_i zc k a k' b s hv A;obtain⟨hck,hk⟩:=dZ hk;rw[al]at hck;obtain⟨hcond,hn⟩:=hck;have hn:=be hn;obtain⟨y,h1,h2⟩:=bI hi hv;obtain⟨y2,h3,U⟩:=bI hi A;simp only[ci,ah]at h2 U;subst h2;subst U;have han:aP a=n:=by rw[hn];rfl
   obtain⟨_,_,hzc⟩:=vg h s;refine ⟨_,_,_,_,_,hk,iS.new hinv hc hH (y0:=.row (nm nx) sz n) (rdl:=[]) (b0:=⟨ty,.fz (repl z n)⟩) (by simp only[eL,h1,h3,gB,hcond,bF,han]) (dQ.zero h) (λty' l' he=>?_) (λH1 H2 d g b' q=>?_) (λH1 H2 y d g L=>?_) (by simp)⟩
   .cases he;exact j6 _ _ _ (Mc _ s n)
   .simp only[jC,Mc _ s n,ah]at q;subst q;refine iJ.cells rfl rfl (ib.refl d _) λx Z=>?_
    exact l_ (r8 (Mc h s n) (E_ hzc n)) x Z
   .simp only[ci,ah]at L;subst L;exact lI.refl d _
  .cases hk
theorem anh {con:FuncId->I cq} {b_:TypeId->I Ty} {ty:TypeId} {sz len:Nat} {z:ξ} {parts:Y (Nat×Nat×Operand)} (hc:dl P o.op=M (.bsl ty sz len z parts)) (hk:dX con b_ (.op (.bsl ty sz len z parts)) e h nx K=M r):kV P o af e h nx K r:=by
 cases hcm:Dw (b_ ty) with
 |none=>exact ak4 hinv hi hcm hc hk
 |some n=>
  obtain⟨H,Z⟩:=jS h;simp only[dX,hcm]at hk;split at hk
  .rename_i zc q;split at hk
   .rename_i cs hf;split at hk
    .cases hk
    .rename_i hl;have hl:len≠0:=λe=>hl (by rw[e];rfl)
     obtain⟨cs',h1,h2,h3⟩:=CY hi parts _ cs _ hf (Mc h q len);obtain⟨_,_,hzc⟩:=vg h q;have hcs:=h3 (E_ hzc len);have hr:bZ h ((eA 0 h).set nx (M (.cells (M ty) cs))):=(bZ.kill 0 h).trans (bZ.set λr hr=>by rw[bR,(hinv.kill 0).fresh]at hr;cases hr);have c:=gm hr _ _ h2;refine ⟨_,_,_,_,_,hk,iS.new hinv hc Z (y0:=.row (nm nx) sz len) (rdl:=[]) (b0:=⟨ty,pt cs'⟩) (by simp only[eL,h1,ay hl]) (dQ.zero h) (λty' l' he=>?_) (λH1 H2 d g b' a=>?_) (λH1 H2 y d g s=>?_) (by simp)⟩
     .cases he;exact j6 _ _ _ c
     .simp only[jC,c,ah]at a;subst a;obtain⟨L,A⟩:=nU cs';refine iJ.cells A rfl ?_ λx U=>?_
      .rw[L];exact ib.refl d _
      .exact l_ (r8 h2 hcs) x U
     .simp only[ci,ah]at s;subst s;exact lI.refl d _
   .cases hk
  .cases hk
theorem ank {con:FuncId->I cq} {b_:TypeId->I Ty} {ty:TypeId} {sz bytes:Nat} {s x:Operand} (hc:dl P o.op=M (.app ty sz bytes s x)) (hk:dX con b_ (.op (.app ty sz bytes s x)) e h nx K=M r):kV P o af e h nx K r:=by
 cases hcm:Dw (b_ ty) with
 |none=>exact ak5 hinv hi hcm hc hk
 |some n0=>
  obtain⟨H,hH⟩:=jS h;have hfr:=hinv.fresh;simp only[dX,hcm]at hk;split at hk
  .rename_i b y hv hv2;obtain⟨yb,h1,h2⟩:=bI hi hv;obtain⟨yy,h3,h4⟩:=bI hi hv2;unfold agi at hk;split at hk
   .rename_i id2 sz2 m;simp only[ci,ah]at h4;subst h4;split at hk
    .rename_i ty2 l2 a;split at hk
     .rename_i hq;simp only[al,eD]at hq;obtain⟨⟨q1,q2⟩,q3⟩:=hq;have q1:=ar q1;have q2:=ar q2;have q3:m≠0:=λe=>by rw[e]at q3;cases q3
      subst q1;obtain⟨c,U⟩:=fd h l2 (hinv.cells id2 _ l2 a);have hrow:=ae5 hH a U q2;split at hk
      .rename_i id sz1 n;simp only[ci,ah]at h2;subst h2;split at hk
       .rename_i ty1 l1 A;split at hk
        .rename_i hq;simp only[al,eD]at hq;obtain⟨⟨⟨p1,p2⟩,p3⟩,p4⟩:=hq;have p1:=ar p1;have p2:=eq_of_beq p2;have p3:=ar p3;have p4:id≠id2:=λe=>by rw[e,rO]at p4;cases p4
         subst p1;subst p2;obtain⟨hroom,hk⟩:=dZ hk;obtain⟨z,Z⟩:=fd h l1 (hinv.cells id _ l1 A);have hln:=gI Z;have hg:H.get (nm id)=M ⟨ty1,.mx z⟩:=by rw[hH,bE,A];simp only[aF,jC,Z]
         have hidlt:id<nx:=hinv.low id _ A;generalize hB:io.cells (M ty1) (l1++l2)=B at hk;have hd1:bZ h (h.set id (M (.dead J 0 0))):=bZ.set λr hr=>by rw[bR,A]at hr;cases hr
         have hd2:bZ (h.set id (M (.dead J 0 0))) ((h.set id (M (.dead J 0 0))).set nx (M B)):=bZ.set λr hr=>by
          rw[bR,PT.get_set,ay (by omega),hfr]at hr;cases hr
         have hr:=hd1.trans hd2;have hsp:cJ ((h.set id (M (.dead J 0 0))).set nx (M B)) (l1++l2)=M (z++c):=gm hr _ _ (nE Z U);have L:bt ((h.set id (M (.dead J 0 0))).set nx (M B)) (nm nx)=M ⟨ty1,.mx (z++c)⟩:=by rw[bE,PT.get_set,aC rfl,<-hB]at *;simp only[aF,jC,hsp]
         have hbd:bt ((h.set id (M (.dead J 0 0))).set nx (M B)) (nm id)=D:=by rw[bE,PT.get_set,ay (by omega),PT.get_set,aC rfl];rfl
         have hinv1:ml (h.set id (M (.dead J 0 0))) nx:=hinv.set hd1 hidlt (bU _) (λ_ _ he=>by cases he);have ha:eL (.app ty1 sz1 bytes s x) (Jg e h) H (nm nx)=M ⟨.row (nm nx) sz1 (n+m),[nm id,nm id2],[nm nx,nm id],[(nm nx,⟨ty1,pt (z++c)⟩)],[nm nx]⟩:=by
          simp only[eL,h1,h3,hrow,hg];rw[aC (by
           simp only[cS,jD,Bool.and_true,BC.isCells,BC.len,hroom,al,eD];refine ⟨?_,bC (by omega)⟩;simp only[TO,Bool.or_false];cases hq:aA (nm id2) (nm id) with
           |false=>rfl
           |true=>exact ct (kY (ar hq)).symm p4)]
          simp only[BC.toMx,gf (show z.length<=n*sz1 by omega)]
         refine ⟨_,_,_,_,_,hk,iS.mk' hc hH ha [nm nx,nm id] (λi hi=>hi) (λq hq=>?_) (λi hi b' hbb=>?_) (λH1 H2 d hw1 _ hw2=>⟨λi hi b b' hb a=>?_,λy hy=>?_⟩) (λq hq=>?_) (λq hq=>?_) (λq hq=>?_) hr (hinv1.set hd2 (by omega) (by omega) λty' l' he=>?_) (by omega)⟩
         .simp only[bh,cu,gj,not_or]at hq;refine kz hinv hr λi ei=>?_
          subst ei;rw[PT.get_set,ay (λe=>hq.1 (by rw[e])),PT.get_set,ay (λe=>hq.2 (by rw[e]))]
         .simp only[bh,cu,gj]at hi;rcases hi with rfl|rfl
          .rw[aC (by simp)];exact⟨_,ir _ _⟩
          .rw[hbd]at hbb;cases hbb
         .simp only[bh,cu,gj]at hi;rcases hi with rfl|rfl
          .rw[hw1 _ (by simp),ir]at hb;rw[hw2 _ (by simp),L]at a;simp only[ah]at hb a;subst hb;subst a;obtain⟨m1,m2⟩:=nU (z++c);exact iJ.eq d m2 rfl m1
          .rw[hw2 _ (by simp),hbd]at a;cases a
         .simp only[ci,ah]at hy;subst hy;exact lI.refl d _
         .simp only[bh,cu,gj]at hq;rw[bp,iY];rcases hq with rfl|rfl
          .rw[dS];exact .inl (bV.2 rfl)
          .rw[dS];exact .inr (bV.2 rfl)
         .simp only[bh,cu,gj]at hq;rw[bp,iY];rcases hq with rfl|rfl
          .rw[dS];exact .inr (bV.2 rfl)
          .rw[dS];exact .inl (bV.2 rfl)
         .simp only[aJ]at hq;subst hq;rw[dS];omega
         .rw[<- hB]at he;cases he;exact j6 _ _ _ hsp
        .cases hk
       .cases hk
      .simp only[ci,ah]at h2;subst h2;obtain⟨hroom,hk⟩:=dZ hk;have hr:bZ h ((eA 0 h).set nx (M (.cells (M ty) l2))):=(bZ.kill 0 h).trans (bZ.set λr hr=>by rw[bR,(hinv.kill 0).fresh]at hr;cases hr);have h2':=gm hr _ _ U;refine ⟨_,_,_,_,_,hk,iS.new hinv hc hH (y0:=.row (nm nx) sz2 m) (rdl:=[nm id2]) (b0:=⟨ty,pt c⟩) (by simp only[eL,h1,h3,hrow];simp[Iz,tB,hroom,q3]) (dQ.zero h) (λty' l' he=>?_) (λH1 H2 d g b' L=>?_) (λH1 H2 y d g hy=>?_) (λn hn=>?_)⟩
       .cases he;exact j6 _ _ _ h2'
       .simp only[jC,h2',ah]at L;subst L;obtain⟨p1,p2⟩:=nU c;exact iJ.eq d p2 rfl p1
       .simp only[ci,ah]at hy;subst hy;exact lI.refl d _
       .simp only[aJ]at hn;subst hn;rw[dS];exact bV.2 rfl
      .cases hk
     .cases hk
    .cases hk
   .cases hk
  .cases hk
theorem amy {con:FuncId->I cq} {b_:TypeId->I Ty} {sz:Nat} {x:Operand} {lo hi' mx:I Operand} (hc:dl P o.op=M (.slc sz x lo hi' mx)) (hk:dX con b_ (.op (.slc sz x lo hi' mx)) e h nx K=M r):kV P o af e h nx K r:=by
 have hfr:=hinv.fresh;simp only[dX]at hk;split at hk
 .rename_i v hv;obtain⟨y,h1,h2⟩:=bI hi hv;split at hk
  .split at hk
   .rename_i hn;obtain⟨n,hn⟩:=iQ.1 hn;have L:=Qa hn h2;exact kV.q (k:=0) hinv hc (λH _=>by simp only[eL,h1,L,Option.isSome_some,bF]) (dw rfl) hk
   .cases hk
  .rename_i b;split at hk
   .rename_i T xs k j hb;obtain⟨y2,L,A⟩:=bI hi hb;simp only[ci,ah]at h2 A;subst h2;subst A;split at hk
    .rename_i hs;have hs:=ar hs;subst hs;obtain⟨hj,hk⟩:=dZ hk;have hfl:=fJ (bB T) xs;have hcond:(cX 0 j&&cX j (ai xs)&&eO (ai xs*T.size) (xs.flatMap (bS T)).length)=J:=by
      rw[hj,jD];exact bC (by omega)
     simp only[cX,al,bL]at hj;have hlen:(xs.take j.toNat).length=j.toNat:=by rw[bJ];omega
     exact kV.q (k:=0) (y0:=.f (.sl ((xs.flatMap (bS T)).take (j.toNat*T.size)) j.toNat)) hinv hc (λH _=>by simp only[eL,h1,L,gB,hcond,bF]) (dw (by simp only[ci,gB];rw[zZ (bB T),hlen])) hk
    .cases hk
   .rename_i id k j hb;obtain⟨y2,L,A⟩:=bI hi hb;simp only[ci,ah]at A;subst A;split at hk
    .rename_i ty p T xs a;split at hk
     .rename_i hs;have hs:=ar hs;subst hs;obtain⟨hj,hk⟩:=dZ hk;obtain⟨H,hH⟩:=jS h;have hj0:=hj;simp only[cX,fK,al,bL]at hj;have hp:¬((p&&xs.length==0)=J):=by
       simp only[al,cU];omega
      simp only[ci,bR,a,aF,mR,fG,ay hp,ah]at h2;subst h2;have hidlt:=hinv.low id _ a;have hne:nx≠id:=by omega
      have hg:H.get (nm id)=M ⟨ty,.fz (xs.flatMap (bS T))⟩:=by rw[hH,bE,a];simp only[aF,jC,ay hp]
      have fl:=fJ (bB T) xs;have hcond:(T.size==T.size&&cX 0 j&&cX j (ai xs))=J:=by
       simp only[cX,al,bL,cS,Bj];omega
      have hlen:(xs.take j.toNat).length=j.toNat:=by rw[bJ];omega
      have ha0:eL (.slc T.size x D (M b) D) (Jg e h) H (nm nx)=M ⟨.row (nm nx) T.size j.toNat,[nm id],[nm nx,nm id],[(nm nx,⟨ty,.fz ((xs.take j.toNat).flatMap (bS T))⟩)],[nm nx]⟩:=by
       have hc2:((BC.fz (xs.flatMap (bS T))).isCells&&eO (ai xs*T.size) (BC.fz (xs.flatMap (bS T))).len)=J:=by
        simp only[BC.isCells,jD,BC.len];exact bC (by omega)
       simp only[eL,h1,L,gB,hcond,bF,hg,hc2,BC.toMx,<-kR,Cy,zZ (bB T)]
      generalize hh':(h.set id (M (.dead p T.size (ai xs)))).set nx (M (.rows ty af T (dI j.toNat xs)))=h' at hk;have hrA:bZ h (h.set id (M (.dead p T.size (ai xs)))):=bZ.set λr hr=>by rw[bR,a]at hr;exact hr
      have s:∀i,h'.get i=if i=nx then M (.rows ty af T (dI j.toNat xs)) else if i=id then M (.dead p T.size (ai xs)) else h.get i:=λi=>by rw[<- hh',PT.get_set,PT.get_set]
      have hr:bZ h h':=by
       rw[<- hh'];refine hrA.trans (bZ.set λr hr=>?_);rw[bR,PT.get_set,ay hne,hfr]at hr;cases hr
      have hinv':ml h' (nx+1):=by
       refine ⟨λi ty l hil=>?_,λi c hic=>?_⟩
       .rw[s]at hil;split at hil
        .cases hil
        .split at hil
         .cases hil
         .exact iZ hr l (hinv.cells i _ l hil)
       .rw[s]at hic;split at hic
        .omega
        .split at hic
         .omega
         .have:=hinv.low i c hic;omega
      have hsame:∀n,n≠nm nx->n≠nm id->bt h' n=bt h n:=λn h1 h2=>kz hinv hr λi e=>by
       subst e;rw[s,ay (λe=>h1 (by rw[e])),ay (λe=>h2 (by rw[e]))]
      have hdead:bt h' (nm id)=D:=by rw[bE,s,ay (by omega),aC rfl];rfl
      have hnew:bt h' (nm nx)=M ⟨ty,.fz ((xs.take j.toNat).flatMap (bS T))⟩:=by rw[bE,s,aC rfl];rfl
      have hval:ci h' (.row nx)=M (.row (nm nx) T.size j.toNat):=by simp only[ci,bR,s,bF,aF,mR,fG,lA,cz,dT,hlen]
      refine ⟨_,_,_,_,_,hk,?_⟩;refine iS.mk' hc hH ha0 [nm nx,nm id] (λi hi=>hi) (λn hn=>?_) (λi hi b' hb'=>?_) (λH1 H2 d hw1 _ Z=>⟨λi hi b b' U z=>?_,λy hy=>?_⟩) (λn hn=>?_) (λn hn=>?_) (λn hn=>by simp only[aJ]at hn;subst hn;rw[dS];omega) hr hinv' (by omega)
      .simp only[bh,cu,gj,not_or]at hn;exact hsame n hn.1 hn.2
      .simp only[bh,cu,gj]at hi;rcases hi with rfl|rfl
       .exact⟨_,by rw[aC (by simp)];exact ir _ _⟩
       .rw[hdead]at hb';cases hb'
      .simp only[bh,cu,gj]at hi;rcases hi with rfl|rfl
       .rw[hw1 _ (by simp),ir]at U;rw[Z _ (by simp),hnew]at z;simp only[ah]at U z;subst U;subst z;exact iJ.refl d _
       .rw[Z _ (by simp),hdead]at z;cases z
      .rw[hval]at hy;simp only[ah]at hy;subst hy;exact lI.refl d _
      .simp only[aJ]at hn;subst hn;rw[dS];exact bV.2 rfl
      .simp only[bh,cu,gj]at hn;rcases hn with rfl|rfl<;>rw[dS,bp,bV.2 rfl]<;>simp
     .cases hk
    .cases hk
   .cases hk
  .rename_i b;split at hk
   .rename_i T xs k j hb;obtain⟨y2,L,A⟩:=bI hi hb;simp only[ci,ah]at h2 A;subst h2;subst A;split at hk
    .rename_i hs;have hs:=ar hs;subst hs;obtain⟨hj,hk⟩:=dZ hk;have hfl:=fJ (bB T) xs;have hcond:(cX 0 j&&cX j (ai xs)&&eO (ai xs*T.size) (xs.flatMap (bS T)).length)=J:=by
      rw[hj,jD];exact bC (by omega)
     simp only[cX,al,bL]at hj;have hlen:(xs.drop j.toNat).length=ai xs-j.toNat:=by rw[mN]
     have htk:((xs.flatMap (bS T)).drop (j.toNat*T.size)).take ((ai xs-j.toNat)*T.size)=(xs.flatMap (bS T)).drop (j.toNat*T.size):=by
      refine gf ?_;rw[mN,hfl,Nat.sub_mul];exact bU _
     exact kV.q (k:=0) (y0:=.f (.sl ((xs.flatMap (bS T)).drop (j.toNat*T.size)) (ai xs-j.toNat))) hinv hc (λH _=>by simp only[eL,h1,L,gB,hcond,bF,htk]) (dw (by simp only[ci,gB];rw[Ja (bB T),hlen])) hk
    .cases hk
   .rename_i id k j hb;obtain⟨y2,L,A⟩:=bI hi hb;simp only[ci,ah]at A;subst A;split at hk
    .rename_i ty p T xs a;split at hk
     .rename_i hs;have hs:=ar hs;subst hs;obtain⟨hj,hk⟩:=dZ hk;have hcond:(T.size==T.size&&cX 0 j&&fK j (ai xs))=J:=by
       simp only[al]at hj;rw[hj.1,hj.2,cS];rfl
      simp only[cX,fK,al,bL]at hj;have hp:¬((p&&xs.length==0)=J):=by
       simp only[al,cU];omega
      simp only[ci,bR,a,aF,mR,fG,ay hp,ah]at h2;subst h2;exact kV.q (k:=0) (y0:=.sl (nm id) (j.toNat*T.size) (ai xs-j.toNat)) hinv hc (λH _=>by simp only[eL,h1,L,gB,hcond,bF]) (dw (by simp only[ci,bR,a,aF,mR])) hk
     .cases hk
    .cases hk
   .cases hk
  .cases hk
 .cases hk
theorem ang {con:FuncId->I cq} {b_:TypeId->I Ty} {sz:Nat} {z:ξ} {x:Operand} (hc:dl P o.op=M (.clr sz z x)) (hk:dX con b_ (.op (.clr sz z x)) e h nx K=M r):kV P o af e h nx K r:=by
 obtain⟨H,Z⟩:=jS h;simp only[dX]at hk;split at hk
 .rename_i id j hv;split at hk
  .rename_i ty p T xs hb;split at hk
   .rename_i hs;simp only[al]at hs;obtain⟨⟨hs,c⟩,hco⟩:=hs;have hs:=ar hs;have c:=Kg c;subst hs;subst c;obtain⟨hj,hk⟩:=dZ hk;simp only[cX,fK,al,bL]at hj;obtain⟨j0,j1⟩:=hj;obtain⟨y,h1,h2⟩:=bI hi hv;simp only[ci,bR,hb,aF,mR,ah]at h2;subst h2;have hp:¬((p&&xs.length==0)=J):=by
     simp only[al,cU];omega
    have fl:=fJ (bB T) xs;have hg:H.get (nm id)=M ⟨ty,.fz (xs.flatMap (bS T))⟩:=by rw[Z,bE,hb];simp only[aF,jC,ay hp]
    have hrl:(repl (sV T) (xs.length-j.toNat)).length=(xs.length-j.toNat)*T.size:=by
     have h9:=(Hn (H:=λ_=>D) (H':=λ_=>D) (λn b hb=>by cases hb) T (xs.length-j.toNat)).length;rw[bx,bx,fJ (bB T),bY]at h9;exact h9.symm
    have hoff:j.toNat*T.size+(xs.length-j.toNat)*T.size=xs.length*T.size:=by rw[<- Nf];congr 1;omega
    have hput:(BC.fz (xs.flatMap (bS T))).put (j.toNat*T.size) ((repl (sV T) (xs.length-j.toNat)).map .f)=M (.fz (splice (xs.flatMap (bS T)) (j.toNat*T.size) (repl (sV T) (xs.length-j.toNat)))):=by
     unfold BC.put;rw[aC]
     .simp only[Kn]
     .simp only[al];refine ⟨⟨rfl,bC ?_⟩,Gq _ λq hq=>?_⟩
      .simp only[BC.len,bx];omega
      .obtain⟨v,hv,rfl⟩:=PO _ q hq;exact gy.1 hco v hv
    have hblt:gu 0 (xs.length-j.toNat)=J:=bC (by omega);have L:eL (.clr T.size (sV T) x) (Jg e h) H (nm nx)=M ⟨.tup [],[nm id],[nm id],[(nm id,⟨ty,.fz (splice (xs.flatMap (bS T)) (j.toNat*T.size) (repl (sV T) (xs.length-j.toNat)))⟩)],[]⟩:=by
     simp only[eL,h1,hg,hblt,bF,hput]
    have hlen:(dI j.toNat xs++aB (ai xs-j.toNat) T.zero).length=xs.length:=by
     rw[bk,bJ,bY];omega
    have hrow:mR (.rows ty p T (dI j.toNat xs++aB (ai xs-j.toNat) T.zero))=mR (.rows ty p T xs):=by simp only[mR,hlen]
    refine ⟨_,_,_,_,_,hk,iS.wrt (m:=0) (v:=.tup []) (rd:=kC id) hinv hc Z L hb (dQ.zero h) (by simp) hrow (λ_ _ he=>by cases he) (λH1 H2 d g b' a=>?_) (λH1 H2 y d g U=>?_) (λn hn=>?_)⟩
    .have A:¬((p&&(dI j.toNat xs++aB (ai xs-j.toNat) T.zero).length==0)=J):=by rw[hlen];exact hp
     simp only[jC,ay A,ah]at a;subst a;refine iJ.cells rfl rfl ?_ λq hq=>?_
     .simp only[BC.toMx];unfold splice;rw[hrl,hoff,<-fl,List.drop_length,mb,List.flatMap_append,zZ (bB T),cQ,cQ];exact (ib.refl d _).append (Hn d T _)
     .simp only[BC.toMx]at hq;obtain⟨q',s,rfl⟩:=db.1 hq;exact rH T _ q' s
    .simp only[ci,cJ,ah]at U;subst U;exact lI.refl d _
    .simp only[aJ]at hn;subst hn;rw[dS];exact bV.2 rfl
   .cases hk
  .cases hk
 .cases hk
end ops
theorem NG {K V:Ty} {es:Y (K.den×V.den)} (a:mpE K V es=J):es.map (λp=>(pN K p.1,AV.f (gB V p.2)))=[]:=by
 unfold mpE at a;split at a
 .rfl
 .cases a
theorem ZI {K V:Ty} {es:Y (K.den×V.den)} (a:mpE K V es=J):TK K=J:=by
 unfold mpE at a;split at a
 .rfl
 .cases a
theorem We {str:Bool} {K:Ty} (a:Xq str K=J):TK K=J:=by
 cases K<;>cases str<;>first|rfl|cases a
theorem NK {str:Bool} {K:Ty} (a:Xq str K=J) (k k':K.den):tG .eql (pN K k) (pN K k')=M (.bool (Pk K k k'))/\yP str (pN K k)=J/\gB K k= .raw (pN K k):=by
 cases K<;>cases str<;>first|cases a|skip
 .exact⟨by simp only[tG,pN,Pk,cS,bF,ah,B5];exact Bool.beq_eq_decide_eq _ _,rfl,rfl⟩
 .exact⟨by simp only[tG,pN,Pk,DF],rfl,rfl⟩
theorem P' {str:Bool} {K V:Ty} (a:Xq str K=J) (k:K.den):∀es:Y (K.den×V.den),tu (pN K k) (es.map λp=>(pN K p.1,AV.f (gB V p.2)))=M ((Mk k es).map λv=>AV.f (gB V v))
 |[]=>rfl
 |(k',v)::r=>by
  simp only[eS,tu,(NK a k k').1,Mk];cases hb:Pk K k k' with
  |true=>rfl
  |false=>simp only[cz,dT];exact P' a k r
theorem Wb {str:Bool} {K V:Ty} (a:Xq str K=J) (k:K.den) (v:V.den):∀es:Y (K.den×V.den),yN (pN K k) (.f (gB V v)) (es.map λp=>(pN K p.1,AV.f (gB V p.2)))=M ((TJ k v es).map λp=>(pN K p.1,AV.f (gB V p.2)))
 |[]=>rfl
 |(k',c)::r=>by
  simp only[eS,yN,(NK a k k').1,TJ];cases hb:Pk K k k' with
  |true=>rfl
  |false=>simp only[Wb a k v r,cz,dT,eS]
theorem ag3 {h:bg} {ok b:Bool} {v:TV} {y:AV} (hv:ci h v=M y):ci h (pkT ok v (.f .bool b))=M (pkV ok y b):=by
 cases ok with
 |false=>exact hv
 |true=>simp only[pkT,pkV,ci,cJ,hv];rfl
section ops
variable {R:Type} {P:Program} {o:Oper} {e:iT} {h:bg} {nx:Nat} {K:KO R} {r:R}
theorem Le.aggOf {l:Y FV} (hc:∀x∈l,x.isCell=J):Le (.agg (l.map .f)) (.f (.agg l)):=by
 intro φ O w v hr;cases hr with
 |@agg _ vs hl hcl hrr=>
  refine .f (.agg l vs (by simpa using hl) hc λj y u a hu=>?_);have:=hrr j (.f y) u (by rw[ba,a];rfl) hu;cases this with
  |f h=>exact h
def PZ (S:Ty) (l:Y TV):I (S.den×Nat×Y TV):=match l with
 |c::r=>(match iO PT.leaf S c with|some (x,m)=>M (x,m,r)|none=>D)
 |[]=>D
theorem Mm:∀{l a:Y FV},l.map AV.f=a.map AV.f->l=a
 |[],[],_=>rfl
 |[],_::_,h=>by simp at h
 |_::_,[],h=>by simp at h
 |x::r,y::r',h=>by
  simp only[eS,iX,AV.f.injEq]at h;rw[h.1,Mm h.2]
theorem Ia (h:bg):∀(ds:Y TypeDesc) (T:Ty),qV ds=M T->∀(n:Nat) (l:Y TV) (x:T.den) (m:Nat) (r:Y TV),e9 PT.leaf n T l=M (x,m,r)->∀A,cJ h l=M A->∃l2,cJ h r=M l2/\A=(bS T x).map .f++l2
 |[],T,hd,n,l,x,m,r,hp,A,hl=>by
  simp only[qV,ah]at hd;subst hd;cases n with
  |zero=>simp[e9]at hp
  |succ n=>
   simp only[e9,ah,aD]at hp;obtain⟨_,_,rfl⟩:=hp;exact⟨A,hl,rfl⟩
 |d::ds,T,hd,n,l,x,m,r,hp,A,hl=>by
  have plain:∀(S:Ty),S.one=J->(∀t,S≠ .sl t)->∀(v:TV) (a:S.den) (m:Nat) (y:AV),iO PT.leaf S v=M (a,m)->ci h v=M y->y= .f (gB S a):=by
   intro S Z hns v a m y s hy;cases v with
   |f Q q=>
    simp only[iO]at s;split at s
    .rename_i z hz;simp only[ah,aD]at s;obtain⟨rfl,_⟩:=s;obtain⟨e,rfl⟩:=im hz;subst e;simp only[ci,ah]at hy;exact hy.symm
    .cases s
   |emp=>
    cases S with
    |sl t=>exact ct rfl (hns t)
    |_=>simp[iO]at s
   |nil=>
    cases S with
    |sl t=>exact ct rfl (hns t)
    |_=>simp[iO]at s
   |row id=>simp[iO,PT.get]at s
   |fel T xs j hj off=>simp[iO]at s
   |pel id sz j off=>simp[iO]at s
   |ptr id off=>simp[iO]at s
   |csl id off z=>simp[iO]at s
   |mp id=>simp[iO]at s
   |rtl id jj=>simp[iO]at s
   |agg q=>simp[iO]at s
   |tup q=>simp[iO]at s
   |clo f q=>simp[iO]at s
   |undef=>simp[iO]at s
   |np=>simp[iO]at s
   |anyb=>simp[iO]at s
  have one:∀(S:Ty),S.one=J->(∀t,S≠ .sl t)->∀(n:Nat) (l:Y TV) (a:S.den) (m:Nat) (r:Y TV),e9 PT.leaf n S l=M (a,m,r)->∀A,cJ h l=M A->∃l2,cJ h r=M l2/\A=(bS S a).map .f++l2:=by
   intro S Z hns n l a m r hp A hl;cases n with
   |zero=>simp[e9]at hp
   |succ n=>
    cases l with
    |nil=>
     cases S with
     |int k=>cases hp
     |bool=>cases hp
     |str=>cases hp
     |sl t=>exact ct rfl (hns t)
     |_=>cases Z
    |cons c q=>
     have hpp:PZ S (c::q)=M (a,m,r):=by
      cases S with
      |int k=>simp only[e9]at hp;simp only[PZ];cases hq:iO PT.leaf (.int k) c with
       |none=>rw[hq]at hp;cases hp
       |some z=>rw[hq]at hp;exact hp
      |bool=>simp only[e9]at hp;simp only[PZ];cases hq:iO PT.leaf .bool c with
       |none=>rw[hq]at hp;cases hp
       |some z=>rw[hq]at hp;exact hp
      |str=>simp only[e9]at hp;simp only[PZ];cases hq:iO PT.leaf .str c with
       |none=>rw[hq]at hp;cases hp
       |some z=>rw[hq]at hp;exact hp
      |sl t=>exact ct rfl (hns t)
      |_=>cases Z
     simp only[PZ]at hpp;split at hpp
     .rename_i a1 m1 h1;simp only[ah,aD]at hpp;obtain⟨rfl,rfl,rfl⟩:=hpp;obtain⟨y,l2,rfl,g1,g2⟩:=cY hl;have:=plain S Z hns c a1 m1 y h1 g1;subst this;exact⟨l2,g2,by rw[(C4 S a1 Z).1];rfl⟩
     .cases hpp
  have two:∀(S U:Ty),S.one=J->(∀t,S≠ .sl t)->qV ds=M U->T= .pr S U->∃l2,cJ h r=M l2/\A=(bS T x).map .f++l2:=by
   intro S U Z hns L e;subst e;cases n with
   |zero=>simp[e9]at hp
   |succ n=>
    simp only[e9]at hp;split at hp
    .rename_i x1 m1 r1 h1;split at hp
     .rename_i x2 m2 r2 h2;simp only[ah,aD]at hp;obtain⟨rfl,rfl,rfl⟩:=hp;obtain⟨l2,g1,g2⟩:=one S Z hns n l x1 m1 r1 h1 A hl;obtain⟨l3,g3,g4⟩:=Ia h ds U L n r1 x2 m2 r2 h2 l2 g1;exact⟨l3,g3,by rw[g2,g4,bS,cQ,jX]⟩
     .cases hp
    .cases hp
  cases d with
  |int k=>
   simp only[qV]at hd;split at hd
   .rename_i U L;simp only[ah]at hd;exact two (.int k) U rfl (λt h=>by cases h) L hd.symm
   .cases hd
  |bool=>
   simp only[qV]at hd;split at hd
   .rename_i U L;simp only[ah]at hd;exact two .bool U rfl (λt h=>by cases h) L hd.symm
   .cases hd
  |string=>
   simp only[qV]at hd;split at hd
   .rename_i U L;simp only[ah]at hd;exact two .str U rfl (λt h=>by cases h) L hd.symm
   .cases hd
  |_=>simp[qV]at hd
theorem C2:∀(ds:Y TypeDesc) (T:Ty),qV ds=M T->∀a b:T.den,o8 ds (bS T a) (bS T b)=M (Pk T a b)
 |[],T,hd,a,b=>by simp only[qV,ah]at hd;subst hd;rfl
 |d::ds,T,hd,a,b=>by
  cases d with
  |int k=>
   simp only[qV]at hd;split at hd
   .rename_i U s;simp only[ah]at hd;subst hd;have q:=C2 ds U s a.2 b.2;simp only[bS,gx,j8,o8,xt,cS,bF,Pk];cases he:((a.1:Int)==b.1) with
    |true=>have c:(a.1:Int)=b.1:=by simpa using he
           simp only[q,c,dU,jD]
    |false=>have c:¬(a.1:Int)=b.1:=by simpa using he
            simp only[c,dy,lA]
   .cases hd
  |bool=>
   simp only[qV]at hd;split at hd
   .rename_i U s;simp only[ah]at hd;subst hd;have q:=C2 ds U s a.2 b.2;simp only[bS,gx,j8,o8,xt,Pk];cases he:((a.1:Bool)==b.1)<;>simp[he,q]
   .cases hd
  |string=>
   simp only[qV]at hd;split at hd
   .rename_i U s;simp only[ah]at hd;subst hd;have q:=C2 ds U s a.2 b.2;simp only[bS,gx,j8,o8,xt,Pk,DF];cases he:decide ((a.1:ζ)=b.1) with
    |true=>simp only[q,jD]
    |false=>simp only[lA]
   .cases hd
  |_=>simp[qV]at hd
theorem M3 {u:TV} (hu:u.isC=af) {lu:Y TV} (hl:u.cs=M lu) {ds:Y TypeDesc} {T:Ty} (hd:qV ds=M T) {a:T.den} {m:Nat} (hp:e9 PT.leaf 40 T lu=M (a,m,[])) {y:AV} (c:ci h u=M y):Le y (.f (.agg (bS T a))):=by
 obtain⟨h1,_⟩:=JY hl c;obtain⟨l2,h2,q⟩:=Ia h ds T hd 40 lu a m [] hp _ h1;simp only[cJ,ah]at h2;subst h2;rw[mb]at q;cases u with
 |agg l=>
  simp only[ci]at c;split at c
  .rename_i s _;simp only[ah]at c;subst c;have:s=(bS T a).map .f:=q;rw[this];exact Le.aggOf (oa T a)
  .cases c
 |f S x=>
  simp only[ci,ah]at c;subst c;have A:S.one=af:=hu;rw[Aa]at q;have:bS S x=bS T a:=Mm q;rw[qD S x A,this];exact Le.refl _
 |tup l=>simp[TV.cs,TV.isC]at hl
 |undef=>simp[TV.cs,TV.isC]at hl
 |np=>cases hu
 |anyb=>simp[TV.cs,TV.isC]at hl
 |fel T xs j hj off=>cases hu
 |pel id sz j off=>cases hu
 |ptr id off=>cases hu
 |csl id off z=>cases hu
 |row id=>cases hu
 |emp=>cases hu
 |nil=>cases hu
 |mp id=>cases hu
 |rtl id L=>cases hl
 |clo g l=>cases hu
variable (hinv:ml h nx) (hi:tI e h)
include hinv hi
theorem ane {con:FuncId->I cq} {b_:TypeId->I Ty} {neg:Bool} {ds:Y TypeDesc} {x y:Operand} {st:Bool} (hc:dl P o.op=M (.eqs neg ds x y)) (hk:dX con b_ (.op (.eqs neg ds x y)) e h nx K=M r):kV P o st e h nx K r:=by
 obtain⟨H,hH⟩:=jS h;simp only[dX]at hk;split at hk
 .rename_i T u v hd hu hv;split at hk
  .cases hk
  .rename_i hcc;simp only[iY,not_or,Bool.not_eq_true]at hcc;split at hk
   .rename_i lu lv hlu hlv;split at hk
    .rename_i a m1 b m2 hpa hpb;obtain⟨yu,h1,h2⟩:=bI hi hu;obtain⟨yv,h3,h4⟩:=bI hi hv;obtain⟨⟨⟨Z,U⟩,hc3⟩,hc4⟩:=hcc;have l1:=M3 Z hlu hd hpa h2;have l2:=M3 U hlv hd hpb h4;have tmp:∀(z:Operand) (q:TV),fR e z=M q->q.isC=af->T2 z=af->∃t,z= .tmp t:=by
      intro z q A hq hg;cases z with
      |tmp t=>exact⟨t,rfl⟩
      |const c=>
       have A:cst c=M q:=by
        simp only[fR,ahw]at A;split at A
        .cases hg
        .exact A
       have:=(JW h A).2.2;rw[hq]at this;cases this
      |func g=>simp only[fR,ah]at A;subst A;cases hq
      |global g=>
       simp only[fR]at A;split at A
       .cases A;cases hq
       .cases A
     obtain⟨t,rfl⟩:=tmp x u hu Z hc3;obtain⟨t',rfl⟩:=tmp y v hv U hc4;have same:t=t'->bS T a=bS T b:=by
      intro ht;subst ht;rw[hu]at hv;cases hv;rw[hlu]at hlv;cases hlv;rw[hpa]at hpb;cases hpb;rfl
     let L:zJ:=((Jg e h).set t (M (.f (.agg (bS T a))))).set t' (M (.f (.agg (bS T b))))
     have e1:mP L (.tmp t)=M (.f (.agg (bS T a))):=by
      simp only[mP,L,PT.get_set];by_cases ht:t=t'
      .rw[aC ht,same ht]
      .rw[ay ht];simp
     have e2:mP L (.tmp t')=M (.f (.agg (bS T b))):=by simp only[mP,L,PT.get_set,bF]
     have ha:eL (.eqs neg ds (.tmp t) (.tmp t')) L H 0=M ⟨raw (.bool (Pk T a b !=neg)),[],[],[],[]⟩:=by
      simp only[eL,e1,e2,C2 ds T hd a b];rfl
     have ht:=Ic hc ha;rw[hH]at ht;have ht2:gM P o (fO e h) (bt h) _:=ht.envLe (e2:=fO e h) λs z _ A=>by
      simp only[L,PT.get_set]at A;rw[<- uY];simp only[mP]at h1 h3;split at A
      .rename_i es;subst es;cases A;exact⟨yv,h3,l2⟩
      .split at A
       .rename_i es;subst es;cases A;exact⟨yu,h1,l1⟩
       .exact⟨z,A,Le.refl _⟩
     refine ⟨_,0,0,h,nx,hk,⟨⟨_,ht2,λy hy=>?_,by simp[B3.eff,tS],by simp[B3.eff],by simp[B3.eff],by simp[B3.eff]⟩,λ_ _ h=>h,hinv,bU _,λ_=>⟨rfl,rfl⟩⟩⟩;simp only[ci,ah]at hy;exact hy
    .cases hk
   .cases hk
 .cases hk
theorem an3 {con:FuncId->I cq} {b_:TypeId->I Ty} (hc:dl P o.op=M .mkm) (hk:dX con b_ (.op .mkm) e h nx K=M r):kV P o af e h nx K r:=by
 have _:=hi;obtain⟨H,q⟩:=jS h;refine ⟨_,_,_,_,_,hk,iS.new hinv hc q (y0:=.mp (nm nx)) (rdl:=[]) (b0:=⟨0,.mp []⟩) rfl (dQ.zero h) (λ_ _ he=>by cases he) (λz s d g b' a=>?_) (λz s y d g c=>?_) (by simp)⟩
 .cases a;exact iJ.refl d _
 .simp only[ci,ah]at c;subst c;exact lI.refl d _
theorem ak0 {con:FuncId->I cq} {b_:TypeId->I Ty} {x:Operand} (hc:dl P o.op=M (.lenm x)) (hk:dX con b_ (.op (.lenm x)) e h nx K=M r):kV P o af e h nx K r:=by
 obtain⟨H,c⟩:=jS h;simp only[dX]at hk;split at hk
 .rename_i id hv;split at hk
  .rename_i K' V es hb;obtain⟨y,h1,h2⟩:=bI hi hv;simp only[ci,ah]at h2;subst h2;split at hk
   case isFalse=>cases hk
   rename_i hO;have hg:H.get (nm id)=M ⟨0,.mp (es.map λp=>(pN K' p.1,.f (gB V p.2)))⟩:=by rw[c,bE,hb];show M (vG.mk 0 (ZJ K' V es))=_;rw[yM hO]
   exact⟨_,_,_,_,_,hk,iS.pure (k:=0) hinv hc c (y0:=raw (.int .i64 es.length)) (rdl:=[nm id]) (by simp only[eL,h1,hg,bx]) (λy a=>by simp only[ci,ah]at a;subst a;exact Le.refl _) (λn hn=>by simp only[aJ]at hn;subst hn;rw[dS];exact bV.2 rfl) (λh=>by cases h)⟩
  .cases hk
 .cases hk
theorem an7 {con:FuncId->I cq} {b_:TypeId->I Ty} {str ok:Bool} {z:Value} {x k:Operand} (hc:dl P o.op=M (.lku str ok z x k)) (hk:dX con b_ (.op (.lku str ok z x k)) e h nx K=M r):kV P o af e h nx K r:=by
 obtain⟨H,U⟩:=jS h;simp only[dX]at hk;split at hk
 .rename_i id KT c hv L;split at hk
  .rename_i K' V es hb;split at hk
   .rename_i a;obtain⟨y,h1,h2⟩:=bI hi hv;obtain⟨y2,A,h4⟩:=bI hi L;simp only[ci,ah]at h2 h4;subst h2;subst h4;simp only[al]at a;have hg:H.get (nm id)=M ⟨0,.mp (es.map λp=>(pN K' p.1,.f (gB V p.2)))⟩:=by rw[U,bE,hb];show M (vG.mk 0 (ZJ K' V es))=_;rw[yM a.2]
    obtain⟨_,hok,henc⟩:=NK a.1 c c;rw[henc]at A;have hrd:∀n∈[nm id],aM (kC id) (ow n)=J:=λn hn=>by simp only[aJ]at hn;subst hn;rw[dS];exact bV.2 rfl
    split at hk
    .rename_i hE;split at hk
     .rename_i v hz;have hzz:=(JW h hz).1;exact⟨_,_,_,_,_,hk,iS.pure (k:=0) hinv hc U (y0:=pkV ok (raw z) af) (rdl:=[nm id]) (by simp only[eL,h1,A,hg,hok,bF,NG hE,tu]) (λy s=>by rw[ag3 hzz]at s;cases s;exact Le.refl _) hrd (λh=>by cases h)⟩
     .cases hk
    .split at hk
     .rename_i kv' Z zv hkv hz;split at hk
      .rename_i zv' hzv;obtain⟨e1,e2⟩:=im hkv;cases e1;subst e2;obtain⟨e3,e4⟩:=im hzv;cases e3;subst e4;have hzz:=(JW h hz).1;simp only[ci,ah]at hzz;refine ⟨_,_,_,_,_,hk,iS.pure (k:=0) hinv hc U (y0:=pkV ok (.f (gB _ (P_ kv' es zv'))) (ahj kv' es)) (rdl:=[nm id]) ?_ (λy s=>by rw[ag3 (y:=.f (gB _ (P_ kv' es zv'))) rfl]at s;cases s;exact Le.refl _) hrd (λh=>by cases h)⟩;simp only[eL,h1,A,hg,hok,bF,P' a.1];unfold P_ ahj;cases hf:Mk kv' es with
       |none=>simp only[Option.map_none];rw[hzz]
       |some v=>rfl
      .cases hk
     .cases hk
   .cases hk
  .rename_i l hb;split at hk
   .rename_i n hkv;split at hk
    case isFalse=>cases hk
    rename_i a;simp only[al]at a;split at hk
    .rename_i v hlv;obtain⟨e1,e2⟩:=im hkv;cases e1
     replace e2:n=c:=e2
     subst n;obtain⟨y,h1,h2⟩:=bI hi hv;obtain⟨y2,A,h4⟩:=bI hi L;simp only[ci,ah]at h2 h4;subst h2;subst h4;obtain⟨l',hl⟩:=fd h l (hinv.cells id _ l hb);obtain⟨y,s,hey⟩:=lm hl _ _ hlv;have hg:H.get (nm id)=M ⟨1,.mp (oO 0 l')⟩:=by rw[U,bE,hb];simp only[aF,jC,hl]
     have ht:told c (oO 0 l')=M y:=by
      have h0:(0:Int)<=c:=be a.2.1;have hn:(c:Int)=aN (0+aP c):=by rw[bG];exact (fE h0).symm
      rw[hn,Mq];exact s
     have henc:gB (.int .i64) c= .raw (.int .i64 c):=rfl;rw[henc]at A;exact⟨_,_,_,_,_,hk,iS.pure (k:=0) hinv hc U (y0:=y) (rdl:=[nm id]) (by simp only[eL,h1,A,hg,a.1.1,a.1.2.1,a.1.2.2,jE,bF,ht]) (λq hq=>by rw[hey]at hq;cases hq;exact Le.refl _) (λn hn=>by simp only[aJ]at hn;subst hn;rw[dS];exact bV.2 rfl) (λh=>by cases h)⟩
    .cases hk
   .cases hk
  .cases hk
 .cases hk
theorem an2 {con:FuncId->I cq} {b_:TypeId->I Ty} {str:Bool} {x k v:Operand} (hc:dl P o.op=M (.mup str x k v)) (hk:dX con b_ (.op (.mup str x k v)) e h nx K=M r):kV P o af e h nx K r:=by
 obtain⟨H,hH⟩:=jS h;simp only[dX]at hk;split at hk
 .rename_i id KT a VT vv hv A z;split at hk
  .rename_i K' V es hb;split at hk
   .rename_i q;simp only[al]at q;obtain⟨y,h1,h2⟩:=bI hi hv;obtain⟨y2,Z,h4⟩:=bI hi A;obtain⟨L,h5,h6⟩:=bI hi z;simp only[ci,ah]at h2 h4 h6;subst h2;subst h4;subst h6;have hg:H.get (nm id)=M ⟨0,.mp (es.map λp=>(pN K' p.1,.f (gB V p.2)))⟩:=by rw[hH,bE,hb];show M (vG.mk 0 (ZJ K' V es))=_;rw[yM q.2]
    obtain⟨_,hok,henc⟩:=NK q.1.1 a a;rw[henc]at Z;have hrd:∀n∈[nm id],aM (kC id) (ow n)=J:=λn hn=>by simp only[aJ]at hn;subst hn;rw[dS];exact bV.2 rfl
    split at hk
    .rename_i hE;exact⟨_,_,_,_,_,hk,iS.wrt (k:=0) (m:=0) (v:=.undef) (rd:=kC id) hinv hc hH (y0:=raw undef) (b0:=⟨0,.mp [(pN KT a,.f (gB VT vv))]⟩) (rdl:=[nm id]) (by simp only[eL,h1,Z,h5,hg,hok,bF,NG hE,yN]) (B:=.mp KT VT [(a,vv)]) hb (dQ.zero h) (by simp) rfl (λty' l2 he=>by cases he) (λH1 H2 d g b' c=>by simp only[jC,yM (We q.1.1),ah]at c;subst c;exact iJ.refl d _) (λH1 H2 y d g s=>by simp only[ci,ah]at s;subst s;exact lI.refl d _) hrd⟩
    .split at hk
     .rename_i kv' vv' hkv hvv;obtain⟨e1,e2⟩:=im hkv;cases e1;subst e2;obtain⟨e3,e4⟩:=im hvv;cases e3;subst e4;exact⟨_,_,_,_,_,hk,iS.wrt (k:=0) (m:=0) (v:=.undef) (rd:=kC id) hinv hc hH (y0:=raw undef) (b0:=⟨0,.mp ((TJ kv' vv' es).map λp=>(pN _ p.1,.f (gB _ p.2)))⟩) (rdl:=[nm id]) (by simp only[eL,h1,Z,h5,hg,hok,bF,Wb q.1.1]) (B:=.mp _ _ (TJ kv' vv' es)) hb (dQ.zero h) (by simp) rfl (λty' l2 he=>by cases he) (λH1 H2 d g b' c=>by simp only[jC,yM (We q.1.1),ah]at c;subst c;exact iJ.refl d _) (λH1 H2 y d g s=>by simp only[ci,ah]at s;subst s;exact lI.refl d _) hrd⟩
     .cases hk
   .cases hk
  .cases hk
 .rename_i id KT a i hv A z;split at hk
  .rename_i l hb;split at hk
   .rename_i n hkv;split at hk
    case isFalse=>cases hk
    rename_i q;simp only[al]at q;obtain⟨e1,e2⟩:=im hkv;cases e1
    replace e2:n=a:=e2
    subst n;obtain⟨y,h1,h2⟩:=bI hi hv;obtain⟨y2,Z,h4⟩:=bI hi A;obtain⟨L,h5,h6⟩:=bI hi z;simp only[ci,ah]at h2 h4;subst h2;subst h4;obtain⟨U,hl⟩:=fd h l (hinv.cells id _ l hb);have hg:H.get (nm id)=M ⟨1,.mp (oO 0 U)⟩:=by rw[hH,bE,hb];simp only[aF,jC,hl]
    have h0:(0:Int)<=a:=be q.2.1;have h9:(a:Int)<(l.length:Int):=be q.2.2;have hlen:=gI hl;have hn:(a:Int)=aN (0+aP a):=by rw[bG];exact (fE h0).symm
    have ht:lO a L (oO 0 U)=oO 0 (splice U (aP a) [L]):=by
     rw[Tn (by rw[hlen];exact (Int.toNat_lt h0).2 h9)]
     conv=>lhs;rw[hn]
     exact Qb L U 0 _
    have hs:cJ h (splice l (aP a) [.row i])=M (splice U (aP a) [L]):=pO _ hl (by simp only[cJ,h6]);have hr:bZ h (h.set id (M (.cells D (splice l (aP a) [.row i])))):=bZ.set λr hr=>by rw[bR,hb]at hr;cases hr
    have henc:gB (.int .i64) a= .raw (.int .i64 a):=rfl;rw[henc]at Z;have hstr:str=af:=by cases str with
     |false=>rfl
     |true=>cases q.1
    subst hstr;exact⟨_,_,_,_,_,hk,iS.wrt (k:=0) (m:=0) (v:=.undef) (rd:=kC id) hinv hc hH (y0:=raw undef) (b0:=⟨1,.mp (oO 0 (splice U (aP a) [L]))⟩) (rdl:=[nm id]) (by simp only[eL,h1,Z,h5,hg,ht,cz,dT]) (B:=.cells D (splice l (aP a) [.row i])) hb (dQ.zero h) (by simp) rfl (λty' l2 he=>by cases he;exact j6 _ _ _ (gm hr _ _ hs)) (λH1 H2 d g b' c=>by
     have c:jC (h.set id (M (.cells D (splice l (aP a) [.row i])))) (.cells D (splice l (aP a) [.row i]))=M b':=c;simp only[jC,gm hr _ _ hs,ah]at c;subst c;exact iJ.refl d _) (λH1 H2 y d g s=>by simp only[ci,ah]at s;subst s;exact lI.refl d _) (λn hn=>by simp only[aJ]at hn;subst hn;rw[dS];exact bV.2 rfl)⟩
   .cases hk
  .cases hk
 .cases hk
theorem amz {con:FuncId->I cq} {b_:TypeId->I Ty} {x:Operand} (hc:dl P o.op=M (.rng x)) (hk:dX con b_ (.op (.rng x)) e h nx K=M r):kV P o af e h nx K r:=by
 obtain⟨H,q⟩:=jS h;simp only[dX]at hk;split at hk
 .rename_i s hv;obtain⟨y,h1,h2⟩:=bI hi hv;simp only[ci,ah]at h2;subst h2;refine ⟨_,_,_,_,_,hk,iS.new hinv hc q (y0:=.ptr (nm nx) 0) (rdl:=[]) (b0:=⟨0,.it ⟨kQ s⟩ 0⟩) (by simp only[eL,h1];rfl) (dQ.zero h) (λ_ _ he=>by cases he) (λA z d g b' a=>?_) (λA z y d g c=>?_) (by simp)⟩
  .cases a;exact iJ.refl d _
  .simp only[ci,ah]at c;subst c;exact lI.refl d _
 .cases hk
theorem an0 {con:FuncId->I cq} {b_:TypeId->I Ty} {x:Operand} (hc:dl P o.op=M (.nxt x)) (hk:dX con b_ (.op (.nxt x)) e h nx K=M r):kV P o af e h nx K r:=by
 obtain⟨H,z⟩:=jS h;simp only[dX]at hk;split at hk
 .rename_i id hv;split at hk
  .rename_i K' V es hb;split at hk
   .rename_i s p U;obtain⟨y,h1,h2⟩:=bI hi hv;simp only[ci,ah]at h2;subst h2;have hg:H.get (nm id)=M ⟨0,.it ⟨kQ s⟩ p⟩:=by rw[z,bE,hb];show M (vG.mk 0 (ZJ K' V es))=_;rw[ahn U]
    have hrd:∀n∈[nm id],aM (kC id) (ow n)=J:=λn hn=>by simp only[aJ]at hn;subst hn;rw[dS];exact bV.2 rfl
    rcases py hk with ⟨hp,hk⟩|⟨hp,hk⟩
    .obtain⟨hj,hk⟩:=dZ hk;have hp:=a8 hp;have e2:(⟨kQ s⟩:ByteArray).data.toList[p]? =M (List.getD s p 0):=by
      show s[p]? =_;rw[au,ax hp];rfl
     have e3:gu (List.getD s p 0).toNat 128=J:=by
      have hj:(aN (List.getD s p 0).toNat:Int)<128:=be hj;exact bC (Int.ofNat_lt.1 hj)
     exact⟨_,_,_,_,_,hk,iS.wrt (k:=0) (m:=0) (rd:=kC id) hinv hc z (y0:=.tup [raw (.bool J),raw (.int .i64 p),raw (.int .i32 (List.getD s p 0).toNat)]) (b0:=⟨0,.it ⟨kQ s⟩ (p+1)⟩) (rdl:=[nm id]) (by simp only[eL,h1,hg,e2,e3,bF]) (B:=.mp itK .un [((s,aN (p+1)),())]) hb (dQ.zero h) (by simp) rfl (λty' l2 he=>by cases he) (λL A d g b' a=>by cases a;exact iJ.refl d _) (λL A y d g c=>by cases c;exact lI.refl d _) hrd⟩
    .have hp:s.length<=p:=Nat.not_lt.1 λq=>by rw[show gu p s.length=J from bC q]at hp;cases hp
     have e2:(⟨kQ s⟩:ByteArray).data.toList[p]? =D:=by
      show s[p]? =_;exact bD hp
     exact⟨_,_,_,_,_,hk,iS.wrt (k:=0) (m:=0) (rd:=kC id) hinv hc z (y0:=.tup [raw (.bool af)]) (b0:=⟨0,.it ⟨kQ s⟩ p⟩) (rdl:=[nm id]) (by simp only[eL,h1,hg,e2]) (B:=.mp itK .un [((s,aN p),())]) hb (dQ.zero h) (by simp) rfl (λty' l2 he=>by cases he) (λL A d g b' a=>by cases a;exact iJ.refl d _) (λL A y d g c=>by cases c;exact lI.refl d _) hrd⟩
   .cases hk
  .cases hk
 .cases hk
theorem K_op {con:FuncId->I cq} {b_:TypeId->I Ty} {s:Yz} (hc:dl P o.op=M s) (hk:dX con b_ (.op s) e h nx K=M r):kV P o s.still e h nx K r:=by
 cases s with
 |mv x=>exact K_mv hinv hi hc hk
 |pick c a b=>exact ajv hinv hi hc hk
 |alloc ty z=>exact afi hinv hi hc hk
 |box ty x=>exact ani hinv hi hc hk
 |build z parts=>exact afh hinv hi hc hk
 |bsl ty sz len z parts=>exact anh hinv hi hc hk
 |load sz ag x=>exact ajy hinv hi hc hk
 |store sz x v=>exact afe hinv hi hc hk
 |nilc x=>exact ajw hinv hi hc hk
 |bin op x y=>exact anj hinv hi hc hk
 |eqs neg ds x y=>exact ane hinv hi hc hk
 |eqb neg x y=>exact anf hinv hi hc hk
 |isnil neg x=>exact afg hinv hi hc hk
 |not x=>exact an1 hinv hi hc hk
 |conv k x=>exact ak3 hinv hi hc hk
 |mksl ty sz bytes z l c=>exact ajx hinv hi hc hk
 |slc sz x lo q mx=>exact amy hinv hi hc hk
 |fad off x=>exact anc hinv hi hc hk
 |fld off sz ag x=>exact anb hinv hi hc hk
 |iad sz x i=>exact ana hinv hi hc hk
 |idx n sz ag x i=>exact an9 hinv hi hc hk
 |iada n sz x i=>exact ak1 hinv hi hc hk
 |ext x i=>exact and hinv hi hc hk
 |len x=>exact an8 hinv hi hc hk
 |lens x=>exact ajz hinv hi hc hk
 |max x y=>exact an6 hinv hi hc hk
 |min x y=>exact an5 hinv hi hc hk
 |sidx x i=>exact aju hinv hi hc hk
 |app ty sz bytes s x=>exact ank hinv hi hc hk
 |copy sz d x=>exact ak2 hinv hi hc hk
 |clr sz z x=>exact ang hinv hi hc hk
 |mkf f caps=>exact an4 hinv hi hc hk
 |mkm=>exact an3 hinv hi hc hk
 |rng x=>exact amz hinv hi hc hk
 |nxt x=>exact an0 hinv hi hc hk
 |lenm x=>exact ak0 hinv hi hc hk
 |lku str ok z x k=>exact an7 hinv hi hc hk
 |mup str x k v=>exact an2 hinv hi hc hk
 |_=>simp[dX]at hk
end ops
mutual
def AV.ren (g:Nat->Nat):AV->AV
 |.f x=>.f x
 |.ptr id off=>.ptr (g id) off
 |.sl id off n=>.sl (g id) off n
 |.row id sz n=>.row (g id) sz n
 |.mp id=>.mp (g id)
 |.emp=>.emp
 |.anyb=>.anyb
 |.agg l=>.agg (AV.renL g l)
 |.tup l=>.tup (AV.renL g l)
 |.clo q l=>.clo q (AV.renL g l)
def AV.renL (g:Nat->Nat):Y AV->Y AV
 |[]=>[]
 |x::r=>x.ren g::AV.renL g r
end
theorem mT (g:Nat->Nat):∀l,AV.renL g l=l.map (AV.ren g)
 |[]=>rfl
 |x::r=>by rw[AV.renL,mT g r];rfl
theorem Cl (g:Nat->Nat) (x:AV):(x.ren g).isCell=x.isCell:=by cases x<;>rfl
theorem cM.renTo {φ φ':PM} {g:Nat->Nat} {O:Nat->Prop} {w:World} (hk:∀i k,φ i=M k->φ' (g i)=M k) {x:AV} {v:Value} (h:cM φ O w x v):cM φ' O w (x.ren g) v:=by
 induction h with
 |f h=>exact .f h
 |ptr h=>exact .ptr (hk _ _ h)
 |sl h hn hc=>exact .sl (hk _ _ h) hn hc
 |row h hn hc hsh=>exact .row (hk _ _ h) hn hc hsh
 |emp=>exact .emp
 |anyb=>exact .anyb
 |mp h=>exact .mp (hk _ _ h)
 |agg hl hcl hr q=>
  simp only[AV.ren,mT];refine .agg (by simpa using hl) (λx a=>?_) λj x v a hv=>?_
  .obtain⟨y,c,rfl⟩:=db.1 a;rw[Cl];exact hcl y c
  .rw[ba]at a;obtain⟨y,c,rfl⟩:=jV.1 a;exact q j y v c hv
 |tup hl hr q=>
  simp only[AV.ren,mT];refine .tup (by simpa using hl) λj x v a hv=>?_
  rw[ba]at a;obtain⟨y,c,rfl⟩:=jV.1 a;exact q j y v c hv
 |clo hl hr q=>
  simp only[AV.ren,mT];refine .clo (by simpa using hl) λj x v a hv=>?_
  rw[ba]at a;obtain⟨y,c,rfl⟩:=jV.1 a;exact q j y v c hv
theorem cM.renFrom {φ φ':PM} {g:Nat->Nat} {O:Nat->Prop} {w:World} {p:Nat->Bool} (hk:∀i k,p i=J->φ (g i)=M k->φ' i=M k) {z:AV} {v:Value} (h:cM φ O w z v):∀x:AV,x.all p=J->z=x.ren g->cM φ' O w x v:=by
 induction h with
 |f h=>intro x hp e;cases x<;>simp only[AV.ren,reduceCtorEq]at e;cases e;exact .f h
 |ptr h=>intro x hp e;cases x<;>simp only[AV.ren,reduceCtorEq]at e;cases e;exact .ptr (hk _ _ hp h)
 |sl h hn hc=>intro x hp e;cases x<;>simp only[AV.ren,reduceCtorEq]at e;cases e;exact .sl (hk _ _ hp h) hn hc
 |row h hn hc hsh=>intro x hp e;cases x<;>simp only[AV.ren,reduceCtorEq]at e;cases e;exact .row (hk _ _ hp h) hn hc hsh
 |emp=>intro x hp e;cases x<;>simp only[AV.ren,reduceCtorEq]at e;exact .emp
 |anyb=>intro x hp e;cases x<;>simp only[AV.ren,reduceCtorEq]at e;exact .anyb
 |mp h=>intro x hp e;cases x<;>simp only[AV.ren,reduceCtorEq]at e;cases e;exact .mp (hk _ _ hp h)
 |agg hl hcl hr c=>
  intro x hp e;cases x<;>simp only[AV.ren,reduceCtorEq]at e;rename_i l;cases e;rw[mT]at hl hcl hr c;refine .agg (by simpa using hl) (λx a=>?_) λj x v a hv=>?_
  .have:=hcl (x.ren g) (db.2 ⟨x,a,rfl⟩);rwa [Cl]at this
  .exact c j (x.ren g) v (by rw[ba,a];rfl) hv x (mi hp x (aZ a)) rfl
 |tup hl hr c=>
  intro x hp e;cases x<;>simp only[AV.ren,reduceCtorEq]at e;rename_i l;cases e;rw[mT]at hl hr c;refine .tup (by simpa using hl) λj x v a hv=>?_
  exact c j (x.ren g) v (by rw[ba,a];rfl) hv x (mi hp x (aZ a)) rfl
 |clo hl hr c=>
  intro x hp e;cases x<;>simp only[AV.ren,reduceCtorEq]at e;rename_i l;cases e;rw[mT]at hl hr c;refine .clo (by simpa using hl) λj x v a hv=>?_
  exact c j (x.ren g) v (by rw[ba,a];rfl) hv x (mi hp x (aZ a)) rfl
def BC.ren (g:Nat->Nat):BC->BC
 |.fz l=>.fz l
 |.mx l=>.mx (l.map (AV.ren g))
 |.mp es=>.mp (es.map λp=>(p.1,p.2.ren g))
 |.it s p=>.it s p
def vG.ren (g:Nat->Nat) (b:vG):vG:=⟨b.ty,b.c.ren g⟩
theorem jd.renTo {φ φ':PM} {g:Nat->Nat} {O O':Nat->Prop} {w:World} (hk:∀x v,cM φ O w x v->cM φ' O' w (x.ren g) v) {b:vG} {o:Obj} (h:jd φ O w b o):jd φ' O' w (b.ren g) o:=by
 obtain⟨ty,c⟩:=b;unfold jd at h ⊢;simp only[vG.ren];cases c with
 |fz l=>
  simp only[BC.ren];obtain⟨arr,h1,h2,A⟩:=h;refine ⟨arr,h1,h2,λj x z=>?_⟩;obtain⟨a,v,c,d⟩:=A j x z;simp only[BC.get]at z;obtain⟨q,_,rfl⟩:=jV.1 z;exact⟨a,v,c,hk _ _ d⟩
 |mx l=>
  simp only[BC.ren];obtain⟨arr,h1,h2,A⟩:=h;refine ⟨arr,h1,by simpa[BC.len] using h2,λj x z=>?_⟩;simp only[BC.get,ba]at z;obtain⟨q,hq,rfl⟩:=jV.1 z;obtain⟨a,v,c,d⟩:=A j q hq;exact⟨by rw[Cl];exact a,v,c,hk _ _ d⟩
 |mp es=>
  simp only[BC.ren];obtain⟨e,c,h1,h2,A⟩:=h;refine ⟨e,c,h1,by rw[W3];exact h2,λj x z=>?_⟩;rw[ba]at z;obtain⟨q,hq,rfl⟩:=jV.1 z;obtain⟨m,a,b⟩:=A j q hq;exact⟨m,a,hk _ _ b⟩
 |it s p=>exact h
theorem jd.renFrom {φ φ':PM} {g:Nat->Nat} {O O':Nat->Prop} {w:World} {p:Nat->Bool} (hk:∀x v,x.all p=J->cM φ O w (x.ren g) v->cM φ' O' w x v) {b:vG} (hb:b.c.all p=J) {o:Obj} (h:jd φ O w (b.ren g) o):jd φ' O' w b o:=by
 obtain⟨ty,c⟩:=b;unfold jd at h ⊢;simp only[vG.ren]at h;cases c with
 |fz l=>
  simp only[BC.ren]at h;obtain⟨arr,h1,h2,A⟩:=h;refine ⟨arr,h1,h2,λj x z=>?_⟩;obtain⟨a,v,c,d⟩:=A j x z;simp only[BC.get]at z;obtain⟨q,_,rfl⟩:=jV.1 z;exact⟨a,v,c,hk _ _ rfl d⟩
 |mx l=>
  simp only[BC.ren]at h;obtain⟨arr,h1,h2,A⟩:=h;refine ⟨arr,h1,by simpa[BC.len] using h2,λj x z=>?_⟩;simp only[BC.get]at z;obtain⟨a,v,c,d⟩:=A j (x.ren g) (by simp only[BC.get,ba,z];rfl);rw[Cl]at a;exact⟨a,v,c,hk _ _ (mi hb x (aZ z)) d⟩
 |mp es=>
  simp only[BC.ren]at h;obtain⟨e,c,h1,h2,A⟩:=h;refine ⟨e,c,h1,by rw[W3]at h2;exact h2,λj x z=>?_⟩;obtain⟨m,a,b⟩:=A j (x.1,x.2.ren g) (by rw[ba,z];rfl);exact⟨m,a,hk _ _ (mi hb x.2 (db.2 ⟨x,aZ z,rfl⟩)) b⟩
 |it s p=>exact h
mutual
def Cn (g:Nat->Nat):TV->TV
 |.row i=>.row (g i)
 |.rtl i j=>.rtl (g i) j
 |.agg l=>.agg (kM g l)
 |.tup l=>.tup (kM g l)
 |.clo q l=>.clo q (kM g l)
 |.f T v=>.f T v
 |.fel T xs j h off=>.fel T xs j h off
 |.pel a b c d=>.pel (g a) b c d
 |.ptr a b=>.ptr (g a) b
 |.csl a b c=>.csl (g a) b c
 |.emp=>.emp
 |.nil=>.nil
 |.mp i=>.mp (g i)
 |.undef=>.undef
 |.np=>.np
 |.anyb=>.anyb
def kM (g:Nat->Nat):Y TV->Y TV
 |[]=>[]
 |x::r=>Cn g x::kM g r
end
theorem zQ (g:Nat->Nat):∀l,kM g l=l.map (Cn g)
 |[]=>rfl
 |x::r=>by rw[kM,zQ g r];rfl
def lP (g:Nat->Nat):io->io
 |.cells ty l=>.cells ty (kM g l)
 |.rows ty p T xs=>.rows ty p T xs
 |.dead p sz n=>.dead p sz n
 |.mp K V es=>.mp K V es
theorem H3 (g:Nat->Nat) (b:io):mR (lP g b)=mR b:=by cases b<;>rfl
def Hz (g:Nat->Nat) (n:Nat):Nat:=nm (g (ow n))
theorem xp (g:Nat->Nat) (i:Nat):Hz g (nm i)=nm (g i):=by unfold Hz;rw[dS]
mutual
theorem aht {g:Nat->Nat} {h1 h2:bg} (hrow:∀i r,eH h1 i=M r->eH h2 (g i)=M r):∀(v:TV) (y:AV),ci h1 v=M y->ci h2 (Cn g v)=M (y.ren (Hz g))
 |.f _ _,y,he=>by simp only[ci,ah]at he;subst he;rfl
 |.fel _ _ _ _ _,y,he=>by simp only[ci,ah]at he;subst he;rfl
 |.pel _ _ _ _,y,he=>by simp only[ci,ah]at he;subst he;simp only[Cn,ci,AV.ren,xp]
 |.ptr _ _,y,he=>by simp only[ci,ah]at he;subst he;simp only[Cn,ci,AV.ren,xp]
 |.csl _ _ _,y,he=>by simp only[ci,ah]at he;subst he;simp only[Cn,ci,AV.ren,xp]
 |.row id,y,he=>by
  simp only[ci]at he;split at he
  .rename_i p sz n hr;simp only[ah]at he;subst he;simp only[Cn,ci,hrow id _ hr];unfold fG;split
   .rfl
   .simp only[AV.ren,xp]
  .cases he
 |.rtl id jj,y,he=>by
  simp only[ci]at he;split at he
  .rename_i p sz n hr;simp only[ah]at he;subst he;simp only[Cn,ci,hrow id _ hr,AV.ren,xp]
  .cases he
 |.emp,y,he=>by simp only[ci,ah]at he;subst he;rfl
 |.nil,y,he=>by simp only[ci,ah]at he;subst he;rfl
 |.mp _,y,he=>by simp only[ci,ah]at he;subst he;simp only[Cn,ci,AV.ren,xp]
 |.agg l,y,he=>by
  simp only[ci]at he;split at he
  .rename_i l' hl;simp only[ah]at he;subst he;simp only[Cn,ci,o6 hrow l l' hl,AV.ren]
  .cases he
 |.tup l,y,he=>by
  simp only[ci]at he;split at he
  .rename_i l' hl;simp only[ah]at he;subst he;simp only[Cn,ci,o6 hrow l l' hl,AV.ren]
  .cases he
 |.clo q l,y,he=>by
  simp only[ci]at he;split at he
  .rename_i l' hl;simp only[ah]at he;subst he;simp only[Cn,ci,o6 hrow l l' hl,AV.ren]
  .cases he
 |.undef,y,he=>by simp only[ci,ah]at he;subst he;rfl
 |.np,y,he=>by simp only[ci,ah]at he;subst he;rfl
 |.anyb,y,he=>by simp only[ci,ah]at he;subst he;rfl
theorem o6 {g:Nat->Nat} {h1 h2:bg} (hrow:∀i r,eH h1 i=M r->eH h2 (g i)=M r):∀(l:Y TV) (l':Y AV),cJ h1 l=M l'->cJ h2 (kM g l)=M (AV.renL (Hz g) l')
 |[],l',he=>by simp only[cJ,ah]at he;subst he;rfl
 |x::r,l',he=>by
  obtain⟨y,l2,rfl,e1,e2⟩:=cY he;exact o7 (aht hrow x y e1) (o6 hrow r l2 e2)
end
theorem C1 {g:Nat->Nat} {h1 h2:bg} (hrow:∀i r,eH h1 i=M r->eH h2 (g i)=M r) {b:io} {y:vG} (he:jC h1 b=M y):jC h2 (lP g b)=M (y.ren (Hz g)):=by
 cases b with
 |rows ty p T xs=>
  simp only[jC]at he;split at he
  .cases he
  .rename_i hc;simp only[ah]at he;subst he;simp only[lP,jC,ay hc];rfl
 |cells ty l=>
  cases ty with
  |some ty=>
   simp only[jC]at he;split at he
   .rename_i a hl;simp only[ah]at he;subst he;simp only[lP,jC,o6 hrow l a hl,mT];rfl
   .cases he
  |none=>
   simp only[jC]at he;split at he
   .rename_i a hl;simp only[ah]at he;subst he;simp only[lP,jC,o6 hrow l a hl,mT,vG.ren,BC.ren,<-Qc]
   .cases he
 |dead p sz n=>cases he
 |mp K V es=>
  simp only[jC,ah]at he;subst he;simp only[lP,jC,vG.ren,ah,vG.mk.injEq,Bj];unfold ZJ;split
  .rfl
  .simp only[BC.ren,Hj];rfl
theorem Cm (g:Nat->Nat) (a b:Y TV):kM g (a++b)=kM g a++kM g b:=by
 rw[zQ,zQ,zQ,cQ]
theorem pP (g:Nat->Nat):∀(n:Nat) (T:Ty) (v:T.den) (l:Y TV),cellsOf n T v=M l->kM g l=l
 |0,_,_,_,he=>by simp[cellsOf]at he
 |n+1,.st t,v,l,he=>pP g n t v l he
 |n+1,.pr a b,v,l,he=>by
  simp only[cellsOf]at he;split at he
  .rename_i x y q c;simp only[ah]at he;subst he;rw[Cm,pP g n a v.1 x q,pP g n b v.2 y c]
  .cases he
 |n+1,.un,v,l,he=>by simp only[cellsOf,ah]at he;subst he;rfl
 |n+1,.ex,v,l,he=>pP g n MA (Nl v) l he
 |n+1,.sm,v,l,he=>pP g n L_ (Nk v) l he
 |n+1,.int k,v,l,he=>by simp only[cellsOf,ah]at he;subst he;rfl
 |n+1,.bool,v,l,he=>by simp only[cellsOf,ah]at he;subst he;rfl
 |n+1,.str,v,l,he=>by simp only[cellsOf,ah]at he;subst he;rfl
 |n+1,.sl t,v,l,he=>by simp only[cellsOf,ah]at he;subst he;rfl
abbrev Hu:Nat->Nat:=λi=>i
mutual
theorem Zr (g:Nat->Nat):∀(p:PV) (x:p.ty.den),pV g p x=(pV Hu p x).map (kM g)
 |.d T,x=>by
  simp only[pV];cases h:cellsOf 40 T x with
  |none=>rfl
  |some l=>simp only[ca,pP g 40 T x l h]
 |.ptr i o,x=>rfl
 |.csl i o z,x=>rfl
 |.clo q i o,x=>rfl
 |.row i,x=>rfl
 |.mp i,x=>rfl
 |.nil,x=>rfl
 |.emp,x=>rfl
 |.agg ps,x=>zR g ps x
theorem zR (g:Nat->Nat):∀(ps:Y PV) (x:(PV.tyL ps).den),qS g ps x=(qS Hu ps x).map (kM g)
 |[],x=>rfl
 |p::r,x=>by
  simp only[qS];rw[Zr g p,zR g r];cases pV Hu p (Og p.ty (PV.tyL r) x) with
  |none=>rfl
  |some a=>
   cases qS Hu r (KQ p.ty (PV.tyL r) x) with
   |none=>rfl
   |some b=>simp only[ca,Cm]
end
def ai8 (o:I (Y TV)):I TV:=match o with|some l=>M (.agg l)|none=>D
theorem ab3 (g:Nat->Nat) (o:I (Y TV)):ai8 (o.map (kM g))=(ai8 o).map (Cn g):=by cases o<;>rfl
theorem Zp (g:Nat->Nat) (p:PV) (x:p.ty.den):tf g p x=(tf Hu p x).map (Cn g):=by
 cases p with
 |agg ps=>exact (gR ai8 (zR g ps x)).trans (ab3 g _)
 |_=>rfl
theorem tK (g:Nat->Nat):∀(ps:Y PV) (x:(PV.tyL ps).den),qa g ps x=(qa Hu ps x).map (kM g)
 |[],x=>rfl
 |p::r,x=>by
  simp only[qa];rw[Zp g p,tK g r];cases tf Hu p (Og p.ty (PV.tyL r) x) with
  |none=>rfl
  |some a=>
   cases qa Hu r (KQ p.ty (PV.tyL r) x) with
   |none=>rfl
   |some b=>rfl
def U' (ty:I TypeId) (o:I (Y TV)):I (I io):=match o with|some l=>M (M (.cells ty l))|none=>D
theorem U_ (g:Nat->Nat) (ty:I TypeId) (o:I (Y TV)):U' ty (o.map (kM g))=(U' ty o).map (ma (lP g)):=by cases o<;>rfl
theorem Zs (g:Nat->Nat) (b:PB) (x:b.ty.den):Cr g b x=(Cr Hu b x).map (ma (lP g)):=by
 cases b with
 |cells ty ps=>exact (gR (U' ty) (zR g ps x)).trans (U_ g ty _)
 |_=>rfl
theorem vP (g:Nat->Nat):∀(bs:Y PB) (x:(PB.tyL bs).den),oG g bs x=(oG Hu bs x).map (List.map (ma (lP g)))
 |[],x=>rfl
 |b::r,x=>by
  simp only[oG];rw[Zs g b,vP g r];cases Cr Hu b (Og b.ty (PB.tyL r) x) with
  |none=>rfl
  |some a=>
   cases oG Hu r (KQ b.ty (PB.tyL r) x) with
   |none=>rfl
   |some l=>rfl
theorem Cq (g:Nat->Nat):∀(bs:Y PB) (x:(PB.tyL bs).den) (l:Y (I io)),oG g bs x=M l->l.length=bs.length
 |[],x,l,h=>by simp only[oG,ah]at h;subst h;rfl
 |b::r,x,l,h=>by
  simp only[oG]at h;split at h
  .split at h
   .rename_i q hq;simp only[ah]at h;subst h;simp[Cq g r _ q hq]
   .cases h
  .cases h
theorem I4 (h:bg) (i j:Nat):(kill h i).get j=if j=i then (h.get i).map uT else h.get j:=by
 unfold kill;cases hb:h.get i with
 |none=>
  simp only[Option.map_none];split
  .rename_i e;rw[e,hb]
  .rfl
 |some b=>rw[PT.get_set];rfl
theorem uR (g:Nat->Nat):∀(l:Y (I io)) (i:Nat) (h:bg) (j:Nat),(∀k,k<l.length->j≠g (i+k))->(An g i l h).get j=h.get j
 |[],i,h,j,_=>rfl
 |some c::r,i,h,j,hj=>by
  rw[An,uR g r (i+1) _ j (λk hk=>by have:=hj (k+1) (by simpa using hk);rwa [show i+1+k=i+(k+1) from by omega]),PT.get_set,ay];exact hj 0 (by simp)
 |none::r,i,h,j,hj=>by
  rw[An,uR g r (i+1) _ j (λk hk=>by have:=hj (k+1) (by simpa using hk);rwa [show i+1+k=i+(k+1) from by omega]),I4,ay];exact hj 0 (by simp)
theorem uS (g:Nat->Nat):∀(l:Y (I io)) (i:Nat) (h:bg),(∀a b,a<l.length->b<l.length->g (i+a)=g (i+b)->a=b)->∀(k:Nat) (c:I io),l[k]? =M c->(An g i l h).get (g (i+k))=(match c with|some b=>M b|none=>(h.get (g (i+k))).map uT)
 |[],i,h,_,k,c,hk=>by simp at hk
 |o::r,i,h,hinj,k,c,hk=>by
  have hinj':∀a b,a<r.length->b<r.length->g (i+1+a)=g (i+1+b)->a=b:=λa b s hb e=>by
   have:=hinj (a+1) (b+1) (by simpa using s) (by simpa using hb) (by rw[show i+(a+1)=i+1+a from by omega,show i+(b+1)=i+1+b from by omega];exact e);omega
  cases k with
  |zero=>
   simp at hk;subst hk;have hne:∀k,k<r.length->g (i+0)≠g (i+1+k):=λk hk e=>by
    have:=hinj 0 (k+1) (by simp) (by simpa using hk) (by rw[show i+(k+1)=i+1+k from by omega];exact e);omega
   cases o with
   |some b=>rw[An,uR g r (i+1) _ _ hne];simp only[cZ];rw[PT.get_set,aC rfl]
   |none=>rw[An,uR g r (i+1) _ _ hne];simp only[cZ];rw[I4,aC rfl]
  |succ k=>
   have q:r[k]? =M c:=by simpa using hk
   have hkl:k<r.length:=(bi.1 q).1;have hne:g (i+(k+1))≠g i:=λe=>by
    have:=hinj (k+1) 0 (by simpa using hkl) (by simp) (by rw[e];rfl);omega
   rw[show i+(k+1)=i+1+k from by omega]at hne ⊢;cases o with
   |some b=>
    rw[An,uS g r (i+1) _ hinj' k c q];cases c with
    |some _=>rfl
    |none=>simp only[PT.get_set,ay hne]
   |none=>
    rw[An,uS g r (i+1) _ hinj' k c q];cases c with
    |some _=>rfl
    |none=>simp only[I4,ay hne]
def xF (h' h:bg):Prop:=∀i r,eH h' i=M r->eH h i=M r
section get
variable {h h':bg} {H H':HF} {g:Nat->Nat}
theorem lI.agg {l a:Y AV} (hl:ib H H' l a) (hc:∀x∈a,x.isCell=J):lI H H' (.agg l) (.agg a):=by
 intro φ E w v hrep hr;cases hr with
 |@agg _ vs hlen hcl hrr=>
  refine .agg (by rw[hlen,<-hl.length]) hc λj y u c hu=>?_
  obtain⟨x,q,hle⟩:=hl.get j y c;exact hle φ E w u hrep (hrr j x u q hu)
theorem PL (hr:xF h' h) {i:Nat} {y q:AV} (c:ci h (.row i)=M y) (a:ci h' (.row i)=M q):q=y:=by
 simp only[ci]at c a;cases h1:eH h' i with
 |none=>rw[h1]at a;cases a
 |some r=>
  rw[h1]at a;rw[hr i r h1]at c;rw[c]at a;cases a;rfl
mutual
theorem adv (d:uJ H H') (hr:xF h' h):∀(p:PV) (l:Y TV) (x:p.ty.den) (m:Nat) (r:Y TV) (cs:Y TV) (l' cs':Y AV),pw g h p l=M (x,m,r)->pV g p x=M cs->cJ h l=M l'->cJ h' cs=M cs'->DW h H H' m->∃l1 l2,l'=l1++l2/\cJ h r=M l2/\ib H H' l1 cs'
 |.d T,l,x,m,r,cs,l',cs',hg,hp,hl,hc,gv=>by
  obtain⟨l1,l2,e1,e2,e3⟩:=r_ d 40 T l x m r l' hg hl gv;have:=(l9 h' 40 T x cs hp).1;rw[hc]at this;cases this;exact⟨l1,l2,e1,e2,e3⟩
 |.ptr i q,l,x,m,r,cs,l',cs',hg,hp,hl,hc,gv=>by
  simp only[pw]at hg;split at hg
  .rename_i i' o' r';split at hg
   .rename_i hb;simp only[al]at hb;have e1:=ar hb.1;have e2:=ar hb.2;subst e1;subst e2;simp only[ah,aD]at hg;obtain⟨_,_,rfl⟩:=hg;simp only[pV,ah]at hp;subst hp;obtain⟨y,l2,rfl,g1,g2⟩:=cY hl;simp only[ci,ah]at g1;subst g1;simp only[cJ,ci,ah]at hc;subst hc;exact⟨[_],l2,rfl,g2,lI.refl d _,trivial⟩
   .cases hg
  .cases hg
 |.csl i q z,l,x,m,r,cs,l',cs',hg,hp,hl,hc,gv=>by
  simp only[pw]at hg;split at hg
  .rename_i i' o' z' r';split at hg
   .rename_i hb;simp only[al]at hb;have e1:=ar hb.1.1;have e2:=ar hb.1.2;have e3:=ar hb.2;subst e1;subst e2;subst e3;simp only[ah,aD]at hg;obtain⟨_,_,rfl⟩:=hg;simp only[pV,ah]at hp;subst hp;obtain⟨y,l2,rfl,g1,g2⟩:=cY hl;simp only[ci,ah]at g1;subst g1;simp only[cJ,ci,ah]at hc;subst hc;exact⟨[_],l2,rfl,g2,lI.refl d _,trivial⟩
   .cases hg
  .cases hg
 |.clo q i z,l,x,m,r,cs,l',cs',hg,hp,hl,hc,gv=>by
  simp only[pw]at hg;split at hg
  .rename_i q' i' z' r';split at hg
   .rename_i hb;simp only[al]at hb;have e1:=ar hb.1.1;have e2:=ar hb.1.2;have e3:=ar hb.2;subst e1;subst e2;subst e3;simp only[ah,aD]at hg;obtain⟨_,_,rfl⟩:=hg;simp only[pV,ah]at hp;subst hp;obtain⟨y,l2,rfl,g1,g2⟩:=cY hl;simp only[ci,cJ,ah]at g1;subst g1;simp only[cJ,ci,ah]at hc;subst hc;exact⟨[_],l2,rfl,g2,lI.refl d _,trivial⟩
   .cases hg
  .cases hg
 |.row i,l,x,m,r,cs,l',cs',hg,hp,hl,hc,gv=>by
  simp only[pw]at hg;split at hg
  .rename_i i' r';split at hg
   .rename_i hb;have e1:=ar hb;subst e1;simp only[ah,aD]at hg;obtain⟨_,_,rfl⟩:=hg;simp only[pV,ah]at hp;subst hp;obtain⟨y,l2,rfl,g1,g2⟩:=cY hl;obtain⟨y',l3,rfl,g3,g4⟩:=cY hc;simp only[cJ,ah]at g4;subst g4;rw[PL hr g1 g3];exact⟨[_],l2,rfl,g2,lI.refl d _,trivial⟩
   .cases hg
  .cases hg
 |.mp i,l,x,m,r,cs,l',cs',hg,hp,hl,hc,gv=>by
  simp only[pw]at hg;split at hg
  .rename_i i' r';split at hg
   .rename_i hb;have e1:=ar hb;subst e1;simp only[ah,aD]at hg;obtain⟨_,_,rfl⟩:=hg;simp only[pV,ah]at hp;subst hp;obtain⟨y,l2,rfl,g1,g2⟩:=cY hl;simp only[ci,ah]at g1;subst g1;simp only[cJ,ci,ah]at hc;subst hc;exact⟨[_],l2,rfl,g2,lI.refl d _,trivial⟩
   .cases hg
  .cases hg
 |.nil,l,x,m,r,cs,l',cs',hg,hp,hl,hc,gv=>by
  simp only[pw]at hg;split at hg
  .simp only[ah,aD]at hg;obtain⟨_,_,rfl⟩:=hg;simp only[pV,ah]at hp;subst hp;obtain⟨y,l2,rfl,g1,g2⟩:=cY hl;simp only[ci,ah]at g1;subst g1;simp only[cJ,ci,ah]at hc;subst hc;exact⟨[_],l2,rfl,g2,lI.refl d _,trivial⟩
  .cases hg
 |.emp,l,x,m,r,cs,l',cs',hg,hp,hl,hc,gv=>by
  simp only[pw]at hg;split at hg
  .simp only[ah,aD]at hg;obtain⟨_,_,rfl⟩:=hg;simp only[pV,ah]at hp;subst hp;obtain⟨y,l2,rfl,g1,g2⟩:=cY hl;simp only[ci,ah]at g1;subst g1;simp only[cJ,ci,ah]at hc;subst hc;exact⟨[_],l2,rfl,g2,Le.nilEmp.toH d,trivial⟩
  .simp only[ah,aD]at hg;obtain⟨_,_,rfl⟩:=hg;simp only[pV,ah]at hp;subst hp;obtain⟨y,l2,rfl,g1,g2⟩:=cY hl;simp only[ci,ah]at g1;subst g1;simp only[cJ,ci,ah]at hc;subst hc;exact⟨[_],l2,rfl,g2,lI.refl d _,trivial⟩
  .cases hg
 |.agg ps,l,x,m,r,cs,l',cs',hg,hp,hl,hc,gv=>CW d hr ps l x m r cs l' cs' hg hp hl hc gv
theorem CW (d:uJ H H') (hr:xF h' h):∀(ps:Y PV) (l:Y TV) (x:(PV.tyL ps).den) (m:Nat) (r:Y TV) (cs:Y TV) (l' cs':Y AV),yZ g h ps l=M (x,m,r)->qS g ps x=M cs->cJ h l=M l'->cJ h' cs=M cs'->DW h H H' m->∃l1 l2,l'=l1++l2/\cJ h r=M l2/\ib H H' l1 cs'
 |[],l,x,m,r,cs,l',cs',hg,hp,hl,hc,gv=>by
  simp only[yZ,ah,aD]at hg;obtain⟨_,_,rfl⟩:=hg;simp only[qS,ah]at hp;subst hp;simp only[cJ,ah]at hc;subst hc;exact⟨[],l',rfl,hl,trivial⟩
 |p::ps,l,x,m,r,cs,l',cs',hg,hp,hl,hc,gv=>by
  simp only[yZ]at hg;split at hg
  .rename_i x1 m1 r1 h1;split at hg
   .rename_i x2 m2 r2 h2;simp only[ah,aD]at hg;obtain⟨rfl,rfl,rfl⟩:=hg;simp only[qS,tD,uO]at hp;split at hp
    .rename_i a ha;split at hp
     .rename_i b hb;simp only[ah]at hp;subst hp;obtain⟨a',b',rfl,ea,eb⟩:=BS hc;obtain⟨ga,gb⟩:=gv.or;obtain⟨l1,l2,rfl,q1,q2⟩:=adv d hr p l _ _ _ a l' a' h1 ha hl ea ga;obtain⟨l3,l4,rfl,q3,q4⟩:=CW d hr ps _ _ _ _ b l2 b' h2 hb q1 eb gb;exact⟨l1++l3,l4,by simp,q3,q2.append q4⟩
     .cases hp
    .cases hp
   .cases hg
  .cases hg
end
mutual
theorem Xk:∀(p:PV) (x:p.ty.den) (cs:Y TV),pV g p x=M cs->kH cs=J
 |.d T,x,cs,hp=>(l9 PT.leaf 40 T x cs hp).2
 |.ptr i q,x,cs,hp=>by simp only[pV,ah]at hp;subst hp;rfl
 |.csl i q z,x,cs,hp=>by simp only[pV,ah]at hp;subst hp;rfl
 |.clo q i z,x,cs,hp=>by simp only[pV,ah]at hp;subst hp;rfl
 |.row i,x,cs,hp=>by simp only[pV,ah]at hp;subst hp;rfl
 |.mp i,x,cs,hp=>by simp only[pV,ah]at hp;subst hp;rfl
 |.nil,x,cs,hp=>by simp only[pV,ah]at hp;subst hp;rfl
 |.emp,x,cs,hp=>by simp only[pV,ah]at hp;subst hp;rfl
 |.agg ps,x,cs,hp=>wZ ps x cs hp
theorem wZ:∀(ps:Y PV) (x:(PV.tyL ps).den) (cs:Y TV),qS g ps x=M cs->kH cs=J
 |[],x,cs,hp=>by simp only[qS,ah]at hp;subst hp;rfl
 |p::ps,x,cs,hp=>by
  simp only[qS]at hp;split at hp
  .rename_i a ha;split at hp
   .rename_i b hb;simp only[ah]at hp;subst hp;exact Sf (Xk p _ a ha) (wZ ps _ b hb)
   .cases hp
  .cases hp
end
theorem adu (d:uJ H H') (hr:xF h' h) {p:PV} {v:TV} {x:p.ty.den} {m:Nat} {u:TV} {y s:AV} (hg:xm g h p v=M (x,m)) (hp:tf g p x=M u) (c:ci h v=M y) (a:ci h' u=M s) (U:DW h H H' m):lI H H' y s:=by
 cases p with
 |d T=>
  simp only[tf,ah]at hp;subst hp;simp only[ci,ah]at a;subst a;exact (O2 d hg c U).1
 |agg ps=>
  simp only[xm]at hg;split at hg
  .cases hg
  .rename_i hc;split at hg
   .rename_i l hl;split at hg
    .rename_i x1 m1 h1;simp only[ah,aD]at hg;obtain⟨rfl,rfl⟩:=hg;simp only[tf]at hp;split at hp
     .rename_i cs hcs;simp only[ah]at hp;subst hp;simp only[ci]at a;split at a
      .rename_i cs' hcs';simp only[ah]at a;subst a;obtain⟨e1,e2⟩:=JY hl c;obtain⟨l1,l2,L,A,q3⟩:=CW d hr ps l _ _ [] cs y.cs cs' h1 hcs e1 hcs' U;simp only[cJ,ah]at A;subst A;rw[mb]at L;subst L;have hcell:∀x∈cs',x.isCell=J:=l_ (r8 hcs' (wZ ps _ cs hcs));cases v with
       |agg q=>
        simp only[ci]at c;split at c
        .simp only[ah]at c;subst c;exact lI.agg q3 hcell
        .cases c
       |f S z=>
        simp only[ci,ah]at c;subst c;have Z:S.one=af:=by simpa[TV.isC] using hc
        rw[Aa]at q3;rw[qD S z Z];intro φ E w v hrep hrel;exact lI.agg q3 hcell φ E w v hrep (Le.aggF _ _ _ _ hrel)
       |tup q=>simp[TV.cs,TV.isC]at hl
       |undef=>simp[TV.cs,TV.isC]at hl
       |np=>simp[TV.isC]at hc
       |anyb=>simp[TV.cs,TV.isC]at hl
       |fel T xs j hj off=>simp[TV.isC]at hc
       |pel id sz j off=>simp[TV.isC]at hc
       |ptr id off=>simp[TV.isC]at hc
       |csl id off z=>simp[TV.isC]at hc
       |row id=>simp[TV.isC]at hc
       |emp=>simp[TV.isC]at hc
       |nil=>simp[TV.isC]at hc
       |mp id=>simp[TV.isC]at hc
       |rtl id jj=>cases hl
       |clo g l=>simp[TV.isC]at hc
      .cases a
     .cases hp
    .cases hg
   .cases hg
 |ptr i q=>
  simp only[tf,ah]at hp;subst hp;simp only[xm]at hg;split at hg
  .rename_i h1;simp only[pw]at h1;split at h1
   .rename_i e;simp only[iX]at e;obtain⟨rfl,_⟩:=e;split at h1
    .rename_i hb;simp only[al]at hb;have e1:=ar hb.1;have e2:=ar hb.2;subst e1;subst e2;simp only[ci,ah]at c a;subst c;subst a;exact lI.refl d _
    .cases h1
   .cases h1
  .cases hg
 |csl i q z=>
  simp only[tf,ah]at hp;subst hp;simp only[xm]at hg;split at hg
  .rename_i h1;simp only[pw]at h1;split at h1
   .rename_i e;simp only[iX]at e;obtain⟨rfl,_⟩:=e;split at h1
    .rename_i hb;simp only[al]at hb;have e1:=ar hb.1.1;have e2:=ar hb.1.2;have e3:=ar hb.2;subst e1;subst e2;subst e3;simp only[ci,ah]at c a;subst c;subst a;exact lI.refl d _
    .cases h1
   .cases h1
  .cases hg
 |clo q i z=>
  simp only[tf,ah]at hp;subst hp;simp only[xm]at hg;split at hg
  .rename_i h1;simp only[pw]at h1;split at h1
   .rename_i e;simp only[iX]at e;obtain⟨rfl,_⟩:=e;split at h1
    .rename_i hb;simp only[al]at hb;have e1:=ar hb.1.1;have e2:=ar hb.1.2;have e3:=ar hb.2;subst e1;subst e2;subst e3;simp only[ci,cJ,ah]at c a;subst c;subst a;exact lI.refl d _
    .cases h1
   .cases h1
  .cases hg
 |row i=>
  simp only[tf,ah]at hp;subst hp;simp only[xm]at hg;split at hg
  .rename_i h1;simp only[pw]at h1;split at h1
   .rename_i e;simp only[iX]at e;obtain⟨rfl,_⟩:=e;split at h1
    .rename_i hb;have e1:=ar hb;subst e1;rw[PL hr c a];exact lI.refl d _
    .cases h1
   .cases h1
  .cases hg
 |mp i=>
  simp only[tf,ah]at hp;subst hp;simp only[xm]at hg;split at hg
  .rename_i h1;simp only[pw]at h1;split at h1
   .rename_i e;simp only[iX]at e;obtain⟨rfl,_⟩:=e;split at h1
    .rename_i hb;have e1:=ar hb;subst e1;simp only[ci,ah]at c a;subst c;subst a;exact lI.refl d _
    .cases h1
   .cases h1
  .cases hg
 |nil=>
  simp only[tf,ah]at hp;subst hp;simp only[xm]at hg;split at hg
  .rename_i h1;simp only[pw]at h1;split at h1
   .rename_i e;simp only[iX]at e;obtain⟨rfl,_⟩:=e;simp only[ci,ah]at c a;subst c;subst a;exact lI.refl d _
   .cases h1
  .cases hg
 |emp=>
  simp only[tf,ah]at hp;subst hp;simp only[xm]at hg;split at hg
  .rename_i h1;simp only[pw]at h1;split at h1
   .rename_i e;simp only[iX]at e;obtain⟨rfl,_⟩:=e;simp only[ci,ah]at c a;subst c;subst a;exact Le.nilEmp.toH d
   .rename_i e;simp only[iX]at e;obtain⟨rfl,_⟩:=e;simp only[ci,ah]at c a;subst c;subst a;exact lI.refl d _
   .cases h1
  .cases hg
theorem CV (d:uJ H H') (hr:xF h' h):∀(ps:Y PV) (vs:Y TV) (x:(PV.tyL ps).den) (m:Nat) (us:Y TV) (l q:Y AV),xQ g h ps vs=M (x,m)->qa g ps x=M us->cJ h vs=M l->cJ h' us=M q->DW h H H' m->ib H H' l q
 |[],[],x,m,us,l,q,hg,hp,hl,c,s=>by
  simp only[qa,ah]at hp;subst hp;simp only[cJ,ah]at hl c;subst hl;subst c;trivial
 |[],_::_,x,m,us,l,q,hg,_,_,_,_=>by simp[xQ]at hg
 |_::_,[],x,m,us,l,q,hg,_,_,_,_=>by simp[xQ]at hg
 |p::ps,v::vs,x,m,us,l,q,hg,hp,hl,c,s=>by
  simp only[xQ]at hg;split at hg
  .rename_i x1 m1 h1;split at hg
   .rename_i x2 m2 h2;simp only[ah,aD]at hg;obtain⟨rfl,rfl⟩:=hg;simp only[qa,tD,uO]at hp;split at hp
    .rename_i a A;split at hp
     .rename_i b hb;simp only[ah]at hp;subst hp;obtain⟨y,l2,rfl,e1,e2⟩:=cY hl;obtain⟨y',z,rfl,e3,Z⟩:=cY c;obtain⟨U,L⟩:=s.or;exact⟨adu d hr h1 A e1 e3 U,CV d hr ps vs _ _ b l2 z h2 hb e2 Z L⟩
     .cases hp
    .cases hp
   .cases hg
  .cases hg
inductive BM (g:Nat->Nat) (h:bg) (m:Nat):io->io->Prop
 |rows (ty:TypeId) (p:Bool) (T:Ty) (xs:List T.den):BM g h m (.rows ty p T xs) (.rows ty p T xs)
 |mp (K V:Ty) (es:List (K.den×V.den)):BM g h m (.mp K V es) (.mp K V es)
 |cells (ty:Option TypeId) (ps:List PV) (x:(PV.tyL ps).den) (l l2:List TV) (m':Nat) (hg:yZ g h ps l=M (x,m',[])) (hp:qS g ps x=M l2) (hm:∀i,aM m' i=J->aM m i=J):BM g h m (.cells ty l) (.cells ty l2)
theorem BM.mono {m m2:Nat} (hm:∀i,aM m i=J->aM m2 i=J) {b c:io} (h1:BM g h m b c):BM g h m2 b c:=by
 cases h1 with
 |rows ty p T xs=>exact .rows ty p T xs
 |mp K V es=>exact .mp K V es
 |cells ty ps x l l2 m' hg hp a=>exact .cells ty ps x l l2 m' hg hp λi hi=>hm i (a i hi)
theorem adw {i:Nat} {b:PB} {x:b.ty.den} {m:Nat} {c:io} (hg:EE g h i b=M (x,m)) (hp:Cr g b x=M (M c)):∃b0,h.get (g i)=M b0/\BM g h m b0 c:=by
 cases b with
 |rows ty p T=>
  simp only[EE]at hg;split at hg
  .rename_i ty' s S xs hb;split at hg
   .rename_i hc;simp only[al,cU]at hc;obtain⟨rfl,rfl⟩:=hc;split at hg
    .rename_i z a;simp only[ah,aD]at hg;obtain⟨rfl,rfl⟩:=hg;obtain⟨e,rfl⟩:=im a;cases e;simp only[Cr,ah]at hp;subst hp;exact⟨_,hb,.rows _ _ _ _⟩
    .cases hg
   .cases hg
  .cases hg
 |rowsP ty T=>
  simp only[EE]at hg;split at hg
  .rename_i ty' s S xs hb;split at hg
   .rename_i hc;have hc:ty=ty':=by simpa using hc
    subst hc;split at hg
    .rename_i z a;simp only[ah,aD]at hg;obtain⟨rfl,rfl⟩:=hg;obtain⟨e,rfl⟩:=im a;cases e;simp only[Cr,ah]at hp;subst hp;exact⟨_,hb,.rows _ _ _ _⟩
    .cases hg
   .cases hg
  .cases hg
 |cells ty ps=>
  simp only[EE]at hg;split at hg
  .rename_i ty' l hb;split at hg
   .rename_i hc;have hc:ty=ty':=by simpa using hc
    subst hc;split at hg
    .rename_i z m1 a;simp only[ah,aD]at hg;obtain⟨rfl,rfl⟩:=hg;simp only[Cr]at hp;split at hp
     .rename_i l2 q;simp only[ah]at hp;subst hp;exact⟨_,hb,.cells ty ps _ l l2 _ a q λ_ h=>h⟩
     .cases hp
    .cases hg
   .cases hg
  .cases hg
 |mp K V=>
  simp only[EE]at hg;split at hg
  .rename_i K' V' es hb;split at hg
   .rename_i z a;simp only[ah,aD]at hg;obtain⟨rfl,rfl⟩:=hg;obtain⟨e,rfl⟩:=im a;cases e;simp only[Cr,ah]at hp;subst hp;exact⟨_,hb,.mp _ _ _⟩
   .cases hg
  .cases hg
 |gone=>simp[Cr]at hp
theorem I6:∀(bs:Y PB) (i:Nat) (x:(PB.tyL bs).den) (m:Nat) (s:Y (I io)),AD g h i bs=M (x,m)->oG g bs x=M s->∀(k:Nat) c,s[k]? =M (M c)->∃b0,h.get (g (i+k))=M b0/\BM g h m b0 c
 |[],i,x,m,s,hg,hp,k,c,hk=>by
  simp only[oG,ah]at hp;subst hp;simp at hk
 |b::r,i,x,m,s,hg,hp,k,c,hk=>by
  simp only[AD]at hg;split at hg
  .rename_i L m1 h1;split at hg
   .rename_i A m2 h2;simp only[ah,aD]at hg;obtain⟨rfl,rfl⟩:=hg;simp only[oG,tD,uO]at hp;split at hp
    .rename_i a z;split at hp
     .rename_i q hq;simp only[ah]at hp;subst hp;cases k with
      |zero=>
       simp at hk;subst hk;obtain⟨b0,e1,e2⟩:=adw h1 z;exact⟨b0,e1,e2.mono λi hi=>by rw[bp,hi];rfl⟩
      |succ k=>
       obtain⟨b0,e1,e2⟩:=I6 r (i+1) _ _ q h2 hq k c (by simpa using hk);rw[show i+1+k=i+(k+1) from by omega]at e1;exact⟨b0,e1,e2.mono λi hi=>by rw[bp,hi];simp⟩
     .cases hp
    .cases hp
   .cases hg
  .cases hg
end get
theorem QR {σ:PT Nat} {i a:Nat} (h:σ.get i=M a):il σ i=a:=by unfold il;rw[h]
theorem VN {σ:PT Nat}:∀(n i acc sm:Nat),Zh σ n i acc=M sm->
 (∀k,k<n->aM acc (il σ (i+k))=af)/\(∀a b,a<n->b<n->il σ (i+a)=il σ (i+b)->a=b)/\∀q,aM sm q=J↔aM acc q=J\/∃k,k<n/\il σ (i+k)=q
 |0,i,acc,sm,h=>by
  simp only[Zh,ah]at h;subst h;exact⟨λk hk=>by omega,λa b s=>by omega,λq=>⟨.inl,λhq=>hq.elim id λ⟨k,hk,_⟩=>by omega⟩⟩
 |n+1,i,acc,sm,h=>by
  simp only[Zh]at h;split at h
  .rename_i a s;split at h
   .cases h
   .rename_i hna;have hna:aM acc a=af:=by simpa using hna
    have hga:=QR s;obtain⟨h1,h2,z⟩:=VN n (i+1) (acc|||kC a) sm h;have hne:∀k,k<n->il σ (i+1+k)≠a/\aM acc (il σ (i+1+k))=af:=λk hk=>by
     have:=h1 k hk;rw[bp,Bool.or_eq_false_iff]at this;refine ⟨λe=>?_,this.1⟩;have c:=this.2;rw[e]at c;rw[bV.2 rfl]at c;cases c
    refine ⟨λk hk=>?_,λx y L A hxy=>?_,λq=>?_⟩
    .cases k with
     |zero=>rw[cZ,hga];exact hna
     |succ k=>rw[show i+(k+1)=i+1+k from by omega];exact (hne k (by omega)).2
    .cases x with
     |zero=>
      cases y with
      |zero=>rfl
      |succ y=>
       rw[cZ,hga,show i+(y+1)=i+1+y from by omega]at hxy;exact ct hxy.symm (hne y (by omega)).1
     |succ x=>
      cases y with
      |zero=>
       rw[show i+0=i from rfl,hga,show i+(x+1)=i+1+x from by omega]at hxy;exact ct hxy (hne x (by omega)).1
      |succ y=>
       rw[show i+(x+1)=i+1+x from by omega,show i+(y+1)=i+1+y from by omega]at hxy;have:=h2 x y (by omega) (by omega) hxy;omega
    .rw[z,bp,iY];constructor
     .rintro ((hq|hq)|⟨k,hk,hq⟩)
      .exact .inl hq
      .exact .inr ⟨0,by omega,by rw[cZ,hga];exact bV.1 hq⟩
      .exact .inr ⟨k+1,by omega,by rw[show i+(k+1)=i+1+k from by omega];exact hq⟩
     .rintro (hq|⟨k,hk,hq⟩)
      .exact .inl (.inl hq)
      .cases k with
       |zero=>rw[cZ,hga]at hq;exact .inl (.inr (bV.2 hq))
       |succ k=>exact .inr ⟨k,by omega,by rw[show i+1+k=i+(k+1) from by omega];exact hq⟩
  .cases h
theorem Q1 {σ:PT Nat}:∀(n:Nat),Wq σ n=J->∀i,i<n->il σ i=i
 |0,_,i,hi=>by omega
 |n+1,h,i,hi=>by
  simp only[Wq,al]at h;by_cases e:i=n
  .subst e;cases c:σ.get i with
   |none=>rw[c]at h;exact ct h.1 (by simp)
   |some a=>rw[c]at h;rw[QR c];exact ar h.1
  .exact Q1 n h.2 i (by omega)
structure HL (np:Nat) (t:Tm) (vs:List TV) (h:bg) (z:t.ty.den) (m:Nat) (σ:PT Nat) (sm:Nat):Prop where
 ex:∃x m1 y m2,z=TN _ _ x y/\m=m1|||m2/\xQ (il σ) h t.vs vs=M (x,m1)/\AD (il σ) h 0 t.bs=M (y,m2)
 inj:∀a b,a<t.bs.length->b<t.bs.length->il σ a=il σ b->a=b
 sig:∀q,aM sm q=J↔∃k,k<t.bs.length/\il σ k=q
 disj:∀i,aM m i=J->aM sm i=af
 fix:∀i,i<np->il σ i=i
theorem vY {np:Nat} {t:Tm} {vs:Y TV} {h:bg} {z:t.ty.den} {m:Nat} {σ:PT Nat} {sm:Nat} (hm:Ef np t vs h=M ⟨z,m,σ,sm⟩):HL np t vs h z m σ sm:=by
 unfold Ef at hm;rw[Oh]at hm;split at hm
 .rename_i sm' hs;split at hm
  .rename_i x m1 h1;split at hm
   .rename_i y m2 h2;split at hm
    .rename_i hc;simp only[al]at hc;simp only[ah,agz.mk.injEq]at hm;obtain⟨rfl,rfl,rfl,rfl⟩:=hm;obtain⟨s,c,a⟩:=VN _ _ _ _ hs;simp only[bG]at s c a;exact⟨⟨x,m1,y,m2,rfl,rfl,h1,h2⟩,c,λq=>by rw[a];simp,λi hi=>xz hc.1 i hi,Q1 np hc.2⟩
    .cases hm
   .cases hm
  .cases hm
 .cases hm
mutual
theorem y_ {g:Nat->Nat} {h:bg}:∀(p:PV) (l:Y TV) (x:p.ty.den) (m:Nat) (r:Y TV),pw g h p l=M (x,m,r)->dQ h m
 |.d T,l,x,m,r,hg=>uP 40 T l x m r hg
 |.ptr i q,l,x,m,r,hg=>by
  simp only[pw]at hg;split at hg
  .split at hg
   .simp only[ah,aD]at hg;obtain⟨_,rfl,_⟩:=hg;exact dQ.zero h
   .cases hg
  .cases hg
 |.csl i q z,l,x,m,r,hg=>by
  simp only[pw]at hg;split at hg
  .split at hg
   .simp only[ah,aD]at hg;obtain⟨_,rfl,_⟩:=hg;exact dQ.zero h
   .cases hg
  .cases hg
 |.clo q i z,l,x,m,r,hg=>by
  simp only[pw]at hg;split at hg
  .split at hg
   .simp only[ah,aD]at hg;obtain⟨_,rfl,_⟩:=hg;exact dQ.zero h
   .cases hg
  .cases hg
 |.row i,l,x,m,r,hg=>by
  simp only[pw]at hg;split at hg
  .split at hg
   .simp only[ah,aD]at hg;obtain⟨_,rfl,_⟩:=hg;exact dQ.zero h
   .cases hg
  .cases hg
 |.mp i,l,x,m,r,hg=>by
  simp only[pw]at hg;split at hg
  .split at hg
   .simp only[ah,aD]at hg;obtain⟨_,rfl,_⟩:=hg;exact dQ.zero h
   .cases hg
  .cases hg
 |.nil,l,x,m,r,hg=>by
  simp only[pw]at hg;split at hg
  .simp only[ah,aD]at hg;obtain⟨_,rfl,_⟩:=hg;exact dQ.zero h
  .cases hg
 |.emp,l,x,m,r,hg=>by
  simp only[pw]at hg;split at hg
  .simp only[ah,aD]at hg;obtain⟨_,rfl,_⟩:=hg;exact dQ.zero h
  .simp only[ah,aD]at hg;obtain⟨_,rfl,_⟩:=hg;exact dQ.zero h
  .cases hg
 |.agg ps,l,x,m,r,hg=>Hx ps l x m r hg
theorem Hx {g:Nat->Nat} {h:bg}:∀(ps:Y PV) (l:Y TV) (x:(PV.tyL ps).den) (m:Nat) (r:Y TV),yZ g h ps l=M (x,m,r)->dQ h m
 |[],l,x,m,r,hg=>by
  simp only[yZ,ah,aD]at hg;obtain⟨_,rfl,_⟩:=hg;exact dQ.zero h
 |p::ps,l,x,m,r,hg=>by
  simp only[yZ]at hg;split at hg
  .rename_i x1 m1 r1 h1;split at hg
   .rename_i x2 m2 r2 h2;simp only[ah,aD]at hg;obtain⟨_,rfl,_⟩:=hg;exact (y_ p l x1 m1 r1 h1).or (Hx ps r1 _ _ _ h2)
   .cases hg
  .cases hg
end
theorem ahp {g:Nat->Nat} {h:bg} {p:PV} {v:TV} {x:p.ty.den} {m:Nat} (hg:xm g h p v=M (x,m)):dQ h m:=by
 cases p with
 |d T=>exact WO hg
 |agg ps=>
  simp only[xm]at hg;split at hg
  .cases hg
  .split at hg
   .split at hg
    .rename_i a m1 h1;simp only[ah,aD]at hg;obtain⟨_,rfl⟩:=hg;exact Hx ps _ _ _ _ h1
    .cases hg
   .cases hg
 |ptr i q=>
  simp only[xm]at hg;split at hg
  .rename_i h1;simp only[ah,aD]at hg;obtain⟨_,rfl⟩:=hg;exact y_ _ _ _ _ _ h1
  .cases hg
 |csl i q z=>
  simp only[xm]at hg;split at hg
  .rename_i h1;simp only[ah,aD]at hg;obtain⟨_,rfl⟩:=hg;exact y_ _ _ _ _ _ h1
  .cases hg
 |clo q i z=>
  simp only[xm]at hg;split at hg
  .rename_i h1;simp only[ah,aD]at hg;obtain⟨_,rfl⟩:=hg;exact y_ _ _ _ _ _ h1
  .cases hg
 |row i=>
  simp only[xm]at hg;split at hg
  .rename_i h1;simp only[ah,aD]at hg;obtain⟨_,rfl⟩:=hg;exact y_ _ _ _ _ _ h1
  .cases hg
 |mp i=>
  simp only[xm]at hg;split at hg
  .rename_i h1;simp only[ah,aD]at hg;obtain⟨_,rfl⟩:=hg;exact y_ _ _ _ _ _ h1
  .cases hg
 |nil=>
  simp only[xm]at hg;split at hg
  .rename_i h1;simp only[ah,aD]at hg;obtain⟨_,rfl⟩:=hg;exact y_ _ _ _ _ _ h1
  .cases hg
 |emp=>
  simp only[xm]at hg;split at hg
  .rename_i h1;simp only[ah,aD]at hg;obtain⟨_,rfl⟩:=hg;exact y_ _ _ _ _ _ h1
  .cases hg
theorem Hw {g:Nat->Nat} {h:bg}:∀(ps:Y PV) (vs:Y TV) (x:(PV.tyL ps).den) (m:Nat),xQ g h ps vs=M (x,m)->dQ h m
 |[],[],x,m,hg=>by simp only[xQ,ah,aD]at hg;obtain⟨_,rfl⟩:=hg;exact dQ.zero h
 |[],_::_,x,m,hg=>by simp[xQ]at hg
 |_::_,[],x,m,hg=>by simp[xQ]at hg
 |p::ps,v::vs,x,m,hg=>by
  simp only[xQ]at hg;split at hg
  .rename_i c m1 h1;split at hg
   .rename_i a m2 h2;simp only[ah,aD]at hg;obtain⟨_,rfl⟩:=hg;exact (ahp h1).or (Hw ps vs a m2 h2)
   .cases hg
  .cases hg
theorem ahq {g:Nat->Nat} {h:bg} {i:Nat} {b:PB} {x:b.ty.den} {m:Nat} (hg:EE g h i b=M (x,m)):dQ h m:=by
 cases b with
 |rows ty p T=>
  simp only[EE]at hg;split at hg
  .split at hg
   .split at hg
    .simp only[ah,aD]at hg;obtain⟨_,rfl⟩:=hg;exact dQ.zero h
    .cases hg
   .cases hg
  .cases hg
 |rowsP ty T=>
  simp only[EE]at hg;split at hg
  .split at hg
   .split at hg
    .simp only[ah,aD]at hg;obtain⟨_,rfl⟩:=hg;exact dQ.zero h
    .cases hg
   .cases hg
  .cases hg
 |cells ty ps=>
  simp only[EE]at hg;split at hg
  .split at hg
   .split at hg
    .rename_i h1;simp only[ah,aD]at hg;obtain⟨_,rfl⟩:=hg;exact Hx ps _ _ _ _ h1
    .cases hg
   .cases hg
  .cases hg
 |mp K V=>
  simp only[EE]at hg;split at hg
  .split at hg
   .simp only[ah,aD]at hg;obtain⟨_,rfl⟩:=hg;exact dQ.zero h
   .cases hg
  .cases hg
 |gone=>simp only[EE,ah,aD]at hg;obtain⟨_,rfl⟩:=hg;exact dQ.zero h
theorem Hy {g:Nat->Nat} {h:bg}:∀(bs:Y PB) (i:Nat) (x:(PB.tyL bs).den) (m:Nat),AD g h i bs=M (x,m)->dQ h m
 |[],i,x,m,hg=>by simp only[AD,ah,aD]at hg;obtain⟨_,rfl⟩:=hg;exact dQ.zero h
 |b::r,i,x,m,hg=>by
  simp only[AD]at hg;split at hg
  .rename_i c m1 h1;split at hg
   .rename_i a m2 h2;simp only[ah,aD]at hg;obtain⟨_,rfl⟩:=hg;exact (ahq h1).or (Hy r (i+1) a m2 h2)
   .cases hg
  .cases hg
structure qK (t:Tm) (x:t.ty.den) (vs:List TV) (h1:bg) (l1:List (Option io)):Prop where
 pv:qa Hu t.vs (Og _ _ x)=M vs
 pb:oG Hu t.bs (KQ _ _ x)=M l1
 len:l1.length=t.bs.length
 at_:∀i b,h1.get i=M b↔l1[i]? =M (M b)
 ok:kX h1 vs=J
 lt:rB t.bs.length vs=J
 cells:∀i ty l,h1.get i=M (.cells ty l)->kX h1 l=J/\rB t.bs.length l=J
theorem ZN (l:Y (I io)) (i:Nat) (b:io):(An Hu 0 l PT.leaf).get i=M b↔l[i]? =M (M b):=by
 by_cases hi:i<l.length
 .obtain⟨c,hc⟩:∃c,l[i]? =M c:=⟨l[i],ax hi⟩
  have:=uS Hu l 0 PT.leaf (λa b _ _ e=>by simp only[Hu]at e;omega) i c hc;rw[show Hu (0+i)=i from by simp only[Hu];omega]at this;rw[this,hc];cases c with
  |some b'=>simp
  |none=>simp[PT.get]
 .rw[uR Hu l 0 PT.leaf i (λk hk=>by simp only[Hu];omega),bD (by omega)];simp[PT.get]
theorem wa {t:Tm} {x:t.ty.den} {vs:Y TV} {h1:bg} (hi:CI t x=M (vs,h1)):∃l1,qK t x vs h1 l1:=by
 unfold CI at hi;split at hi
 .rename_i us hus;split at hi
  .rename_i h hh;split at hi
   .rename_i hc;simp only[al]at hc;simp only[ah,aD]at hi;obtain⟨rfl,rfl⟩:=hi;unfold Md at hh;split at hh
    .rename_i l1 a;simp only[ah]at hh;refine ⟨l1,hus,a,Cq _ _ _ _ a,λi b=>?_,hc.1.1,hc.1.2,λi ty l hil=>?_⟩
     .rw[<- hh];exact ZN l1 i b
     .have:=PT.get_all _ h 1 0 i _ hc.2 hil;simpa only[al] using this
    .cases hh
   .cases hi
  .cases hi
 .cases hi
def VZ (nb:Nat) (n:Nat):Bool:=n%2==0&&gu (n/2) nb
theorem Bp {nb i:Nat}:VZ nb (nm i)=J↔i<nb:=by
 unfold VZ nm;rw[show 2*i%2=0 from by omega,show 2*i/2=i from by omega];simp only[cS,jD];exact⟨λh=>a8 h,λh=>bC h⟩
theorem Zt {nb n:Nat} (h:VZ nb n=J):∃i,i<nb/\n=nm i:=by
 unfold VZ at h;simp only[al,cU]at h;exact⟨n/2,a8 h.2,by unfold nm;omega⟩
mutual
theorem ahl {nb:Nat} {h:bg}:∀(v:TV) (y:AV),K5 nb v=J->ci h v=M y->y.all (VZ nb)=J
 |.f _ _,y,_,he=>by simp only[ci,ah]at he;subst he;rfl
 |.fel _ _ _ _ _,y,_,he=>by simp only[ci,ah]at he;subst he;rfl
 |.pel id _ _ _,y,hl,he=>by simp only[ci,ah]at he;subst he;exact Bp.2 (a8 hl)
 |.ptr id _,y,hl,he=>by simp only[ci,ah]at he;subst he;exact Bp.2 (a8 hl)
 |.csl id _ _,y,hl,he=>by simp only[ci,ah]at he;subst he;exact Bp.2 (a8 hl)
 |.row id,y,hl,he=>by
  simp only[ci]at he;split at he
  .simp only[ah]at he;subst he;unfold fG;split
   .rfl
   .exact Bp.2 (a8 hl)
  .cases he
 |.rtl id jj,y,hl,he=>by
  simp only[ci]at he;split at he
  .simp only[ah]at he;subst he;exact Bp.2 (a8 hl)
  .cases he
 |.emp,y,_,he=>by simp only[ci,ah]at he;subst he;rfl
 |.nil,y,_,he=>by simp only[ci,ah]at he;subst he;rfl
 |.mp id,y,hl,he=>by simp only[ci,ah]at he;subst he;exact Bp.2 (a8 hl)
 |.agg l,y,hl,he=>by
  simp only[ci]at he;split at he
  .rename_i l' hl';simp only[ah]at he;subst he;exact rT l l' hl hl'
  .cases he
 |.tup l,y,hl,he=>by
  simp only[ci]at he;split at he
  .rename_i l' hl';simp only[ah]at he;subst he;exact rT l l' hl hl'
  .cases he
 |.clo q l,y,hl,he=>by
  simp only[ci]at he;split at he
  .rename_i l' hl';simp only[ah]at he;subst he;exact rT l l' hl hl'
  .cases he
 |.undef,y,_,he=>by simp only[ci,ah]at he;subst he;rfl
 |.np,y,_,he=>by simp only[ci,ah]at he;subst he;rfl
 |.anyb,y,_,he=>by simp only[ci,ah]at he;subst he;rfl
theorem rT {nb:Nat} {h:bg}:∀(l:Y TV) (l':Y AV),rB nb l=J->cJ h l=M l'->AV.allL (VZ nb) l'=J
 |[],l',_,he=>by simp only[cJ,ah]at he;subst he;rfl
 |x::r,l',hl,he=>by
  obtain⟨y,l2,rfl,e1,e2⟩:=cY he;simp only[rB,al]at hl;simp only[AV.allL,al];exact⟨ahl x y hl.1 e1,rT r l2 hl.2 e2⟩
end
theorem qK.blk_all {t:Tm} {x:t.ty.den} {vs:Y TV} {h1:bg} {l1:Y (I io)} (z:qK t x vs h1 l1) {i:Nat} {b:io} (hb:h1.get i=M b) {y:vG} (a:jC h1 b=M y):y.c.all (VZ t.bs.length)=J:=by
 cases b with
 |rows ty p T xs=>
  simp only[jC]at a;split at a
  .cases a
  .simp only[ah]at a;subst a;rfl
 |cells ty l=>
  cases ty with
  |some ty=>
   simp only[jC]at a;split at a
   .rename_i q hl;simp only[ah]at a;subst a;exact rT l q (z.cells i _ l hb).2 hl
   .cases a
  |none=>
   simp only[jC]at a;split at a
   .rename_i q hl;simp only[ah]at a;subst a;show AV.allL _ ((oO 0 q).map (·.2))=J;rw[Mp];exact rT l q (z.cells i _ l hb).2 hl
   .cases a
 |dead p sz n=>cases a
 |mp K V es=>
  simp only[jC,ah]at a;subst a;show BC.all _ (ZJ K V es)=J;unfold ZJ;split
  .rfl
  .simp only[BC.all,Hj];have key:∀l:Y (K.den×V.den),AV.allL (VZ t.bs.length) (l.map ((λx=>x.2)∘λp=>(pN K p.1,AV.f (gB V p.2))))=J:=λl=>by
    induction l with
    |nil=>rfl
    |cons e r s=>simp only[eS,AV.allL,al];exact⟨rfl,s⟩
   exact key es
theorem qK.lt_len {t:Tm} {x:t.ty.den} {vs:Y TV} {h1:bg} {l1:Y (I io)} (y:qK t x vs h1 l1) {i:Nat} {b:io} (hb:h1.get i=M b):i<t.bs.length:=by
 rw[<- y.len];exact (bi.1 ((y.at_ i b).1 hb)).1
def φ1 (nb:Nat) (g:Nat->Nat) (φ:PM):PM:=λn=>if VZ nb n then φ (Hz g n) else D
theorem Y2 {nb:Nat} {g:Nat->Nat} {φ:PM} {i:Nat} (hi:i<nb):φ1 nb g φ (nm i)=φ (nm (g i)):=by
 unfold φ1;rw[aC (Bp.2 hi),xp]
theorem wU {nb:Nat} {g:Nat->Nat} {φ:PM} {n k:Nat} (h:φ1 nb g φ n=M k):∃i,i<nb/\n=nm i/\φ (nm (g i))=M k:=by
 unfold φ1 at h;split at h
 .rename_i hp;obtain⟨i,hi,rfl⟩:=Zt hp;rw[xp]at h;exact⟨i,hi,rfl,h⟩
 .cases h
structure aew (t:Tm) (x:t.ty.den) (vs:List TV) (h1:bg) (g:Nat->Nat) (φ:PM) (E E':Nat->Prop) (Hv:HF) (w:World):Prop where
 rep:qX (φ1 t.bs.length g φ) E' (bt h1) w
 val:∀x v,x.all (VZ t.bs.length)=J->cM φ (tot E φ Hv) w (x.ren (Hz g)) v->cM (φ1 t.bs.length g φ) (tot E' (φ1 t.bs.length g φ) (bt h1)) w x v
 own_:∀k,own (φ1 t.bs.length g φ) (bt h1) k->own φ Hv k
 tot_:∀k,tot E' (φ1 t.bs.length g φ) (bt h1) k->tot E φ Hv k
theorem qX.toId {t:Tm} {x:t.ty.den} {vs:Y TV} {h1:bg} {l1:Y (I io)} (z:qK t x vs h1 l1) {g:Nat->Nat} (inj:∀a b,a<t.bs.length->b<t.bs.length->g a=g b->a=b) {φ:PM} {E E':Nat->Prop} {Hv:HF} {w:World} (r:qX φ E Hv w)
 (hat:∀i b y,h1.get i=M b->jC h1 b=M y->Hv (nm (g i))=M (y.ren (Hz g)))
 (hE:∀k,E' k->tot E φ Hv k) (hne:∀i k b,i<t.bs.length->Hv (nm (g i))=M b->φ (nm (g i))=M k->¬E' k) (hel:∀k,E' k->k<w.heap.size):aew t x vs h1 g φ E E' Hv w:=by
 have own1:∀k,own (φ1 t.bs.length g φ) (bt h1) k->own φ Hv k:=by
  rintro k ⟨n,y,h2,h3⟩;obtain⟨i,hi,rfl,L⟩:=wU h3;obtain⟨j,b,e,A,q⟩:=jB h2;have:=kY e;subst this;exact⟨nm (g i),_,hat i b y A q,L⟩
 have tot1:∀k,tot E' (φ1 t.bs.length g φ) (bt h1) k->tot E φ Hv k:=λk hk=>hk.elim (hE k) λh=>.inr (own1 k h)
 have val:∀x v,x.all (VZ t.bs.length)=J->cM φ (tot E φ Hv) w (x.ren (Hz g)) v->cM (φ1 t.bs.length g φ) (tot E' (φ1 t.bs.length g φ) (bt h1)) w x v:=λx v Z hr=>by
  have h2:cM (φ1 t.bs.length g φ) (tot E φ Hv) w x v:=cM.renFrom (λi k hp hk=>by unfold φ1;rw[aC hp];exact hk) hr x Z rfl;exact h2.ext (λ_ _ h=>h) (HM.refl _ w) λk _ hk=>tot1 k hk
 refine ⟨⟨λn n' b b' k U g2 g3 g4=>?_,λn y U=>?_,hel,λg' cells hg=>(r.gl g' cells hg).ext (HM.refl _ w) λk _ hk=>tot1 k hk⟩,val,own1,tot1⟩
 .obtain⟨i,hi,rfl,L⟩:=wU g3;obtain⟨j,hj,rfl,A⟩:=wU g4;obtain⟨i',c,e,q,s⟩:=jB U;have:=kY e;subst this;obtain⟨j',c',e,h8,h9⟩:=jB g2;have:=kY e;subst this;have:=r.inj _ _ _ _ k (hat i c _ q s) (hat j c' _ h8 h9) L A;rw[inj i j hi hj (kY this)]
 .obtain⟨i,c,rfl,q,s⟩:=jB U;have hi:=z.lt_len q;obtain⟨k,p1,p2,ob,p3,p4⟩:=r.at_ _ _ (hat i c y q s);exact⟨k,by rw[Y2 hi];exact p1,hne i k _ hi (hat i c y q s) p1,ob,p3,jd.renFrom val (z.blk_all q s) p4⟩
theorem BM.view {g:Nat->Nat} {h hv:bg} {H H':HF} {m:Nat} (d:uJ H H') (A:DW h H H' m) (hr:xF hv h) {b0 c:io} (hb:BM g h m b0 c) {y q:vG} (e0:jC h b0=M y) (e1:jC hv c=M q):iJ H H' y q:=by
 cases hb with
 |rows ty p T xs=>
  simp only[jC]at e0 e1;rw[e0]at e1;cases e1;exact iJ.refl d y
 |mp K V es=>
  simp only[jC]at e0 e1;rw[e0]at e1;cases e1;exact iJ.refl d y
 |cells ty ps x l l2 m' hg hp hm=>
  have key:∀a cs',cJ h l=M a->cJ hv l2=M cs'->ib H H' a cs'/\∀x∈cs',x.isCell=J:=λa cs' hl hc=>by
   obtain⟨l1,L,z,s,q3⟩:=CW d hr ps l x m' [] l2 a cs' hg hp hl hc λi hi=>A i (hm i hi)
   simp only[cJ,ah]at s;subst s;rw[mb]at z;subst z;exact⟨q3,l_ (r8 hc (wZ ps x l2 hp))⟩
  cases ty with
  |some ty=>
   simp only[jC]at e0 e1;split at e0
   .rename_i a hl;simp only[ah]at e0;subst e0;split at e1
    .rename_i cs' hc;simp only[ah]at e1;subst e1;exact iJ.cells rfl rfl (key _ _ hl hc).1 (key _ _ hl hc).2
    .cases e1
   .cases e0
  |none=>
   simp only[jC]at e0 e1;split at e0
   .rename_i a hl;simp only[ah]at e0;subst e0;split at e1
    .rename_i cs' hc;simp only[ah]at e1;subst e1;exact iJ.told (key _ _ hl hc).1
    .cases e1
   .cases e0
theorem BM.erB_some {g:Nat->Nat} {h hv:bg} {nx m:Nat} (hinv:ml h nx) {i:Nat} {b0 c:io} (h0:h.get i=M b0) (hb:BM g h m b0 c) {a:vG} (e1:jC hv c=M a):∃y,jC h b0=M y:=by
 cases hb with
 |rows ty p T xs=>exact⟨a,e1⟩
 |mp K V es=>exact⟨a,e1⟩
 |cells ty ps x l l2 m' hg hp hm=>
  obtain⟨q,hl⟩:=fd h l (hinv.cells i _ l h0);cases ty<;>exact⟨_,by simp only[jC,hl];rfl⟩
theorem BM.row {g:Nat->Nat} {h:bg} {m:Nat} {b0 c:io} (hb:BM g h m b0 c):mR c=mR b0:=by
 cases hb<;>rfl
structure pR (P:Program) (f:FuncId) (c:cq):Prop where
 callable:DP P f
 calls:∀x y,c.m x=M y->∀vs hp l1 rs hq l2 la lr,qK c.pre x vs hp l1->qK c.post y rs hq l2->cJ hp vs=M la->cJ hq rs=M lr->
  ∀(φ:PM) (E:Nat->Prop) (w:World) (us:ξ),qX φ E (bt hp) w->ka φ (tot E φ (bt hp)) w la us->(∀n k,φ n=M k->ow n<c.pre.bs.length)->
  Calls P f us.toArray w λen w'=>∃v φ',en= .returned v/\HM (own φ (bt hp)) w w'/\(∀k,k<w.heap.size->own φ' (bt hq) k->own φ (bt hp) k)/\(∀i,i<c.pre.bs.length->φ' (nm i)=φ (nm i))/\qX φ' E (bt hq) w'/\cM φ' (tot E φ' (bt hq)) w' (DZ lr) v
theorem Mh {g:Nat->Nat}:∀(bs:Y PB) (x:(PB.tyL bs).den) (l:Y (I io)),Bx bs=J->oG g bs x=M l->∀(i:Nat) (c:I io),l[i]? =M c->∃b,c=M b
 |[],x,l,_,hp,i,c,hc=>by simp only[oG,ah]at hp;subst hp;simp at hc
 |b::r,x,l,hn,hp,i,c,hc=>by
  simp only[oG]at hp;split at hp
  .rename_i a s;split at hp
   .rename_i q hq;simp only[ah]at hp;subst hp;cases i with
    |zero=>
     simp at hc;subst hc;cases b with
     |gone=>simp[Bx]at hn
     |rows ty p T=>simp only[Cr,ah]at s;exact⟨_,s.symm⟩
     |rowsP ty T=>simp only[Cr,ah]at s;exact⟨_,s.symm⟩
     |cells ty ps=>
      simp only[Cr]at s;split at s
      .simp only[ah]at s;exact⟨_,s.symm⟩
      .cases s
     |mp K V=>simp only[Cr,ah]at s;exact⟨_,s.symm⟩
    |succ i=>
     refine Mh r _ q ?_ hq i c (by simpa using hc);cases b<;>first|exact hn|simp[Bx]at hn
   .cases hp
  .cases hp
theorem Fm {h h2:bg} {g:Nat->Nat}:∀n,tU h h2 g n=J->∀i,i<n->∀r,eH h (g i)=M r->eH h2 (g i)=M r
 |0,_,i,hi,_,_=>by omega
 |n+1,hs,i,hi,r,hr=>by
  simp only[tU,al]at hs;by_cases e:i=n
  .subst e;obtain⟨p,s,k⟩:=r;have h1:=hs.1;rw[hr]at h1;cases a:eH h2 (g i) with
   |none=>rw[a]at h1;cases h1
   |some q=>
    obtain⟨c,s',k'⟩:=q;rw[a]at h1;simp only[al,cU]at h1;rw[h1.1.1,ar h1.1.2,ar h1.2]
  .exact Fm n hs.2 i (by omega) r hr
theorem ka.le {H H':HF} {φ:PM} {E:Nat->Prop} {w:World} (r:qX φ E H w):∀{l a:Y AV} {us:ξ},ib H H' l a->ka φ (tot E φ H) w l us->ka φ (tot E φ H') w a us
 |[],[],[],_,_=>trivial
 |[],[],_::_,_,h=>h.elim
 |_::_,_::_,[],_,h=>h.elim
 |[],_::_,_,h,_=>h.elim
 |_::_,[],_,h,_=>h.elim
 |_::_,_::_,_::_,hl,h=>⟨hl.1 _ _ _ _ r h.1,ka.le r hl.2 h.2⟩
theorem ka.toId {φ φ':PM} {O O':Nat->Prop} {w:World} {γ:Nat->Nat} {p:Nat->Bool} (hv:∀x v,x.all p=J->cM φ O w (x.ren γ) v->cM φ' O' w x v):∀{l:Y AV} {us:ξ},AV.allL p l=J->ka φ O w (AV.renL γ l) us->ka φ' O' w l us
 |[],[],_,_=>trivial
 |[],_::_,_,h=>h.elim
 |_::_,[],_,h=>h.elim
 |_::_,_::_,hp,h=>by
  simp only[AV.allL,al]at hp;exact⟨hv _ _ hp.1 h.1,ka.toId hv hp.2 h.2⟩
theorem VV {h:bg}:∀{rs:Y TV} {lr:Y AV},cJ h rs=M lr->ci h (PN rs)=M (DZ lr)
 |[],lr,he=>by simp only[cJ,ah]at he;subst he;rfl
 |[x],lr,he=>by
  obtain⟨y,l2,rfl,e1,e2⟩:=cY he;simp only[cJ,ah]at e2;subst e2;exact e1
 |x::y::r,lr,he=>by
  obtain⟨c,l2,rfl,e1,e2⟩:=cY he;obtain⟨a,q,rfl,e3,s⟩:=cY e2;simp only[PN,ci,he,DZ]
theorem Y_ (γ:Nat->Nat):∀l:Y AV,DZ (AV.renL γ l)=(DZ l).ren γ
 |[]=>rfl
 |[x]=>rfl
 |x::y::r=>rfl
theorem Y' {p:Nat->Bool}:∀{l:Y AV},AV.allL p l=J->(DZ l).all p=J
 |[],_=>rfl
 |[x],h=>by simp only[AV.allL,al]at h;exact h.1
 |x::y::r,h=>h
theorem adb {nx a q:Nat}:aM (((1<<<a)-1)<<<nx) q=J↔nx<=q/\q<nx+a:=by
 rw[Nat.testBit_shiftLeft,Nat.one_shiftLeft,Nat.testBit_two_pow_sub_one];simp only[al,bL];omega
theorem aar {P:Program} {o:Oper} {e:iT} {h:bg} {nx:Nat} {f:FuncId} {c:cq} {l:Y TV} (hinv:ml h nx) (sp:pR P f c) {x:c.pre.ty.den} {m:Nat} {σ:PT Nat} {sm:Nat} (A:HL 0 c.pre l h x m σ sm) {vs:Y TV} {hp:bg} {l1:Y (I io)} (B:qK c.pre x vs hp l1) (hng:Bx c.pre.bs=J) {y:c.post.ty.den} (hm:c.m x=M y) {rs:Y TV} {hq:bg} {l2:Y (I io)} (H:qK c.post y rs hq l2) (hle:c.pre.bs.length<=c.post.bs.length)
 {g:Nat->Nat} (glo:∀i,i<c.pre.bs.length->g i=il σ i) (ghi:∀i,c.pre.bs.length<=i->g i=nx+(i-c.pre.bs.length)) {h2:bg} (hh2:h2=An g 0 (l2.map (ma (lP g))) (eA m h)) (hsr:tU h h2 g c.pre.bs.length=J) {la:Y AV} (hla:cJ h l=M la)
 (hexec:∀(φ:PM) (E:Nat->Prop) (h':HF) (w:World) (a:Act),(∀t,.tmp t∈o.op.operands->∀y,fO e h t=M y->cM φ (tot E φ h') w y (a.tmps.getD t undef))->qX φ E h' w->∃us:ξ,(execOp a.eval o).run P w= .ok (.enter f us.toArray) w/\ka φ (tot E φ h') w la us):
 iS P o af e h nx (PN (kM g rs)) (sm|||m) (sm|||m|||(((1<<<(c.post.bs.length-c.pre.bs.length))-1)<<<nx)) h2 (nx+(c.post.bs.length-c.pre.bs.length)):=by
 obtain⟨x1,m1,x2,m2,hx,hmm,gv,gb⟩:=A.ex;have hmr:dQ h m:=by rw[hmm];exact (Hw _ _ _ _ gv).or (Hy _ _ _ _ gb)
 generalize hnp:c.pre.bs.length=np at*
 generalize hnq:c.post.bs.length=nq at*
 have pvg:qa (il σ) c.pre.vs x1=M (kM (il σ) vs):=by
  have L:=tK (il σ) c.pre.vs x1;have h4:=B.pv;rw[hx,tD]at h4;rw[L,h4];rfl
 have pbg:oG (il σ) c.pre.bs x2=M (l1.map (ma (lP (il σ)))):=by
  have L:=vP (il σ) c.pre.bs x2;have h4:=B.pb;rw[hx,uO]at h4;rw[L,h4];rfl
 have hl1:∀i,i<np->∃b,l1[i]? =M (M b):=λi hi=>by
  have hi':i<l1.length:=by rw[B.len,hnp];exact hi
  obtain⟨b,hb⟩:=Mh c.pre.bs _ l1 hng B.pb i l1[i] (ax hi');exact⟨b,by rw[ax hi',hb]⟩
 have hbm:∀i b,l1[i]? =M (M b)->∃b0,h.get (il σ i)=M b0/\BM (il σ) h m b0 (lP (il σ) b):=λi b hb=>by
  obtain⟨b0,s,U⟩:=I6 c.pre.bs 0 x2 m2 _ gb pbg i (lP (il σ) b) (by rw[ba,hb];rfl);rw[bG]at s;exact⟨b0,s,U.mono λj hj=>by rw[hmm,bp,hj];simp⟩
 have inj1:∀a b,a<np->b<np->il σ a=il σ b->a=b:=λa b ha hb=>A.inj a b (by rw[hnp];exact ha) (by rw[hnp];exact hb)
 have sig:∀q,aM sm q=J↔∃k,k<np/\il σ k=q:=λq=>by rw[A.sig,hnp]
 have gnx:∀i,i<np->il σ i<nx:=λi hi=>by
  obtain⟨b,hb⟩:=hl1 i hi;obtain⟨b0,s,_⟩:=hbm i b hb;exact hinv.low _ _ s
 have hmS:∀i,i<np->aM m (il σ i)=af:=λi hi=>by
  cases hx:aM m (il σ i) with
  |false=>rfl
  |true=>have:=A.disj _ hx;rw[(sig _).2 ⟨i,hi,rfl⟩]at this;cases this
 have injg:∀a b,a<nq->b<nq->g a=g b->a=b:=λa b ha hb hab=>by
  by_cases h1:a<np
  .by_cases h2:b<np
   .rw[glo a h1,glo b h2]at hab;exact inj1 a b h1 h2 hab
   .rw[glo a h1,ghi b (by omega)]at hab;have:=gnx a h1;omega
  .by_cases h2:b<np
   .rw[ghi a (by omega),glo b h2]at hab;have:=gnx b h2;omega
   .rw[ghi a (by omega),ghi b (by omega)]at hab;omega
 let hv:bg:=An (il σ) 0 (l1.map (ma (lP (il σ)))) (eA m h)
 have hv_at:∀i b,l1[i]? =M (M b)->hv.get (il σ i)=M (lP (il σ) b):=λi b hb=>by
  have:=uS (il σ) (l1.map (ma (lP (il σ)))) 0 (eA m h) (λa b ha hb=>by
   simp only[bx,B.len,hnp]at ha hb;simp only[bG];exact inj1 a b ha hb) i (M (lP (il σ) b)) (by rw[ba,hb];rfl)
  rw[bG]at this;exact this
 have hv_ne:∀j,(∀i,i<np->j≠il σ i)->hv.get j=(eA m h).get j:=λj hj=>
  uR (il σ) _ 0 _ j λk hk=>by
   simp only[bx,B.len,hnp]at hk;rw[bG];exact hj k hk
 have rows_in:xF hv h:=λj r hr=>by
  rw[bR]at hr ⊢;by_cases hj:∃i,i<np/\j=il σ i
  .obtain⟨i,hi,rfl⟩:=hj;obtain⟨b,hb⟩:=hl1 i hi;obtain⟨b0,s,U⟩:=hbm i b hb;rw[hv_at i b hb]at hr;rw[s];simp only[aF]at hr ⊢;rw[<- U.row];exact hr
  .rw[hv_ne j (λi hi e=>hj ⟨i,hi,e⟩),jb]at hr;split at hr
   .rename_i ht;obtain⟨ty,p,T,xs,hb⟩:=hmr j ht;rw[hb]at hr ⊢;exact hr
   .exact hr
 have rows_hp:∀i r,eH hp i=M r->eH hv (il σ i)=M r:=λi r hr=>by
  rw[bR]at hr ⊢;cases hb:hp.get i with
  |none=>rw[hb]at hr;cases hr
  |some b=>
   rw[hb]at hr;rw[hv_at i b ((B.at_ i b).1 hb)];simp only[aF,H3]at hr ⊢;exact hr
 have dead_m:∀i,aM m i=J->bt hv (nm i)=D:=λi hi=>by
  rw[bE,hv_ne i (λk hk e=>by rw[e,hmS k hk]at hi;cases hi)];obtain⟨p,sz,n,hd⟩:=tQ hmr hi;rw[hd];rfl
 have h2_at:∀i cc,l2[i]? =M cc->h2.get (g i)=(match cc with|some b=>M (lP g b)|none=>((eA m h).get (g i)).map uT):=λi cc hc=>by
  have:=uS g (l2.map (ma (lP g))) 0 (eA m h) (λa b ha hb=>by
   simp only[bx,H.len,hnq]at ha hb;simp only[bG];exact injg a b ha hb) i (cc.map (lP g)) (by rw[ba,hc];rfl)
  rw[bG]at this;rw[hh2,this];cases cc<;>rfl
 have h2_ne:∀j,(∀i,i<nq->j≠g i)->h2.get j=(eA m h).get j:=λj hj=>by
  rw[hh2];refine uR g _ 0 _ j λk hk=>?_
  simp only[bx,H.len,hnq]at hk;rw[bG];exact hj k hk
 have rows_hq:∀i r,eH hq i=M r->eH h2 (g i)=M r:=λi r hr=>by
  rw[bR]at hr ⊢;cases hb:hq.get i with
  |none=>rw[hb]at hr;cases hr
  |some b=>
   rw[hb]at hr;rw[h2_at i _ ((H.at_ i b).1 hb)];simp only[aF,H3]at hr ⊢;exact hr
 have rows2:bZ h h2:=λj r hr=>by
  by_cases hj:∃i,i<np/\j=il σ i
  .obtain⟨i,hi,rfl⟩:=hj;rw[<- glo i hi]at hr ⊢;exact Fm np hsr i hi r hr
  .have hjn:j<nx:=by
    rw[bR]at hr;cases hb:h.get j with
    |none=>rw[hb]at hr;cases hr
    |some b=>exact hinv.low j b hb
   have:=bZ.kill m h j r hr;rw[bR]at this ⊢;rw[h2_ne j (λi hi e=>?_)]
   .exact this
   .by_cases hip:i<np
    .exact hj ⟨i,hip,by rw[e,glo i hip]⟩
    .rw[ghi i (by omega)]at e;omega
 obtain⟨lr,hlr⟩:=fd hq rs H.ok;obtain⟨lp,hlp⟩:=fd hp vs B.ok;have er2:∀i b yb,hq.get i=M b->jC hq b=M yb->bt h2 (nm (g i))=M (yb.ren (Hz g)):=λi b yb hb hyb=>by
  rw[bE,h2_at i _ ((H.at_ i b).1 hb)];exact C1 rows_hq hyb
 have er2':∀i,i<nq->∀z,bt h2 (nm (g i))=M z->∃b yb,hq.get i=M b/\jC hq b=M yb/\z=yb.ren (Hz g):=λi hi z Z=>by
  have hi':i<l2.length:=by rw[H.len,hnq];exact hi
  have hcc:=ax hi';cases hcv:l2[i] with
  |none=>
   rw[hcv]at hcc;rw[bE,h2_at i D hcc]at Z;simp only at Z;cases hkg:(eA m h).get (g i) with
   |none=>rw[hkg]at Z;cases Z
   |some b0=>rw[hkg]at Z;cases b0<;>simp[uT,jC]at Z
  |some b=>
   rw[hcv]at hcc;have hb:=(H.at_ i b).2 hcc;rw[bE,h2_at i (M b) hcc]at Z;have hyb:∃yb,jC hq b=M yb:=by
    cases b with
    |rows ty p T xs=>simp only[aF,lP,jC]at Z ⊢;exact⟨z,Z⟩
    |cells ty q=>
     obtain⟨q',hq'⟩:=fd hq q (H.cells i _ q hb).1;cases ty<;>exact⟨_,by simp only[jC,hq'];rfl⟩
    |dead p sz n=>simp[lP,jC]at Z
    |mp K V es=>exact⟨_,rfl⟩
   obtain⟨yb,hyb⟩:=hyb;have:=C1 rows_hq hyb;simp only[aF]at Z;rw[this]at Z;exact⟨b,yb,hb,hyb,by cases Z;rfl⟩
 have dead2:∀i,aM m i=J->bt h2 (nm i)=D:=λi hi=>by
  have hlt:=hmr.lt hinv hi;rw[bE,h2_ne i (λk hk e=>?_)]
  .obtain⟨p,sz,n,hd⟩:=tQ hmr hi;rw[hd];rfl
  .by_cases hkp:k<np
   .rw[e,glo k hkp,hmS k hkp]at hi;cases hi
   .rw[ghi k (by omega)]at e;omega
 have inv2:ml h2 (nx+(nq-np)):=by
  refine ⟨λj ty q hj=>?_,λj b hj=>?_⟩
  .by_cases hjg:∃i,i<nq/\j=g i
   .obtain⟨i,hi,rfl⟩:=hjg;have hi':i<l2.length:=by rw[H.len,hnq];exact hi
    have hcc:=ax hi';cases hcv:l2[i] with
    |none=>
     rw[hcv]at hcc;rw[h2_at i D hcc]at hj;simp only at hj;cases hkg:(eA m h).get (g i) with
     |none=>rw[hkg]at hj;cases hj
     |some b0=>rw[hkg]at hj;cases b0<;>simp[uT]at hj
    |some b=>
     rw[hcv]at hcc;have hb:=(H.at_ i b).2 hcc;rw[h2_at i (M b) hcc]at hj;simp only[ah]at hj;cases b with
     |cells ty' q'=>
      simp only[lP,io.cells.injEq]at hj;obtain⟨_,rfl⟩:=hj;obtain⟨z,Z⟩:=fd hq q' (H.cells i _ q' hb).1;exact j6 _ _ _ (o6 rows_hq q' z Z)
     |rows _ _ _ _=>simp[lP]at hj
     |dead _ _ _=>simp[lP]at hj
     |mp _ _ _=>simp[lP]at hj
   .rw[h2_ne j (λi hi e=>hjg ⟨i,hi,e⟩)]at hj;refine iZ rows2 q ?_;have hkk:=(hinv.kill m).cells j _ q hj;rw[jb]at hj;split at hj
    .rename_i ht;obtain⟨_,_,_,_,hb⟩:=hmr j ht;rw[hb]at hj;cases hj
    .exact hinv.cells j _ q hj
  .by_cases hjg:∃i,i<nq/\j=g i
   .obtain⟨i,hi,rfl⟩:=hjg;by_cases hip:i<np
    .rw[glo i hip];have:=gnx i hip;omega
    .rw[ghi i (by omega)];omega
   .rw[h2_ne j (λi hi e=>hjg ⟨i,hi,e⟩)]at hj;have:=(hinv.kill m).low j b hj;omega
 let S:ι:=(dR np).map λi=>nm (il σ i)
 have memS:∀n,n∈S↔∃i,i<np/\n=nm (il σ i):=λn=>by
  simp only[S,db,nI];exact⟨λ⟨i,h1,h2⟩=>⟨i,h1,h2.symm⟩,λ⟨i,h1,h2⟩=>⟨i,h1,h2.symm⟩⟩
 let NN:ι:=(dR (nq-np)).map λt=>nm (nx+t)
 have memN:∀n,n∈NN↔∃t,t<nq-np/\n=nm (nx+t):=λn=>by
  simp only[NN,db,nI];exact⟨λ⟨i,h1,h2⟩=>⟨i,h1,h2.symm⟩,λ⟨i,h1,h2⟩=>⟨i,h1,h2.symm⟩⟩
 have memW:∀n,n∈S++Ft m++NN↔(∃i,i<nq/\n=nm (g i))\/n∈Ft m:=λn=>by
  rw[bQ,bQ,memS,memN];constructor
  .rintro ((⟨i,hi,rfl⟩|hn)|⟨t,ht,rfl⟩)
   .exact .inl ⟨i,by omega,by rw[glo i hi]⟩
   .exact .inr hn
   .exact .inl ⟨np+t,by omega,by rw[ghi _ (by omega),show np+t-np=t from by omega]⟩
  .rintro (⟨i,hi,rfl⟩|hn)
   .by_cases hip:i<np
    .exact .inl (.inl ⟨i,hip,by rw[glo i hip]⟩)
    .exact .inr ⟨i-np,by omega,by rw[ghi i (by omega)]⟩
   .exact .inl (.inr hn)
 have hOpT:gM P o (fO e h) (bt h) ⟨DZ (AV.renL (Hz g) lr),S++Ft m,S++Ft m++NN,bt h2,NN⟩:=by
  intro φ E h' w a hrd hwr hops hrep hN;have hS':∀i,i<np->h' (nm (il σ i))=bt h (nm (il σ i)):=λi hi=>hrd _ (lz _ ((memS _).2 ⟨i,hi,rfl⟩))
  have hM':∀i,aM m i=J->h' (nm i)=bt h (nm i):=λi hi=>hrd _ (nK _ (lV.2 hi))
  obtain⟨us,hrun,hrel⟩:=hexec φ E h' w a hops hrep
  let Hv:HF:=λn=>if n∈S++Ft m then bt hv n else h' n
  have Hv_in:∀n,n∈S++Ft m->Hv n=bt hv n:=λn hn=>by simp only[Hv,hn,bF]
  have Hv_out:∀n,n∉S++Ft m->Hv n=h' n:=λn hn=>by simp only[Hv,hn,dT]
  have blkS:∀i,i<np->∀z,bt hv (nm (il σ i))=M z->∃b0 b y0,h.get (il σ i)=M b0/\l1[i]? =M (M b)/\BM (il σ) h m b0 (lP (il σ) b)/\jC h b0=M y0/\jC hv (lP (il σ) b)=M z:=λi hi z Z=>by
   obtain⟨b,hb⟩:=hl1 i hi;obtain⟨b0,s,U⟩:=hbm i b hb;rw[bE,hv_at i b hb]at Z;simp only[aF]at Z;obtain⟨y0,hy0⟩:=BM.erB_some hinv s U Z;exact⟨b0,b,y0,s,hb,U,hy0,Z⟩
  have hd:uJ h' Hv:=λn b hb=>by
   by_cases hn:n∈S++Ft m
   .rw[Hv_in n hn]at hb;rcases bQ.1 hn with hs|hs
    .obtain⟨i,hi,rfl⟩:=(memS n).1 hs;obtain⟨b0,b1,y0,s,U,q3,q4,q5⟩:=blkS i hi b hb;exact⟨y0,by rw[hS' i hi,bE,s];exact q4⟩
    .obtain⟨i,rfl,hi⟩:=nV.1 hs;rw[dead_m i hi]at hb;cases hb
   .rw[Hv_out n hn]at hb;exact⟨b,hb⟩
  have gvv:DW h h' Hv m:=λi hi=>⟨hM' i hi,by rw[Hv_in _ (nK _ (lV.2 hi)),dead_m i hi]⟩
  have V:G' h' Hv:=⟨hd,λn b b' hb hb'=>by
   by_cases hn:n∈S++Ft m
   .rw[Hv_in n hn]at hb';rcases bQ.1 hn with hs|hs
    .obtain⟨i,hi,rfl⟩:=(memS n).1 hs;obtain⟨b0,b1,y0,s,U,q3,q4,q5⟩:=blkS i hi b' hb';rw[hS' i hi,bE,s]at hb;simp only[aF]at hb;exact BM.view hd gvv rows_in q3 hb q5
    .obtain⟨i,rfl,hi⟩:=nV.1 hs;rw[dead_m i hi]at hb';cases hb'
   .rw[Hv_out n hn,hb]at hb';cases hb';exact iJ.refl hd b⟩
  have hrepv:=V.rep hrep;have hlpg:cJ hv (kM (il σ) vs)=M (AV.renL (Hz (il σ)) lp):=o6 rows_hp vs lp hlp;have hrel1:ka φ (tot E φ Hv) w (AV.renL (Hz (il σ)) lp) us:=
   ka.le hrep (CV hd rows_in c.pre.vs l x1 m1 _ la _ gv pvg hla hlpg (λi hi=>gvv i (by rw[hmm,bp,hi];rfl))) hrel
  let E':Nat->Prop:=λk=>E k\/∃n b,Hv n=M b/\n∉S/\φ n=M k
  have T:aew c.pre x vs hp (il σ) φ E E' Hv w:=by
   refine qX.toId B (λa b ha hb=>inj1 a b (by rw[<- hnp];exact ha) (by rw[<- hnp];exact hb)) hrepv (λi b yb hb hyb=>?_) ?_ ?_ ?_
   .have hi:=B.lt_len hb;rw[hnp]at hi;rw[Hv_in _ (lz _ ((memS _).2 ⟨i,hi,rfl⟩)),bE,hv_at i b ((B.at_ i b).1 hb)];exact C1 rows_hp hyb
   .rintro k (hE|⟨n,b,h1,_,L⟩)
    .exact .inl hE
    .exact .inr ⟨n,b,h1,L⟩
   .rintro i k b hi h1 L (hE|⟨n,b',h4,h5,h6⟩)
    .obtain⟨k',p1,p2,_⟩:=hrepv.at_ _ _ h1;rw[L]at p1;cases p1;exact p2 hE
    .have:=hrepv.inj _ _ _ _ k h1 h4 L h6;exact h5 (by rw[<- this];exact (memS _).2 ⟨i,by rw[<- hnp];exact hi,rfl⟩)
   .rintro k (hE|⟨n,b,h1,_,L⟩)
    .exact hrepv.el k hE
    .obtain⟨k',s,_,ob,q3,_⟩:=hrepv.at_ n b h1;rw[L]at s;cases s;exact (cA.1 q3).1
  have hcalls:=sp.calls x y hm vs hp l1 rs hq l2 lp lr B H hlp hlr (φ1 c.pre.bs.length (il σ) φ) E' w us T.rep (ka.toId T.val (rT vs lp B.lt hlp) hrel1) (λn k hk=>by
   obtain⟨i,hi,rfl,_⟩:=wU hk;rw[dS];exact hi)
  unfold Hh;rw[hrun];refine Calls.mono hcalls ?_;rintro en w' ⟨v,φc',rfl,hext,hown,hnm,rp,rv'⟩
  let isN:Nat->Prop:=λn=>n∈NN
  let φ':PM:=λn=>if n∈NN then φc' (nm (np+(ow n-nx))) else φ n
  have φ'_new:∀t,t<nq-np->φ' (nm (nx+t))=φc' (nm (np+t)):=λt ht=>by
   have:nm (nx+t)∈NN:=(memN _).2 ⟨t,ht,rfl⟩;simp only[φ',this,bF,dS];rw[show nx+t-nx=t from by omega]
  have φ'_old:∀n,n∉NN->φ' n=φ n:=λn hn=>by simp only[φ',hn,dT]
  have loN:∀i,i<nx->nm i∉NN:=λi hi hn=>by
   obtain⟨t,_,e⟩:=(memN _).1 hn;have:=kY e;omega
  have φ'_g:∀i,i<nq->φ' (nm (g i))=φc' (nm i):=λi hi=>by
   by_cases hip:i<np
   .rw[glo i hip,φ'_old _ (loN _ (gnx i hip)),hnm i (by rw[hnp];exact hip),Y2 (by rw[hnp];exact hip)]
   .rw[ghi i (by omega),φ'_new _ (by omega),show np+(i-np)=i from by omega]
  have hsub:∀n k,φ n=M k->φ' n=M k:=λn k hk=>by
   by_cases hn:n∈NN
   .rw[hN n hn]at hk;cases hk
   .rw[φ'_old n hn];exact hk
  let F:HF:=eV h' (S++Ft m++NN) (bt h2)
  have F_g:∀i,i<nq->F (nm (g i))=bt h2 (nm (g i)):=λi hi=>by
   simp only[F,eV,(memW _).2 (.inl ⟨i,hi,rfl⟩),bF]
  have F_out:∀n,n∉S++Ft m++NN->F n=h' n:=λn hn=>by simp only[F,eV,hn,dT]
  have from_:∀n b,F n=M b->(∃i bq yb,i<nq/\n=nm (g i)/\hq.get i=M bq/\jC hq bq=M yb/\b=yb.ren (Hz g))\/(h' n=M b/\Hv n=M b/\n∉S/\n∉NN/\φ' n=φ n):=λn b hb=>by
   by_cases hn:n∈S++Ft m++NN
   .rcases (memW n).1 hn with ⟨i,hi,rfl⟩|hs
    .rw[F_g i hi]at hb;obtain⟨bq,yb,s,U,q3⟩:=er2' i hi b hb;exact .inl ⟨i,bq,yb,hi,rfl,s,U,q3⟩
    .obtain⟨i,rfl,hi⟩:=nV.1 hs;have:F (nm i)=bt h2 (nm i):=by simp only[F,eV,hn,bF]
     rw[this,dead2 i hi]at hb;cases hb
   .rw[F_out n hn]at hb;have h1:n∉S++Ft m:=λhh=>hn (lz _ hh)
    have L:n∉NN:=λhh=>hn (nK _ hh)
    exact .inr ⟨hb,by rw[Hv_out n h1];exact hb,λhh=>h1 (lz _ hh),L,φ'_old n L⟩
  have own':∀k,own φ' F k->own φc' (bt hq) k\/∃n b,Hv n=M b/\n∉S/\φ n=M k:=by
   rintro k ⟨n,b,h1,L⟩;rcases from_ n b h1 with ⟨i,bq,yb,hi,rfl,s,U,_⟩|⟨_,U,q3,_,q5⟩
   .rw[φ'_g i hi]at L;exact .inl ⟨nm i,yb,by rw[bE,s];exact U,L⟩
   .exact .inr ⟨n,b,U,q3,by rw[<- q5];exact L⟩
  have mv:je φ φ' h' F w w':=by
   refine ⟨hsub,hext.mono λk hk=>hd.own (T.own_ k hk),λk hk ho=>?_⟩;rcases own' k ho with h1|⟨n,b,h1,_,L⟩
   .exact hd.own (T.own_ k (hown k hk h1))
   .exact hd.own ⟨n,b,h1,L⟩
  have tot':∀k,tot E φ' F k->tot E' φc' (bt hq) k:=by
   rintro k (h1|h1)
   .exact .inl (.inl h1)
   .rcases own' k h1 with L|L
    .exact .inr L
    .exact .inl (.inr L)
  let φr:PM:=λn=>if VZ nq n then φc' n else D
  have rel_r:∀x v,x.all (VZ nq)=J->cM φc' (tot E' φc' (bt hq)) w' x v->cM φr (tot E φ' F) w' x v:=λx v hx hr=>
   hr.restrict (λi k hi hk=>by simp only[φr,hi,bF];exact hk) tot' hx
  have rel_g:∀x v,cM φr (tot E φ' F) w' x v->cM φ' (tot E φ' F) w' (x.ren (Hz g)) v:=λx v hr=>
   hr.renTo λn k hk=>by
    simp only[φr]at hk;split at hk
    .rename_i hpn;obtain⟨i,hi,rfl⟩:=Zt hpn;rw[xp,φ'_g i hi];exact hk
    .cases hk
  have hnqJ:=hnq;refine ⟨v,φ',rfl,mv,λn k hk=>?_,?_,?_⟩
  .by_cases hn:n∈NN
   .exact .inr hn
   .rw[φ'_old n hn]at hk;exact .inl hk
  .refine ⟨λn n' b b' k h1 L h4 h5=>?_,λn b h1=>?_,λk hk=>dB (hrep.el k hk) mv.ext.size,λg' cells hg=>mv.keepF (hrep.gl g' cells hg)⟩
   .rcases from_ n b h1 with ⟨i,bq,yb,hi,rfl,s,U,_⟩|⟨s,U,q3,_,q5⟩
    .rw[φ'_g i hi]at h4;have hqi:bt hq (nm i)=M yb:=by rw[bE,s];exact U
     rcases from_ n' b' L with ⟨j,bj,yj,hj,rfl,t1,t2,_⟩|⟨t1,t2,t3,_,t5⟩
     .rw[φ'_g j hj]at h5;have:=rp.inj _ _ _ _ k hqi (by rw[bE,t1];exact t2) h4 h5;rw[kY this]
     .exfalso;obtain⟨k',p1,p2,_⟩:=rp.at_ _ _ hqi;rw[h4]at p1;cases p1;exact p2 (.inr ⟨n',b',t2,t3,by rw[<- t5];exact h5⟩)
    .rcases from_ n' b' L with ⟨j,bj,yj,hj,rfl,t1,t2,_⟩|⟨t1,t2,t3,_,t5⟩
     .exfalso;rw[φ'_g j hj]at h5;have hqj:bt hq (nm j)=M yj:=by rw[bE,t1];exact t2
      obtain⟨k',p1,p2,_⟩:=rp.at_ _ _ hqj;rw[h5]at p1;cases p1;exact p2 (.inr ⟨n,b,U,q3,by rw[<- q5];exact h4⟩)
     .exact hrep.inj n n' b b' k s t1 (by rw[<- q5];exact h4) (by rw[<- t5];exact h5)
   .rcases from_ n b h1 with ⟨i,bq,yb,hi,rfl,s,U,rfl⟩|⟨s,U,q3,_,q5⟩
    .have hqi:bt hq (nm i)=M yb:=by rw[bE,s];exact U
     obtain⟨k,p1,p2,ob,p3,p4⟩:=rp.at_ _ _ hqi;have hall:=H.blk_all s U;rw[hnq]at hall;exact⟨k,by rw[φ'_g i hi];exact p1,λhE=>p2 (.inl hE),ob,p3,(p4.restrict rel_r hall).renTo rel_g⟩
    .obtain⟨k,p1,p2,ob,p3,p4⟩:=hrep.at_ n b s;have hk:k<w.heap.size:=(cA.1 p3).1;refine ⟨k,hsub n k p1,p2,ob,?_,p4.mono λx v hr=>mv.keep hr⟩;rw[hext.blk k hk ?_]
     .exact p3
     .rintro⟨n',y',t1,t2⟩;obtain⟨i,hi,rfl,t3⟩:=wU t2;obtain⟨j,bb,e,t4,t5⟩:=jB t1;have:=kY e;subst this;have hi':i<np:=by rw[<- hnp];exact hi
      have hvi:Hv (nm (il σ i))=M (y'.ren (Hz (il σ))):=by
       rw[Hv_in _ (lz _ ((memS _).2 ⟨i,hi',rfl⟩)),bE,hv_at i bb ((B.at_ i bb).1 t4)];exact C1 rows_hp t5
      have:=hrepv.inj _ _ _ _ k hvi U t3 p1;exact q3 (by rw[<- this];exact (memS _).2 ⟨i,hi',rfl⟩)
  .have hall:(DZ lr).all (VZ nq)=J:=Y' (by have:=rT rs lr H.lt hlr;rwa [hnq]at this);show cM φ' (tot E φ' F) w' (DZ (AV.renL (Hz g) lr)) v;rw[Y_];exact rel_g _ _ (rel_r _ _ hall rv')
 have hrsg:cJ h2 (kM g rs)=M (AV.renL (Hz g) lr):=o6 rows_hq rs lr hlr;refine ⟨⟨_,hOpT,λz Z=>?_,?_,λn hn=>?_,λn hn=>?_,λn hn=>?_⟩,rows2,inv2,by omega,λhs=>by cases hs⟩
 .rw[VV hrsg]at Z;cases Z;rfl
 .funext n;unfold eV;split
  .rfl
  .rename_i hn;refine (kz hinv rows2 λi e=>?_).symm;subst e;rw[h2_ne i (λk hk e=>hn ((memW _).2 (.inl ⟨k,hk,by rw[e]⟩))),jb,ay];intro hb;exact hn ((memW _).2 (.inr (lV.2 hb)))
 .rw[bp];rcases bQ.1 hn with hs|hs
  .obtain⟨i,hi,rfl⟩:=(memS n).1 hs;rw[dS,(sig _).2 ⟨i,hi,rfl⟩];rfl
  .obtain⟨i,rfl,hi⟩:=nV.1 hs;rw[dS,hi];simp
 .rw[bp,bp];rcases bQ.1 hn with hs|hs
  .rcases bQ.1 hs with hs|hs
   .obtain⟨i,hi,rfl⟩:=(memS n).1 hs;rw[dS,(sig _).2 ⟨i,hi,rfl⟩];rfl
   .obtain⟨i,rfl,hi⟩:=nV.1 hs;rw[dS,hi];simp
  .obtain⟨t,ht,rfl⟩:=(memN n).1 hs;rw[dS,adb.2 ⟨by omega,by omega⟩];simp
 .obtain⟨t,ht,rfl⟩:=(memN n).1 hn;rw[dS];omega
mutual
def FV.fl:FV->Bool
 |.raw _=>J
 |.agg l=>FV.flL l
 |.sl _ _=>af
 |.ptr _ _=>af
def FV.flL:Y FV->Bool
 |[]=>J
 |x::r=>x.fl&&FV.flL r
end
theorem Wp:∀{l:Y FV},FV.flL l=J->∀x∈l,x.fl=J
 |[],_,x,a=>by cases a
 |y::l,h,x,a=>by
  simp only[FV.flL,al]at h;rcases bh.1 a with rfl|a
  .exact h.1
  .exact Wp h.2 x a
theorem aa7:∀{l:Y FV},(∀x∈l,x.fl=J)->FV.flL l=J
 |[],_=>rfl
 |y::l,h=>by simp only[FV.flL,al];exact⟨h y (by simp),aa7 λx a=>h x (by simp[a])⟩
theorem nH.flat {O O':Nat->Prop} {w w':World} {x:FV} {v:Value} (h:nH O w x v):x.fl=J->nH O' w' x v:=by
 induction h with
 |raw v=>intro _;exact .raw v
 |nil a c hc=>intro h;cases h
 |sl cells n c b off us hn hc hO hb hcl hu hr q=>intro h;cases h
 |ptr cells o b off us hO hb hcl hu hr q=>intro h;cases h
 |agg cells vs hl hcl hr q=>intro h;exact .agg cells vs hl hcl λj x v s hv=>q j x v s hv (Wp h x (aZ s))
mutual
def AV.fl:AV->Bool
 |.f x=>x.fl
 |.emp=>J
 |.anyb=>J
 |.agg l=>AV.flL l
 |.tup l=>AV.flL l
 |.ptr _ _=>af
 |.sl _ _ _=>af
 |.row _ _ _=>af
 |.mp _=>af
 |.clo _ _=>af
def AV.flL:Y AV->Bool
 |[]=>J
 |x::r=>x.fl&&AV.flL r
end
theorem Kp:∀{l:Y AV},AV.flL l=J->∀x∈l,x.fl=J
 |[],_,x,a=>by cases a
 |y::l,h,x,a=>by
  simp only[AV.flL,al]at h;rcases bh.1 a with rfl|a
  .exact h.1
  .exact Kp h.2 x a
theorem WU:∀{l:Y AV},(∀x∈l,x.fl=J)->AV.flL l=J
 |[],_=>rfl
 |y::l,h=>by simp only[AV.flL,al];exact⟨h y (by simp),WU λx a=>h x (by simp[a])⟩
theorem cM.flat {φ φ':PM} {O O':Nat->Prop} {w w':World} {x:AV} {v:Value} (h:cM φ O w x v):x.fl=J->cM φ' O' w' x v:=by
 induction h with
 |f h=>intro hf;exact .f (h.flat hf)
 |ptr h=>intro hf;cases hf
 |sl h hn hc=>intro hf;cases hf
 |row h hn hc hsh=>intro hf;cases hf
 |emp=>intro _;exact .emp
 |anyb=>intro _;exact .anyb
 |mp h=>intro hf;cases hf
 |agg hl hcl hr c=>intro hf;exact .agg hl hcl λj x v a hv=>c j x v a hv (Kp hf x (aZ a))
 |tup hl hr c=>intro hf;exact .tup hl λj x v a hv=>c j x v a hv (Kp hf x (aZ a))
 |clo hl hr c=>intro hf;cases hf
mutual
theorem ahr (γ:Nat->Nat):∀x:AV,x.fl=J->x.ren γ=x
 |.f x,_=>rfl
 |.emp,_=>rfl
 |.anyb,_=>rfl
 |.agg l,h=>by simp only[AV.ren];rw[HB γ l h]
 |.tup l,h=>by simp only[AV.ren];rw[HB γ l h]
 |.ptr _ _,h=>by cases h
 |.sl _ _ _,h=>by cases h
 |.row _ _ _,h=>by cases h
 |.mp _,h=>by cases h
 |.clo _ _,h=>by cases h
theorem HB (γ:Nat->Nat):∀l:Y AV,AV.flL l=J->AV.renL γ l=l
 |[],_=>rfl
 |x::r,h=>by
  simp only[AV.flL,al]at h;rw[AV.renL,ahr γ x h.1,HB γ r h.2]
end
theorem z_:∀(T:Ty),T.flat=J->∀x:T.den,∀y∈bS T x,y.fl=J
 |.int _,_,x,y,c=>by simp only[bS,aJ]at c;subst c;rfl
 |.bool,_,x,y,c=>by simp only[bS,aJ]at c;subst c;rfl
 |.str,_,x,y,c=>by simp only[bS,aJ]at c;subst c;rfl
 |.sl _,h,x,y,c=>by cases h
 |.st t,h,x,y,c=>z_ t h x y c
 |.pr a b,h,x,y,c=>by
  simp only[Ty.flat,al]at h;simp only[bS,bQ]at c;exact c.elim (z_ a h.1 x.1 y) (z_ b h.2 x.2 y)
 |.un,_,x,y,c=>by simp[bS]at c
 |.ex,h,_,_,_=>by cases h
 |.sm,h,_,_,_=>by cases h
theorem ae2 (T:Ty) (h:T.flat=J) (x:T.den):(gB T x).fl=J:=by
 cases a:T.one with
 |true=>
  have:=z_ T h x (gB T x) (by rw[(C4 T x a).1];simp);exact this
 |false=>rw[qD T x a];exact aa7 (z_ T h x)
theorem Py (a b:Ty):(spr a b).flat=(a.flat&&b.flat):=by
 cases a<;>cases b<;>simp[spr,Gw,Ty.flat]
theorem Is {n:Nat}:∀{a b:Y TV},rB n (a++b)=J->rB n a=J/\rB n b=J
 |[],b,h=>⟨rfl,h⟩
 |x::r,b,h=>by
  simp only[gx,rB,al]at h ⊢;obtain⟨h1,h2⟩:=Is h.2;exact⟨⟨h.1,h1⟩,h2⟩
mutual
theorem ad2 {g:Nat->Nat} {h:bg}:∀(p:PV) (x:p.ty.den) (cs:Y TV) (l:Y AV),p.ty.flat=J->pV g p x=M cs->rB 0 cs=J->cJ h cs=M l->∀y∈l,y.fl=J
 |.d T,x,cs,l,hf,hp,_,hl,y,hy=>by
  have:=(l9 h 40 T x cs hp).1;rw[hl]at this;cases this;obtain⟨q,hq,rfl⟩:=db.1 hy;exact z_ T hf x q hq
 |.ptr i q,x,cs,l,hf,hp,hlt,hl,y,hy=>by
  simp only[pV,ah]at hp;subst hp;simp[rB,K5]at hlt
 |.csl i q z,x,cs,l,hf,hp,hlt,hl,y,hy=>by
  simp only[pV,ah]at hp;subst hp;simp[rB,K5]at hlt
 |.clo q i z,x,cs,l,hf,hp,hlt,hl,y,hy=>by
  simp only[pV,ah]at hp;subst hp;simp[rB,K5]at hlt
 |.row i,x,cs,l,hf,hp,hlt,hl,y,hy=>by
  simp only[pV,ah]at hp;subst hp;simp[rB,K5]at hlt
 |.mp i,x,cs,l,hf,hp,hlt,hl,y,hy=>by
  simp only[pV,ah]at hp;subst hp;simp[rB,K5]at hlt
 |.nil,x,cs,l,hf,hp,hlt,hl,y,hy=>by
  simp only[pV,ah]at hp;subst hp;simp only[cJ,ci,ah]at hl;subst hl;simp only[aJ]at hy;subst hy;rfl
 |.emp,x,cs,l,hf,hp,hlt,hl,y,hy=>by
  simp only[pV,ah]at hp;subst hp;simp only[cJ,ci,ah]at hl;subst hl;simp only[aJ]at hy;subst hy;rfl
 |.agg ps,x,cs,l,hf,hp,hlt,hl,y,hy=>H9 ps x cs l hf hp hlt hl y hy
theorem H9 {g:Nat->Nat} {h:bg}:∀(ps:Y PV) (x:(PV.tyL ps).den) (cs:Y TV) (l:Y AV),(PV.tyL ps).flat=J->qS g ps x=M cs->rB 0 cs=J->cJ h cs=M l->∀y∈l,y.fl=J
 |[],x,cs,l,hf,hp,hlt,hl,y,hy=>by
  simp only[qS,ah]at hp;subst hp;simp only[cJ,ah]at hl;subst hl;cases hy
 |p::ps,x,cs,l,hf,hp,hlt,hl,y,hy=>by
  simp only[PV.tyL]at hf;rw[Py,al]at hf;simp only[qS]at hp;split at hp
  .rename_i a ha;split at hp
   .rename_i b hb;simp only[ah]at hp;subst hp;obtain⟨a',b',rfl,e1,e2⟩:=BS hl;have hsp:=Is hlt;rcases bQ.1 hy with hy|hy
    .exact ad2 p _ a a' hf.1 ha hsp.1 e1 y hy
    .exact H9 ps _ b b' hf.2 hb hsp.2 e2 y hy
   .cases hp
  .cases hp
end
theorem ad0 {g:Nat->Nat} {h:bg} {p:PV} {x:p.ty.den} {u:TV} {y:AV} (hf:p.ty.flat=J) (hp:tf g p x=M u) (hlt:K5 0 u=J) (a:ci h u=M y):y.fl=J:=by
 cases p with
 |d T=>
  simp only[tf,ah]at hp;subst hp;simp only[ci,ah]at a;subst a;exact ae2 T hf x
 |agg ps=>
  simp only[tf]at hp;split at hp
  .rename_i l hl;simp only[ah]at hp;subst hp;simp only[ci]at a;split at a
   .rename_i s c;simp only[ah]at a;subst a;exact WU (H9 ps _ l s hf hl hlt c)
   .cases a
  .cases hp
 |ptr i q=>simp only[tf,ah]at hp;subst hp;simp[K5]at hlt
 |csl i q z=>simp only[tf,ah]at hp;subst hp;simp[K5]at hlt
 |row i=>simp only[tf,ah]at hp;subst hp;simp[K5]at hlt
 |clo q i z=>simp only[tf,ah]at hp;subst hp;simp[K5,rB]at hlt
 |mp i=>simp only[tf,ah]at hp;subst hp;simp[K5]at hlt
 |nil=>simp only[tf,ah]at hp;subst hp;simp only[ci,ah]at a;subst a;rfl
 |emp=>simp only[tf,ah]at hp;subst hp;simp only[ci,ah]at a;subst a;rfl
theorem PU {g:Nat->Nat} {h:bg}:∀(ps:Y PV) (x:(PV.tyL ps).den) (us:Y TV) (l:Y AV),(PV.tyL ps).flat=J->qa g ps x=M us->rB 0 us=J->cJ h us=M l->AV.flL l=J
 |[],x,us,l,hf,hp,hlt,hl=>by
  simp only[qa,ah]at hp;subst hp;simp only[cJ,ah]at hl;subst hl;rfl
 |p::ps,x,us,l,hf,hp,hlt,hl=>by
  simp only[PV.tyL]at hf;rw[Py,al]at hf;simp only[qa]at hp;split at hp
  .rename_i a c;split at hp
   .rename_i b hb;simp only[ah]at hp;subst hp;obtain⟨y,l2,rfl,e1,e2⟩:=cY hl;simp only[rB,al]at hlt;simp only[AV.flL,al];exact⟨ad0 hf.1 c hlt.1 e1,PU ps _ b l2 hf.2 hb hlt.2 e2⟩
   .cases hp
  .cases hp
theorem acp:∀{l:Y AV},AV.flL l=J->(DZ l).fl=J
 |[],_=>rfl
 |[x],h=>by simp only[AV.flL,al]at h;exact h.1
 |x::y::r,h=>h
theorem aeg {P:Program} {o:Oper} {e:iT} {h:bg} {nx:Nat} {f:FuncId} {c:cq} {l:Y TV} (hinv:ml h nx) (sp:pR P f c) {x:c.pre.ty.den} {m:Nat} {σ:PT Nat} {sm:Nat} (B:HL 0 c.pre l h x m σ sm) {vs:Y TV} {hp:bg} {l1:Y (I io)} (A:qK c.pre x vs hp l1) {y:c.post.ty.den} (hm:c.m x=M y) {rs:Y TV} {hq:bg} {l2:Y (I io)} (H:qK c.post y rs hq l2) (hp0:c.pre.bs.length=0) (hq0:c.post.bs.length=0) (hfl:(PV.tyL c.post.vs).flat=J)
 (g:Nat->Nat) {la:Y AV} (hla:cJ h l=M la)
 (hexec:∀(φ:PM) (E:Nat->Prop) (h':HF) (w:World) (a:Act),(∀t,.tmp t∈o.op.operands->∀y,fO e h t=M y->cM φ (tot E φ h') w y (a.tmps.getD t undef))->qX φ E h' w->∃us:ξ,(execOp a.eval o).run P w= .ok (.enter f us.toArray) w/\ka φ (tot E φ h') w la us):
 iS P o af e h nx (PN (kM g rs)) m 0 h nx:=by
 obtain⟨Z,m1,x2,m2,hx,hmm,gv,gb⟩:=B.ex;have hmr:dQ h m:=by rw[hmm];exact (Hw _ _ _ _ gv).or (Hy _ _ _ _ gb)
 have pvg:qa (il σ) c.pre.vs Z=M (kM (il σ) vs):=by
  have q:=tK (il σ) c.pre.vs Z;have h4:=A.pv;rw[hx,tD]at h4;rw[q,h4];rfl
 obtain⟨lr,hlr⟩:=fd hq rs H.ok;obtain⟨U,hlp⟩:=fd hp vs A.ok;have hfl':AV.flL lr=J:=PU c.post.vs _ rs lr hfl H.pv (by rw[<- hq0];exact H.lt) hlr;have hpe:∀i,hp.get i=D:=λi=>by
  cases hb:hp.get i with
  |none=>rfl
  |some b=>have:=A.lt_len hb;omega
 have hqe:∀i,hq.get i=D:=λi=>by
  cases hb:hq.get i with
  |none=>rfl
  |some b=>have:=H.lt_len hb;omega
 have rows_hp:∀i r,eH hp i=M r->eH (eA m h) (il σ i)=M r:=λi r hr=>by rw[bR,hpe]at hr;cases hr
 have rows_hq:∀i r,eH hq i=M r->eH h (g i)=M r:=λi r hr=>by rw[bR,hqe]at hr;cases hr
 have rows_in:xF (eA m h) h:=λj r hr=>by
  rw[bR]at hr ⊢;rw[jb]at hr;split at hr
  .rename_i ht;obtain⟨ty,p,T,xs,hb⟩:=hmr j ht;rw[hb]at hr ⊢;exact hr
  .exact hr
 have hOpT:gM P o (fO e h) (bt h) ⟨DZ lr,Ft m,[],λ_=>D,[]⟩:=by
  intro φ E h' w a hrd hwr hops hrep hN;obtain⟨us,hrun,hrel⟩:=hexec φ E h' w a hops hrep
  let Hv:HF:=λn=>if n∈Ft m then D else h' n
  have Hv_in:∀n,n∈Ft m->Hv n=D:=λn hn=>by simp only[Hv,hn,bF]
  have Hv_out:∀n,n∉Ft m->Hv n=h' n:=λn hn=>by simp only[Hv,hn,dT]
  have hd:uJ h' Hv:=λn b hb=>by
   by_cases hn:n∈Ft m
   .rw[Hv_in n hn]at hb;cases hb
   .rw[Hv_out n hn]at hb;exact⟨b,hb⟩
  have gvv:DW h h' Hv m:=λi hi=>⟨hrd _ (lV.2 hi),Hv_in _ (lV.2 hi)⟩
  have V:G' h' Hv:=⟨hd,λn b b' hb s=>by
   by_cases hn:n∈Ft m
   .rw[Hv_in n hn]at s;cases s
   .rw[Hv_out n hn,hb]at s;cases s;exact iJ.refl hd b⟩
  have hrepv:=V.rep hrep;have hlpg:cJ (eA m h) (kM (il σ) vs)=M (AV.renL (Hz (il σ)) U):=o6 rows_hp vs U hlp;have hrel1:ka φ (tot E φ Hv) w (AV.renL (Hz (il σ)) U) us:=
   ka.le hrep (CV hd rows_in c.pre.vs l Z m1 _ la _ gv pvg hla hlpg (λi hi=>gvv i (by rw[hmm,bp,hi];rfl))) hrel
  let E':Nat->Prop:=λk=>E k\/∃n b,Hv n=M b/\φ n=M k
  have T:aew c.pre x vs hp (il σ) φ E E' Hv w:=by
   refine qX.toId A (λa b ha=>by omega) hrepv (λi b yb hb=>by rw[hpe]at hb;cases hb) ?_ (λi k b hi=>by omega) ?_
   .rintro k (hE|⟨n,b,h1,q⟩)
    .exact .inl hE
    .exact .inr ⟨n,b,h1,q⟩
   .rintro k (hE|⟨n,b,h1,q⟩)
    .exact hrepv.el k hE
    .obtain⟨k',L,_,ob,q3,_⟩:=hrepv.at_ n b h1;rw[q]at L;cases L;exact (cA.1 q3).1
  have hcalls:=sp.calls x y hm vs hp l1 rs hq l2 U lr A H hlp hlr (φ1 c.pre.bs.length (il σ) φ) E' w us T.rep (ka.toId T.val (rT vs U A.lt hlp) hrel1) (λn k hk=>by
   obtain⟨i,hi,rfl,_⟩:=wU hk;rw[dS];exact hi)
  unfold Hh;rw[hrun];refine Calls.mono hcalls ?_;rintro en w' ⟨v,φc',rfl,hext,hown,hnm,rp,rv'⟩;have hno:∀k,¬own (φ1 c.pre.bs.length (il σ) φ) (bt hp) k:=by
   rintro k ⟨n,b,h1,_⟩;obtain⟨i,bb,_,q,_⟩:=jB h1;rw[hpe]at q;cases q
  have mv:je φ φ h' h' w w':=⟨λ_ _ h=>h,hext.mono λk hk=>ct hk (hno k),λ_ _ h=>h⟩
  refine ⟨v,φ,rfl,?_,λ_ _ h=>.inl h,?_,?_⟩
  .rw[tS];exact mv
  .rw[tS];refine hrep.moved mv λk hk=>?_
   obtain⟨n,b,h1,q⟩:=hk;obtain⟨k',L,_,ob,q3,_⟩:=hrep.at_ n b h1;rw[q]at L;cases L;exact hext.blk k (cA.1 q3).1 (hno k)
  .exact rv'.flat (acp hfl')
 have hrsg:cJ h (kM g rs)=M (AV.renL (Hz g) lr):=o6 rows_hq rs lr hlr;refine ⟨⟨_,hOpT,λz hz=>?_,?_,λn hn=>?_,by simp,by simp⟩,λ_ _ h=>h,hinv,bU _,λhs=>by cases hs⟩
 .rw[VV hrsg,HB _ lr hfl']at hz;cases hz;rfl
 .exact tS _ _
 .obtain⟨i,rfl,hi⟩:=nV.1 hn;rw[dS];exact hi
def cq.full (c:cq):cq:=⟨c.pre,⟨c.post.vs,c.pre.bs⟩,λx=>av (c.m x) λy=>M (TN (PV.tyL c.post.vs) (PB.tyL c.pre.bs) (Og _ _ y) (KQ _ _ x))⟩
def aH (P:Program) (f:FuncId) (c:cq):Prop:=if eO c.pre.bs.length c.post.bs.length=J then pR P f c else pR P f c.full
theorem pR.toC {P:Program} {f:FuncId} {c:cq} (h:pR P f c) (hb:eO c.pre.bs.length c.post.bs.length=J):aH P f c:=by
 unfold aH;rw[aC hb];exact h
theorem aH.holds {P:Program} {f:FuncId} {c:cq} (h:aH P f c) (hb:eO c.pre.bs.length c.post.bs.length=J):pR P f c:=by
 unfold aH at h;rw[aC hb]at h;exact h
theorem adf (a b:Ty) (z:(spr a b).den):TN a b (Og a b z) (KQ a b z)=z:=by cases a<;>cases b<;>rfl
open Classical in
def roM {pre:Tm} {vs:Y PV} (m:pre.ty.den->I (Tm.ty ⟨vs,pre.bs⟩).den) (x:pre.ty.den):I (Tm.ty ⟨vs,[]⟩).den:=
 av (m x) λy=>if KQ (PV.tyL vs) (PB.tyL pre.bs) y=KQ _ _ x then M (TN (PV.tyL vs) (PB.tyL []) (Og (PV.tyL vs) (PB.tyL pre.bs) y) ()) else D
theorem aH.ro {P:Program} {f:FuncId} {pre:Tm} {vs:Y PV} {m:pre.ty.den->I (Tm.ty ⟨vs,pre.bs⟩).den} {m':pre.ty.den->I (Tm.ty ⟨vs,[]⟩).den} (h:pR P f ⟨pre,⟨vs,pre.bs⟩,m⟩) (hb:eO pre.bs.length 0=af) (hs:∀x y,m' x=M y->roM m x=M y):aH P f ⟨pre,⟨vs,[]⟩,m'⟩:=by
 unfold aH;rw[ay (by show ¬eO pre.bs.length 0=J;rw[hb];exact Bool.false_ne_true)];refine ⟨h.callable,λx y hxy=>?_⟩;refine h.calls x y ?_;have hxy:av (m' x) (λy=>M (TN (PV.tyL vs) (PB.tyL pre.bs) (Og (PV.tyL vs) (PB.tyL []) y) (KQ _ _ x)))=M y:=hxy;obtain⟨z,s,hzy⟩:=dJ hxy;have h1:=hs x z s;unfold roM at h1;obtain⟨y0,c,h2⟩:=dJ h1;split at h2
 .rename_i heq;have h2:=j7 h2;have hzy:=j7 hzy;subst h2;have a:TN (PV.tyL vs) (PB.tyL pre.bs) (Og (PV.tyL vs) (PB.tyL pre.bs) y0) (KQ (PV.tyL pre.vs) (PB.tyL pre.bs) x)=y:=(gR (λq=>TN (PV.tyL vs) (PB.tyL pre.bs) q (KQ (PV.tyL pre.vs) (PB.tyL pre.bs) x)) (tD (PV.tyL vs) (PB.tyL []) _ ()).symm).trans hzy;rw[<- heq]at a;have:=(adf (PV.tyL vs) (PB.tyL pre.bs) y0).symm.trans a;exact c.trans (gR M this)
 .cases h2
theorem iS.drop {P:Program} {o:Oper} {e:iT} {h h':bg} {nx nx':Nat} {v:TV} {rd wr W wr':Nat} (t:iS P o af e h nx v rd wr h' nx') (hW:∀i,aM W i=J->bt h' (nm i)=bt h (nm i)/\aM rd i=J) (s:∀i,aM wr i=J->aM W i=J\/aM wr' i=J):iS P o af e h nx v rd wr' h' nx':=by
 obtain⟨⟨f,h1,h2,q,Z,U,L⟩,r,i,g,st⟩:=t;have hs:∀n,aM W (ow n)=J->bt h' n=bt h n:=λn hn=>by
  by_cases c:∃i,n=nm i
  .obtain⟨i,rfl⟩:=c;rw[dS]at hn;exact (hW i hn).1
  .rw[wu h c,wu h' c]
 have hup:∀H:HF,(∀n∈f.wr,H n=bt h n)->eV H (f.wr.filter λn=> !(aM W (ow n))) f.nw=eV H f.wr f.nw:=λH A=>by
  funext n;unfold eV;by_cases hn:n∈f.wr
  .by_cases hb:aM W (ow n)=J
   .rw[ay (by simp[hb]),aC hn];have:=congrFun q n;unfold eV at this;rw[aC hn,hs n hb]at this;rw[this,A n hn]
   .rw[aC (by simp[hn,hb]),aC hn]
  .rw[ay (by simp[hn]),ay hn]
 refine ⟨⟨⟨f.val,f.rd++(f.wr.filter λn=>aM W (ow n)),f.wr.filter λn=> !(aM W (ow n)),f.nw,f.N⟩,?_,h2,?_,λn hn=>?_,λn hn=>?_,L⟩,r,i,g,λhs=>by cases hs⟩
 .intro φ E H w a hrd hwr hops hrep z;have k1:∀i∈f.rd,H i=bt h i:=λi hi=>hrd i (lz _ hi)
  have k2:∀i∈f.wr,H i=bt h i:=λi hi=>by
   cases hb:aM W (ow i) with
   |true=>exact hrd i (nK _ (by simp[hi,hb]))
   |false=>exact hwr i (by simp[hi,hb])
  have:=h1 φ E H w a k1 k2 hops hrep z;simp only[hup H k2];exact this
 .simp only[hup (bt h) (λ_ _=>rfl)];exact q
 .rcases bQ.1 hn with hn|hn
  .exact Z n hn
  .simp only[Fj]at hn;exact (hW _ hn.2).2
 .simp only[Fj,eD]at hn;rcases s _ (U n hn.1) with hh|hh
  .rw[hn.2]at hh;cases hh
  .exact hh
mutual
theorem ZM {n n':Nat} (hle:n<=n'):∀(v:TV),K5 n v=J->K5 n' v=J
 |.row id,h=>by simp only[K5,Nat.blt_eq]at h ⊢;omega
 |.rtl id _,h=>by simp only[K5,Nat.blt_eq]at h ⊢;omega
 |.pel id _ _ _,h=>by simp only[K5,Nat.blt_eq]at h ⊢;omega
 |.ptr id _,h=>by simp only[K5,Nat.blt_eq]at h ⊢;omega
 |.csl id _ _,h=>by simp only[K5,Nat.blt_eq]at h ⊢;omega
 |.mp id,h=>by simp only[K5,Nat.blt_eq]at h ⊢;omega
 |.agg l,h=>v8 hle l h
 |.tup l,h=>v8 hle l h
 |.clo _ l,h=>v8 hle l h
 |.f _ _,_=>rfl
 |.fel _ _ _ _ _,_=>rfl
 |.emp,_=>rfl
 |.nil,_=>rfl
 |.undef,_=>rfl
 |.np,_=>rfl
 |.anyb,_=>rfl
theorem v8 {n n':Nat} (hle:n<=n'):∀(l:Y TV),rB n l=J->rB n' l=J
 |[],_=>rfl
 |x::r,h=>by
  simp only[rB,al]at h ⊢;exact⟨ZM hle x h.1,v8 hle r h.2⟩
end
theorem Mv {g g':Nat->Nat} {h:bg}:∀(bs:Y PB) (i:Nat) (x:(PB.tyL bs).den) (m:Nat),HJ bs=J->AD g h i bs=M (x,m)->∃l,oG g' bs x=M l/\l.length=bs.length/\∀j,j<bs.length->∃ty p T xs,l[j]? =M (M (.rows ty p T xs))/\h.get (g (i+j))=M (.rows ty p T xs)
 |[],i,x,m,_,hg=>⟨[],rfl,rfl,λj hj=>by simp at hj⟩
 |.rows ty p T::r,i,x,m,q,hg=>by
  simp only[AD]at hg;split at hg
  .rename_i A m1 h1;split at hg
   .rename_i s m2 h2;simp only[ah,aD]at hg;obtain⟨rfl,rfl⟩:=hg;obtain⟨l,q1,Z,q3⟩:=Mv (g:=g) (g':=g') (h:=h) r (i+1) s m2 q h2;simp only[EE]at h1;split at h1
    .rename_i ty' p' S xs hb;split at h1
     .rename_i hc;simp only[al,cU]at hc;obtain⟨rfl,rfl⟩:=hc;split at h1
      .rename_i z hz;simp only[ah]at h1;obtain⟨rfl,_⟩:=h1;obtain⟨es,ez⟩:=im hz;cases es;subst ez;refine ⟨M (.rows ty p T A)::l,?_,by simp[Z],λj hj=>?_⟩
       .simp only[oG];rw[tD,uO,q1];rfl
       .cases j with
        |zero=>exact⟨ty,p,T,_,rfl,hb⟩
        |succ j=>
         obtain⟨a,b,c,d,U,L⟩:=q3 j (by simpa using hj);exact⟨a,b,c,d,by simpa using U,by rw[show i+(j+1)=i+1+j from by omega];exact L⟩
      .cases h1
     .cases h1
    .cases h1
   .cases hg
  .cases hg
 |.rowsP _ _::r,i,x,m,q,hg=>by cases q
 |.cells _ _::r,i,x,m,q,hg=>by cases q
 |.mp _ _::r,i,x,m,q,hg=>by cases q
 |.gone::r,i,x,m,q,hg=>by cases q
theorem Fs:∀{bs:Y PB},HJ bs=J->Bx bs=J
 |[],_=>rfl
 |.rows _ _ _::r,h=>Fs (bs:=r) h
 |.rowsP _ _::r,h=>by cases h
 |.cells _ _::r,h=>by cases h
 |.mp _ _::r,h=>by cases h
 |.gone::r,h=>by cases h
theorem Fn {h h2:bg} {g:Nat->Nat}:∀(n:Nat),(∀i,i<n->h2.get (g i)=h.get (g i))->tU h h2 g n=J
 |0,_=>rfl
 |n+1,hs=>by
  simp only[tU,al];refine ⟨?_,Fn n λi hi=>hs i (by omega)⟩;have:eH h2 (g n)=eH h (g n):=by rw[bR,bR,hs n (by omega)]
  rw[this];cases eH h (g n) with
  |none=>rfl
  |some q=>obtain⟨p,s,k⟩:=q;simp
def KC (P:Program) (con:FuncId->I cq):Prop:=∀f c,con f=M c->aH P f c
theorem WH {R:Type} {P:Program} {con:FuncId->I cq} (hcon:KC P con) {o:Oper} {e:iT} {h:bg} {nx:Nat} {f:FuncId} {l:Y TV} {K:KO R} {r:R} (hinv:ml h nx) (hk:WJ con f l h nx K=M r) {la:Y AV} (hla:cJ h l=M la)
 (hexec:∀(φ:PM) (E:Nat->Prop) (h':HF) (w:World) (a:Act),DP P f->(∀t,.tmp t∈o.op.operands->∀y,fO e h t=M y->cM φ (tot E φ h') w y (a.tmps.getD t undef))->qX φ E h' w->∃us:ξ,(execOp a.eval o).run P w= .ok (.enter f us.toArray) w/\ka φ (tot E φ h') w la us):kV P o af e h nx K r:=by
 unfold WJ at hk;split at hk
 .rename_i c hc;have spc:=hcon f c hc;split at hk
  .rename_i x m σ sm hM;split at hk
   .rename_i q hq;obtain⟨vs,hp⟩:=q;obtain⟨l1,z⟩:=wa hq;obtain⟨y,hy,hk⟩:=dJ hk;split at hk
    .rename_i q2 hq2;obtain⟨rs1,U⟩:=q2;obtain⟨l2,A⟩:=wa hq2;split at hk
     .rename_i hcond;simp only[al]at hcond;have hle:=a8 hcond.1;have sp:=spc.holds hcond.1;simp only at hk;split at hk
      .rename_i rs hrs;have hrs':=hrs;rw[tK,A.pv]at hrs';simp only[ca,ah]at hrs';split at hk
       .rename_i hb;simp only[al]at hb;have Z:=ar hb.1.2;refine ⟨_,_,_,_,_,hk,?_⟩;rw[<- hrs'];exact aeg hinv sp (vY hM) z hy A (by omega) Z hb.2 _ hla λφ E h' w a=>hexec φ E h' w a sp.callable
       .split at hk
        .rename_i h2 s;obtain⟨hsr,hk⟩:=dZ hk;refine ⟨_,_,_,_,_,hk,?_⟩;rw[<- hrs'];unfold Md at s;rw[vP,A.pb]at s;simp only[ca,ah]at s;exact aar hinv sp (vY hM) z hcond.2 hy A hle (λi hi=>by
          have:gu i c.pre.bs.length=J:=bC hi;simp only[this,bF]) (λi hi=>by
          have:gu i c.pre.bs.length=af:=by
           cases hb:gu i c.pre.bs.length with
           |false=>rfl
           |true=>have:=a8 hb;omega
          simp only[this];rfl) s.symm hsr hla λφ E h' w a=>hexec φ E h' w a sp.callable
        .cases hk
      .cases hk
     .rename_i hcond;split at hk
      .rename_i hro;simp only[al]at hro;have Z:=ar hro.1;have hng:=Fs hro.2;have sp:pR P f c.full:=by
        unfold aH at spc
        rwa [ay (λhb=>hcond (by rw[hb,hng];rfl))]at spc
       simp only at hk;split at hk
       .rename_i rs hrs;split at hk
        .rename_i h2 s;have hrs':=hrs;rw[tK,A.pv]at hrs';simp only[ca,ah]at hrs';refine ⟨_,_,_,_,_,hk,?_⟩;rw[<- hrs'];have B:=vY hM;unfold Md at s;rw[vP,z.pb]at s;simp only[ca,ah]at s;have hqe:∀i,U.get i=D:=λi=>by
          cases hb:U.get i with
          |none=>rfl
          |some b=>have:=A.lt_len hb;omega
         have J':qK c.full.post (TN (PV.tyL c.post.vs) (PB.tyL c.pre.bs) (Og _ _ y) (KQ _ _ x)) rs1 hp l1:=
          ⟨by show qa Hu c.post.vs (Og (PV.tyL c.post.vs) (PB.tyL c.pre.bs) _)=_;rw[tD];exact A.pv,by show oG Hu c.pre.bs (KQ (PV.tyL c.post.vs) (PB.tyL c.pre.bs) _)=_;rw[uO];exact z.pb,z.len,z.at_,iZ (λi r hr=>by rw[bR,hqe]at hr;cases hr) _ A.ok,v8 (by omega) _ A.lt,z.cells⟩
         obtain⟨x1,m1,x2,m2,hx,hmm,gv,gb⟩:=B.ex;obtain⟨l,q1,q2,q3⟩:=Mv (g':=Hu) c.pre.bs 0 x2 m2 hro.2 gb;have hl1:l1=l:=by
          have:=z.pb;rw[hx,uO,q1]at this;cases this;rfl
         subst hl1;have hgi:∀i,i<c.pre.bs.length->(if gu i c.pre.bs.length then il σ i else nx+(i-c.pre.bs.length))=il σ i:=λi hi=>by
          have:gu i c.pre.bs.length=J:=bC hi;simp only[this,bF]
         have hsame:∀i,i<c.pre.bs.length->h2.get (il σ i)=h.get (il σ i):=λi hi=>by
          obtain⟨ty,p,T,xs,w1,L⟩:=q3 i hi;rw[bG]at L;have:=uS (λi=>if gu i c.pre.bs.length then il σ i else nx+(i-c.pre.bs.length)) (l1.map (ma (lP (λi=>if gu i c.pre.bs.length then il σ i else nx+(i-c.pre.bs.length))))) 0 (eA m h) (λa b ha hb e=>by
           simp only[bx,q2]at ha hb;rw[bG,bG,hgi a ha,hgi b hb]at e;exact B.inj a b ha hb e) i (M (.rows ty p T xs)) (by rw[ba,w1];rfl)
          rw[bG,hgi i hi]at this;rw[<- s,this,L]
         have t:=aar (o:=o) (e:=e) hinv sp B z hng (y:=TN (PV.tyL c.post.vs) (PB.tyL c.pre.bs) (Og _ _ y) (KQ _ _ x)) (by show av (c.m x) _=_;rw[hy];rfl) J' (bU _) (g:=λi=>if gu i c.pre.bs.length then il σ i else nx+(i-c.pre.bs.length)) hgi (λi hi=>by
          have:gu i c.pre.bs.length=af:=by
           cases hb:gu i c.pre.bs.length with
           |false=>rfl
           |true=>have:=a8 hb;have hi:c.pre.bs.length<=i:=hi;omega
          simp only[this];rfl) s.symm (Fn _ λi hi=>by rw[hgi i hi];exact hsame i hi) hla λφ E h' w a=>hexec φ E h' w a sp.callable
         have t':iS P o af e h nx (PN (kM (λi=>if gu i c.pre.bs.length then il σ i else nx+(i-c.pre.bs.length)) rs1)) (sm|||m) (sm|||m|||(((1<<<(c.pre.bs.length-c.pre.bs.length))-1)<<<nx)) h2 (nx+(c.pre.bs.length-c.pre.bs.length)):=t;rw[Nat.sub_self,cZ]at t';refine t'.drop (W:=sm) (λi hi=>?_) (λi hi=>?_)
         .refine ⟨?_,by rw[bp,hi];rfl⟩;obtain⟨k,hk,rfl⟩:=(B.sig i).1 hi;obtain⟨ty,p,T,xs,_,L⟩:=q3 k hk;rw[bG]at L;rw[bE,bE,hsame k hk,L];rfl
         .simp only[Nat.shiftLeft_zero,Nat.sub_self,Nat.zero_shiftLeft,Nat.or_zero,bp,iY]at hi;exact hi
        .cases hk
       .cases hk
      .cases hk
    .cases hk
   .cases hk
  .cases hk
 .cases hk
theorem aha {R:Type} {P:Program} {con:FuncId->I cq} (hcon:KC P con) {b_:TypeId->I Ty} {o:Oper} {e:iT} {h:bg} {nx:Nat} {i:SI} {K:KO R} {r:R} (hinv:ml h nx) (hi:tI e h) (hc:yf P o.op=i) (hk:dX con b_ i e h nx K=M r):kV P o i.still e h nx K r:=by
 have callOps:∀(c:Call),o.op= .call c->∀x,x∈c.operands->x∈o.op.operands:=λc A x L=>by rw[A];exact L
 cases i with
 |call f args=>
  simp only[dX]at hk;split at hk
  .rename_i l hl;have A:∃c:Call,o.op= .call c/\c.callee= .value (.func f)/\c.args.toList=args:=by
    unfold yf at hc;split at hc
    .rename_i i hi;subst hc;unfold OX at hi;split at hi
     .rename_i c A;split at hi
      .rename_i g hg;simp only[ah,SI.call.injEq]at hi;exact⟨c,A,by rw[hg,hi.1],hi.2⟩
      .simp at hi
      .cases hi
     .cases hi
    .split at hc<;>cases hc
   obtain⟨c,A,h1,h2⟩:=A;obtain⟨la,g1,g2⟩:=yH hi hl;refine WH hcon hinv hk g2 λφ E h' w a hcb hops hrep=>?_
   have hp:Vs φ E h' w a (Jg e h) o:=λx y L Z=>tF hrep (by rw[uY];exact hops) L Z
   refine ⟨args.map a.eval,?_,On hp args la (λx L=>callOps c A x (by simp[eU,h1,<-h2]at L ⊢;exact .inr L)) g1⟩;unfold execOp;rw[A];have hm:c.args.map a.eval=(args.map a.eval).toArray:=by rw[<- h2];apply KJ;simp
   simp[resolve,h1,Act.eval,Deferred.ofValue,invoke,hm,wX hcb]
  .cases hk
 |callv x args=>
  simp only[dX]at hk;split at hk
  .rename_i f cap l L hl;have A:∃c:Call,o.op= .call c/\c.callee= .value x/\c.args.toList=args:=by
    unfold yf at hc;split at hc
    .rename_i i hi;subst hc;unfold OX at hi;split at hi
     .rename_i c A;split at hi
      .simp at hi
      .rename_i g hg;simp only[ah,SI.callv.injEq]at hi;exact⟨c,A,by rw[hg,hi.1],hi.2⟩
      .cases hi
     .cases hi
    .split at hc<;>cases hc
   obtain⟨c,A,h1,h2⟩:=A;obtain⟨la,g1,g2⟩:=yH hi hl;obtain⟨yx,g3,U⟩:=bI hi L;simp only[ci]at U;split at U
   .rename_i lc hlc;simp only[ah]at U;subst U;refine WH hcon hinv hk (nE g2 hlc) λφ E h' w a hcb hops hrep=>?_
    have hp:Vs φ E h' w a (Jg e h) o:=λx y L Z=>tF hrep (by rw[uY];exact hops) L Z
    have hxv:=hp x _ (callOps c A x (by simp[eU,h1])) g3;have hlv:=On hp args la (λx L=>callOps c A x (by simp[eU,h1,<-h2]at L ⊢;exact .inr L)) g1;generalize hz:a.eval x=z at hxv;cases hxv with
    |@clo _ _ vs hvl hvr=>
     refine ⟨args.map a.eval++vs,?_,hlv.append (ka.of hvl hvr)⟩;unfold execOp;rw[A];have hm:c.args.map a.eval=(args.map a.eval).toArray:=by rw[<- h2];apply KJ;simp
     simp[resolve,h1,hz,Deferred.ofValue,invoke,hm,wX hcb]
   .cases U
  .cases hk
 |op s=>
  have hc:s= .bad\/dl P o.op=M s:=by
   unfold yf at hc;split at hc
   .rename_i i hi;subst hc;unfold OX at hi;split at hi
    .split at hi<;>simp at hi
    .cases hi
   .split at hc
    .rename_i q hq;simp only[SI.op.injEq]at hc;subst hc;exact .inr hq
    .simp only[SI.op.injEq]at hc;exact .inl hc.symm
  rcases hc with rfl|hc
  .simp[dX]at hk
  .exact K_op hinv hi hc hk
def gi (am:Nat) (e e':iT):Prop:=∀k,aM am k=af->∀a,e'.get k=M a->∃v,e.get k=M v/\(uf v=J->a=v)
theorem gi.refl (am:Nat) (e:iT):gi am e e:=λ_ _ a h=>⟨a,h,λ_=>rfl⟩
theorem gi.trans {am:Nat} {a b c:iT} (h1:gi am a b) (h2:gi am b c):gi am a c:=λk hk s hv=>by
 obtain⟨q,U,L⟩:=h2 k hk s hv;obtain⟨v,A,z⟩:=h1 k hk q U;refine ⟨v,A,λhf=>?_⟩;have:=z hf;subst this;exact L hf
theorem gi.mono {am am':Nat} {a b:iT} (h:gi am a b) (hm:∀k,aM am k=J->aM am' k=J):gi am' a b:=λk hk=>h k (by
 cases c:aM am k with
 |false=>rfl
 |true=>rw[hm k c]at hk;cases hk)
structure abe (P:Program) (ops:Array Oper) (rest:List Oper) (sl:List sF) (am:Nat) (s s':TS) (fs:List FPm) (l:List (Oper×Bh)):Prop where
 ops_:l.map (·.1)=rest
 chain:zK P ops l (fO s.e s.h) (bt s.h) (fO s'.e s'.h) (bt s'.h)
 fsl:fs.length=l.length
 sll:sl.length=l.length
 fp:∀(j:Nat) o f q,l[j]? =M (o,f)->fs[j]? =M q->(∀n∈f.rd,aM q.rd (ow n)=J)/\∀n∈f.wr,aM q.wr (ow n)=J
 still:∀(j:Nat) o f so,l[j]? =M (o,f)->sl[j]? =M so->so.op.still=J->f.rd=[]/\f.wr=[]
 names:∀(j:Nat) o f,l[j]? =M (o,f)->∀n∈f.N,s.nx<=ow n/\ow n<s'.nx
 apart_:∀(i j:Nat) oi fi oj fj,i<j->l[i]? =M (oi,fi)->l[j]? =M (oj,fj)->∀n∈fi.N,n∉fj.N
 grows:s.nx<=s'.nx
 invH:ml s'.h s'.nx
 invE:tI s'.e s'.h
 keeps:gi am s.e s'.e
theorem ad1 {e:iT} {h h':bg} (hi:tI e h) (hr:bZ h h') (d:I Nat) {v:TV} {y:AV} (hv:ci h' v=M y):Cp (fO e h) d y=fO (D9 e d v) h':=by
 funext t;have old:(e.get t).bind (ci h)=(e.get t).bind (ci h'):=by
  cases ht:e.get t with
  |none=>rfl
  |some x=>
   obtain⟨z,a⟩:=pa h x (hi t x ht);simp only[aF,a,gp hr x z a]
 cases d with
 |none=>simp only[Cp,D9,fO];rw[ay (by simp)];exact old
 |some d=>
  simp only[Cp,D9,fO,PT.get_set,ah];by_cases hd:d=t
  .subst hd;simp[hv]
  .rw[ay hd,ay (λe=>hd e.symm)];exact old
theorem tI.put {e:iT} {h h':bg} (hi:tI e h) (hr:bZ h h') (d:I Nat) {v:TV} (hv:K3 h' v=J):tI (D9 e d v) h':=λt x a=>by
 cases d with
 |none=>exact mU hr x (hi t x a)
 |some d=>
  simp only[D9,PT.get_set]at a;split at a
  .cases a;exact hv
  .exact mU hr x (hi t x a)
theorem Q5 {e:iT} {h:bg} {t:Nat} {v:TV} (ht:e.get t=M v):fO (e.set t (M v)) h=fO e h:=by
 funext k;simp only[fO,PT.get_set];by_cases hk:k=t
 .subst hk;simp[ht]
 .rw[ay hk]
theorem tI.set {e:iT} {h:bg} {t:Nat} {v:TV} (hi:tI e h) (ht:e.get t=M v):tI (e.set t (M v)) h:=λk x a=>by
 rw[PT.get_set]at a;split at a
 .rename_i hk;subst hk;cases a;exact hi _ _ ht
 .exact hi k x a
theorem Td {R:Type} {e:iT} {g:I (Nat×Bool)} {K:Bool->iT->I R} {r:R} (h:Y5 e g K=M r):
 (g=D/\K J e=M r)\/(∃t want b,g=M (t,want)/\e.get t=M (.f .bool b)/\K (b==want) (e.set t (M (.f .bool b)))=M r)\/∃t want,g=M (t,want)/\e.get t=M .undef/\K af e=M r:=by
 unfold Y5 at h;split at h
 .exact .inl ⟨rfl,h⟩
 .rename_i t want;split at h
  .rename_i b hb;refine .inr (.inl ⟨t,want,b,rfl,hb,?_⟩);cases want with
   |true=>rcases py h with ⟨rfl,h⟩|⟨rfl,h⟩<;>exact h
   |false=>rcases py h with ⟨rfl,h⟩|⟨rfl,h⟩<;>exact h
  .rename_i hb;exact .inr (.inr ⟨t,want,rfl,hb,h⟩)
  .cases h
theorem Ib {R:Type} {P:Program} {con:FuncId->I cq} (hcon:KC P con) {b_:TypeId->I Ty} {ops:Array Oper} {am:Nat} (ham:∀(j:Nat) (o:Oper) (d:Nat),ops[j]? =M o->o.dst=M d->aM am d=J):
 ∀(rest:Y Oper) (sl:Y sF) (s:TS) (fs:Y FPm) (K:TS->Y FPm->I R) (r:R),(∀o∈rest,∃j:Nat,ops[j]? =M o)->rZ P ops rest=M sl->KZ con b_ sl s fs K=M r->ml s.h s.nx->tI s.e s.h->∃s' fs' l,K s' (fs.reverse++fs')=M r/\abe P ops rest sl am s s' fs' l
 |[],sl,s,fs,K,r,hin,hc,hk,hH,z=>by
  simp only[rZ,ah]at hc;subst hc;simp only[KZ]at hk;exact⟨s,[],[],by simpa using hk,rfl,.nil _ _,rfl,rfl,by simp,by simp,by simp,by simp,bU _,hH,z,gi.refl _ _⟩
 |o::rest,sl,s,fs,K,r,hin,hc,hk,hH,z=>by
  simp only[rZ]at hc;split at hc
  .rename_i sl' hsl';have hso:∃g,sl=⟨o.dst,yf P o.op,g⟩::sl'/\((g=D/\o.guard=D)\/∃j want t,g=M (t,want)/\o.guard=M (j,want)/\(ops[j]?).bind (·.dst)=M t):=by
    split at hc
    .rename_i hg;simp only[ah]at hc;exact⟨D,hc.symm,.inl ⟨rfl,hg⟩⟩
    .rename_i j want hg;split at hc
     .rename_i t ht;simp only[ah]at hc;exact⟨M (t,want),hc.symm,.inr ⟨j,want,t,rfl,hg,ht⟩⟩
     .cases hc
   obtain⟨g,rfl,hg⟩:=hso;simp only[KZ]at hk;have hdst:∀d,o.dst=M d->aM am d=J:=λd hd=>by
    obtain⟨j,hj⟩:=hin o (c4 ..);exact ham j o d hj hd
   have hgs:∀t want,g=M (t,want)->aM am t=J:=λt want hgt=>by
    rcases hg with ⟨h1,_⟩|⟨j,want',t',h1,_,a⟩
    .rw[h1]at hgt;cases hgt
    .rw[h1]at hgt;cases hgt;cases hj:ops[j]? with
     |none=>rw[hj]at a;cases a
     |some oj=>rw[hj]at a;exact ham j oj t hj a
   have kput:∀(e:iT) (v:TV),gi am s.e e->gi am s.e (D9 e o.dst v):=λe v hke k hk v' hv=>by
    cases hd:o.dst with
    |none=>rw[hd]at hv;exact hke k hk v' hv
    |some d=>
     rw[hd]at hv;simp only[D9,PT.get_set]at hv;split at hv
     .rename_i e2;rw[e2,hdst d hd]at hk;cases hk
     .exact hke k hk v' hv
   have done:∀(f:Bh) (v:TV) (h':bg) (nx' rd wr:Nat) (e:iT),fO e s.h=fO s.e s.h->tI e s.h->gi am s.e e->Kq P ops o f (fO s.e s.h) (bt s.h)->(∃y,ci h' v=M y/\f.val=y)->eV (bt s.h) f.wr f.nw=bt h'->(∀n∈f.rd,aM rd (ow n)=J)->(∀n∈f.wr,aM wr (ow n)=J)->(∀n∈f.N,s.nx<=ow n/\ow n<nx')->bZ s.h h'->ml h' nx'->s.nx<=nx'->((yf P o.op).still=J->f.rd=[]/\f.wr=[])->
    KZ con b_ sl' ⟨D9 e o.dst v,h',nx'⟩ (⟨rd,wr⟩::fs) K=M r->∃s' fs' l,K s' (fs.reverse++fs')=M r/\abe P ops (o::rest) (⟨o.dst,yf P o.op,g⟩::sl') am s s' fs' l:=by
    intro f v h' nx' rd wr e hee hiE hke hst hval hheap hrd hwr hN hrows hinv' hgr hstill hrun;obtain⟨y,A,hy2⟩:=hval;obtain⟨s',fs',l,c,L⟩:=Ib hcon ham rest sl' _ _ K r (λo' ho'=>hin o' (cE _ ho')) hsl' hrun hinv' (hiE.put hrows o.dst (EL _ _ _ A));have hg2:nx'<=s'.nx:=L.grows;refine ⟨s',⟨rd,wr⟩::fs',(o,f)::l,by simpa using c,by simp[L.ops_],.cons hst ?_,by simp[L.fsl],by simp[L.sll],?_,?_,?_,?_,dv hgr hg2,L.invH,L.invE,(kput e v hke).trans L.keeps⟩
    .have e1:Cp (fO s.e s.h) o.dst f.val=fO (D9 e o.dst v) h':=by rw[<- hee,hy2];exact ad1 hiE hrows o.dst A
     rw[e1,hheap];exact L.chain
    .intro j o' f' q' h1 h2;cases j with
     |zero=>simp at h1 h2;obtain⟨rfl,rfl⟩:=h1;subst h2;exact⟨hrd,hwr⟩
     |succ j=>exact L.fp j o' f' q' (by simpa using h1) (by simpa using h2)
    .intro j o' f' so h1 h2 a;cases j with
     |zero=>simp at h1 h2;obtain⟨rfl,rfl⟩:=h1;subst h2;exact hstill a
     |succ j=>exact L.still j o' f' so (by simpa using h1) (by simpa using h2) a
    .intro j o' f' h1 n hn;cases j with
     |zero=>
      simp at h1;obtain⟨rfl,rfl⟩:=h1;have:=hN n hn;exact⟨this.1,by omega⟩
     |succ j=>
      have:=L.names j o' f' (by simpa using h1) n hn;exact⟨dv hgr this.1,this.2⟩
    .intro i j oi fi oj fj hij h1 h2 n hn U;cases j with
     |zero=>omega
     |succ j=>
      have hj:=L.names j oj fj (by simpa using h2) n U;cases i with
      |zero=>
       simp at h1;obtain⟨rfl,rfl⟩:=h1;have a:=(hN n hn).2;have Z:nx'<=ow n:=hj.1;omega
      |succ i=>exact L.apart_ i j oi fi oj fj (by omega) (by simpa using h1) (by simpa using h2) n hn U
   have runs:∀(e:iT),fO e s.h=fO s.e s.h->tI e s.h->gi am s.e e->(∀f,gM P o (fO s.e s.h) (bt s.h) f->Kq P ops o f (fO s.e s.h) (bt s.h))->dX con b_ (yf P o.op) e s.h s.nx (λv rd wr h nx=>if K3 h v then KZ con b_ sl' ⟨D9 e o.dst v,h,nx⟩ (⟨rd,wr⟩::fs) K else D)=M r->∃s' fs' l,K s' (fs.reverse++fs')=M r/\abe P ops (o::rest) (⟨o.dst,yf P o.op,g⟩::sl') am s s' fs' l:=by
    intro e hee hiE hke hstep hk;obtain⟨v,rd,wr,h',nx',c,T⟩:=aha hcon hH hiE rfl hk;simp only[]at c;split at c
    .rename_i hok;obtain⟨f,t1,t2,t3,t4,t5,t6⟩:=T.ex;rw[hee]at t1;obtain⟨y,hy⟩:=pa h' v hok;refine done f v h' nx' rd wr e hee hiE hke (hstep f t1) ⟨y,hy,t2 y hy⟩ t3 t4 t5 t6 T.rows T.inv T.grows (λhs=>?_) c;obtain⟨r0,w0⟩:=T.st hs;subst r0;subst w0;constructor
     .cases hl:f.rd with
      |nil=>rfl
      |cons n q=>have:=t4 n (by rw[hl];simp);simp at this
     .cases hl:f.wr with
      |nil=>rfl
      |cons n q=>have:=t5 n (by rw[hl];simp);simp at this
    .cases c
   have skips:∀(e:iT),fO e s.h=fO s.e s.h->tI e s.h->gi am s.e e->Kq P ops o rQ (fO s.e s.h) (bt s.h)->KZ con b_ sl' ⟨D9 e o.dst .undef,s.h,s.nx⟩ (⟨0,0⟩::fs) K=M r->∃s' fs' l,K s' (fs.reverse++fs')=M r/\abe P ops (o::rest) (⟨o.dst,yf P o.op,g⟩::sl') am s s' fs' l:=by
    intro e hee hiE hke hstep hk;exact done rQ .undef s.h s.nx 0 0 e hee hiE hke hstep ⟨_,rfl,rfl⟩ (by funext i;simp[eV,rQ]) (by simp[rQ]) (by simp[rQ]) (by simp[rQ]) (bZ.refl _) hH (bU _) (λ_=>⟨rfl,rfl⟩) hk
   rcases Td hk with ⟨h1,hk⟩|⟨t,want,b,h1,hb,hk⟩|⟨t,want,h1,hb,hk⟩
   .refine runs s.e rfl z (gi.refl _ _) (λf hf=>?_) hk;rcases hg with ⟨_,hg⟩|⟨j,want,t,h2,_,_⟩
    .exact .run hg hf
    .rw[h1]at h2;cases h2
   .rcases hg with ⟨h2,_⟩|⟨j,want',t',h2,a,Z⟩
    .rw[h1]at h2;cases h2
    .rw[h1]at h2;cases h2;have hgt:=hgs t want h1;have heb:fO s.e s.h t=M (.f (.raw (.bool b))):=by simp only[fO,hb,aF,ci];rfl
     have hke:gi am s.e (s.e.set t (M (.f .bool b))):=λk hk v' hv=>by
      rw[PT.get_set]at hv;split at hv
      .rename_i ek;rw[ek,hgt]at hk;cases hk
      .exact⟨v',hv,λ_=>rfl⟩
     cases hbw:(b==want) with
     |true=>
      rw[hbw]at hk;have:b=want:=by simpa using hbw
      subst this;exact runs _ (Q5 hb) (z.set hb) hke (λf hf=>.runG j t b a Z heb hf) hk
     |false=>
      rw[hbw]at hk;refine skips _ (Q5 hb) (z.set hb) hke (.skip j t want a Z (.bool b) heb ?_ rfl) hk;intro hv;cases hv;simp at hbw
   .rcases hg with ⟨h2,_⟩|⟨j,want',t',h2,a,Z⟩
    .rw[h1]at h2;cases h2
    .rw[h1]at h2;cases h2;exact skips _ rfl z (gi.refl _ _) (.skip j t want a Z undef (by simp only[fO,hb,aF,ci]) (by unfold undef;simp) rfl) hk
  .cases hc
theorem ada {P:Program} {ops:Array Oper} {sl:Y sF} {am:Nat} {s s':TS} {fs:Y FPm} {l:Y (Oper×Bh)} {prs:Y (Nat×Nat)} (hl:abe P ops ops.toList sl am s s' fs l) (hp:Me ops sl=M prs) (hok:Fp fs prs=J):NIP ops l:=by
 unfold Me at hp;simp only[]at hp;split at hp
 .rename_i hall;simp only[gy,nI,al]at hall;simp only[ah]at hp;have hop:∀(j:Nat) o f,l[j]? =M (o,f)->ops[j]? =M o:=λj o f hj=>by
   have h1:(l.map (·.1))[j]? =M o:=by rw[ba,hj];rfl
   rw[hl.ops_]at h1;simpa using h1
  have hsize:∀(j:Nat) o,ops[j]? =M o->j<ops.size:=λj o h=>(cA.1 h).1
  have hprs:∀i j,(i,j)∈prs->∃a b,fs[i]? =M a/\fs[j]? =M b/\Dn a.wr b.rd=J/\Dn a.wr b.wr=J/\Dn b.wr a.rd=J:=by
   clear hp hall;induction prs with
   |nil=>intro i j h;cases h
   |cons p prs ih=>
    obtain⟨i0,j0⟩:=p;simp only[Fp,al,Wn]at hok;intro i j hm;rcases bh.1 hm with h|h
    .cases h;have h1:=hok.1;split at h1
     .rename_i a b U hb;simp only[al]at h1;exact⟨a,b,U,hb,h1.1.1,h1.1.2,h1.2⟩
     .cases h1
    .exact ih hok.2 i j h
  refine ⟨λj o Z e he hb=>?_,λi j oi fi oj fj hij hi hj=>?_,hl.apart_⟩
  .have:=(hall j (hsize j o Z)).1;rw[Z]at this;simp only[Option.all_some,gy]at this;have:=this e (by simpa using he);simp[hb]at this;exact this
  .have h1:=hop i oi fi hi;have h2:=hop j oj fj hj;have hcase:=(hall j (hsize j oj h2)).2 i hij;rw[h1,h2]at hcase;simp only[iY]at hcase;by_cases z:aM ((Kh ops.toList []).getD j 0) i=J
   .left;rw[au]at z;cases c:(Kh ops.toList [])[j]? with
    |none=>rw[c]at z;simp at z
    |some B=>
     rw[c]at z;exact M1 (ops:=ops) ops.toList [] (λj o hj=>by simpa using hj) (λj B hj=>by simp at hj) j B c i (by simpa using z)
   .right;have hap:=hcase.resolve_left z;refine ⟨hap,?_⟩;have hil:i<l.length:=(bi.1 hi).1;have hjl:j<l.length:=(bi.1 hj).1;have hsi:=ax (show i<sl.length by rw[hl.sll];exact hil);have hsj:=ax (show j<sl.length by rw[hl.sll];exact hjl);by_cases hst:(sl[i]'(by rw[hl.sll];exact hil)).op.still=J
    .obtain⟨L,A⟩:=hl.still i oi fi _ hi hsi hst;rw[L,A];exact⟨(λx c=>by cases c),(λx _ c=>by cases c)⟩
    .by_cases hst2:(sl[j]'(by rw[hl.sll];exact hjl)).op.still=J
     .obtain⟨L,A⟩:=hl.still j oj fj _ hj hsj hst2;rw[L,A];exact⟨(λx c=>⟨(by simp),(by simp)⟩),(λx c=>by cases c)⟩
     .have hmem:(i,j)∈prs:=by
       rw[<- hp,uL];refine ⟨j,nI.2 (hsize j oj h2),?_⟩;rw[List.mem_filterMap];refine ⟨i,nI.2 hij,?_⟩;rw[ay];rw[hsi,hsj];simp only[iY,not_or];exact⟨z,hst,hst2⟩
      obtain⟨a,b,U,hb,d1,d2,d3⟩:=hprs i j hmem;obtain⟨f1,f2⟩:=hl.fp i oi fi a hi U;obtain⟨g1,g2⟩:=hl.fp j oj fj b hj hb;refine ⟨λx c=>⟨λq=>?_,λq=>?_⟩,λx c q=>?_⟩
      .have:=xz d1 (ow x) (f2 x c);rw[g1 x q]at this;cases this
      .have:=xz d2 (ow x) (f2 x c);rw[g2 x q]at this;cases this
      .have:=xz d3 (ow x) (g2 x c);rw[f1 x q]at this;cases this
 .cases hp
structure oR (P:Program) (E:Nat->Prop) (nt np:Nat) (φ:PM) (s:TS) (a:Act) (w:World):Prop where
 rep:qX φ E (bt s.h) w
 env:M8 φ (tot E φ (bt s.h)) w (fO s.e s.h) a
 dom:∀n k,φ n=M k->ow n<s.nx
 low:np<=s.nx
 invH:ml s.h s.nx
 invE:tI s.e s.h
 inert:∀d∈a.defers,abw P d
 size:a.tmps.size=nt
structure B1 (np:Nat) (φ φ':PM) (H H':HF) (w w':World):Prop where
 ext:HM (own φ H) w w'
 own_:∀k,k<w.heap.size->own φ' H' k->own φ H k
 par:∀i,i<np->φ' (nm i)=φ (nm i)
theorem B1.refl (np:Nat) (φ:PM) (H:HF) (w:World):B1 np φ φ H H w w:=⟨HM.refl _ _,λ_ _ h=>h,λ_ _=>rfl⟩
theorem B1.trans {np:Nat} {φ φ' φ'':PM} {H H' H'':HF} {w w' w'':World} (a:B1 np φ φ' H H' w w') (b:B1 np φ' φ'' H' H'' w' w''):B1 np φ φ'' H H'' w w'' where
 ext:=⟨b.ext.os.trans a.ext.os,b.ext.tape.trans a.ext.tape,b.ext.output.trans a.ext.output,dv a.ext.size b.ext.size,
  λk hk c=>(b.ext.blk k (dB hk a.ext.size) (λh=>c (a.own_ k hk h))).trans (a.ext.blk k hk c),
  λk hk=>(b.ext.shp k (dB hk a.ext.size)).trans (a.ext.shp k hk)⟩
 own_:=λk hk h=>a.own_ k hk (b.own_ k (dB hk a.ext.size) h)
 par:=λi hi=>(b.par i hi).trans (a.par i hi)
theorem Zo {R:Type} {P:Program} {E:Nat->Prop} {nt np:Nat} {φ:PM} {s:TS} {a:Act} {w:World} {con:FuncId->I cq} {b_:TypeId->I Ty} (hm:P.follows .mixedOrders=J) (hcon:KC P con) (c:oR P E nt np φ s a w) {id:Nat} {ops:Array Oper} {draw:Bool} {sl:Y sF} {prs:Y (Nat×Nat)} {am:Nat} (ham:∀(j:Nat) (o:Oper) (d:Nat),ops[j]? =M o->o.dst=M d->aM am d=J)
 (hd:(ops.toList.all λo=>match o.dst with|some d=>decide (d<nt)|none=>J)=J) (hc:rZ P ops ops.toList=M sl) (hp:Me ops sl=M prs) {K:TS->I R} {r:R} (hr:KZ con b_ sl s [] (λs' fs=>if Fp fs prs then K s' else D)=M r) {Q:Exit->Act->World->Prop}
 (hQ:∀a' w' s' φ',K s'=M r->oR P E nt np φ' s' a' w'->B1 np φ φ' (bt s.h) (bt s'.h) w w'->gi am s.e s'.e->Q .normal a' w'):(Code.region id ops draw).wp P Q a w:=by
 obtain⟨s',fs',l,z,L⟩:=Ib hcon ham ops.toList sl s [] _ r (λo U=>by
  obtain⟨j,hj⟩:=fc U;exact⟨j,by simpa using hj⟩) hc hr c.invH c.invE
 have z:(if Fp fs' prs then K s' else D)=M r:=z;by_cases hok:Fp fs' prs=J
 .rw[aC hok]at z;refine PP (φ0:=φ) (E:=E) hm L.ops_ L.chain (ada L hp hok) ?_ ?_ c.rep c.env ?_
  .intro n hn;obtain⟨p,q,hn⟩:=uL.1 hn;obtain⟨j,hj⟩:=fc q;have:=L.names j p.1 p.2 hj n hn;cases A:φ n with
   |none=>rfl
   |some k=>have:=c.dom n k A;omega
  .intro j o U d Z;have:=gy.1 hd o (by have:=Array.mem_of_getElem? U;simpa using this);rw[Z]at this;rw[c.size];simpa using this
  .rintro a' w' ⟨φ',m',d',r',en',df',sz'⟩;have hnm:∀n k,φ' n=M k->φ n=M k\/(s.nx<=ow n/\ow n<s'.nx):=λn k hik=>by
    rcases d' n k hik with h|h
    .exact .inl h
    .obtain⟨p,q,hn⟩:=uL.1 h;obtain⟨j,hj⟩:=fc q;exact .inr (L.names j p.1 p.2 hj n hn)
   have hg:=L.grows;have hlow:=c.low;refine hQ a' w' s' φ' z ⟨r',en',λn k hik=>?_,by omega,L.invH,L.invE,by rw[df'];exact c.inert,by rw[sz'];exact c.size⟩ ⟨m'.ext,m'.own_,λi hi=>?_⟩ L.keeps
   .rcases hnm n k hik with h|h
    .have:=c.dom n k h;omega
    .exact h.2
   .cases A:φ (nm i) with
    |some k=>exact m'.sub _ _ A
    |none=>
     cases hy:φ' (nm i) with
     |none=>rfl
     |some k=>
      rcases hnm (nm i) k hy with h|h
      .rw[A]at h;cases h
      .rw[dS]at h;omega
 .rw[ay hok]at z;cases z
end
end Go.Proofs.YtloaobgmjdjhhaaGreatDoor.AI
