/-
  Texts of the proof, part 3 of 6: what is used to prove the statement. No condition.
-/
import Derived.Test.YtpjhicegjenpeaaGreatDoorWeakMoreQ1
import Derived.Test.YtpjhicegjenpeaaGreatDoorProg
import Derived.KernelRfl
import Derived.Recover
namespace Go.Proofs.YtpjhicegjenpeaaGreatDoor.AI
open Go.RowKit
set_option maxRecDepth 100000
set_option maxHeartbeats 4000000
set_option linter.unusedVariables false
set_option linter.unusedSimpArgs false
set_option linter.defProp false
open Act renaming put→Sp
open _root_.Array renaming replicate→uH
open _root_.Bool renaming true→J,false→af
open _root_.Int renaming ofNat_eq_natCast→ay,toNat→aN,ofNat→aQ,reduceEq→bI,reduceNeg→ey,tmod→Df
open _root_.List renaming length→l!,length→aj,replicate→aC,length_singleton→cq,take→dx,range→eA,map→gM,cons_append→gR,getElem?_cons_zero→ie,length_cons→kn,nil_append→lq,getElem?_concat_length→n_,length_nil→pK,set→sI,take_succ_cons→yD,foldl_cons→Aq,getElem?_cons_succ→BT,map_nil→Dd
open _root_.Nat renaming beq→ax,testBit→aL,ble→dR,blt→eE,mod_eq_of_lt→xn,le_succ→Sm
open Oper renaming wp→LB
open _root_.Option renaming some→Z,none→U,bind_some→aF,map_some→bi,map→io,getD_some→sH
open _root_.Prod renaming a→bf,b→bw,c→bH,d→cE,e→c8,f→dJ,h→dQ,g→eD,n→hY,p→xm
open Region renaming wanted→jM
open Result renaming andThen_ok→cZ
open Sem renaming run_bind→fG,run_pure→xl
open _root_.Sum renaming inr→b7,inl→oU
noncomputable section
def fQ (am:Nat) (e e':ii):Prop:=∀k,aL am k=af->∀z,e'.get k=Z z->∃v,e.get k=Z v/\(wG v=J->z=v)
def fQ.refl (am:Nat) (e:ii):fQ am e e:=λ_ _ z h=>⟨z,h,λ_=>rfl⟩
variable {i:Nat}
def fQ.trans {a b c:ii} (h1:fQ i a b) (h2:fQ i b c):fQ i a c:=λk z D L=>by
 let⟨A,g1,g2⟩:=h2 k z D L;let⟨v,g3,g4⟩:=h1 k z A g1
 grind
variable {j:Nat}
def fQ.mono {a b:ii} (h:fQ i a b) (hm:∀k,aL i k=J->aL j k=J):fQ j a b:=λk z=>h k (by
 cases A:aL i k with
 |false=>rfl
 |true=>rw[hm k A]at z;cases z)
structure am6 (P:Program) (ops:Array Oper) (rest:List Oper) (sl:List uD) (am:Nat) (s s':TS) (fs:List FPm) (l:List (Oper×EJ)):Prop where
 ops_:l.map (·.1)=rest
 chain:Da P ops l (fR s.e s.h) (erHF s.h) (fR s'.e s'.h) (erHF s'.h)
 fsl:l! fs=l! l
 sll:l! sl=l! l
 fp:∀(j:Nat) o f q,l[j]? =Z (o,f)->fs[j]? =Z q->(∀n∈f.rd,aL q.rd (ow n)=J)/\∀n∈f.wr,aL q.wr (ow n)=J
 still:∀(j:Nat) o f so,l[j]? =Z (o,f)->sl[j]? =Z so->so.op.still=J->f.rd=[]/\f.wr=[]
 names:∀(j:Nat) o f,l[j]? =Z (o,f)->∀n∈f.N,s.nx<=ow n/\ow n<s'.nx
 xw:∀(i j:Nat) oi fi oj fj,i<j->l[i]? =Z (oi,fi)->l[j]? =Z (oj,fj)->∀n∈fi.N,n∉fj.N
 jd:s.nx<=s'.nx
 qz:hX s'.h s'.nx
 qm:sM s'.e s'.h
 keeps:fQ am s.e s'.e
variable {h:aY} {y:AV} {u:TV}
def anu {e:ii} {h':aY} (hi:sM e h) (D:bV h h') (d:M Nat) (L:bW h' u=Z y):PR (fR e h) d y=fR (Ie e d u) h':=by
 funext t;have old:(e.get t).bind (bW h)=(e.get t).bind (bW h'):=by
  cases ht:e.get t with
  |none=>rfl
  |some x=>
   let⟨z,A⟩:=pn h x (hi t x ht);simp[aF,A,fM D x z A]
 cases d with
 |none=>simp[PR,Ie,fR];exact old
 |some d=>
  simp[PR,Ie,fR,PT.get_set,ah]
  grind
def sM.put {e:ii} {h':aY} (hi:sM e h) (A:bV h h') (d:M Nat) (D:P0 h' u=J):sM (Ie e d u) h':=λt x z=>by
 cases d with
 |none=>exact nC A x (hi t x z)
 |some d=>
  simp[Ie,PT.get_set]at z;split at z
  .cases z;exact D
  .exact nC A x (hi t x z)
def WR {e:ii} (ht:e.get i=Z u):fR (e.set i (Z u)) h=fR e h:=by
 funext k;simp[fR,PT.get_set]
 grind
def sM.set {e:ii} (hi:sM e h) (ht:e.get i=Z u):sM (e.set i (Z u)) h:=λk x z=>by
 rw[PT.get_set]at z;split at z
 next A=>cases z;exact hi _ _ ht
 .exact hi k x z
variable {R:Type}
def YD {e:ii} {g:M (Nat×Bool)} {K:Bool->ii->M R} {r:R} (h:ahr e g K=Z r):
 (g=U/\K J e=Z r)\/(∃t want b,g=Z (t,want)/\e.get t=Z (.f .bool b)/\K (b==want) (e.set t (Z (.f .bool b)))=Z r)\/∃t want,g=Z (t,want)/\e.get t=Z .undef/\K af e=Z r:=by
 unfold ahr at h;split at h
 .exact .inl ⟨rfl,h⟩
 .rename_i t want;split at h
  .rename_i b z;refine .inr (.inl ⟨t,want,b,rfl,z,?_⟩);cases want with
   |_=>rcases lV h with ⟨rfl,h⟩|⟨rfl,h⟩<;>exact h
  .grind
  .cases h
variable {T:Program} {X:FuncId->M cw} {W:TypeId->M Ty} {B:Array Oper}
def My (hcon:HV T X) (ham:∀(j:Nat) (o:Oper) (d:Nat),B[j]? =Z o->o.dst=Z d->aL i d=J):
 ∀(rest:Y Oper) (sl:Y uD) (s:TS) (fs:Y FPm) (K:TS->Y FPm->M R) (r:R),(∀o∈rest,∃j:Nat,B[j]? =Z o)->tZ T B rest=Z sl->PW X W sl s fs K=Z r->hX s.h s.nx->sM s.e s.h->∃s' fs' l,K s' (fs.reverse++fs')=Z r/\am6 T B rest sl i s s' fs' l
 |[],sl,s,fs,K,r,hin,hc,z,hH,hE=>by
  simp only[tZ,ah]at hc;subst hc;simp only[PW]at z;exact⟨s,[],[],by simpa using z,rfl,.nil _ _,rfl,rfl,by simp,by simp,by simp,by simp,bK _,hH,hE,fQ.refl _ _⟩
 |o::rest,sl,s,fs,K,r,hin,hc,z,hH,hE=>by
  simp only[tZ]at hc;split at hc
  .rename_i sl' hsl';have hso:∃g,sl=⟨o.dst,xW T o.op,g⟩::sl'/\((g=U/\o.guard=U)\/∃j want t,g=Z (t,want)/\o.guard=Z (j,want)/\(B[j]?).bind (·.dst)=Z t):=by grind
   obtain⟨g,rfl,hg⟩:=hso;simp only[PW]at z;have hdst:∀d,o.dst=Z d->aL i d=J:=λd hd=>by
    let⟨j,hj⟩:=hin o (cX ..);exact ham j o d hj hd
   have hgs:∀t want,g=Z (t,want)->aL i t=J:=λt want hgt=>by grind
   have kput:∀(e:ii) (v:TV),fQ i s.e e->fQ i s.e (Ie e o.dst v):=λe v hke k z v' D=>by
    cases hd:o.dst with
    |none=>rw[hd]at D;exact hke k z v' D
    |some d=>
     rw[hd]at D;simp only[Ie,PT.get_set]at D;split at D
     next e2=>rw[e2,hdst d hd]at z;cases z
     .exact hke k z v' D
   have done:∀(f:EJ) (v:TV) (h':aY) (nx' rd wr:Nat) (e:ii),fR e s.h=fR s.e s.h->sM e s.h->fQ i s.e e->Pe T B o f (fR s.e s.h) (erHF s.h)->(∃y,bW h' v=Z y/\f.val=y)->fy (erHF s.h) f.wr f.nw=erHF h'->(∀n∈f.rd,aL rd (ow n)=J)->(∀n∈f.wr,aL wr (ow n)=J)->(∀n∈f.N,s.nx<=ow n/\ow n<nx')->bV s.h h'->hX h' nx'->s.nx<=nx'->((xW T o.op).still=J->f.rd=[]/\f.wr=[])->
    PW X W sl' ⟨Ie e o.dst v,h',nx'⟩ (⟨rd,wr⟩::fs) K=Z r->∃s' fs' l,K s' (fs.reverse++fs')=Z r/\am6 T B (o::rest) (⟨o.dst,xW T o.op,g⟩::sl') i s s' fs' l:=by
    intro f v h' nx' rd wr e hee hiE hke hst hval hheap hrd hwr hN hrows hinv' hgr hstill hrun;let⟨y,hy1,hy2⟩:=hval;let⟨s',fs',l,hK,L⟩:=My hcon ham rest sl' _ _ K r (λo' ho'=>hin o' (bS _ ho')) hsl' hrun hinv' (hiE.put hrows o.dst (IW _ _ _ hy1));have hg2:nx'<=s'.nx:=L.jd;refine ⟨s',⟨rd,wr⟩::fs',(o,f)::l,by simpa using hK,by simp[L.ops_],.cons hst ?_,by simp[L.fsl],by simp[L.sll],?_,?_,?_,?_,c9 hgr hg2,L.qz,L.qm,(kput e v hke).trans L.keeps⟩
    .have e1:PR (fR s.e s.h) o.dst f.val=fR (Ie e o.dst v) h':=by rw[<- hee,hy2];exact anu hiE hrows o.dst hy1
     rw[e1,hheap];exact L.chain
    .intro j o' f' q' h1 A;cases j with
     |zero=>simp at h1 A;obtain⟨rfl,rfl⟩:=h1;subst A;exact⟨hrd,hwr⟩
     |succ j=>exact L.fp j o' f' q' (by simpa using h1) (by simpa using A)
    .intro j o' f' so h1 A h3;cases j with
     |zero=>simp at h1 A;obtain⟨rfl,rfl⟩:=h1;subst A;exact hstill h3
     |succ j=>exact L.still j o' f' so (by simpa using h1) (by simpa using A) h3
    .intro j o' f' h1 n hn;cases j with
     |zero=>
      simp at h1;obtain⟨rfl,rfl⟩:=h1;have:=hN n hn;exact⟨this.1,by omega⟩
     |succ j=>
      have:=L.names j o' f' (by simpa using h1) n hn;exact⟨c9 hgr this.1,this.2⟩
    .intro am j oi fi oj fj hij h1 A n hn hn';cases j with
     |zero=>omega
     |succ j=>
      have hj:=L.names j oj fj (by simpa using A) n hn';cases am with
      |zero=>
       simp at h1;obtain⟨rfl,rfl⟩:=h1;have h3:=(hN n hn).2;have h4:nx'<=ow n:=hj.1;omega
      |succ am=>exact L.xw am j oi fi oj fj (by omega) (by simpa using h1) (by simpa using A) n hn hn'
   have runs:∀(e:ii),fR e s.h=fR s.e s.h->sM e s.h->fQ i s.e e->(∀f,gE T o (fR s.e s.h) (erHF s.h) f->Pe T B o f (fR s.e s.h) (erHF s.h))->opK X W (xW T o.op) e s.h s.nx (λv rd wr h nx=>if P0 h v then PW X W sl' ⟨Ie e o.dst v,h,nx⟩ (⟨rd,wr⟩::fs) K else U)=Z r->∃s' fs' l,K s' (fs.reverse++fs')=Z r/\am6 T B (o::rest) (⟨o.dst,xW T o.op,g⟩::sl') i s s' fs' l:=by
    intro e hee hiE hke hstep z;let⟨v,rd,wr,h',nx',hK,P⟩:=ax7 hcon hH hiE rfl z;simp only[]at hK;split at hK
    .rename_i hok;let⟨f,t1,t2,t3,t4,t5,t6⟩:=P.ex;rw[hee]at t1;let⟨y,hy⟩:=pn h' v hok;refine done f v h' nx' rd wr e hee hiE hke (hstep f t1) ⟨y,hy,t2 y hy⟩ t3 t4 t5 t6 P.H P.inv P.jd (λhs=>?_) hK;let⟨r0,w0⟩:=P.st hs;subst r0 w0;constructor
     .cases hl:f.rd with
      |nil=>rfl
      |cons n q=>have:=t4 n (by rw[hl];simp);simp at this
     .cases hl:f.wr with
      |nil=>rfl
      |cons n q=>have:=t5 n (by rw[hl];simp);simp at this
    .cases hK
   have skips:∀(e:ii),fR e s.h=fR s.e s.h->sM e s.h->fQ i s.e e->Pe T B o tQ (fR s.e s.h) (erHF s.h)->PW X W sl' ⟨Ie e o.dst .undef,s.h,s.nx⟩ (⟨0,0⟩::fs) K=Z r->∃s' fs' l,K s' (fs.reverse++fs')=Z r/\am6 T B (o::rest) (⟨o.dst,xW T o.op,g⟩::sl') i s s' fs' l:=by
    intro e hee hiE hke hstep z;exact done tQ .undef s.h s.nx 0 0 e hee hiE hke hstep ⟨_,rfl,rfl⟩ (by funext am;simp[fy,tQ]) (by simp[tQ]) (by simp[tQ]) (by simp[tQ]) (bV.refl _) hH (bK _) (λ_=>⟨rfl,rfl⟩) z
   rcases YD z with ⟨h1,z⟩|⟨t,want,b,h1,hb,z⟩|⟨t,want,h1,hb,z⟩
   .refine runs s.e rfl hE (fQ.refl _ _) (λf hf=>?_) z;rcases hg with ⟨_,hg⟩|⟨j,want,t,A,_,_⟩
    .exact .run hg hf
    .rw[h1]at A;cases A
   .rcases hg with ⟨A,_⟩|⟨j,want',t',A,h3,h4⟩
    .rw[h1]at A;cases A
    .rw[h1]at A;cases A;have hgt:=hgs t want h1;have heb:fR s.e s.h t=Z (.f (.raw (.bool b))):=by simp only[fR,hb,aF,bW];rfl
     have hke:fQ i s.e (s.e.set t (Z (.f .bool b))):=λk z v' D=>by
      rw[PT.get_set]at D;split at D
      next ek=>rw[ek,hgt]at z;cases z
      .exact⟨v',D,λ_=>rfl⟩
     cases hbw:(b==want) with
     |true=>
      rw[hbw]at z;have:b=want:=by simpa using hbw
      subst this;exact runs _ (WR hb) (hE.set hb) hke (λf hf=>.runG j t b h3 h4 heb hf) z
     |false=>
      rw[hbw]at z;refine skips _ (WR hb) (hE.set hb) hke (.skip j t want h3 h4 (.bool b) heb ?_ rfl) z;intro D;cases D;simp at hbw
   .rcases hg with ⟨A,_⟩|⟨j,want',t',A,h3,h4⟩
    .rw[h1]at A;cases A
    .rw[h1]at A;cases A;exact skips _ rfl hE (fQ.refl _ _) (.skip j t want h3 h4 undef (by simp only[fR,hb,aF,bW]) (by unfold undef;simp) rfl) z
  .cases hc
def aoa {sl:Y uD} {s s':TS} {fs:Y FPm} {l:Y w!} {prs:Y q!} (A:am6 T B B.toList sl i s s' fs l) (hp:Ri B sl=Z prs) (hok:Jz fs prs=J):NIP B l:=by
 unfold Ri at hp;simp only[]at hp;split at hp
 .rename_i hall;simp only[iL,oR,al]at hall;simp only[ah]at hp;have hop:∀(j:Nat) o f,l[j]? =Z (o,f)->B[j]? =Z o:=λj o f D=>by
   have h1:(l.map (·.1))[j]? =Z o:=by rw[bB,D];rfl
   rw[A.ops_]at h1;simpa using h1
  have hsize:∀(j:Nat) o,B[j]? =Z o->j<B.size:=λj o h=>(dE.1 h).1
  have hprs:∀am j,(am,j)∈prs->∃a b,fs[am]? =Z a/\fs[j]? =Z b/\Kv a.wr b.rd=J/\Kv a.wr b.wr=J/\Kv b.wr a.rd=J:=by
   clear hp hall;induction prs with
   |nil=>intro am j h;cases h
   |cons p prs ih=>
    let⟨i0,j0⟩:=p;simp only[Jz,al,ad3]at hok
    grind
  refine ⟨λj o ho e he hb=>?_,λam j oi fi oj fj hij hi D=>?_,A.xw⟩
  .grind
  .have h1:=hop am oi fi hi;have h2:=hop j oj fj D;have hcase:=(hall j (hsize j oj h2)).2 am hij;rw[h1,h2]at hcase;simp only[nA]at hcase;by_cases hB:aL ((O2 B.toList []).getD j 0) am=J
   .left;rw[aw]at hB;cases L:(O2 B.toList [])[j]? with
    |none=>rw[L]at hB;simp at hB
    |some ops=>
     rw[L]at hB;exact R' (ops:=B) B.toList [] (λj o D=>by simpa using D) (λj ops D=>by simp at D) j ops L am (by simpa using hB)
   .right;have hap:=hcase.resolve_left hB;refine ⟨hap,?_⟩;have hil:am<l! l:=(bC.1 hi).1;have hjl:j<l! l:=(bC.1 D).1;have hsi:=aG (show am<l! sl by rw[A.sll];exact hil);have hsj:=aG (show j<l! sl by rw[A.sll];exact hjl);by_cases hst:(sl[am]'(by rw[A.sll];exact hil)).op.still=J
    .obtain⟨q1,q2⟩:=A.still am oi fi _ hi hsi hst
     grind
    .by_cases hst2:(sl[j]'(by rw[A.sll];exact hjl)).op.still=J
     .obtain⟨q1,q2⟩:=A.still j oj fj _ D hsj hst2
      grind
     .have hmem:(am,j)∈prs:=by
       rw[<- hp,xp];refine ⟨j,oR.2 (hsize j oj h2),?_⟩
       grind
      let⟨a,b,ha,hb,d1,d2,d3⟩:=hprs am j hmem;let⟨f1,f2⟩:=A.fp am oi fi a hi ha;let⟨g1,g2⟩:=A.fp j oj fj b D hb;refine ⟨λx L=>⟨λz=>?_,λz=>?_⟩,λx L z=>?_⟩
      .have:=Bh d1 (ow x) (f2 x L);rw[g1 x z]at this;cases this
      .have:=Bh d2 (ow x) (f2 x L);rw[g2 x z]at this;cases this
      .have:=Bh d3 (ow x) (g2 x L);rw[f1 x z]at this;cases this
 .cases hp
structure jL (P:Program) (E:Nat->Prop) (nt np:Nat) (φ:PM) (s:TS) (a:Act) (w:World):Prop where
 zq:sC φ E (erHF s.h) w
 env:Sh φ (tot E φ (erHF s.h)) w (fR s.e s.h) a
 dom:∀n k,φ n=Z k->ow n<s.nx
 low:np<=s.nx
 qz:hX s.h s.nx
 qm:sM s.e s.h
 inert:∀d∈a.defers,Yr P d
 size:a.tmps.size=nt
structure x_ (np:Nat) (φ φ':PM) (H H':HF) (w w':World):Prop where
 ext:H4 (own φ H) w w'
 ql:∀k,k<w.heap.size->own φ' H' k->own φ H k
 par:∀n,ow n<np->φ' n=φ n
def x_.refl (np:Nat) (φ:PM) (H:HF) (w:World):x_ np φ φ H H w w:=⟨H4.refl _ _,λ_ _ h=>h,λ_ _=>rfl⟩
variable {w:World} {V:PM} {S:HF}
def x_.trans {φ' φ'':PM} {H' H'':HF} {w' w'':World} (a:x_ i V φ' S H' w w') (b:x_ i φ' φ'' H' H'' w' w''):x_ i V φ'' S H'' w w'' where
 ext:=⟨b.ext.os.trans a.ext.os,b.ext.tape.trans a.ext.tape,b.ext.output.trans a.ext.output,c9 a.ext.size b.ext.size,
  λk z A=>(b.ext.jp k (dD z a.ext.size) (λh=>A (a.ql k z h))).trans (a.ext.jp k z A),
  λk z=>(b.ext.xz k (dD z a.ext.size)).trans (a.ext.xz k z)⟩
 ql:=λk z h=>a.ql k z (b.ql k (dD z a.ext.size) h)
 par:=λnp hi=>(b.par np hi).trans (a.par np hi)
variable {O:Nat->Prop} {z:Act} {b:Bool} {d:Exit->Act->World->Prop}
def aio {s:TS} (hm:T.follows .mixedOrders=J) (hcon:HV T X) (c:jL T O i j V s z w) {id:Nat} {sl:Y uD} {prs:Y q!} {am:Nat} (ham:∀(np:Nat) (o:Oper) (Q:Nat),B[np]? =Z o->o.dst=Z Q->aL am Q=J)
 (hd:(B.toList.all λo=>match o.dst with|some Q=>decide (Q<i)|none=>J)=J) (hc:tZ T B B.toList=Z sl) (hp:Ri B sl=Z prs) {K:TS->M R} {r:R} (hr:PW X W sl s [] (λs' fs=>if Jz fs prs then K s' else U)=Z r) 
 (hQ:∀a' w' s' φ',K s'=Z r->jL T O i j φ' s' a' w'->x_ j V φ' (erHF s.h) (erHF s'.h) w w'->fQ am s.e s'.e->d .normal a' w'):(Code.region id B b).wp T d z w:=by
 let⟨s',fs',l,hK,L⟩:=My hcon ham B.toList sl s [] _ r (λo ho=>by
  let⟨np,D⟩:=fH ho;exact⟨np,by simpa using D⟩) hc hr c.qz c.qm
 have hK:(if Jz fs' prs then K s' else U)=Z r:=hK;by_cases hok:Jz fs' prs=J
 .rw[aD hok]at hK;refine Vs (φ0:=V) (E:=O) hm L.ops_ L.chain (aoa L hp hok) ?_ ?_ c.zq c.env ?_
  .intro n A;let⟨p,a,A⟩:=xp.1 A;let⟨np,D⟩:=fH a;have:=L.names np p.1 p.2 D n A;cases hx:V n with
   |none=>rfl
   |some k=>have:=c.dom n k hx;omega
  .intro np o ho Q hd';have:=iL.1 hd o (by grind);rw[hd']at this;rw[c.size];simpa using this
  .rintro a' w' ⟨φ',m',d',r',en',df',sz'⟩;have hnm:∀n k,φ' n=Z k->V n=Z k\/(s.nx<=ow n/\ow n<s'.nx):=λn k hik=>by
    rcases d' n k hik with h|h
    .exact .inl h
    .obtain⟨p,a,A⟩:=xp.1 h;let⟨np,D⟩:=fH a;exact .inr (L.names np p.1 p.2 D n A)
   have hg:=L.jd;have hlow:=c.low;refine hQ a' w' s' φ' hK ⟨r',en',λn k hik=>?_,by omega,L.qz,L.qm,by rw[df'];exact c.inert,by rw[sz'];exact c.size⟩ ⟨m'.ext,m'.ql,λnt hi=>?_⟩ L.keeps
   .rcases hnm n k hik with h|h
    .have:=c.dom n k h;omega
    .exact h.2
   .cases hx:V nt with
    |some k=>exact m'.sub _ _ hx
    |none=>
     cases hy:φ' nt with
     |none=>rfl
     |some k=>grind
 .grind
section ren
variable {P:Program} {E:Nat->Prop} {nt np:Nat}
def LJ {s:TS} (c:jL P E nt np V s z w) (src:Nat->Nat) (hsrc:∀n,ow n≠s.nx->src n=n) (hr:bV s.h h) (hinv:hX h (s.nx+1))
 (L:∀n b',erHF h n=Z b'->∃b,erHF s.h (src n)=Z b/\∀(φ':PM) (O':Nat->Prop),(∀n,φ' n=V (src n))->(∀x v,co V (tot E V (erHF s.h)) w x v->co φ' O' w x v)->∀o,im V (tot E V (erHF s.h)) w b o->im φ' O' w b' o)
 (inj:∀n m b b',erHF h n=Z b->erHF h m=Z b'->src n=src m->n=m):∃φ',jL P E nt np φ' ⟨s.e,h,s.nx+1⟩ z w/\x_ np V φ' (erHF s.h) (erHF h) w w:=by
 have sub:∀n k,V n=Z k->V (src n)=Z k:=λn k A=>by
  have:=c.dom n k A
  grind
 have own_:∀k,own (λn=>V (src n)) (erHF h) k->own V (erHF s.h) k:=by
  rintro k ⟨i,b,h1,h2⟩;let⟨b0,h3,_⟩:=L i b h1;exact⟨src i,b0,h3,h2⟩
 have tot_:∀k,tot E (λn=>V (src n)) (erHF h) k->tot E V (erHF s.h) k:=λk A=>A.imp id (own_ k)
 have keep:∀x v,co V (tot E V (erHF s.h)) w x v->co (λn=>V (src n)) (tot E (λn=>V (src n)) (erHF h)) w x v:=λx v h'=>h'.ext sub (H4.refl _ w) λk _ A=>tot_ k A
 refine ⟨λn=>V (src n),⟨⟨λi j b b' k h1 h2 h3 h4=>?_,λn b' hb=>?_,c.zq.el,λg cells hg=>(c.zq.gl g cells hg).ext (H4.refl _ w) λk _ A=>tot_ k A⟩,λt x D=>?_,λn k A=>?_,gg c.low,hinv,λt x D=>nC hr x (c.qm t x D),c.inert,c.size⟩,⟨H4.refl _ _,λk _ A=>own_ k A,λn hn=>?_⟩⟩
 .obtain⟨b0,q1,_⟩:=L i b h1;let⟨b1,q2,_⟩:=L j b' h2;exact inj i j b b' h1 h2 (c.zq.inj _ _ b0 b1 k q1 q2 h3 h4)
 .obtain⟨b,q1,q2⟩:=L n b' hb;let⟨k,p1,p2,o,p3,p4⟩:=c.zq.at_ _ b q1;exact⟨k,p1,p2,o,p3,q2 _ _ (λ_=>rfl) keep o p4⟩
 .simp[fR]at D;cases he:s.e.get t with
  |none=>rw[he]at D;cases D
  |some q=>
   rw[he]at D;let⟨a,hz⟩:=pn s.h q (c.qm t q he);simp[aF,fM hr q a hz,ah]at D;subst D;exact keep _ _ (c.env t _ (by simp[fR,he,aF,hz]))
 .have A:V (src n)=Z k:=A;by_cases e:ow n=s.nx
  .grind
  .rw[hsrc n e]at A;have:=c.dom n k A
   grind
 .have:=c.low
  grind
variable {s:TypeId} {r:Y AV}
def yU {φ':PM} {O':Nat->Prop} {l':Y AV} {o:Obj} (hlen:l! l'=l! r) (L:∀(j:Nat) z,l'[j]? =Z z->z.isCell=J/\∃x,r[j]? =Z x/\∀v,co V O w x v->co φ' O' w z v) (h:im V O w ⟨s,.mx r⟩ o):im φ' O' w ⟨s,.mx l'⟩ o:=by
 let⟨arr,h1,h2,h3⟩:=h;refine ⟨arr,h1,by simp[BC.len]at h2 ⊢;omega,λj z D=>?_⟩;let⟨A,x,p2,p3⟩:=L j z D;let⟨_,v,p4,p5⟩:=h3 j x p2;exact⟨A,v,p4,p3 v p5⟩
def MD {φ':PM} {O':Nat->Prop} {l l':Y n!} {o:Obj} (D:l'.map (·.1)=l.map (·.1)) (hl:∀(j:Nat) z,l'[j]? =Z z->∃x,l[j]? =Z x/\x.1=z.1/\∀v,co V O w x.2 v->co φ' O' w z.2 v) (h:im V O w ⟨0,.mp l⟩ o):im φ' O' w ⟨0,.mp l'⟩ o:=by
 let⟨ents,clock,h1,A,h3⟩:=h;refine ⟨ents,clock,h1,?_,λj z L=>?_⟩
 .unfold MpK at A ⊢;rw[D];exact A
 .grind
def aem (n:Nat) (j:Int):(shf n j).toNat=if j.toNat<n then j.toNat else j.toNat+1:=by
 unfold shf;by_cases h:j.toNat<n
 .simp_all
 .rw[av h,av (λe=>h (Uz e))];rfl
def uL (nx a p m1 m2 len n:Nat):Nat:=if ow n=nx then (match ix n with
 |0=>n
 |k+1=>if k/3<len then jR a (k+1) else if k/3=len then (if k%3=0 then nm p else if k%3=1 then nm m1 else nm m2) else jR a (k+1-3)) else n
def yO (nx a p m1 m2 len k:Nat):uL nx a p m1 m2 len (jR nx (k+1))=if k/3<len then jR a (k+1) else if k/3=len then (if k%3=0 then nm p else if k%3=1 then nm m1 else nm m2) else jR a (k+1-3):=by
 unfold uL;rw[iS,wF,aD rfl]
def abn {p m1 m2 len k:Nat} (h:k/3<len):uL i j p m1 m2 len (jR i (k+1))=jR j (k+1):=by rw[yO,aD h]
def Mh (nx a p m1 m2 len:Nat) (j:Int):uL nx a p m1 m2 len (pM nx (shf len j))=pM a j:=by
 unfold pM;rw[yO,aem]
 grind
def acp {e:Y u!} (hm:aoj (h.get i)=Z e):erHF h (nm i)=Z ⟨0,.mp (Ip e)⟩/\∃K V es,h.get i=Z (.mp K V es):=by
 unfold aoj at hm;split at hm
 next es z=>simp[ah]at hm;subst hm;exact⟨by rw[bJ,z];rfl,_,_,_,z⟩
 next z=>simp[ah]at hm;subst hm;exact⟨by rw[bJ,z];rfl,_,_,_,z⟩
 .cases hm
def EnR (R:AV->AV->Prop):Y n!->Y n!->Prop
 |[],[]=>True
 |x::l,y::l'=>x.1=y.1/\R x.2 y.2/\EnR R l l'
 |_,_=>False
def EnR.get {R:AV->AV->Prop}:∀{l l':Y n!},EnR R l l'->l'.map (·.1)=l.map (·.1)/\∀(j:Nat) z,l'[j]? =Z z->∃x,l[j]? =Z x/\x.1=z.1/\R x.2 z.2
 |[],[],_=>⟨rfl,λj z A=>by simp at A⟩
 |[],_::_,h|_::_,[],h=>h.elim
 |x::l,y::l',h=>by
  let⟨L,D⟩:=EnR.get h.2.2;refine ⟨by simp[b9,L,h.1],λj z A=>?_⟩;cases j with
  |zero=>simp[ie,ah]at A;subst A;exact⟨x,rfl,h.1,h.2.1⟩
  |succ j=>exact D j z A
def NP {R:AV->AV->Prop} {a nx len:Nat} (z:∀j,R (.P (pM a j) 0) (.P (pM nx (shf len j)) 0)):∀es:Y e!,EnR R (xd a es) (xd nx (Mj len es))
 |[]=>trivial
 |e::r=>⟨rfl,z e.2,NP z r⟩
def W1 {R:AV->AV->Prop} {a nx len:Nat} (D:∀j,R (.P (pM a j) 0) (.P (pM nx (shf len j)) 0)) {v:AV} (A:R v (.P (pM nx (aQ len)) 0)) (k:ν):∀es:Y e!,EnR R (NL a k v es) (xd nx (yV k (aQ len) (Mj len es)))
 |[]=>⟨rfl,A,trivial⟩
 |e::r=>by
  have L:=W1 D A k r;show EnR R (NL a k v (e::r)) (xd nx (yV k (aQ len) ((e.1,shf len e.2)::Mj len r)));simp[NL,yV];by_cases z:k=e.1
  .rw[aD z,LS.2 z];exact⟨rfl,A,NP D r⟩
  .rw[av z];cases hq:P9 k e.1 with
   |true=>exact cu (LS.1 hq) z
   |false=>exact⟨rfl,D e.2,L⟩
variable {v:Value}
def Dj {φ':PM} {O':Nat->Prop} {off:Nat} (h:φ' j=V i) (A:co V O w (.P i off) v):co φ' O' w (.P j off) v:=by
 cases A with
 |P D=>exact .P (h.trans D)
def Tc {φ':PM} {O':Nat->Prop} (h:φ' j=V i) (A:co V O w (.mp i) v):co φ' O' w (.mp j) v:=by
 cases A with
 |mp D=>exact .mp (h.trans D)
def LH {φ':PM} {O':Nat->Prop} {sz m:Nat} (h:φ' j=V i) (A:co V O w (.I i sz m) v):co φ' O' w (.I j sz m) v:=by
 cases A with
 |I D h1 h2 L=>exact .I (h.trans D) h1 h2 L
def aii (a n len:Nat) (B:e_):iN (rnF a n len B)=iN B:=by
 cases B with
 |Q F b x=>
  simp[rnF];split
  .cases F with
   |qn ty=>
    show Z (J,1,aj (gM (shf len) (x:η)))=Z (J,1,aj (α:=Int) x)
    grind
   |_=>rfl
  .rfl
 |_=>rfl
def yw (φ:PM) (O:Nat->Prop) (w:World) (src:Nat->Nat) (b b':kG):Prop:=∀(φ':PM) (O':Nat->Prop),(∀n,φ' n=φ (src n))->(∀x v,co φ O w x v->co φ' O' w x v)->∀o,im φ O w b o->im φ' O' w b' o
variable {g:Nat->Nat}
def yw.refl (b:kG):yw V O w g b b:=λ_ _ _ keep _ h=>h.mono keep
variable {K:Ty}
def WH {k:Nat} {ob:C_ K} (h1:k%3=0->g (jR i (k+2))=jR j (k+2)) (h2:k%3=0->g (jR i (k+3))=jR j (k+3)):yw V O w g (wP j k s K ob) (wP i k s K ob):=by
 intro φ' O' hφ keep oo hoo;unfold wP at hoo ⊢;by_cases D:k%3=0
 .rw[aD D]at hoo ⊢;refine yU (by simp) (λai L z=>?_) hoo;by_cases hj:ai<l! (bE K ob.1)
  .rw[bL (by grind)]at z ⊢;refine ⟨?_,L,z,λv A=>keep _ _ A⟩;obtain⟨y,hy,rfl⟩:=cz.1 (a8 z);exact mD K [ob.1] y (by grind)
  .rw[b_ (by grind)]at z ⊢;generalize ai-l! (gM AV.f (bE K ob.1))=q at z ⊢
   match q with
   |0=>
    simp only[ie,ah]at z ⊢;subst z;exact⟨rfl,_,rfl,λv A=>Tc (by grind) A⟩
   |1=>
    simp only[BT,ie,ah]at z ⊢;subst z;exact⟨rfl,_,rfl,λv A=>Tc (by grind) A⟩
   |q+2=>simp at z
 .rw[av D]at hoo ⊢;exact hoo.mono keep
def akm {E:Nat->Prop} (rep:sC V E S w) {m1 m2:Nat} {H:Ty} {ob:C_ H} (k0:j%3=0) (hle:hP S S r ((bE H ob.1).map .f)) (h1:g (jR i (j+2))=nm m1) (h2:g (jR i (j+3))=nm m2):yw V (tot E V S) w g ⟨s,.mx (r++[.mp (nm m1),.mp (nm m2)])⟩ (wP i j s H ob):=by
 intro φ' O' hφ keep oo hoo;unfold wP;rw[aD k0];have hll:=hle.length;refine yU (by grind) (λk x' z=>?_) hoo;by_cases hj:k<(bE H ob.1).length
 .rw[bL (by grind)]at z;rw[bL (by grind)];let⟨x,L,D⟩:=hle.get k x' z;refine ⟨?_,x,L,λv A=>keep _ _ (D V E w v rep A)⟩;obtain⟨y,hy,rfl⟩:=cz.1 (a8 z);exact mD H [ob.1] y (by grind)
 .rw[b_ (by grind)]at z;rw[b_ (by grind),<-hll];generalize k-(gM AV.f (bE H ob.1)).length=q at z ⊢
  match q with
  |0=>
   simp only[ie,ah]at z ⊢;subst z;exact⟨rfl,_,rfl,λv A=>Tc (by grind) A⟩
  |1=>
   simp only[BT,ie,ah]at z ⊢;subst z;exact⟨rfl,_,rfl,λv A=>Tc (by grind) A⟩
  |q+2=>simp at z
variable {A:η} {N:kG}
def ao0 {p m1 m2 len:Nat} (D:ux i (.qn s) (rnX len (.qn s) A)=Z N):∃b,ux j (.qn s) A=Z b/\yw V O w (uL i j p m1 m2 len) b N:=by
 have D:(if aj (gM (shf len) A)==0 then U else Z (kG.mk s (.mx (gM (λa=>AV.P (pM i a) 0) (gM (shf len) A)))))=Z N:=D;rw[bM]at D;show ∃b,(if aj A==0 then U else Z (kG.mk s (.mx (gM (λa=>AV.P (pM j a) 0) A))))=Z b/\_;split at D
 .cases D
 .rename_i L;rw[av L];cases D;refine ⟨_,rfl,λφ' O' hφ keep oo hoo=>yU (by simp) (λa x' z=>?_) hoo⟩;rw[kX,bB]at z;rw[bB];cases hjx:A[a]? with
  |none=>rw[hjx]at z;cases z
  |some nx=>
   rw[hjx]at z;simp[bi,Function.comp,ah]at z;subst z;exact⟨rfl,_,rfl,λv hv=>Dj (by rw[hφ,Mh]) hv⟩
def ao1 {p m1 m2 len:Nat} {es:Y e!} (L:ux i .qr (rnX len .qr es)=Z N):∃b,ux j .qr es=Z b/\yw V O w (uL i j p m1 m2 len) b N:=by
 cases L;refine ⟨_,rfl,λφ' O' hφ keep oo hoo=>?_⟩;let⟨A,z⟩:=EnR.get (NP (R:=λx y=>∀v,co V O w x v->co φ' O' w y v) (a:=j) (nx:=i) (len:=len) (λa v D=>Dj (by rw[hφ,Mh]) D) es);exact MD A z hoo
def At {nx a p m1 m2:Nat} (z:j/3<=i):(j/3<i/\uL nx a p m1 m2 i (jR nx (j+1))=jR a (j+1))\/(j/3=i/\j%3=0/\uL nx a p m1 m2 i (jR nx (j+1))=nm p)\/(j/3=i/\j%3=1/\uL nx a p m1 m2 i (jR nx (j+1))=nm m1)\/(j/3=i/\j%3=2/\uL nx a p m1 m2 i (jR nx (j+1))=nm m2):=by
 rw[yO]
 grind
structure Ag (s:TS) (h':aY) (o ai p m1 m2 len:Nat) (ty:TypeId) (S:Ty) (xs:List (C_ S)) (new:C_ S) (kk:ν) (es:List (ν×Int)):Prop where
 ho:s.h.get o=Z (.qd .qr ai es kk (Z (p,af,0)))
 ha:∃a0,s.h.get ai=Z (.Q (.ar ty S) a0 xs)
 hp:∃l,s.h.get p=Z (.G (Z ty) l)
 g1:∃K V es,s.h.get m1=Z (.mp K V es)
 g2:∃K V es,s.h.get m2=Z (.mp K V es)
 hmm:m1≠m2
 hlen:l! xs=len
 hg:∀i,h'.get i=if i=s.nx then Z (.Q (.ar ty S) 0 (xs++[new]:List (C_ S))) else if i=m2\/i=m1\/i=p\/i=ai then Z (.qj J 0 0) else if i=o then Z (.Q .qr s.nx (yV kk (aQ len) (Mj len es))) else (s.h.get i).map (rnF ai s.nx len)
section ai2
variable {s:TS} {h':aY} {o ai p m1 m2 len:Nat} {ty:TypeId} {S:Ty} {xs:Y (C_ S)} {new:C_ S} {kk:ν} {es:Y e!} (t:Ag s h' o ai p m1 m2 len ty S xs new kk es)
include t
def Ag.ne:o≠ai/\o≠p/\o≠m1/\o≠m2/\p≠m1/\p≠m2:=by
 let⟨z,ha⟩:=t.ha;let⟨l,hp⟩:=t.hp;let⟨_,_,_,g1⟩:=t.g1;let⟨_,_,_,g2⟩:=t.g2;have ho:=t.ho
 grind
def Ag.H (hi:hX s.h s.nx):bV s.h h':=λi r z=>by
 let⟨a0,ha⟩:=t.ha;let⟨l,hp⟩:=t.hp;let⟨_,_,_,g1⟩:=t.g1;let⟨_,_,_,g2⟩:=t.g2;have hfr:=hi.fresh;rw[bA]at z ⊢;rw[t.hg];by_cases f0:i=s.nx
 .grind
 .rw[av f0];by_cases L:i=m2\/i=m1\/i=p\/i=ai
  .rcases L with rfl|rfl|rfl|rfl
   .rw[g2]at z;cases z
   .rw[g1]at z;cases z
   .rw[hp]at z;cases z
   .rw[ha]at z;cases z
  .rw[av L];by_cases D:i=o
   .rw[D,t.ho]at z;cases z
   .rw[av D];cases A:s.h.get i with
    |none=>rw[A]at z;cases z
    |some B=>rw[A]at z;simp[bi,aF]at z ⊢;rw[aii];exact z
def Ag.lows (hi:hX s.h s.nx):o<s.nx/\ai<s.nx/\p<s.nx/\m1<s.nx/\m2<s.nx:=by
 let⟨z,ha⟩:=t.ha;let⟨l,hp⟩:=t.hp;let⟨_,_,_,g1⟩:=t.g1;let⟨_,_,_,g2⟩:=t.g2;exact⟨hi.low o _ t.ho,hi.low ai _ ha,hi.low p _ hp,hi.low m1 _ g1,hi.low m2 _ g2⟩
def Ag.inv (hi:hX s.h s.nx):hX h' (s.nx+1):=by
 have D:=t.H hi;let⟨lo,la,L,l1,l2⟩:=t.lows hi;refine ⟨λi ty l hil=>?_,λi c' hic=>?_⟩
 .rw[t.hg]at hil;split at hil
  .cases hil
  .split at hil
   .cases hil
   .split at hil
    .cases hil
    .cases z:s.h.get i with
     |none=>rw[z]at hil;cases hil
     |some B=>
      rw[z]at hil;simp[bi,ah]at hil;cases B with
      |G ty2 A=>
       simp[rnF,e_.G.injEq]at hil;obtain⟨_,rfl⟩:=hil;exact fA D A (hi.G i _ A z)
      |Q F b x=>simp[rnF]at hil;split at hil<;>cases hil
      |_=>cases hil
 .rw[t.hg]at hic;split at hic
  .omega
  .split at hic
   .omega
   .split at hic
    .omega
    .cases z:s.h.get i with
     |none=>rw[z]at hic;cases hic
     |some B=>have:=hi.low i B z;omega
def Ag.qj (hi:hX s.h s.nx) (z:ow i=m2\/ow i=m1\/ow i=p\/ow i=ai):erHF h' i=U:=by
 let⟨D,la,A,l1,L⟩:=t.lows hi;unfold erHF;rw[t.hg,av (by omega),aD z];cases ix i<;>rfl
def Ag.new0:erHF h' (nm s.nx)=U:=by rw[bJ,t.hg,aD rfl];rfl
def Ag.newN (k:Nat):erHF h' (jR s.nx (k+1))=rn s.nx k ty S (xs++[new]):=by rw[kS,t.hg,aD rfl];rfl
def Ag.oldN (k:Nat):erHF s.h (jR ai (k+1))=rn ai k ty S xs:=by
 let⟨z,ha⟩:=t.ha;rw[kS,ha];rfl
def Ag.gt (z:len<i/3):erHF h' (jR s.nx (i+1))=U:=by
 rw[t.newN];unfold rn;rw[c_ (by rw[bz,t.hlen];exact z)];rfl
def Ag.lt (L:i/3<len) (z:erHF h' (jR s.nx (i+1))=Z N):∃b,erHF s.h (jR ai (i+1))=Z b/\yw V O w (uL s.nx ai p m1 m2 len) b N:=by
 rw[t.newN]at z;rw[t.oldN];unfold rn at z ⊢;rw[bL (by rw[t.hlen];exact L)]at z;cases A:xs[i/3]? with
 |none=>rw[A]at z;cases z
 |some ob=>
  rw[A]at z;simp[bi,ah]at z;subst z;exact⟨_,rfl,WH (λD=>abn (k:=i+1) (by omega)) (λD=>abn (k:=i+2) (by omega))⟩
def Ag.eqB (z:i/3=len):erHF h' (jR s.nx (i+1))=Z (wP s.nx i ty S new):=by
 rw[t.newN];unfold rn;rw[z,<-t.hlen,n_];rfl
def Ag.mapB (hi:hX s.h s.nx) (z:erHF h' (nm o)=Z N):∃b,erHF s.h (nm o)=Z b/\yw V O w (uL s.nx ai p m1 m2 len) b N:=by
 let⟨lo,_⟩:=t.lows hi;let⟨n1,n2,n3,n4,_⟩:=t.ne;rw[bJ,t.hg,av (by omega),av (by omega),aD rfl]at z;cases z;rw[bJ,t.ho];refine ⟨_,rfl,λφ' O' hφ keep oo hoo=>?_⟩;let⟨L,D⟩:=EnR.get (W1 (R:=λx y=>∀v,co V O w x v->co φ' O' w y v) (a:=ai) (nx:=s.nx) (len:=len) (λj v A=>Dj (by rw[hφ,Mh]) A) (v:=.P (nm p) 0) (λv A=>Dj (by
  rw[hφ];show V (uL s.nx ai p m1 m2 len (jR s.nx (3*len+1)))=_;rw[yO,av (by omega),aD (by omega),aD (by omega)]) A) kk es)
 exact MD L D hoo
def Ag.oth (hi:hX s.h s.nx) (f0:ow i≠s.nx) (f1:¬(ow i=m2\/ow i=m1\/ow i=p\/ow i=ai)) (f2:ow i≠o) (A:erHF h' i=Z N):∃b,erHF s.h i=Z b/\yw V O w (uL s.nx ai p m1 m2 len) b N:=by
 have hr:=t.H hi;cases L:s.h.get (ow i) with
 |none=>
  unfold erHF at A;rw[t.hg,av f0,av f1,av f2,L]at A;cases A
 |some B=>
  have z:PC h' (ow i) (ix i) (rnF ai s.nx len B)=Z N:=by
   unfold erHF at A;rw[t.hg,av f0,av f1,av f2,L]at A;exact A
  have same:rnF ai s.nx len B=B->∃b,erHF s.h i=Z b/\yw V O w (uL s.nx ai p m1 m2 len) b N:=λe=>by
   rw[e,mF hr (λty l e=>hi.G _ _ l (by rw[L,e]))]at z;exact⟨N,by unfold erHF;rw[L];exact z,yw.refl N⟩
  cases B with
  |Q F b x=>
   by_cases D:(axf F&&ax b ai)=J
   .have e0:rnF ai s.nx len (.Q F b x)= .Q F s.nx (rnX len F x):=by simp only[rnF];rw[aD D]
    rw[e0]at z;simp only[al]at D;have hba:=au D.2;subst hba;cases hix:ix i with
    |succ k=>rw[hix]at z;cases F<;>first|cases z|cases D.1
    |zero=>
     rw[hix]at z;have hsrc:erHF s.h i=ux b F x:=by unfold erHF;rw[L,hix];rfl
     rw[hsrc];cases F with
     |qn tyo=>exact ao0 z
     |qr=>exact ao1 z
     |_=>cases D.1
   .exact same (by simp only[rnF];rw[av D])
  |_=>exact same rfl
def Ag.key (z:erHF h' i=Z N) (D:ow i=s.nx):∃k,i=jR s.nx (k+1)/\k/3<=len:=by
 cases hix:ix i with
 |zero=>rw[pq hix,D,t.new0]at z;cases z
 |succ k=>
  have en:i=jR s.nx (k+1):=by rw[<- D,<-hix,kZ]
  refine ⟨k,en,?_⟩;subst en;rcases cF len (k/3) with A|A
  .rw[t.gt A]at z;cases z
  .exact A
def Ag.dS (hi:hX s.h s.nx) (z:i/3<=len):erHF h' (uL s.nx ai p m1 m2 len (jR s.nx (i+1)))=U:=by
 refine t.qj hi ?_;rcases At (nx:=s.nx) (a:=ai) (p:=p) (m1:=m1) (m2:=m2) z with ⟨_,e⟩|⟨_,_,e⟩|⟨_,_,e⟩|⟨_,_,e⟩<;>rw[e]
 .rw[iS];exact .inr (.inr (.inr rfl))
 .rw[di];exact .inr (.inr (.inl rfl))
 .rw[di];exact .inr (.inl rfl)
 .rw[di];exact .inl rfl
def Ag.inj1 (A:i/3<=len) (z:j/3<=len) (he:uL s.nx ai p m1 m2 len (jR s.nx (i+1))=uL s.nx ai p m1 m2 len (jR s.nx (j+1))):i=j:=by
 let⟨_,_,_,_,n5,L⟩:=t.ne;have D:=t.hmm;rcases At (nx:=s.nx) (a:=ai) (p:=p) (m1:=m1) (m2:=m2) A with ⟨_,e⟩|⟨_,_,e⟩|⟨_,_,e⟩|⟨_,_,e⟩<;>rcases At (nx:=s.nx) (a:=ai) (p:=p) (m1:=m1) (m2:=m2) z with ⟨_,e'⟩|⟨_,_,e'⟩|⟨_,_,e'⟩|⟨_,_,e'⟩<;>rw[e,e']at he<;>clear e e'<;>first|omega|(have:=(vy he).2;omega)|(have:=uN he;omega)
def Ag.inj (hi:hX s.h s.nx) {b':kG} (z:erHF h' i=Z N) (hm:erHF h' j=Z b') (he:uL s.nx ai p m1 m2 len i=uL s.nx ai p m1 m2 len j):i=j:=by
 have L:∀i,ow i≠s.nx->uL s.nx ai p m1 m2 len i=i:=λi z=>by unfold uL;rw[av z]
 by_cases f0:ow i=s.nx
 .obtain⟨k,rfl,hk⟩:=t.key z f0;by_cases A:ow j=s.nx
  .obtain⟨q,rfl,D⟩:=t.key hm A;rw[t.inj1 hk D he]
  .rw[L j A]at he;rw[<- he,t.dS hi hk]at hm;cases hm
 .rw[L i f0]at he;by_cases A:ow j=s.nx
  .obtain⟨q,rfl,D⟩:=t.key hm A;rw[he,t.dS hi D]at z;cases z
  .grind
def Ag.cfg (c:jL P E nt np V s z w) (bp:erHF s.h (nm p)=Z ⟨ty,.mx (r++[.mp (nm m1),.mp (nm m2)])⟩) (hle:hP (erHF s.h) (erHF s.h) r ((bE S new.1).map .f)) (b1:erHF s.h (nm m1)=Z ⟨0,.mp (Ip new.2.1)⟩) (b2:erHF s.h (nm m2)=Z ⟨0,.mp (Ip new.2.2)⟩):∃φ',jL P E nt np φ' ⟨s.e,h',s.nx+1⟩ z w/\x_ np V φ' (erHF s.h) (erHF h') w w:=by
 have hi:=c.qz;have hs:∀n,ow n≠s.nx->uL s.nx ai p m1 m2 len n=n:=λn L=>by unfold uL;rw[av L]
 refine LJ c (uL s.nx ai p m1 m2 len) hs (t.H hi) (t.inv hi) (λn b' a=>?_) λn m b b' L hm he=>t.inj hi L hm he
 by_cases D:ow n=s.nx
 .obtain⟨k,rfl,hk⟩:=t.key a D;rcases At (nx:=s.nx) (a:=ai) (p:=p) (m1:=m1) (m2:=m2) hk with ⟨g,e⟩|⟨g,A,e⟩|⟨g,A,e⟩|⟨g,A,e⟩<;>rw[e]
  .exact t.lt g a
  .rw[t.eqB g,ah]at a;subst a;refine ⟨_,bp,akm c.zq A hle ?_ ?_⟩
   .rw[yO,av (by omega),aD (by omega),av (by omega),aD (by omega)]
   .rw[yO,av (by omega),aD (by omega),av (by omega),av (by omega)]
  .rw[t.eqB g,ah]at a;subst a;refine ⟨_,b1,?_⟩;unfold wP;rw[av (by omega),aD A];exact yw.refl _
  .rw[t.eqB g,ah]at a;subst a;refine ⟨_,b2,?_⟩;unfold wP;rw[av (by omega),av (by omega)];exact yw.refl _
 .rw[hs n D];by_cases f1:ow n=m2\/ow n=m1\/ow n=p\/ow n=ai
  .rw[t.qj hi f1]at a;cases a
  .by_cases f2:ow n=o
   .cases hix:ix n with
    |succ k=>
     unfold erHF at a;rw[t.hg,av D,av f1,aD f2,hix]at a;cases a
    |zero=>
     have en:n=nm o:=by rw[<- f2];exact pq hix
     subst en;exact t.mapB hi a
   .exact t.oth hi D f1 f2 a
end ai2
def atc {s:TS} (c:jL P E nt np V s z w) {p:Nat} {kk:ν} {es:Y e!} (ho:s.h.get i=Z (.qd .qr j es kk (Z (p,af,0)))) {s':TS} (h:ai2 s i j p kk es=Z s'):s'.e=s.e/\∃φ',jL P E nt np φ' s' z w/\x_ np V φ' (erHF s.h) (erHF s'.h) w w:=by
 unfold ai2 at h;split at h
 .rename_i ty S a0 xs ty' l ha hp;split at h
  .rename_i hty;have hty:=eq_of_beq hty;subst hty;split at h
   .rename_i a m m1 m2 hpk;split at h
    .rename_i e1 e2 hm1 L;split at h
     .rename_i hq;simp only[al,ca]at hq;let⟨D,q2⟩:=hq;have D:=au D;subst D;have hmm:m1≠m2:=λe=>by simp_all
      let⟨b1,K1,V1,es1,g1⟩:=acp hm1;let⟨b2,K2,V2,es2,g2⟩:=acp L;simp[ah]at h;subst h;refine ⟨rfl,?_⟩;let⟨l',A⟩:=fI s.h l (c.qz.G p _ l hp);let⟨la1,la2,hlap,hla2,hle⟩:=rH (rC.refl (erHF s.h)) 40 S l a 0 _ l' hpk A Fy.zero;have hla2:la2=[.mp (nm m1),.mp (nm m2)]:=by simp[cN,bW,ah]at hla2;exact hla2.symm
      have bp:erHF s.h (nm p)=Z ⟨ty',.mx (la1++[.mp (nm m1),.mp (nm m2)])⟩:=by rw[bJ,hp];simp[aF,kJ,A];rw[hlap,hla2]
      refine Ag.cfg (o:=i) (ai:=j) (p:=p) (m1:=m1) (m2:=m2) (len:=aj (α:=C_ S) xs) (ty:=ty') (S:=S) (xs:=xs) (new:=(a,e1,e2)) (kk:=kk) (es:=es) ⟨ho,⟨a0,ha⟩,⟨l,hp⟩,⟨_,_,_,g1⟩,⟨_,_,_,g2⟩,hmm,rfl,λo=>?_⟩ c bp hle b1 b2;rw[PT.get_set,PT.get_set,PT.get_set,PT.get_set,PT.get_set,PT.get_set,PT.get_updI];by_cases f0:o=s.nx
      .rw[aD f0,aD f0];rfl
      .grind
     .cases h
    .cases h
   .cases h
  .cases h
 .cases h
def ZP {n:Nat} {ty:TypeId} {T:Ty} {xss:Y (Y T.den)} {xs:Y T.den} (h:l! xss<=i):rm i ty T (xss.set n xs)=U:=by
 unfold rm
 grind
def H9 (nx a r j n:Nat):Nat:=if ow n=nx then (match ix n with
 |0=>n
 |k+1=>if k=j then nm r else jR a (k+1)) else n
def yN (nx a r j k:Nat):H9 nx a r j (jR nx (k+1))=if k=j then nm r else jR a (k+1):=by
 unfold H9;rw[iS,wF,aD rfl]
def ata {ty:TS} (c:jL P E nt np V ty z w) {r n:Nat} {kk:ν} {a:Nat} (ho:ty.h.get i=Z (.qd (.rr s a) j A kk (Z (r,J,n)))) {s':TS} (h:atb ty i j r n kk.1 s a A=Z s'):s'.e=ty.e/\∃φ',jL P E nt np φ' s' z w/\x_ np V φ' (erHF ty.h) (erHF s'.h) w w:=by
 unfold atb at h;split at h
 .rename_i ty2 T a0 xss ty3 p S xs ha hrr;split at h
  .rename_i xs' hxs;split at h
   .rename_i hty;have hty:=eq_of_beq hty;subst hty;cases h;refine ⟨rfl,?_⟩;let⟨ee,exs⟩:=iP hxs;cases ee;have exs:xs'=xs:=exs;subst exs;have hfr:=c.qz.fresh;have lo:=c.qz.low i _ ho;have la:=c.qz.low j _ ha;have lr:=c.qz.low r _ hrr;have n1:i≠j:=λe=>by rw[e,ha]at ho;cases ho
    have n2:i≠r:=λe=>by rw[e,hrr]at ho;cases ho
    have n3:j≠r:=λe=>by rw[e,hrr]at ha;cases ha
    generalize hjj:kk.1.toNat=ai;generalize hh':(((ty.h.set i (Z (.Q (.rr s a) ty.nx (sI (α:=Int) A ai (aQ n))))).set j (Z (.qj J 0 0))).set r (Z (.qj p T.size (aj xs')))).set ty.nx (Z (.Q (.ir ty3 T) 0 (vY (T:=T) xss kk.1 xs')))=h';have hg:∀o,h'.get o=if o=ty.nx then Z (.Q (.ir ty3 T) 0 (vY (T:=T) xss kk.1 xs')) else if o=r then Z (.qj p T.size (aj xs')) else if o=j then Z (.qj J 0 0) else if o=i then Z (.Q (.rr s a) ty.nx (sI (α:=Int) A ai (aQ n))) else ty.h.get o:=λo=>by
     rw[<- hh',PT.get_set,PT.get_set,PT.get_set,PT.get_set]
    have hdead:∀n,ow n=r\/ow n=j->erHF h' n=U:=λn hn=>by
     unfold erHF;rcases hn with e|e
     .rw[hg,av (by omega),aD e];simp only[aF];cases ix n<;>rfl
     .rw[hg,av (by omega),av (by omega),aD e];simp only[aF];cases ix n<;>rfl
    have hr:bV ty.h h':=λo q hi=>by
     rw[bA]at hi ⊢;rw[hg];by_cases L:o=ty.nx
     .rw[L,hfr]at hi;cases hi
     .rw[av L];by_cases f1:o=r
      .rw[aD f1];rw[f1,hrr]at hi;exact hi
      .rw[av f1];by_cases f2:o=j
       .rw[f2,ha]at hi;cases hi
       .rw[av f2];by_cases f3:o=i
        .rw[aD f3];rw[f3,ho]at hi;simp only[aF,iN,sk,dv]at hi ⊢;exact hi
        .rw[av f3];exact hi
    have hinv:hX h' (ty.nx+1):=by
     refine ⟨λo s l hil=>?_,λo c' hic=>?_⟩
     .rw[hg]at hil;split at hil
      .cases hil
      .split at hil
       .cases hil
       .split at hil
        .cases hil
        .split at hil
         .cases hil
         .exact fA hr l (c.qz.G o _ l hil)
     .rw[hg]at hic;split at hic
      .omega
      .split at hic
       .omega
       .split at hic
        .omega
        .split at hic
         .omega
         .have:=c.qz.low o c' hic;omega
    have hmN:∀k,erHF h' (jR ty.nx (k+1))=rm k ty3 T (sI xss ai xs'):=λk=>by
     rw[kS,hg,aD rfl,<-hjj];rfl
    have hmO:∀k,erHF ty.h (jR j (k+1))=rm k ty3 T xss:=λk=>by rw[kS,ha];rfl
    have hn0:erHF h' (nm ty.nx)=U:=by rw[bJ,hg,aD rfl];rfl
    refine LJ c (H9 ty.nx j r ai) (λn hn=>by unfold H9;rw[av hn]) hr hinv ?_ ?_
    .intro q b' ls;by_cases L:ow q=ty.nx
     .cases hix:ix q with
      |zero=>rw[pq hix,L,hn0]at ls;cases ls
      |succ k=>
       have en:q=jR ty.nx (k+1):=by rw[<- L,<-hix,kZ]
       subst en;rw[hmN]at ls;rw[yN];by_cases hk:k=ai
       .rw[aD hk];subst hk;refine ⟨b',?_,λφ' O' hφ keep oo hoo=>hoo.mono keep⟩;rw[bJ,hrr];have hl:k<aj (α:=Y T.den) xss:=by
         rcases cF k (aj (α:=Y T.den) xss) with h1|h1
         .exact h1
         .have ls:=(ZP (ty:=ty3) (T:=T) (xss:=xss) (xs:=xs') (n:=k) h1).symm.trans ls;cases ls
        have ls:=(NG (ty:=ty3) (T:=T) (xss:=xss) (xs:=xs') hl).symm.trans ls;unfold ZO at ls;split at ls
        .cases ls
        next hz=>simp only[aF,kJ];rw[av (by rw[al];exact λe=>hz e.2)];exact ls
       .rw[av hk,hmO];exact⟨b',(IR (ty:=ty3) (T:=T) (xss:=xss) (xs:=xs') hk).symm.trans ls,λφ' O' hφ keep oo hoo=>hoo.mono keep⟩
     .have hs:H9 ty.nx j r ai q=q:=by unfold H9;rw[av L]
      rw[hs];by_cases f1:ow q=r\/ow q=j
      .rw[hdead q f1]at ls;cases ls
      .have f1a:ow q≠r:=λe=>f1 (.inl e)
       have f1b:ow q≠j:=λe=>f1 (.inr e)
       by_cases f2:ow q=i
       .cases hix:ix q with
        |succ k=>
         unfold erHF at ls;rw[hg,av L,av f1a,av f1b,aD f2,hix]at ls;cases ls
        |zero=>
         have en:q=nm i:=by rw[<- f2];exact pq hix
         subst en;rw[di]at f1a f1b;rw[bJ,hg,av (by omega),av f1a,av f1b,aD rfl]at ls;have ls:Z (kG.mk s (.mx (l7 ty.nx a 0 (sI (α:=Int) A ai (aQ n)))))=Z b':=ls;cases ls;rw[bJ,ho];refine ⟨⟨s,.mx ((l7 j a 0 A).set kk.1.toNat (dA J r a n))⟩,rfl,λφ' O' hφ keep oo hoo=>?_⟩;rw[hjj]at hoo;have cl:∀(z k l:Nat),(uM z k a l).isCell=J:=λz k l=>by unfold uM;split<;>rfl
         refine yU (by rw[dv,lG,lG,dv]) (λo x' D=>?_) hoo;have D:=D.symm.trans (yS ty.nx a (sI (α:=Int) A ai (aQ n)) 0 o);rw[bX,ep]at D;by_cases hij:ai=o
         .subst hij;rw[aD rfl]at D;by_cases hl:ai<aj (α:=Int) A
          .rw[aD hl]at D;simp only[bi,ah]at D;subst D;refine ⟨cl _ _ _,_,by rw[ep,aD rfl,aD (by rw[lG];exact hl)],λv hv=>?_⟩;have hn2:(aQ n).toNat=n:=rfl;rw[hn2];unfold dA at hv;unfold uM;by_cases hz:n=0
           .rw[aD (by simpa using hz)]at hv ⊢;exact keep _ _ hv
           .rw[av (by simpa using hz)]at hv ⊢;exact LH (by rw[hφ,yN,aD rfl]) hv
          .rw[av hl]at D;cases D
         .rw[av hij]at D;cases hli:(A:η)[o]? with
          |none=>
           have D:Z x'=io _ ((A:η)[o]?):=D;rw[hli]at D;cases D
          |some l=>
           have D:Z x'=io _ ((A:η)[o]?):=D;rw[hli]at D;simp only[bi,ah]at D;subst D;refine ⟨cl _ _ _,uM j o a l.toNat,?_,λv hv=>?_⟩
           .rw[ep,av hij];have:=yS j a A 0 o;rw[bX]at this;refine this.trans ?_;show io _ ((A:η)[o]?)=_;rw[hli];rfl
           .unfold uM at hv ⊢;by_cases hz:l.toNat=0
            .rw[aD (by simpa using hz)]at hv ⊢;exact keep _ _ hv
            .rw[av (by simpa using hz)]at hv ⊢;exact LH (by rw[hφ,yN,av (λe=>hij e.symm)]) hv
       .have hb2:(ty.h.get (ow q)).bind (PC h' (ow q) (ix q))=Z b':=by
         unfold erHF at ls;rw[hg,av L,av f1a,av f1b,av f2]at ls;exact ls
        cases hx:ty.h.get (ow q) with
        |none=>rw[hx]at hb2;cases hb2
        |some B=>
         rw[hx]at hb2;simp only[aF]at hb2;rw[mF hr (λs l e=>c.qz.G _ _ l (by rw[hx,e]))]at hb2;exact⟨b',by unfold erHF;rw[hx];exact hb2,λφ' O' hφ keep oo hoo=>hoo.mono keep⟩
    .intro q m b b' hn hm he;have key:∀n b,erHF h' n=Z b->ow n=ty.nx->∃k,n=jR ty.nx (k+1):=λn b hn L=>by
      cases hix:ix n with
      |zero=>rw[pq hix,L,hn0]at hn;cases hn
      |succ k=>exact⟨k,by rw[<- L,<-hix,kZ]⟩
     have dS:∀k,erHF h' (H9 ty.nx j r ai (jR ty.nx (k+1)))=U:=λk=>by
      refine hdead _ ?_;rw[yN];split
      .rw[di];exact .inl rfl
      .rw[iS];exact .inr rfl
     by_cases L:ow q=ty.nx
     .obtain⟨k,rfl⟩:=key q b hn L;by_cases f1:ow m=ty.nx
      .obtain⟨k2,rfl⟩:=key m b' hm f1;rw[yN,yN]at he;have:k=k2:=by
        split at he<;>split at he
        .omega
        .have:=(vy he).2;omega
        .have:=(vy he).2;omega
        .have:=(vy he).2;omega
       rw[this]
      .rw[show H9 ty.nx j r ai m=m from by unfold H9;rw[av f1]]at he;rw[<- he,dS k]at hm;cases hm
     .rw[show H9 ty.nx j r ai q=q from by unfold H9;rw[av L]]at he;by_cases f1:ow m=ty.nx
      .obtain⟨k2,rfl⟩:=key m b' hm f1;rw[he,dS k2]at hn;cases hn
      .rw[show H9 ty.nx j r ai m=m from by unfold H9;rw[av f1]]at he;exact he
   .cases h
  .cases h
 .cases h
def BV (nx a n:Nat):Nat:=if ow n=nx then jR a (ix n) else n
def yP (nx a k:Nat):BV nx a (jR nx k)=jR a k:=by
 unfold BV;rw[iS,wF,aD rfl]
def aih (a n:Nat) (B:e_):iN (rnG a n B)=iN B:=by
 cases B with
 |Q F b x=>
  simp[rnG];split<;>rfl
 |_=>rfl
def M2 {F:uF} (h:ajt F=J):(∃ty S,F= .ar ty S)\/∃ty T,F= .ir ty T:=by
 cases F with
 |ar ty S=>exact .inl ⟨ty,S,rfl⟩
 |ir ty T=>exact .inr ⟨ty,T,rfl⟩
 |_=>cases h
def afu {k:Nat} {F:uF} {x:F.ty.den} (z:Lc i k F x=Z N):∃b,Lc j k F x=Z b/\yw V O w (BV i j) b N:=by
 cases F with
 |ar ty S=>
  let⟨ob,h1,A⟩:=gy.1 z;subst A;exact⟨_,gy.2 ⟨ob,h1,rfl⟩,WH (λ_=>yP i j _) (λ_=>yP i j _)⟩
 |ir ty T=>exact⟨N,z,yw.refl _⟩
 |_=>cases z
def RH {R:AV->AV->Prop} {a nx:Nat} (z:∀j,R (.P (pM a j) 0) (.P (pM nx j) 0)):∀es:Y e!,EnR R (xd a es) (xd nx es)
 |[]=>trivial
 |e::r=>⟨rfl,z e.2,RH z r⟩
def aiy (D:ux i (.qn s) A=Z N):∃b,ux j (.qn s) A=Z b/\yw V O w (BV i j) b N:=by
 have hob:∀a,BV i j (pM i a)=pM j a:=λa=>yP i j _
 have D:(if aj A==0 then U else Z (kG.mk s (.mx (gM (λa=>AV.P (pM i a) 0) A))))=Z N:=D;show ∃b,(if aj A==0 then U else Z (kG.mk s (.mx (gM (λa=>AV.P (pM j a) 0) A))))=Z b/\_;split at D
 .cases D
 .rename_i L;rw[av L];simp[ah]at D;subst D;refine ⟨_,rfl,λφ' O' hφ keep oo hoo=>yU (by simp) (λa x' z=>?_) hoo⟩;rw[bB]at z ⊢;cases hjx:A[a]? with
  |none=>rw[hjx]at z;cases z
  |some nx=>
   rw[hjx]at z;simp[bi,ah]at z;subst z;exact⟨rfl,_,rfl,λv hv=>Dj (by grind) hv⟩
def aj2 {es:Y e!} (L:ux i .qr es=Z N):∃b,ux j .qr es=Z b/\yw V O w (BV i j) b N:=by
 have hob:∀a,BV i j (pM i a)=pM j a:=λa=>yP i j _
 cases L;refine ⟨_,rfl,λφ' O' hφ keep oo hoo=>?_⟩;let⟨A,z⟩:=EnR.get (RH (R:=λx y=>∀v,co V O w x v->co φ' O' w y v) (a:=j) (nx:=i) (λa v D=>Dj (by grind) D) es);exact MD A z hoo
def anp {z:Nat} (L:ux i (.rr s z) A=Z N):∃b,ux j (.rr s z) A=Z b/\yw V O w (BV i j) b N:=by
 have L:Z (kG.mk s (.mx (l7 i z 0 A)))=Z N:=L;simp[ah]at L;subst L;refine ⟨_,rfl,λφ' O' hφ keep oo hoo=>yU (by rw[lG,lG]) (λa x' D=>?_) hoo⟩;rw[yS]at D ⊢;cases hjx:A[a]? with
 |none=>rw[hjx]at D;cases D
 |some l=>
  rw[hjx]at D;simp only[bi,ah]at D;subst D;refine ⟨by unfold uM;split<;>rfl,uM j (0+a) z l.toNat,rfl,λv hv=>?_⟩;unfold uM at hv ⊢;by_cases hz:(l.toNat==0)=J
  .grind
  .rw[av hz]at hv ⊢;exact LH (by rw[hφ,yP]) hv
def afx {F:uF} {x:F.ty.den} (A:ux i F x=Z N):∃b,ux j F x=Z b/\yw V O w (BV i j) b N:=by
 cases F with
 |qn ty=>exact aiy A
 |qr=>exact aj2 A
 |rr ty z=>exact anp A
 |_=>cases A
def atd {s:TS} (c:jL P E nt np V s z w) {s':TS} (h:ate s i=Z s'):s'.e=s.e/\∃φ',jL P E nt np φ' s' z w/\x_ np V φ' (erHF s.h) (erHF s'.h) w w:=by
 unfold ate at h;split at h
 .rename_i F a0 x ha;split at h
  .rename_i hF;cases h;refine ⟨rfl,?_⟩;have hfr:=c.qz.fresh;have la:=c.qz.low i _ ha;have hi:=c.qz;generalize hh':((PT.updI (λ_ b=>rnG i s.nx b) 1 0 s.h).set i (Z (.qj J 0 0))).set s.nx (Z (.Q F 0 x))=h';have hg:∀ai,h'.get ai=if ai=s.nx then Z (.Q F 0 x) else if ai=i then Z (.qj J 0 0) else (s.h.get ai).map (rnG i s.nx):=λai=>by
    rw[<- hh',PT.get_set,PT.get_set,PT.get_updI]
   have hF0:sk F x=U:=by rcases M2 hF with ⟨_,_,rfl⟩|⟨_,_,rfl⟩<;>rfl
   have hFB:∀q,ux q F x=U:=λq=>by rcases M2 hF with ⟨_,_,rfl⟩|⟨_,_,rfl⟩<;>rfl
   have hr:bV s.h h':=λai q hq=>by
    rw[bA]at hq ⊢;rw[hg];by_cases L:ai=s.nx
    .grind
    .rw[av L];by_cases f1:ai=i
     .rw[f1,ha]at hq;simp only[aF,iN,hF0]at hq;cases hq
     .rw[av f1];cases A:s.h.get ai with
      |none=>rw[A]at hq;cases hq
      |some B=>rw[A]at hq;simp only[bi,aF]at hq ⊢;rw[aih];exact hq
   have hinv:hX h' (s.nx+1):=by
    refine ⟨λai ty l hil=>?_,λai c' hic=>?_⟩
    .rw[hg]at hil;split at hil
     .cases hil
     .split at hil
      .cases hil
      .cases A:s.h.get ai with
       |none=>rw[A]at hil;cases hil
       |some B=>
        rw[A]at hil;simp only[bi,ah]at hil;cases B with
        |G ty2 l3=>
         simp only[rnG,e_.G.injEq]at hil;obtain⟨_,rfl⟩:=hil;exact fA hr l3 (hi.G ai _ l3 A)
        |Q F b x=>simp only[rnG]at hil;split at hil<;>cases hil
        |_=>cases hil
    .rw[hg]at hic;split at hic
     .omega
     .split at hic
      .omega
      .cases A:s.h.get ai with
       |none=>rw[A]at hic;cases hic
       |some B=>have:=hi.low ai B A;omega
   have hdead:∀n,ow n=i->erHF h' n=U:=λn hn=>by
    unfold erHF;rw[hg,av (by omega),aD hn];simp only[aF];cases ix n<;>rfl
   have hn0:erHF h' (nm s.nx)=U:=by
    rw[bJ,hg,aD rfl];exact hFB _
   have hmN:∀k,erHF h' (jR s.nx (k+1))=Lc s.nx k F x:=λk=>by rw[kS,hg,aD rfl];rfl
   have hmO:∀k,erHF s.h (jR i (k+1))=Lc i k F x:=λk=>by rw[kS,ha];rfl
   refine LJ c (BV s.nx i) (λn hn=>by unfold BV;rw[av hn]) hr hinv (λn b' D=>?_) λn m b b' hn hm he=>?_
   .by_cases L:ow n=s.nx
    .cases hix:ix n with
     |zero=>rw[pq hix,L,hn0]at D;cases D
     |succ k=>
      have en:n=jR s.nx (k+1):=by rw[<- L,<-hix,kZ]
      subst en;rw[hmN]at D;rw[yP,hmO];exact afu D
    .have hs:BV s.nx i n=n:=by unfold BV;rw[av L]
     rw[hs];by_cases f1:ow n=i
     .grind
     .cases A:s.h.get (ow n) with
      |none=>
       unfold erHF at D
       grind
      |some B=>
       have a:PC h' (ow n) (ix n) (rnG i s.nx B)=Z b':=by
        unfold erHF at D
        grind
       have same:rnG i s.nx B=B->∃b,erHF s.h n=Z b/\yw V (tot E V (erHF s.h)) w (BV s.nx i) b b':=λe=>by
        rw[e,mF hr (λty l e=>hi.G _ _ l (by rw[A,e]))]at a;exact⟨b',by unfold erHF;rw[A];exact a,yw.refl b'⟩
       cases B with
       |Q G b y=>
        by_cases hc:(!(ajt G)&&ax b i)=J
        .have e0:rnG i s.nx (.Q G b y)= .Q G s.nx y:=by simp only[rnG];rw[aD hc]
         rw[e0]at a;simp only[al,ca]at hc;have hba:=au hc.2;subst hba;cases hix:ix n with
         |succ k=>
          rw[hix]at a;cases G with
          |ar ty S|ir ty T=>cases hc.1
          |_=>cases a
         |zero=>
          rw[hix]at a;have hsrc:erHF s.h n=ux b G y:=by unfold erHF;rw[A,hix];rfl
          rw[hsrc];exact afx a
        .exact same (by simp only[rnG];rw[av hc])
       |_=>exact same rfl
   .have hs:∀n,ow n≠s.nx->BV s.nx i n=n:=λn hn=>by unfold BV;rw[av hn]
    have key:∀n b,erHF h' n=Z b->ow n=s.nx->BV s.nx i n=jR i (ix n):=λn b hn L=>by unfold BV;rw[aD L]
    by_cases L:ow n=s.nx
    .rw[key n b hn L]at he;by_cases f1:ow m=s.nx
     .rw[key m b' hm f1]at he;rw[<- kZ n,<-kZ m,L,f1,(vy he).2]
     .rw[hs m f1]at he;rw[<- he,hdead _ (iS ..)]at hm;cases hm
    .rw[hs n L]at he;by_cases f1:ow m=s.nx
     .rw[key m b' hm f1]at he;rw[he,hdead _ (iS ..)]at hn;cases hn
     .grind
  .cases h
 .cases h
variable {m:Y TV}
def ath {cty:TS} (c:jL P E nt np V cty z w) {id:Nat} (hb:cty.h.get i=Z (.G (Z s) m)) (hv:m[j]? =Z (.I id)) {ty:TypeId} {ai:Nat} (L:cty.h.get id=Z (.Q (.qn ty) ai A)):∃φ',jL P E nt np φ' ⟨cty.e,((cty.h.set id (Z (.qj J 1 (aj A)))).set cty.nx (Z (.Q (.qn ty) ai A))).set i (Z (.G (Z s) (splice m j [.I cty.nx]))),cty.nx+1⟩ z w/\x_ np V φ' (erHF cty.h) (erHF (((cty.h.set id (Z (.qj J 1 (aj A)))).set cty.nx (Z (.Q (.qn ty) ai A))).set i (Z (.G (Z s) (splice m j [.I cty.nx]))))) w w:=by
 have hfr:=c.qz.fresh;have hidlt:=c.qz.low id _ L;have hblt:=c.qz.low i _ hb;have hbid:i≠id:=λe=>by rw[e,L]at hb;cases hb
 have hbn:i≠cty.nx:=by omega
 have hin:id≠cty.nx:=by omega
 generalize hh2:(((cty.h.set id (Z (.qj J 1 (aj A)))).set cty.nx (Z (.Q (.qn ty) ai A))).set i (Z (.G (Z s) (splice m j [.I cty.nx]))))=h2;have kx:∀b,h2.get b=if b=i then Z (.G (Z s) (splice m j [.I cty.nx])) else if b=cty.nx then Z (.Q (.qn ty) ai A) else if b=id then Z (.qj J 1 (aj A)) else cty.h.get b:=λb=>by
  rw[<- hh2,PT.get_set,PT.get_set,PT.get_set]
 have hr:bV cty.h h2:=λb r hi=>by
  rw[bA]at hi ⊢;rw[kx];by_cases e1:b=i
  .subst e1;rw[hb]at hi;cases hi
  .rw[av e1];by_cases e2:b=cty.nx
   .subst e2;rw[hfr]at hi;cases hi
   .rw[av e2];by_cases e3:b=id
    .subst e3;rw[aD rfl];rw[L]at hi;exact hi
    .rw[av e3];exact hi
 have hlo:=c.qz.G i _ m hb;let⟨l',hl'⟩:=fI cty.h m hlo;have hrow:bW h2 (.I cty.nx)=Z (dA J cty.nx 1 (l! A)):=by
  simp only[bW,bA,kx];rw[av hbn.symm];simp only[bk,aF,iN,sk]
 have hsp:cN h2 (splice m j [.I cty.nx])=Z (splice l' j [dA J cty.nx 1 (l! A)]):=rq _ (g_ hr _ _ hl') (by simp only[cN,hrow]);let⟨y,hy,hey⟩:=mE hl' _ _ hv;have hy0:y=dA J id 1 (l! A):=by
  simp only[bW,bA,L,aF,iN,sk,ah]at hey;exact hey.symm
 subst hy0;have hinv:hX h2 (cty.nx+1):=by
  refine ⟨λb ty2 l2 hil=>?_,λb q hiq=>?_⟩
  .rw[kx]at hil;split at hil
   .simp only[ah,e_.G.injEq]at hil;obtain⟨_,rfl⟩:=hil;exact mf _ _ _ hsp
   .split at hil
    .cases hil
    .split at hil
     .cases hil
     .exact fA hr l2 (c.qz.G b _ l2 hil)
  .rw[kx]at hiq;split at hiq
   .omega
   .split at hiq
    .omega
    .split at hiq
     .omega
     .have:=c.qz.low b q hiq;omega
 have hdead:∀n,ow n=id->erHF h2 n=U:=λn hn=>by
  unfold erHF;rw[kx,av (by omega),av (by omega),aD hn];simp only[aF];cases ix n<;>rfl
 have hm0:∀n k,ow n=cty.nx->ix n=k+1->erHF h2 n=U:=λn k hn hk=>by
  unfold erHF;rw[kx,av (by omega),aD hn,hk];rfl
 refine LJ c (λn=>if n=nm cty.nx then nm id else n) (λn hn=>by rw[av (λe=>hn (by rw[e,di]))]) hr hinv (λn b' a=>?_) λn l p q hn hm he=>?_
 .show ∃i,erHF cty.h (if n=nm cty.nx then nm id else n)=Z i/\_;by_cases f0:ow n=cty.nx
  .cases hix:ix n with
   |succ k=>rw[hm0 n k f0 hix]at a;cases a
   |zero=>
    have en:n=nm cty.nx:=by rw[<- f0];exact pq hix
    rw[aD en];subst en;rw[bJ,kx,av hbn.symm,aD rfl]at a;rw[bJ,L];exact⟨b',a,λφ' O' hφ keep oo hoo=>hoo.mono keep⟩
  .have en:n≠nm cty.nx:=λe=>f0 (by rw[e,di])
   rw[av en];by_cases f1:ow n=id
   .rw[hdead n f1]at a;cases a
   .by_cases f2:ow n=i
    .cases hix:ix n with
     |succ k=>
      unfold erHF at a;rw[kx,aD f2,hix]at a;cases a
     |zero=>
      have eb:n=nm i:=by rw[<- f2];exact pq hix
      subst eb;rw[bJ,kx,aD rfl]at a;simp only[aF,kJ,hsp,ah]at a;subst a;refine ⟨⟨s,.mx l'⟩,by rw[bJ,hb];simp only[aF,kJ,hl'],λφ' O' hφ keep oo hoo=>?_⟩;have hlt:j<l! l':=(bC.1 hy).1;have hφ0:φ' (nm cty.nx)=V (nm id):=by rw[hφ];simp
      rw[qW rfl]at hoo ⊢;let⟨arr,a1,a2⟩:=hoo;refine ⟨arr,a1,?_⟩;unfold vJ at a2 ⊢;refine ⟨by simp only[BC.len]at a2 ⊢;rw[nK (by simp;omega)];exact a2.1,λo x D=>?_⟩;simp only[BC.get]at D a2;rw[oB (by simp;omega)]at D;split at D
      .grind
      .split at D
       .rename_i h3 h4;simp only[cq]at h4;have hj:o=j:=by omega
        subst hj;simp only[LC,ie,ah]at D;subst D;let⟨_,v,a3,a4⟩:=a2.2 _ _ hy;refine ⟨by unfold dA;split<;>rfl,v,a3,?_⟩;unfold dA at a4 ⊢;by_cases hz:l! A=0
        .grind
        .rw[av (by simpa using hz)]at a4 ⊢;exact LH hφ0 a4
       .grind
    .cases D:cty.h.get (ow n) with
     |none=>
      unfold erHF at a;rw[kx,av f2,av f0,av f1,D]at a;cases a
     |some B=>
      unfold erHF at a;rw[kx,av f2,av f0,av f1,D]at a;simp only[aF]at a;rw[mF hr (λty m e=>c.qz.G _ _ m (by rw[D,e]))]at a;exact⟨b',by unfold erHF;rw[D];exact a,λφ' O' hφ keep oo hoo=>hoo.mono keep⟩
 .have he:(if n=nm cty.nx then nm id else n)=(if l=nm cty.nx then nm id else l):=he;by_cases f0:n=nm cty.nx
  .rw[aD f0]at he;by_cases f1:l=nm cty.nx
   .rw[f0,f1]
   .rw[av f1]at he;rw[<- he,hdead _ (di id)]at hm;cases hm
  .rw[av f0]at he;by_cases f1:l=nm cty.nx
   .rw[aD f1]at he;rw[he,hdead _ (di id)]at hn;cases hn
   .rw[av f1]at he;exact he
def at8 {s:TS} (c:jL P E nt np V s z w) {s':TS} (h:at9 s i=Z s'):s'.e=s.e/\∃φ',jL P E nt np φ' s' z w/\x_ np V φ' (erHF s.h) (erHF s'.h) w w:=by
 unfold at9 at h;split at h
 next a=>exact atc c a h
 next a=>exact ata c a h
 .split at h
  .cases h
  .exact atd c h
 .cases h
def X' {s:TS} (c:jL P E nt np V s z w) (hr:bV s.h h) (D:erHF h=erHF s.h) (hinv:hX h (s.nx+1)):jL P E nt np V ⟨s.e,h,s.nx+1⟩ z w/\x_ np V V (erHF s.h) (erHF h) w w:=by
 refine ⟨⟨by rw[D];exact c.zq,λt x A=>?_,λn k hk=>vw (c.dom n k hk),gg c.low,hinv,λt x A=>nC hr x (c.qm t x A),c.inert,c.size⟩,by rw[D];exact x_.refl _ _ _ _⟩;rw[D];simp[fR]at A;cases he:s.e.get t with
 |none=>rw[he]at A;cases A
 |some q=>
  rw[he]at A;let⟨a,L⟩:=pn s.h q (c.qm t q he);simp[aF,fM hr q a L,ah]at A;subst A;exact c.env t _ (by simp[fR,he,aF,L])
def axp {s:TS} (c:jL P E nt np V s z w) {φ:Ty} {es:Y (K.den×φ.den)} (hb:s.h.get i=Z (.mp K φ es)) (hE:mpE K φ es=J) (ty:TypeId) (S:Ty):jL P E nt np V ⟨s.e,(s.h.set i (Z (.Q .qr s.nx []))).set s.nx (Z (.Q (.ar ty S) 0 [])),s.nx+1⟩ z w/\x_ np V V (erHF s.h) (erHF ((s.h.set i (Z (.Q .qr s.nx []))).set s.nx (Z (.Q (.ar ty S) 0 [])))) w w:=by
 have hfr:=c.qz.fresh;have hlt:=c.qz.low i _ hb;generalize hh':(s.h.set i (Z (.Q .qr s.nx []))).set s.nx (Z (.Q (.ar ty S) 0 []))=h';have D:∀id,h'.get id=if id=s.nx then Z (.Q (.ar ty S) 0 []) else if id=i then Z (.Q .qr s.nx []) else s.h.get id:=λid=>by
  rw[<- hh',PT.get_set,PT.get_set]
 have L:bV s.h h':=λid q hi=>by
  rw[bA]at hi ⊢;rw[D];by_cases A:id=s.nx
  .grind
  .rw[av A];by_cases a:id=i
   .rw[a,hb]at hi;cases hi
   .grind
 refine X' c L ?_ ⟨λid ty l hil=>?_,λid c' hic=>?_⟩
 .funext n;unfold erHF;rw[D];by_cases A:ow n=s.nx
  .rw[aD A,A,hfr];cases ix n<;>rfl
  .rw[av A];by_cases a:ow n=i
   .rw[aD a,a,hb];simp[aF];cases ix n with
    |succ k=>rfl
    |zero=>
     simp[PC,kJ,Ck (aje hE),Td hE,Dd];rfl
   .rw[av a];cases hx:s.h.get (ow n) with
    |none=>rfl
    |some B=>exact mF L (λty l e=>c.qz.G _ _ l (by rw[hx,e])) _ _
 .rw[D]at hil;split at hil
  .cases hil
  .split at hil
   .cases hil
   .exact fA L l (c.qz.G id _ l hil)
 .rw[D]at hic;split at hic
  .omega
  .split at hic
   .omega
   .have:=c.qz.low id c' hic;omega
def axl {s:TS} (c:jL P E nt np V s z w) (ai:Nat) (ty:TypeId):jL P E nt np V ⟨s.e,s.h.set s.nx (Z (.Q (.qn ty) ai [])),s.nx+1⟩ z w/\erHF (s.h.set s.nx (Z (.Q (.qn ty) ai [])))=erHF s.h:=by
 have hfr:=c.qz.fresh;have a:bV s.h (s.h.set s.nx (Z (.Q (.qn ty) ai []))):=bV.set λr a=>by rw[bA,hfr]at a;cases a
 have D:erHF (s.h.set s.nx (Z (.Q (.qn ty) ai [])))=erHF s.h:=by
  funext n;unfold erHF;rw[PT.get_set];by_cases A:ow n=s.nx
  .rw[aD A,A,hfr];cases ix n<;>rfl
  .rw[av A];cases L:s.h.get (ow n) with
   |none=>rfl
   |some B=>exact mF a (λty l e=>c.qz.G _ _ l (by rw[L,e])) _ _
 exact⟨(X' c a D (c.qz.set a (xo _) (Sm _) (λ_ _ he=>by cases he))).1,D⟩
end ren
def C9:∀(l:Y uD) (acc:Nat),UA l acc=acc|||UA l 0
 |[],acc=>by simp[UA]
 |o::r,acc=>by
  simp only[UA];cases o.dst with
  |none=>exact C9 r acc
  |some d=>simp only[];rw[C9 r (acc|||gF d),C9 r (0|||gF d),wX,kW]
def Dp:∀(l:ι) (acc:Nat),P3 l acc=acc|||P3 l 0
 |[],acc=>by simp[P3]
 |k::r,acc=>by simp only[P3];rw[Dp r (acc|||gF k),Dp r (0|||gF k),wX,kW]
def kT:∀(l:Y Adj) (acc:Nat),nk l acc=acc|||nk l 0
 |[],acc=>by simp[nk]
 |.nil k _ _::r,acc=>by simp only[nk];rw[kT r (acc|||gF k),kT r (0|||gF k),wX,kW]
 |.qh _ _ _ _::r,acc|.mpt _ _ _::r,acc=>by exact kT r acc
 |.qx k _::r,acc=>by simp only[nk];rw[kT r (acc|||gF k),kT r (0|||gF k),wX,kW]
 |.pk _ _ _::r,acc|.fmp _ _ _ _::r,acc|.frw _ _ _ _::r,acc|.jm _ _::r,acc=>by exact kT r acc
def ia:∀(c:TC) (acc:Nat),c.asg acc=acc|||c.asg 0
 |.jw ops _,acc=>C9 ops acc
 |.seq a b,acc=>by simp[TC.asg];rw[ia b (a.asg acc),ia b (a.asg 0),ia a acc,kW]
 |.jq A a b,acc=>by simp[TC.asg];rw[ia b (a.asg _),ia b (a.asg (P3 A.ks 0)),ia a (P3 A.ks acc),ia a (P3 A.ks 0),Dp A.ks acc,kW,kW,kW]
 |.cond _ a b,acc=>by simp[TC.asg];rw[ia b (a.asg acc),ia b (a.asg 0),ia a acc,kW]
 |.block _ b,acc=>ia b acc
 |.zk A _ b,acc|.loop A b,acc=>by simp[TC.asg];rw[ia b (P3 A.ks acc),ia b (P3 A.ks 0),Dp A.ks acc,kW]
 |.defer _ _ t,acc=>by simp[TC.asg]
 |.adj l c,acc=>by simp[TC.asg];rw[ia c (nk l acc),ia c (nk l 0),kT l acc,kW]
 |.split _ _ _ _ c,acc=>ia c acc
 |.bsp _ a b,acc=>by simp[TC.asg];rw[ia b (a.asg acc),ia b (a.asg 0),ia a acc,kW]
 |.unl _ b,acc=>ia b acc
 |.skip,acc|.exit _,acc|.ret,acc|.zn,acc=>by simp[TC.asg]
def vH {c:TC} (h:aL (c.asg 0) j=J):aL (c.asg i) j=J:=by rw[ia,bu,h];simp
def kF {c:TC} (h:aL i j=J):aL (c.asg i) j=J:=by rw[ia,bu,h];rfl
def acq:∀{l:ι} {acc k:Nat},k∈l->aL (P3 l acc) k=J
 |[],_,_,h=>by cases h
 |x::r,acc,k,h=>by
  simp[P3];rcases aV.1 h with rfl|h
  .rw[Dp,bu,bu,bq.2 rfl];simp
  .exact acq h
def X5:∀{l:Y uD} {acc:Nat} {o:uD} {d:Nat},o∈l->o.dst=Z d->aL (UA l acc) d=J
 |[],_,_,_,h,_=>by cases h
 |x::r,acc,o,d,h,hd=>by
  simp[UA];rcases aV.1 h with rfl|h
  .rw[hd];rw[C9,bu,bu,bq.2 rfl];simp
  .exact X5 h hd
def ad0:∀{e:ii} {z:ι} {vs:Y TV},kx e z=Z vs->l! vs=l! z/\∀(j k:Nat),z[j]? =Z k->∃v,vs[j]? =Z v/\e.get k=Z v
 |e,[],vs,h=>by simp[kx,ah]at h;subst h;exact⟨rfl,by simp⟩
 |e,k::r,vs,h=>by
  simp[kx]at h;split at h
  .rename_i v L;split at h
   .rename_i l hl;simp[ah]at h;subst h;let⟨h1,h2⟩:=ad0 hl;refine ⟨by simp[h1],λj D A=>?_⟩;cases j with
    |zero=>simp at A;subst A;exact⟨v,rfl,L⟩
    |succ j=>simpa using h2 j D (by grind)
   .cases h
  .cases h
def MC {e:ii} (hi:sM e h):∀{A:ι} {vs:Y TV},kx e A=Z vs->l8 h vs=J
 |[],vs,z=>by simp[kx,ah]at z;subst z;rfl
 |k::r,vs,z=>by
  simp[kx]at z;split at z
  .rename_i v D;split at z
   next l L=>simp[ah]at z;subst z;simp[l8,al];exact⟨hi k v D,MC hi L⟩
   .cases z
  .cases z
def FX:∀{e:ii} {z:ι} {vs:Y TV},l! vs=l! z->∀t v,(aen e z vs).get t=Z v->(∃j:Nat,z[j]? =Z t/\vs[j]? =Z v)\/(t∉z/\e.get t=Z v)
 |e,[],[],_,t,v,h=>.inr ⟨by simp,h⟩
 |e,[],_::_,A,t,v,h|e,_::_,[],A,t,v,h=>by simp at A
 |e,k::r,u::l,A,t,v,h=>by
  simp[aen,PT.get_set]at h;split at h
  next L=>subst L;cases h;exact .inl ⟨0,rfl,rfl⟩
  .rename_i L;rcases FX (by grind) t v h with ⟨j,h1,D⟩|⟨h1,D⟩
   .exact .inl ⟨j+1,by simpa using h1,by simpa using D⟩
   .grind
def vP {e:ii}:∀{A:ι} {k:Nat} {v:TV},(Gt i e A).get k=Z v->k∈A/\e.get k=Z v/\wG v=J/\aL i k=af
 |[],k,v,h=>by simp[Gt,PT.get]at h
 |x::r,k,v,h=>by
  simp[Gt]at h;split at h
  .rename_i u D;split at h
   .rename_i L;rw[PT.get_set]at h;split at h
    .grind
    .obtain⟨h1,z⟩:=vP h;exact⟨by simp[h1],z⟩
   .obtain⟨h1,z⟩:=vP h;exact⟨by simp[h1],z⟩
  .obtain⟨h1,z⟩:=vP h;exact⟨by simp[h1],z⟩
def MZ {e0 e:ii}:∀{z:ι},LU i e0 e z=J->∀k v,k∈z->e0.get k=Z v->wG v=J->aL i k=af->∃D,e.get k=Z D
 |[],_,k,v,h,_,_,_=>by cases h
 |x::r,A,k,v,h,L,hf,ha=>by
  simp[LU,al]at A;rcases aV.1 h with rfl|h
  .grind
  .exact MZ A.2 k v h L hf ha
section walk
variable {P:Program} {E:Nat->Prop} {nt np:Nat}
def WN (A:ajr u=J) (z:bW h u=Z y):Le y .emp:=by
 cases u with
 |nil=>simp[bW,ah]at z;subst z;exact Le.nilEmp
 |emp=>simp[bW,ah]at z;subst z;exact Le.refl _
 |_=>cases A
def ae2 {s:TS} (c:jL P E nt np V s z w) (ty:TypeId) (T:Ty):jL P E nt np V ⟨s.e,s.h.set s.nx (Z (.H ty J T [])),s.nx+1⟩ z w/\erHF (s.h.set s.nx (Z (.H ty J T [])))=erHF s.h/\bV s.h (s.h.set s.nx (Z (.H ty J T []))):=by
 have hfr:=c.qz.fresh;have D:bV s.h (s.h.set s.nx (Z (.H ty J T []))):=bV.set λr D=>by rw[bA,hfr]at D;cases D
 have L:erHF (s.h.set s.nx (Z (.H ty J T [])))=erHF s.h:=by
  funext n;by_cases hn:n=nm s.nx
  .subst hn;rw[bJ,bJ,PT.get_set,aD rfl,hfr];rfl
  .refine ng c.qz D (iQ.set (by rw[hfr];rfl) rfl) λi e=>?_
   subst e;rw[PT.get_set,av (λe=>hn (by rw[e]))]
 refine ⟨⟨by rw[L];exact c.zq,?_,λn k hk=>vw (c.dom n k hk),gg c.low,c.qz.set D (xo _) (Sm _) (λ_ _ he=>by cases he),?_,c.inert,c.size⟩,L,D⟩
 .intro t x A;rw[L];simp[fR]at A;cases he:s.e.get t with
  |none=>rw[he]at A;cases A
  |some q=>
   rw[he]at A;let⟨a,hz⟩:=pn s.h q (c.qm t q he);simp[aF,fM D q a hz,ah]at A;subst A;exact c.env t _ (by simp[fR,he,aF,hz])
 .intro t x A;exact nC D x (c.qm t x A)
def Ch :∀{a b:Y TV},l8 h a=J->l8 h b=J->l8 h (a++b)=J
 |[],_,_,z=>z
 |x::r,b,A,z=>by
  simp[l8,al]at A;simp[gR,l8,al];exact⟨A.1,Ch A.2 z⟩
def Rk :∀{a:Y TV} (n:Nat),l8 h a=J->l8 h (a.take n)=J
 |[],n,_=>by simp[l8]
 |x::r,0,_=>rfl
 |x::r,n+1,z=>by
  simp[l8,al]at z;simp[yD,l8,al];exact⟨z.1,Rk n z.2⟩
def Rl :∀{a:Y TV} (n:Nat),l8 h a=J->l8 h (a.drop n)=J
 |[],n,_=>by simp[l8]
 |x::r,0,z=>z
 |x::r,n+1,z=>by
  simp[l8,al]at z;exact Rl n z.2
def Cb {l:Y R} {x:R} (h:l[j]? =Z x):splice l j [x]=l:=by
 have z:j<l! l:=by grind
 rw[aG z,ah]at h;unfold splice;subst h;simp
def Ya {s:TS} (c:jL P E nt np V s z w) {id:Nat} {cty:M TypeId} {l:Y TV} {v:TV} (hb:s.h.get id=Z (.G cty l)) (hv:l[j]? =Z v) (hn:ajr v=J) (hu:bW s.h u=Z .emp) (huo:P0 s.h u=J):
 jL P E nt np V ⟨s.e,s.h.set id (Z (.G cty (splice l j [u]))),s.nx⟩ z w/\x_ np V V (erHF s.h) (erHF (s.h.set id (Z (.G cty (splice l j [u]))))) w w:=by
 have D:bV s.h (s.h.set id (Z (.G cty (splice l j [u])))):=bV.set λr D=>by rw[bA,hb]at D;cases D
 have hlo:=c.qz.G id _ l hb;let⟨l',L⟩:=fI s.h l hlo;have hsp:cN s.h (splice l j [u])=Z (splice l' j [.emp]):=rq j L (by simp[cN,hu]);have hsp':cN (s.h.set id (Z (.G cty (splice l j [u])))) (splice l j [u])=Z (splice l' j [.emp]):=g_ D _ _ hsp;let⟨y,hy,hey⟩:=mE L j v hv;have hold:erHF s.h (nm id)=Z (ali cty l'):=by rw[bJ,hb];cases cty<;>(simp [aF,kJ,L];rfl)
 have hnew:erHF (s.h.set id (Z (.G cty (splice l j [u])))) (nm id)=Z (ali cty (splice l' j [.emp])):=by
  rw[bJ,PT.get_set,aD rfl];cases cty<;>(simp [aF,kJ,hsp'];rfl)
 have hoth:∀n,n≠nm id->erHF (s.h.set id (Z (.G cty (splice l j [u])))) n=erHF s.h n:=λn hn'=>by
  refine ng c.qz D (iQ.set (by rw[hb];rfl) rfl) λi e=>?_
  subst e;rw[PT.get_set,av (λe=>hn' (by rw[e]))]
 have hdom:rC (erHF s.h) (erHF (s.h.set id (Z (.G cty (splice l j [u]))))):=λn b hb'=>by grind
 have hcell:∀ty,cty=Z ty->∀x∈l',x.isCell=J:=λty hty x A=>by
  subst hty;let⟨k,hk⟩:=fH A;let⟨q,_,_,hat⟩:=c.zq.at_ _ _ hold;let⟨ob,_,hob⟩:=hat;let⟨arr,_,hca⟩:=hob;exact (hca.2 k x hk).1
 have hV:Pd (erHF s.h) (erHF (s.h.set id (Z (.G cty (splice l j [u]))))):=⟨hdom,λn b b' h1 h2=>by
  by_cases e:n=nm id
  .subst e;rw[hold]at h1;cases h1;rw[hnew]at h2;cases h2;have hle:hP (erHF s.h) (erHF (s.h.set id (Z (.G cty (splice l j [u]))))) l' (splice l' j [.emp]):=by
    have:=hP.splice j (hP.refl hdom l') (b:=[y]) (b':=[.emp]) ⟨(WN hn hey).toH hdom,trivial⟩;rw[Cb hy]at this;exact this
   cases cty with
   |none=>exact gu.none
   |some ty=>
    refine gu.G rfl rfl hle λx A=>?_
    have A:x∈splice l' j [.emp]:=A;unfold splice at A;rw[bO,bO,aE]at A;rcases A with (A|A)|A
    .grind
    .subst A;rfl
    .grind
  .rw[hoth n e,h1]at h2;cases h2;exact gu.refl hdom b⟩
 refine ⟨⟨hV.zq c.zq,?_,c.dom,c.low,c.qz.set D (c.qz.low id _ hb) (bK _) (λty l2 he=>?_),?_,c.inert,c.size⟩,⟨H4.refl _ _,λk _ ho=>hdom.own ho,λ_ _=>rfl⟩⟩
 .intro t x A;simp[fR]at A;cases he:s.e.get t with
  |none=>rw[he]at A;cases A
  |some q=>
   rw[he]at A;let⟨a,hz⟩:=pn s.h q (c.qm t q he);simp[aF,fM D q a hz,ah]at A;subst A;exact (c.env t _ (by simp[fR,he,aF,hz])).dom hdom
 .simp[e_.G.injEq]at he;obtain⟨_,rfl⟩:=he;refine fA D _ ?_;exact Ch (Ch (Rk _ hlo) (by simp only[l8,huo,fx])) (Rl _ hlo)
 .intro t x A;exact nC D x (c.qm t x A)
def jL.congr {s s':TS} (c:jL P E nt np V s z w) (he:∀t,s'.e.get t=s.e.get t) (hh:∀i,s'.h.get i=s.h.get i) (hn:s'.nx=s.nx):jL P E nt np V s' z w/\erHF s'.h=erHF s.h:=by
 have L:bV s.h s'.h:=λi r hi=>by rw[bA]at hi ⊢;rw[hh];exact hi
 have hH:erHF s'.h=erHF s.h:=by funext n;exact ng c.qz L (λi k=>by rw[hh]) λi _=>hh i
 refine ⟨⟨by rw[hH];exact c.zq,?_,by rw[hn];exact c.dom,by rw[hn];exact c.low,⟨λi ty l A=>?_,λi b A=>?_⟩,λt v hv=>?_,c.inert,c.size⟩,hH⟩
 .intro t x D;rw[hH];simp[fR,he]at D;cases A:s.e.get t with
  |none=>rw[A]at D;cases D
  |some v=>
   rw[A]at D;let⟨a,hz⟩:=pn s.h v (c.qm t v A);simp[aF,fM L v a hz,ah]at D;subst D;exact c.env t _ (by simp[fR,A,aF,hz])
 .rw[hh]at A;exact fA L l (c.qz.G i _ l A)
 .rw[hh]at A;rw[hn];exact c.qz.low i b A
 .rw[he]at hv;exact nC L v (c.qm t v hv)
variable {a:Int}
def U9 {f:Nat->M R} {r:R}:∀{m i:Nat},spl a f i m=Z r->∃j,a=aQ j/\f j=Z r
 |0,i,h=>by cases h
 |m+1,i,h=>by
  rcases lV h with ⟨h1,z⟩|⟨_,z⟩
  .grind
  .exact U9 z
def aic {s s':TS} (c:jL P E nt np V s z w) {kd:IntKind} {v:Int} (h1:ajx s i j=Z (kd,v)) (a:YO s i j kd v=Z s'):jL P E nt np V s' z w/\erHF s'.h=erHF s.h/\∀t,s'.e.get t=s.e.get t:=by
 unfold ajx at h1;unfold YO at a;cases hk:s.e.get i with
 |none=>rw[hk]at h1;cases h1
 |some x=>
  rw[hk]at h1 a;cases x with
  |f T q=>
   cases T with
   |int kd'=>
    simp[ah,aR]at h1;obtain⟨rfl,rfl⟩:=h1;simp[ah]at a;subst a;have he:∀t,(s.e.set i (Z (.f (.int kd') q))).get t=s.e.get t:=λt=>by
     rw[PT.get_set];split
     .grind
     .rfl
    let⟨g1,g2⟩:=c.congr (s':=⟨s.e.set i (Z (.f (.int kd') q)),s.h,s.nx⟩) he (λ_=>rfl) rfl;exact⟨g1,g2,he⟩
   |_=>cases h1
  |P a0 A=>
   simp[]at h1 a;cases L:s.h.get a0 with
   |none=>rw[L]at h1;cases h1
   |some b=>
    rw[L]at h1 a;cases b with
    |G ty l=>
     cases ty with
     |none=>cases h1
     |some ty=>
     simp only[]at h1 a;cases D:l[A+j]? with
     |none=>rw[D]at h1;cases h1
     |some y=>
      rw[D]at h1;cases y with
      |f T q=>
       cases T with
       |int kd'=>
        simp[ah,aR]at h1;obtain⟨rfl,rfl⟩:=h1;simp[ah]at a;subst a;have hh:∀k,(s.h.set a0 (Z (.G (Z ty) (splice l (A+j) [.f (.int kd') q])))).get k=s.h.get k:=λk=>by
         rw[PT.get_set];split
         next e=>subst e;rw[L,Cb D]
         .rfl
        let⟨g1,g2⟩:=c.congr (s':=⟨s.e,s.h.set a0 (Z (.G (Z ty) (splice l (A+j) [.f (.int kd') q]))),s.nx⟩) (λ_=>rfl) hh rfl;exact⟨g1,g2,λ_=>rfl⟩
       |_=>cases h1
      |_=>cases h1
    |_=>cases h1
  |_=>cases h1
mutual
def Q7 (id sz n:Nat):∀v:TV,wG v=J->PN id sz n v=v
 |.f _ _,_|.zf _ _ _ _ _,_|.emp,_|.nil,_|.undef,_|.np,_|.qw,_=>rfl
 |.agg l,h|.qb l,h=>by simp[PN];rw[ER id sz n l h]
 |.zj _ _ _ _,h|.P _ _,h|.qg _ _ _,h|.I _,h|.zh _ _,h|.mp _,h|.qc _ _,h|.qy _ _,h|.sb _,h=>by cases h
def ER (id sz n:Nat):∀l:Y TV,r9 l=J->Jr id sz n l=l
 |[],_=>rfl
 |x::r,h=>by
  simp[r9,al]at h;simp only[Jr];rw[Q7 id sz n x h.1,ER id sz n r h.2]
end
section subs
variable {id sz n:Nat} {h h':aY}
mutual
def Sz (hr:bV h h') (hid:eQ h' id=Z (af,sz,n)):∀(v:TV) (y:AV),bW h v=Z y->bW h' (PN id sz n v)=Z y
 |.qg i s m,y,he=>by
  simp[bW,ah]at he;subst he;simp only[PN];split
  .rename_i hq;simp only[al]at hq;have e1:=au hq.1.1;have e2:=au hq.1.2;have e3:=au hq.2;subst e1 e2 e3;simp[bW,hid,dA,gO,cL,dF]
  .rfl
 |.agg l,y,he|.qb l,y,he|.qy g l,y,he=>by
  simp[bW]at he;cases hl:cN h l with
  |none=>rw[hl]at he;cases he
  |some l'=>rw[hl]at he;simp only[PN,bW,yM hr hid l l' hl];exact he
 |.f T v,y,he|.zf T xs j hj off,y,he|.zj _ _ _ _,y,he|.P _ _,y,he|.I _,y,he|.zh _ _,y,he|.emp,y,he|.nil,y,he|.mp _,y,he|.undef,y,he|.np,y,he|.qw,y,he|.qc _ _,y,he|.sb _,y,he=>fM hr _ _ he
def yM (hr:bV h h') (hid:eQ h' id=Z (af,sz,n)):∀(l:Y TV) (l':Y AV),cN h l=Z l'->cN h' (Jr id sz n l)=Z l'
 |[],l',he=>by simp[cN,ah]at he;subst he;rfl
 |x::r,l',he=>by
  obtain⟨y,l2,rfl,h1,h2⟩:=c6 he;exact qC (Sz hr hid x y h1) (yM hr hid r l2 h2)
end
end subs
variable {K:Ty}
def ax6 {s:TS} (c:jL P E nt np V s z w) {n:Nat} {s':TS} (hp:pkS s K i j n=Z s'):jL P E nt np V s' z w/\x_ np V V (erHF s.h) (erHF s'.h) w w/\fQ 0 s.e s'.e:=by
 unfold pkS at hp;split at hp
 .rename_i ty l hb;split at hp
  .rename_i hs;have hs:=au hs;subst hs;split at hp
   .rename_i xs m hpk;split at hp
    .cases hp
    .rename_i hmid;cases hp;have hm:dN s.h m:=SU n l xs m hpk;let⟨l',hl⟩:=fI s.h l (c.qz.G i _ l hb);have hidlt:=c.qz.low i _ hb;have kx:∀id,((PT.updI (λ_ b=>YJ i K.size n b) 1 0 (dP m s.h)).set i (Z (.H ty af K xs))).get id=if id=i then Z (.H ty af K xs) else if aL m id then (s.h.get id).map vg else (s.h.get id).map (YJ i K.size n):=λid=>by
      rw[PT.get_set];by_cases e:id=i
      .rw[aD e,aD e]
      .rw[av e,av e,PT.get_updI,iW];split
       .cases A:s.h.get id with
        |none=>rfl
        |some b=>
         let⟨p1,s1,n1,e1⟩:=MX b;simp only[bi,e1,YJ]
       .rfl
     generalize hH2:((PT.updI (λ_ b=>YJ i K.size n b) 1 0 (dP m s.h)).set i (Z (.H ty af K xs)))=h2 at kx ⊢;have hr:bV s.h h2:=λid r hi=>by
      rw[bA]at hi ⊢;rw[kx];by_cases e:id=i
      .subst e;rw[hb]at hi;cases hi
      .rw[av e];cases A:s.h.get id with
       |none=>rw[A]at hi;cases hi
       |some b=>
        rw[A]at hi;split
        .exact Rf hi
        .cases b<;>first|exact hi|cases hi
     have hnone:∀id,aL m id=J->erHF h2 (nm id)=U:=λid hi=>by
      have e:id≠i:=λe=>by subst e;exact hmid hi
      let⟨ty',p',T',xs',L⟩:=hm id hi;rw[bJ,kx,av e,aD hi,L];rfl
     have hme:iQ s.h h2:=λid k=>by
      rw[kx];by_cases e:id=i
      .rw[aD e,e,hb];rfl
      .rw[av e];split
       next hmi=>let⟨ty',p',T',xs',L⟩:=hm id hmi;rw[L];rfl
       .cases A:s.h.get id with
        |none=>rfl
        |some b=>cases b<;>rfl
     have hdom:rC (erHF s.h) (erHF h2):=λq b hq=>by
      rcases NJ hme hq with h0|⟨id,cc,rfl,D,h4⟩
      .exact⟨b,h0⟩
      rw[bJ];rw[kx]at D;by_cases e:id=i
      .subst e;rw[hb];simp only[aF,kJ,hl];exact⟨_,rfl⟩
      .rw[av e]at D;cases A:s.h.get id with
       |none=>rw[A]at D;split at D<;>cases D
       |some b0=>
        rw[A]at D;split at D
        .grind
        .simp only[bi,ah]at D;subst D;simp only[aF];cases b0 with
         |G ty0 l0=>
          let⟨l0',hl0⟩:=fI s.h l0 (c.qz.G id _ l0 A);exact⟨ali ty0 l0',by cases ty0<;>(simp only[kJ,hl0];rfl)⟩
         |_=>exact⟨_,h4⟩
     have giv:Fy s.h (erHF s.h) (erHF h2) m:=λid hi=>⟨rfl,hnone id hi⟩
     let⟨hle,hlen⟩:=Ga hdom n l xs m l' hpk hl giv;have hrow:eQ h2 i=Z (af,K.size,n):=by rw[bA,kx,aD rfl,<-hlen];rfl
     have hV:Pd (erHF s.h) (erHF h2):=⟨hdom,λq b b' D h4=>by
      rcases NJ hme h4 with h0|⟨id,cc,rfl,h5,h6⟩
      .rw[D]at h0;cases h0;exact gu.refl hdom _
      rw[bJ]at D;rw[kx]at h5;by_cases e:id=i
      .subst e;rw[aD rfl]at h5;cases h5;rw[hb]at D;simp only[aF,kJ,hl,ah]at D;subst D;simp only[kJ,gO,cL,dF,ah]at h6;subst h6;refine gu.G rfl rfl hle λx L=>?_
       simp only[BC.toMx]at L;obtain⟨q,hq,rfl⟩:=cz.1 L;exact mD K _ q hq
      .rw[av e]at h5;cases A:s.h.get id with
       |none=>rw[A]at h5;split at h5<;>cases h5
       |some b0=>
        rw[A]at h5 D;split at h5
        .grind
        .simp only[bi,ah]at h5;subst h5;have:b=b':=by
          simp only[aF]at D;cases b0 with
          |G ty0 l0=>
           let⟨l0',hl0⟩:=fI s.h l0 (c.qz.G id _ l0 A);cases ty0<;>
            (simp only[kJ,hl0,ah]at D
             simp only[YJ,kJ,yM hr hrow l0 l0' hl0,ah]at h6;rw[<- D,<-h6])
          |H ty1 p1 T1 xs1=>
           have h3':kJ h2 (.H ty1 p1 T1 xs1)=Z b:=D;exact fV (h3'.symm.trans h6)
          |qj p1 s1 n1=>
           have h3':kJ h2 (.qj p1 s1 n1)=Z b:=D;exact fV (h3'.symm.trans h6)
          |mp K1 V1 es1=>
           have h3':kJ h2 (.mp K1 V1 es1)=Z b:=D;exact fV (h3'.symm.trans h6)
          |Q F1 a1 x1=>
           have h3':kJ h2 (.Q F1 a1 x1)=Z b:=D;exact fV (h3'.symm.trans h6)
          |qd F1 a1 x1 k1 p1=>
           have h3':kJ h2 (.qd F1 a1 x1 k1 p1)=Z b:=D;exact fV (h3'.symm.trans h6)
         subst this;exact gu.refl hdom b⟩
     refine ⟨⟨hV.zq c.zq,?_,c.dom,c.low,⟨λid ty' l2 A=>?_,λid b A=>?_⟩,?_,c.inert,c.size⟩,⟨H4.refl _ _,λk _ hk=>hdom.own hk,λ_ _=>rfl⟩,?_⟩
     .intro t x L;simp only[fR,PT.get_updI]at L;cases he:s.e.get t with
      |none=>rw[he]at L;cases L
      |some v=>
       rw[he]at L;let⟨a,hz⟩:=pn s.h v (c.qm t v he);simp only[bi,aF,Sz hr hrow v a hz,ah]at L;subst L;exact (c.env t _ (by simp only[fR,he,aF,hz])).dom hdom
     .rw[kx]at A;by_cases e:id=i
      .rw[aD e]at A;cases A
      .rw[av e]at A;cases hg0:s.h.get id with
       |none=>rw[hg0]at A;split at A<;>cases A
       |some b0=>
        rw[hg0]at A;split at A
        .simp only[bi,ah]at A;exact (Cn A).elim
        .simp only[bi,ah]at A;cases b0 with
         |G ty0 l0=>
          simp only[YJ,e_.G.injEq]at A;obtain⟨_,rfl⟩:=A;let⟨l0',hl0⟩:=fI s.h l0 (c.qz.G id _ l0 hg0);exact mf _ _ _ (yM hr hrow l0 l0' hl0)
         |_=>cases A
     .rw[kx]at A;by_cases e:id=i
      .subst e;exact hidlt
      .rw[av e]at A;cases hg0:s.h.get id with
       |none=>rw[hg0]at A;split at A<;>cases A
       |some b0=>exact c.qz.low id b0 hg0
     .intro t x L;simp only[PT.get_updI]at L;cases he:s.e.get t with
      |none=>rw[he]at L;cases L
      |some v=>
       rw[he]at L;simp only[bi,ah]at L;subst L;let⟨a,hz⟩:=pn s.h v (c.qm t v he);exact IW _ _ _ (Sz hr hrow v a hz)
     .intro k _ v' hv';simp only[PT.get_updI]at hv';cases he:s.e.get k with
      |none=>rw[he]at hv';cases hv'
      |some v=>
       rw[he]at hv';simp only[bi,ah]at hv';subst hv';exact⟨v,rfl,λhf=>Q7 _ _ _ v hf⟩
   .cases hp
  .cases hp
 .cases hp
def ax2 {s:TS} (c:jL P E nt np V s z w) {s':TS} (h:Lt s (.qx i j)=Z s'):∃φ',jL P E nt np φ' s' z w/\x_ np V φ' (erHF s.h) (erHF s'.h) w w/\fQ (nk [.qx i j] 0) s.e s'.e:=by
 simp only[Lt]at h;split at h
 .rename_i b o hk;split at h
  .rename_i cty l hb;split at h
   .rename_i id hv;split at h
    .rename_i ty p T xs D;cases h;have hfr:=c.qz.fresh;have hidlt:=c.qz.low id _ D;have hblt:=c.qz.low b _ hb;have hbid:b≠id:=λe=>by rw[e,D]at hb;cases hb
     have hbn:b≠s.nx:=by omega
     have hin:id≠s.nx:=by omega
     generalize hh2:(((s.h.set id (Z (.qj p T.size (l! xs)))).set s.nx (Z (.H ty p T xs))).set b (Z (.G (Z cty) (splice l (o+j) [.I s.nx]))))=L;have kx:∀k,L.get k=if k=b then Z (.G (Z cty) (splice l (o+j) [.I s.nx])) else if k=s.nx then Z (.H ty p T xs) else if k=id then Z (.qj p T.size (l! xs)) else s.h.get k:=λk=>by
      rw[<- hh2,PT.get_set,PT.get_set,PT.get_set]
     have hr:bV s.h L:=λk r hi=>by
      rw[bA]at hi ⊢;rw[kx];by_cases e1:k=b
      .subst e1;rw[hb]at hi;cases hi
      .rw[av e1];by_cases e2:k=s.nx
       .subst e2;rw[hfr]at hi;cases hi
       .rw[av e2];by_cases e3:k=id
        .subst e3;rw[aD rfl];rw[D]at hi;exact hi
        .rw[av e3];exact hi
     have hlo:=c.qz.G b _ l hb;let⟨l',hl'⟩:=fI s.h l hlo;have hrow:bW L (.I s.nx)=Z (dA p s.nx T.size (l! xs)):=by
      simp only[bW,bA,kx];rw[av hbn.symm];simp only[bk,aF,iN]
     have hsp:cN L (splice l (o+j) [.I s.nx])=Z (splice l' (o+j) [dA p s.nx T.size (l! xs)]):=rq _ (g_ hr _ _ hl') (by simp only[cN,hrow]);let⟨y,hy,hey⟩:=mE hl' _ _ hv;have hy0:y=dA p id T.size (l! xs):=by
      simp only[bW,bA,D,aF,iN,ah]at hey;exact hey.symm
     subst hy0;have hold:erHF s.h (nm b)=Z ⟨cty,.mx l'⟩:=by rw[bJ,hb];simp only[aF,kJ,hl']
     have hnew:erHF L (nm b)=Z ⟨cty,.mx (splice l' (o+j) [dA p s.nx T.size (l! xs)])⟩:=by
      rw[bJ,kx,aD rfl];simp only[aF,kJ,hsp]
     have hdead:erHF L (nm id)=U:=by rw[bJ,kx,av hbid.symm,av hin,aD rfl];rfl
     have hnx2:erHF L (nm s.nx)=if p&&l! xs==0 then U else Z ⟨ty,.fz (xs.flatMap (bE T))⟩:=by rw[bJ,kx,av hbn.symm,aD rfl];rfl
     have hid0:erHF s.h (nm id)=if p&&l! xs==0 then U else Z ⟨ty,.fz (xs.flatMap (bE T))⟩:=by rw[bJ,D];rfl
     have hoth:∀n,n≠nm b->n≠nm s.nx->n≠nm id->erHF L n=erHF s.h n:=λn e1 e2 e3=>ng c.qz hr (iQ.of λk=>by
      rw[kx];by_cases f1:k=b
      .rw[aD f1,f1,hb];exact .inr ⟨rfl,rfl⟩
      .rw[av f1];by_cases f2:k=s.nx
       .rw[aD f2,f2,hfr];exact .inr ⟨rfl,rfl⟩
       .rw[av f2];by_cases f3:k=id
        .rw[aD f3,f3,D];exact .inr ⟨rfl,rfl⟩
        .rw[av f3];exact .inl rfl) λk e=>by
      subst e;rw[kx,av (λe=>e1 (by rw[e])),av (λe=>e2 (by rw[e])),av (λe=>e3 (by rw[e]))]
     have hnb:nm b≠nm s.nx:=λe=>hbn (uN e)
     have hbi:nm b≠nm id:=λe=>hbid (uN e)
     have hni:nm s.nx≠nm id:=λe=>hin (uN e).symm
     have hinv:hX L (s.nx+1):=by
      refine ⟨λk ty2 l2 hil=>?_,λk q hiq=>?_⟩
      .rw[kx]at hil;split at hil
       .simp only[ah,e_.G.injEq]at hil;obtain⟨_,rfl⟩:=hil;exact mf _ _ _ hsp
       .split at hil
        .cases hil
        .split at hil
         .cases hil
         .exact fA hr l2 (c.qz.G k _ l2 hil)
      .rw[kx]at hiq;split at hiq
       .omega
       .split at hiq
        .omega
        .split at hiq
         .omega
         .have:=c.qz.low k q hiq;omega
     have hE:∀t x,fR s.e L t=Z x->fR s.e s.h t=Z x:=λt x A=>by
      simp only[fR]at A ⊢;cases he:s.e.get t with
      |none=>rw[he]at A;cases A
      |some q=>
       rw[he]at A;let⟨a,hz⟩:=pn s.h q (c.qm t q he);simp only[aF,fM hr q a hz,ah]at A;subst A;simp only[aF,hz]
     by_cases hp:(p&&l! xs==0)=J
     ·
      have hH:erHF L=erHF s.h:=by
       funext n;by_cases e1:n=nm b
       .subst e1;rw[hold,hnew];have:dA p s.nx T.size (l! xs)=dA p id T.size (l! xs):=by unfold dA;rw[aD hp,aD hp]
        rw[this,Cb hy]
       .by_cases e2:n=nm s.nx
        .subst e2;rw[hnx2,aD hp,bJ,hfr];rfl
        .by_cases e3:n=nm id
         .subst e3;rw[hdead,hid0,aD hp]
         .exact hoth n e1 e2 e3
      refine ⟨V,⟨by rw[hH];exact c.zq,λt x A=>by rw[hH];exact c.env t x (hE t x A),λn q hq=>vw (c.dom n q hq),gg c.low,hinv,λt x A=>nC hr x (c.qm t x A),c.inert,c.size⟩,by rw[hH];exact x_.refl _ _ _ _,fQ.refl _ _⟩
     .have hid1:erHF s.h (nm id)=Z ⟨ty,.fz (xs.flatMap (bE T))⟩:=by rw[hid0,av hp]
      let⟨kk,k1,k2,ob,k3,k4⟩:=c.zq.at_ _ _ hid1;have hφn:V (nm s.nx)=U:=by
       cases hq:V (nm s.nx) with
       |none=>rfl
       |some q=>have:=c.dom _ q hq;rw[di]at this;omega
      let nw:HF:=λn=>if n=nm s.nx then Z ⟨ty,.fz (xs.flatMap (bE T))⟩ else U
      have hsh:Jf w w kk ob:=⟨rfl,rfl,rfl,rfl,k3,λ_ _=>rfl,λ_=>rfl⟩
      let⟨φ',p1,p2,p3,p4⟩:=c.zq.wren hid1 k1 hφn hsh k4 nw (by simp[nw]) (by simp only[nw];rw[av hni.symm]);have hb1:fy (erHF s.h) [nm s.nx,nm id] nw (nm b)=Z ⟨cty,.mx l'⟩:=by
       unfold fy;rw[av (by simp[hnb,hbi]),hold]
      let⟨kb,b1,b2,ob2,b3,b4⟩:=p4.at_ _ _ hb1;have hlt:o+j<l! l':=by
       rcases cF (o+j) (l! l') with h'|h'
       .exact h'
       .rw[c_ h']at hy;cases hy
      have hob:im φ' (tot E φ' (fy (erHF s.h) [nm s.nx,nm id] nw)) w ⟨cty,.mx (splice l' (o+j) [dA p s.nx T.size (l! xs)])⟩ ob2:=by
       rw[qW rfl]at b4 ⊢;let⟨arr,a1,a2⟩:=b4;refine ⟨arr,a1,?_⟩;unfold vJ at a2 ⊢;refine ⟨by simp only[BC.len]at a2 ⊢;rw[nK (by simp;omega)];exact a2.1,λoff x A=>?_⟩;simp only[BC.get]at A a2;rw[oB (by simp;omega)]at A;split at A
       .exact a2.2 off x A
       .split at A
        .rename_i h3 h4;simp only[cq]at h4;have hj:off=o+j:=by omega
         subst hj;simp only[LC,ie,ah]at A;subst A;let⟨_,v,a3,a4⟩:=a2.2 _ _ hy;unfold dA at a4 ⊢;rw[av hp]at a4 ⊢;refine ⟨rfl,v,a3,?_⟩;cases a4 with
         |@I _ _ _ cc q hφq hn hc hs2=>
          have:=p2.sub _ _ k1;rw[this,ah]at hφq;subst hφq;exact .I p1 hn hc hs2
        .exact a2.2 off x A
      let⟨q1,q2⟩:=p4.wset hb1 b1 (⟨rfl,rfl,rfl,rfl,b3,λ_ _=>rfl,λ_=>rfl⟩:Jf w w kb ob2) hob (λn=>if n=nm b then Z ⟨cty,.mx (splice l' (o+j) [dA p s.nx T.size (l! xs)])⟩ else U) (by simp);have hH:fy (fy (erHF s.h) [nm s.nx,nm id] nw) [nm b] (λn=>if n=nm b then Z ⟨cty,.mx (splice l' (o+j) [dA p s.nx T.size (l! xs)])⟩ else U)=erHF L:=by
       funext n;by_cases e1:n=nm b
       .subst e1;rw[hnew];simp[fy]
       .by_cases e2:n=nm s.nx
        .subst e2;rw[hnx2,av hp];simp[fy,nw,hnb.symm]
        .by_cases e3:n=nm id
         .subst e3;rw[hdead];simp[fy,nw,hbi.symm,hni.symm]
         .rw[hoth n e1 e2 e3];simp[fy,e1,e2,e3]
      rw[hH]at q1 q2;have m:=p2.trans q1;refine ⟨φ',⟨q2,λt x A=>m.zw (c.env t x (hE t x A)),λn q hq=>?_,gg c.low,hinv,λt x A=>nC hr x (c.qm t x A),c.inert,c.size⟩,⟨H4.refl _ _,m.ql,λk hi=>?_⟩,fQ.refl _ _⟩
      .rcases p3 n q hq with h4|h4
       .exact vw (c.dom n q h4)
       .simp only[aE]at h4;subst h4;rw[di];exact xo _
      .cases hq:φ' k with
       |none=>
        cases hq2:V k with
        |none=>rfl
        |some a=>rw[p2.sub _ _ hq2]at hq;cases hq
       |some a=>
        rcases p3 _ _ hq with h4|h4
        .exact h4.symm
        .simp only[aE]at h4;subst h4;rw[di]at hi;have:=c.low;omega
    next ty ai js D=>cases h;let⟨φ',p1,p2⟩:=ath c hb hv D;exact⟨φ',p1,p2,fQ.refl _ _⟩
    .cases h
   .cases h
  .cases h
 .rename_i id hk;split at h
  .rename_i ty p T xs D;cases h;have hfr:=c.qz.fresh;have hidlt:=c.qz.low id _ D;have hin:id≠s.nx:=by omega
   generalize hh2:((s.h.set id (Z (.qj p T.size (l! xs)))).set s.nx (Z (.H ty p T xs)))=L;have kx:∀k,L.get k=if k=s.nx then Z (.H ty p T xs) else if k=id then Z (.qj p T.size (l! xs)) else s.h.get k:=λk=>by
    rw[<- hh2,PT.get_set,PT.get_set]
   have hr:bV s.h L:=λk r hi=>by
    rw[bA]at hi ⊢;rw[kx];by_cases e2:k=s.nx
    .subst e2;rw[hfr]at hi;cases hi
    .rw[av e2];by_cases e3:k=id
     .subst e3;rw[aD rfl];rw[D]at hi;exact hi
     .rw[av e3];exact hi
   have hrow:bW L (.I s.nx)=Z (dA p s.nx T.size (l! xs)):=by
    simp only[bW,bA,kx,bk,aF,iN]
   have hrow0:bW s.h (.I id)=Z (dA p id T.size (l! xs)):=by
    simp only[bW,bA,D,aF,iN]
   have hdead:erHF L (nm id)=U:=by rw[bJ,kx,av hin,aD rfl];rfl
   have hnx2:erHF L (nm s.nx)=if p&&l! xs==0 then U else Z ⟨ty,.fz (xs.flatMap (bE T))⟩:=by rw[bJ,kx,aD rfl];rfl
   have hid0:erHF s.h (nm id)=if p&&l! xs==0 then U else Z ⟨ty,.fz (xs.flatMap (bE T))⟩:=by rw[bJ,D];rfl
   have hoth:∀n,n≠nm s.nx->n≠nm id->erHF L n=erHF s.h n:=λn e2 e3=>ng c.qz hr (iQ.of λk=>by
    rw[kx];by_cases f2:k=s.nx
    .rw[aD f2,f2,hfr];exact .inr ⟨rfl,rfl⟩
    .rw[av f2];by_cases f3:k=id
     .rw[aD f3,f3,D];exact .inr ⟨rfl,rfl⟩
     .rw[av f3];exact .inl rfl) λk e=>by
    subst e;rw[kx,av (λe=>e2 (by rw[e])),av (λe=>e3 (by rw[e]))]
   have hni:nm s.nx≠nm id:=λe=>hin (uN e).symm
   have hinv:hX L (s.nx+1):=by
    refine ⟨λk ty2 l2 hil=>?_,λk q hiq=>?_⟩
    .rw[kx]at hil;split at hil
     .cases hil
     .split at hil
      .cases hil
      .exact fA hr l2 (c.qz.G k _ l2 hil)
    .rw[kx]at hiq;split at hiq
     .omega
     .split at hiq
      .omega
      .have:=c.qz.low k q hiq;omega
   have hE:∀t x,t≠i->fR (s.e.set i (Z (.I s.nx))) L t=Z x->fR s.e s.h t=Z x:=λt x ht A=>by
    simp only[fR,PT.get_set]at A ⊢;rw[av ht]at A;cases he:s.e.get t with
    |none=>rw[he]at A;cases A
    |some q=>
     rw[he]at A;let⟨a,hz⟩:=pn s.h q (c.qm t q he);simp only[aF,fM hr q a hz,ah]at A;subst A;simp only[aF,hz]
   have hIE:sM (s.e.set i (Z (.I s.nx))) L:=λt x A=>by
    simp only[PT.get_set]at A;split at A
    .cases A;exact IW _ _ _ hrow
    .exact nC hr x (c.qm t x A)
   have hKp:fQ (nk [.qx i j] 0) s.e (s.e.set i (Z (.I s.nx))):=λt ht v' hv'=>by
    simp only[PT.get_set]at hv';split at hv'
    next et=>subst et;simp only[nk]at ht;rw[bu,bq.2 rfl]at ht;simp at ht
    .exact⟨v',hv',λ_=>rfl⟩
   have hk0:=c.env i (dA p id T.size (l! xs)) (by simp only[fR,hk,aF,hrow0]);by_cases hp:(p&&l! xs==0)=J
   .have hH:erHF L=erHF s.h:=by
     funext n;by_cases e2:n=nm s.nx
     .subst e2;rw[hnx2,aD hp,bJ,hfr];rfl
     .by_cases e3:n=nm id
      .subst e3;rw[hdead,hid0,aD hp]
      .exact hoth n e2 e3
    have hsame:dA p s.nx T.size (l! xs)=dA p id T.size (l! xs):=by unfold dA;rw[aD hp,aD hp]
    refine ⟨V,⟨by rw[hH];exact c.zq,λt x A=>?_,λn q hq=>vw (c.dom n q hq),gg c.low,hinv,hIE,c.inert,c.size⟩,by rw[hH];exact x_.refl _ _ _ _,hKp⟩;rw[hH];by_cases ht:t=i
    .subst ht;simp only[fR,PT.get_set,bk,aF,hrow,ah]at A;subst A;rw[hsame];exact hk0
    .exact c.env t x (hE t x ht A)
   .have hid1:erHF s.h (nm id)=Z ⟨ty,.fz (xs.flatMap (bE T))⟩:=by rw[hid0,av hp]
    let⟨kk,k1,k2,ob,k3,k4⟩:=c.zq.at_ _ _ hid1;have hφn:V (nm s.nx)=U:=by
     cases hq:V (nm s.nx) with
     |none=>rfl
     |some q=>have:=c.dom _ q hq;rw[di]at this;omega
    let nw:HF:=λn=>if n=nm s.nx then Z ⟨ty,.fz (xs.flatMap (bE T))⟩ else U
    have hsh:Jf w w kk ob:=⟨rfl,rfl,rfl,rfl,k3,λ_ _=>rfl,λ_=>rfl⟩
    let⟨φ',p1,p2,p3,p4⟩:=c.zq.wren hid1 k1 hφn hsh k4 nw (by simp[nw]) (by simp only[nw];rw[av hni.symm]);have hH:fy (erHF s.h) [nm s.nx,nm id] nw=erHF L:=by
     funext n;by_cases e2:n=nm s.nx
     .subst e2;rw[hnx2,av hp];simp[fy,nw]
     .by_cases e3:n=nm id
      .subst e3;rw[hdead];simp[fy,nw,hni.symm]
      .rw[hoth n e2 e3];simp[fy,e2,e3]
    rw[hH]at p2 p4;refine ⟨φ',⟨p4,λt x A=>?_,λn q hq=>?_,gg c.low,hinv,hIE,c.inert,c.size⟩,⟨H4.refl _ _,p2.ql,λk hi=>?_⟩,hKp⟩
    .by_cases ht:t=i
     .subst ht;simp only[fR,PT.get_set,bk,aF,hrow,ah]at A;subst A;unfold dA at hk0 ⊢;rw[av hp]at hk0 ⊢;generalize z.tmps.getD t undef=a at hk0;cases hk0 with
      |@I _ _ _ cc q hφq hn hc hs2=>
       rw[k1,ah]at hφq;subst hφq;exact .I p1 hn hc hs2
     .exact p2.zw (c.env t x (hE t x ht A))
    .rcases p3 n q hq with h4|h4
     .exact vw (c.dom n q h4)
     .simp only[aE]at h4;subst h4;rw[di];exact xo _
    .cases hq:φ' k with
     |none=>
      cases hq2:V k with
      |none=>rfl
      |some a=>rw[p2.sub _ _ hq2]at hq;cases hq
     |some a=>
      rcases p3 _ _ hq with h4|h4
      .exact h4.symm
      .simp only[aE]at h4;subst h4;rw[di]at hi;have:=c.low;omega
  .cases h
 .cases h
def auj {s:TS} (c:jL P E nt np V s z w) {ad:Adj} {s':TS} (h:Lt s ad=Z s') (hnr:∀k off,ad≠ .qx k off) (hnt:∀k off,ad≠ .jm k off):jL P E nt np V s' z w/\x_ np V V (erHF s.h) (erHF s'.h) w w/\fQ (nk [ad] 0) s.e s'.e:=by
 cases ad with
 |qx k off=>exact cu rfl (hnr k off)
 |jm k off=>exact cu rfl (hnt k off)
 |fmp k off ty S=>
  simp only[Lt]at h;split at h
  .split at h
   .rename_i K' V' es D;split at h
    next hE=>cases h;let⟨h1,h2⟩:=axp c D hE ty S;exact⟨h1,h2,fQ.refl _ _⟩
    .cases h
   .cases h;exact⟨c,x_.refl _ _ _ _,fQ.refl _ _⟩
   .cases h
  .cases h
 |frw k off off2 ty=>
  simp only[Lt]at h;split at h
  .rename_i o id q _ _;split at h
   .rename_i ai es cty l ho D;split at h
    .rename_i v hv;split at h
     .rename_i hn;cases h;let⟨L,hH⟩:=axl c ai ty;have hid:id≠s.nx:=λe=>by have:=c.qz.low id _ D;omega
      let⟨c2,t2⟩:=Ya L (id:=id) (cty:=cty) (l:=l) (v:=v) (u:=.I s.nx) (by show (s.h.set s.nx _).get id=_;rw[PT.get_set,av hid];exact D) hv hn (by simp only[bW,bA,PT.get_set,bk,aF,iN,sk,dA];rfl) (by simp only[P0,bA,PT.get_set,bk];rfl);exact⟨c2,by rw[<- hH];exact t2,fQ.refl _ _⟩
     .cases h;exact⟨c,x_.refl _ _ _ _,fQ.refl _ _⟩
    .cases h
   .cases h
  .cases h
 |nil k ty T=>
  simp only[Lt]at h;split at h
  .rename_i v hv;split at h
   .rename_i hn;cases h;let⟨L,hH,hr⟩:=ae2 c ty T;refine ⟨⟨L.zq,?_,L.dom,L.low,L.qz,?_,L.inert,L.size⟩,by rw[hH];exact x_.refl _ _ _ _,?_⟩
    .intro t x A;simp only[fR,PT.get_set]at A;split at A
     next et=>subst et;simp only[aF,bW,bA,PT.get_set,bk,iN,dA,pK,cr,fx,ah]at A;subst A;let⟨a,hz⟩:=pn s.h v (c.qm _ v hv);rw[hH];exact WN hn hz _ _ _ _ (c.env _ _ (by simp only[fR,hv,aF,hz]))
     .exact L.env t x A
    .intro t x A;simp only[PT.get_set]at A;split at A
     .cases A;simp only[P0,bA,PT.get_set,bk];rfl
     .exact L.qm t x A
    .intro t ht v' hv';simp only[PT.get_set]at hv';split at hv'
     next et=>subst et;simp only[nk]at ht;rw[bu,bq.2 rfl]at ht;simp at ht
     .exact⟨v',hv',λ_=>rfl⟩
   .cases h;exact⟨c,x_.refl _ _ _ _,fQ.refl _ _⟩
  .cases h
 |qh k off ty T=>
  simp only[Lt]at h;split at h
  .rename_i id o hk;split at h
   .rename_i cty l D;split at h
    .rename_i v hv;split at h
     .rename_i hn;cases h;let⟨L,hH,hr⟩:=ae2 c ty T;have hid:id≠s.nx:=λe=>by have:=c.qz.low id _ D;omega
      let⟨c2,t2⟩:=Ya L (id:=id) (cty:=cty) (l:=l) (v:=v) (u:=.I s.nx) (by show (s.h.set s.nx _).get id=_;rw[PT.get_set,av hid];exact D) hv hn (by simp only[bW,bA,PT.get_set,bk,aF,iN,dA,pK,cr,fx]) (by simp only[P0,bA,PT.get_set,bk];rfl);exact⟨c2,by rw[<- hH];exact t2,fQ.refl _ _⟩
     .cases h;exact⟨c,x_.refl _ _ _ _,fQ.refl _ _⟩
    .cases h
   .cases h
  .cases h
 |mpt k K φ=>
  simp only[Lt]at h;split at h
  .rename_i id hk;split at h
   .rename_i K' V' es D;split at h
    .rename_i hE;cases h;have hr:bV s.h (s.h.set id (Z (.mp K φ []))):=bV.set λr hr=>by rw[bA,D]at hr;cases hr
     have hH:erHF (s.h.set id (Z (.mp K φ [])))=erHF s.h:=by
      funext n;by_cases hn:n=nm id
      .subst hn;rw[bJ,bJ,PT.get_set,aD rfl,D];simp only[aF,kJ,Ck (aje (wZ.1 hE).1),Ck (wZ.1 hE).2,Td (wZ.1 hE).1,Dd]
      .refine ng c.qz hr (iQ.set (by rw[D];rfl) rfl) λi e=>?_
       subst e;rw[PT.get_set,av (λe=>hn (by rw[e]))]
     refine ⟨⟨by rw[hH];exact c.zq,?_,c.dom,c.low,c.qz.set hr (c.qz.low id _ D) (bK _) (λ_ _ he=>by cases he),λt x A=>nC hr x (c.qm t x A),c.inert,c.size⟩,by rw[hH];exact x_.refl _ _ _ _,fQ.refl _ _⟩;intro t x A;rw[hH];simp only[fR]at A;cases he:s.e.get t with
     |none=>rw[he]at A;cases A
     |some q=>
      rw[he]at A;let⟨a,hz⟩:=pn s.h q (c.qm t q he);simp only[aF,fM hr q a hz,ah]at A;subst A;exact c.env t _ (by simp only[fR,he,aF,hz])
    .cases h;exact⟨c,x_.refl _ _ _ _,fQ.refl _ _⟩
   .cases h
  .cases h
 |pk k off T=>
  simp only[Lt]at h;split at h
  .obtain⟨h1,h2,h3⟩:=ax6 c h;exact⟨h1,h2,h3.mono λk hk=>by simp at hk⟩
  .cases h
def aui {s:TS} (c:jL P E nt np V s z w) {ad:Adj} {s':TS} (h:Lt s ad=Z s'):∃φ',jL P E nt np φ' s' z w/\x_ np V φ' (erHF s.h) (erHF s'.h) w w/\fQ (nk [ad] 0) s.e s'.e:=by
 by_cases A:∃k off,ad= .qx k off
 .obtain⟨k,off,rfl⟩:=A;exact ax2 c h
 .by_cases a:∃k off,ad= .jm k off
  .obtain⟨k,off,rfl⟩:=a;simp[Lt]at h;split at h
   .obtain⟨he,φ',h1,D⟩:=at8 c h;exact⟨φ',h1,D,by rw[he];exact fQ.refl _ _⟩
   .cases h
  .exact⟨V,auj c h (λk off e=>A ⟨k,off,e⟩) λk off e=>a ⟨k,off,e⟩⟩
def UF {φ:PM} {a:Act} {w:World}:∀{l:Y Adj} {s s':TS},jL P E nt np φ s a w->X_ s l=Z s'->∃φ',jL P E nt np φ' s' a w/\x_ np φ φ' (erHF s.h) (erHF s'.h) w w/\fQ (nk l 0) s.e s'.e
 |[],s,s',c,h=>by simp[X_,ah]at h;subst h;exact⟨φ,c,x_.refl _ _ _ _,fQ.refl _ _⟩
 |ad::r,s,s',c,h=>by
  simp[X_]at h;split at h
  .rename_i s1 h1;let⟨φ1,c1,D,k1⟩:=aui c h1;let⟨φ2,c2,A,k2⟩:=UF c1 h;refine ⟨φ2,c2,D.trans A,(k1.mono ?_).trans (k2.mono ?_)⟩
   .intro k z;cases ad with
    |nil q ty T|qx q off=>simp[nk]at z ⊢;rw[kT,bu,z];rfl
    |_=>simp[nk]at z
   .intro k z;cases ad with
    |nil q ty T|qx q off=>simp[nk];rw[kT,bu,z];simp
    |_=>simp[nk];exact z
  .cases h
mutual
def Wx {h:aY}:∀(v:TV) (y:AV),wG v=J->bW h v=Z y->y.all (λ_=>af)=J
 |.f _ _,y,_,he|.zf _ _ _ _ _,y,_,he|.emp,y,_,he|.nil,y,_,he|.undef,y,_,he|.np,y,_,he|.qw,y,_,he=>by simp[bW,ah]at he;subst he;rfl
 |.agg l,y,hl,he|.qb l,y,hl,he=>by
  simp[bW]at he;split at he
  .rename_i l' hl';simp[ah]at he;subst he;exact IP l l' hl hl'
  .cases he
 |.zj _ _ _ _,_,h,_|.P _ _,_,h,_|.qg _ _ _,_,h,_|.I _,_,h,_|.zh _ _,_,h,_|.mp _,_,h,_|.qc _ _,_,h,_|.qy _ _,_,h,_=>by cases h
def IP {h:aY}:∀(l:Y TV) (l':Y AV),r9 l=J->cN h l=Z l'->AV.allL (λ_=>af) l'=J
 |[],l',_,he=>by simp[cN,ah]at he;subst he;rfl
 |x::r,l',hl,he=>by
  obtain⟨y,l2,rfl,e1,e2⟩:=c6 he;simp[r9,al]at hl;simp[AV.allL,al];exact⟨Wx x y hl.1 e1,IP r l2 hl.2 e2⟩
end
mutual
def ad2 (h:aY):∀(v:TV),wG v=J->P0 h v=J
 |.f _ _,_|.zf _ _ _ _ _,_|.emp,_|.nil,_|.undef,_|.np,_|.qw,_=>rfl
 |.agg l,hl|.qb l,hl=>Nw h l hl
 |.zj _ _ _ _,h|.P _ _,h|.qg _ _ _,h|.I _,h|.zh _ _,h|.mp _,h|.qc _ _,h|.qy _ _,h=>by cases h
def Nw (h:aY):∀(l:Y TV),r9 l=J->l8 h l=J
 |[],_=>rfl
 |x::r,hl=>by
  simp[r9,al]at hl;simp[l8,al];exact⟨ad2 h x hl.1,Nw h r hl.2⟩
end
structure Seen (np:Nat) (t:Tm) (x:t.ty.den) (us:List TV) (h1:aY) (φ φ':PM) (H:HF) (E:Nat->Prop) (w:World) (la lu:List AV):Prop where
 zq:sC φ' E (erHF h1) w
 val:∀(j:Nat) y v,lu[j]? =Z y->∃z,la[j]? =Z z/\(co φ (tot E φ H) w z v->co φ' (tot E φ' (erHF h1)) w y v)
 len:l! lu=l! la
 tot_:∀k,tot E φ' (erHF h1) k->tot E φ H k
 ql:∀k,own φ' (erHF h1) k->own φ H k
 dom:∀n k,φ' n=Z k->ow n<l! t.bs
 par:∀n,ow n<np->ow n<l! t.bs->φ' n=φ n
variable {m:Y TV} {r:Y AV}
def PP {t:Tm} {x:t.ty.den} {h1:aY} {l1:Y (M e_)} (I:pG t x m h1 l1) (hinv:hX h i) {vs:Y TV} {us:Nat} {σ:PT Nat} (A:L8 np t vs h x us σ j) (hla:cN h vs=Z r) (la:sC V E (erHF h) w):∃φ' lu,cN h1 m=Z lu/\Seen np t x m h1 V φ' (erHF h) E w r lu:=by
 let⟨x1,m1,x2,m2,hx,hmm,gv,gb⟩:=A.ex;have pvg:rE (iz σ) t.vs x1=Z (lH (iz σ) m):=by
  have h3:=vM (iz σ) t.vs x1;have L:=I.pv;rw[hx,vF]at L;rw[h3,L];rfl
 have pbg:qU (iz σ) t.bs x2=Z (l1.map (io (lj (iz σ)))):=by
  have h3:=yT (iz σ) t.bs x2;have L:=I.pb;rw[hx,xy]at L;rw[h3,L];rfl
 have hbm:∀nx b,l1[nx]? =Z (Z b)->∃b0,h.get (iz σ nx)=Z b0/\BM (iz σ) h us b0 (lj (iz σ) b):=λnx b D=>by
  let⟨b0,q1,q2⟩:=Nu t.bs 0 x2 m2 _ gb pbg nx (lj (iz σ) b) (by grind);rw[bX]at q1;exact⟨b0,q1,q2.mono λsm hj=>by rw[hmm,bu,hj];simp⟩
 let hv:aY:=DP (iz σ) 0 (l1.map (io (lj (iz σ)))) PT.leaf
 have hv_at:∀nx b,l1[nx]? =Z (Z b)->hv.get (iz σ nx)=Z (lj (iz σ) b):=λnx b D=>by
  have:=xH (iz σ) (l1.map (io (lj (iz σ)))) 0 PT.leaf (λa b ha D=>by
   simp only[bM,I.len]at ha D;simp only[bX];exact A.inj a b ha D) nx (Z (lj (iz σ) b)) (by grind)
  grind
 have hv_ex:∀sm c,hv.get sm=Z c->∃nx b,l1[nx]? =Z (Z b)/\sm=iz σ nx/\c=lj (iz σ) b:=λsm c hj=>by
  by_cases hex:∃nx,nx<l1.length/\sm=iz σ nx
  .obtain⟨nx,hi,rfl⟩:=hex;have hcc:=aG hi;cases hcv:l1[nx] with
   |some b=>rw[hcv]at hcc;rw[hv_at nx b hcc]at hj;cases hj;exact⟨nx,b,hcc,rfl,rfl⟩
   |none=>
    rw[hcv]at hcc;have:=xH (iz σ) (l1.map (io (lj (iz σ)))) 0 PT.leaf (λa b ha D=>by
     simp only[bM,I.len]at ha D;simp only[bX];exact A.inj a b ha D) nx U (by grind)
    rw[bX]at this;have hj':(DP (iz σ) 0 (l1.map (io (lj (iz σ)))) PT.leaf).get (iz σ nx)=Z c:=hj;rw[this]at hj';simp[PT.get]at hj'
  .have:hv.get sm=(PT.leaf:aY).get sm:=xG (iz σ) _ 0 _ sm λk hk=>by
    grind
   rw[this]at hj;simp[PT.get]at hj
 have rows_in:Bo hv h:=λsm q hq=>by
  rw[bA]at hq ⊢;cases hc:hv.get sm with
  |none=>rw[hc]at hq;cases hq
  |some c=>
   rw[hc]at hq;obtain⟨nx,b,q1,rfl,rfl⟩:=hv_ex sm c hc;let⟨b0,q2,q3⟩:=hbm nx b q1;rw[q2];simp only[aF]at hq ⊢;rw[<- q3.I];exact hq
 have rows_h1:∀nx q,eQ h1 nx=Z q->eQ hv (iz σ nx)=Z q:=λnx q hq=>by
  rw[bA]at hq ⊢;cases D:h1.get nx with
  |none=>rw[D]at hq;cases hq
  |some b=>
   rw[D]at hq;rw[hv_at nx b ((I.at_ nx b).1 D)];simp only[aF,Mm]at hq ⊢;exact hq
 have hd:rC (erHF h) (erHF hv):=λn y hy=>by
  let⟨c,h3,L⟩:=iX hy;obtain⟨nx,b,q1,e,rfl⟩:=hv_ex _ c h3;let⟨b0,q2,q3⟩:=hbm nx b q1;unfold erHF;rw[e,q2];rw[e]at L;cases hk:ix n with
  |zero=>
   rw[hk]at L;exact BM.erB_some hinv q2 q3 L
  |succ k=>
   rw[hk]at L;exact⟨y,(q3.mem _ _).trans L⟩
 have gvv:Fy h (erHF h) (erHF hv) us:=λnx hi=>⟨rfl,by
  cases hc:erHF hv (nm nx) with
  |none=>rfl
  |some y=>
   let⟨c,h3,L⟩:=iX hc;rw[di]at h3;obtain⟨k,b,q1,rfl,rfl⟩:=hv_ex nx c h3;have hk:k<t.bs.length:=by rw[<- I.len];exact (bC.1 q1).1
   have h5:=A.disj _ hi;rw[(A.sig _).2 ⟨k,hk,rfl⟩]at h5;cases h5⟩
 have φ:Pd (erHF h) (erHF hv):=⟨hd,λn b b' D hb'=>by
  let⟨c,h3,L⟩:=iX hb';obtain⟨nx,bb,q1,e,rfl⟩:=hv_ex _ c h3;let⟨b0,q2,q3⟩:=hbm nx bb q1;unfold erHF at D;rw[e,q2]at D;rw[e]at L;have D:PC h (iz σ nx) (ix n) b0=Z b:=D;cases hk:ix n with
  |zero=>
   rw[hk]at L D;exact BM.view hd gvv rows_in q3 D L
  |succ k=>
   rw[hk]at L D;have:=(q3.mem _ _).symm.trans D;have L:w_ (iz σ nx) k (lj (iz σ) bb)=Z b':=L;rw[L]at this;cases this;exact gu.refl hd _⟩
 have rv:=φ.zq la;have T:aqa t x m h1 (iz σ) V E E (erHF hv) w:=by
  have hat:∀n y,erHF h1 n=Z y->erHF hv (pJ (iz σ) n)=Z (y.qx (pJ (iz σ))):=λn y hn=>by
   let⟨b,D,hyb⟩:=iX hn;unfold erHF;rw[yd,AL,hv_at _ b ((I.at_ _ b).1 D)];exact Dw rows_h1 hyb
  refine sC.toId I A.inj rv hat (λk hk=>.inl hk) (λn k y hn L hE=>?_) rv.el;let⟨k',p1,p2,_⟩:=rv.at_ _ _ (hat n y hn)
  grind
 let⟨lu,hlu⟩:=fI h1 m I.ok;have hlug:cN hv (lH (iz σ) m)=Z (AV.renL (pJ (iz σ)) lu):=qB rows_h1 m lu hlu;have hle:=GW hd rows_in t.vs vs x1 m1 _ r _ gv pvg hla hlug (λnx hi=>gvv nx (by grind));have hall:=vC m lu I.lt hlu;refine ⟨_,lu,hlu,T.zq,λsm y v hy=>?_,?_,λk hk=>hd.tot (T.tot_ k hk),λk hk=>hd.own (T.ql k hk),λn k hk=>?_,λnx hi D=>?_⟩
 .rw[oE]at hle;let⟨z,hz,hlz⟩:=hle.get sm (y.qx (pJ (iz σ))) (by grind);exact⟨z,hz,λhr=>T.val y v (nJ hall y (a8 hy)) (hlz _ _ _ _ la hr)⟩
 .have:=hle.length;rw[oE,bM]at this;exact this
 .exact (Ar hk).1
 .rw[aho D];unfold pJ;rw[A.fix _ hi,kZ]
def Tj {s':TS} (c:jL P E nt np V s' z w) {A:Ann} {s0 s1:TS} {x:A.D} (L:Qq np A i s0 s'=Z x) (hs:KN A i s0 x=Z s1)
 (hk:∀k,k∈A.zw->k∉A.ks->∀v,s0.e.get k=Z v->wG v=J->aL i k=af->∀v',s'.e.get k=Z v'->v'=v):∃φ',jL P E nt np φ' s1 z w/\x_ np V φ' (erHF s'.h) (erHF s1.h) w w:=by
 unfold Qq at L;split at L
 .rename_i hc;simp only[al]at hc;have hnp:=aU hc.1;split at L
  .rename_i s2 h2;let⟨φ2,c2,t2,_⟩:=UF c h2;split at L
   .rename_i vs hvs;split at L
    .rename_i a m σ sm hM;simp[ah]at L;subst L;have φ:=ze hM;unfold KN at hs;split at hs
     .rename_i us h1 hi;let⟨l1,I⟩:=zD hi;split at hs
      .rename_i hlen;have hlen:=au hlen;simp[ah]at hs;subst hs;let⟨g1,g2⟩:=ad0 hvs;have hvok:l8 s2.h vs=J:=MC c2.qm hvs;let⟨la,hla⟩:=fI s2.h vs hvok;let⟨φ',lu,hlu,S⟩:=PP (E:=E) I c2.qz φ hla c2.zq;refine ⟨φ',⟨S.zq,?_,S.dom,hnp,⟨λam ty l hl=>(I.G am _ l hl).1,λam b hb=>I.lt_len hb⟩,?_,c.inert,c.size⟩,t2.trans ⟨H4.refl _ _,λk _ h=>S.ql k h,λam hi=>S.par am hi (by omega)⟩⟩
       .intro t y hy;simp[fR]at hy;cases ht:(aen (Gt i s0.e A.zw) A.ks us).get t with
        |none=>rw[ht]at hy;cases hy
        |some v=>
         rw[ht]at hy;simp[aF]at hy;rcases FX hlen t v ht with ⟨j,q1,q2⟩|⟨q1,q2⟩
         .obtain⟨y',p1,p2⟩:=mE hlu j v q2;rw[hy]at p2;cases p2;let⟨a,p3,p4⟩:=S.val j y (z.tmps.getD t undef) p1;refine p4 ?_;let⟨v0,p5,p6⟩:=g2 j t q1;let⟨z',p7,p8⟩:=mE hla j v0 p5;rw[p3]at p7;cases p7;exact c2.env t _ (by simp[fR,p6,aF,p8])
         .obtain⟨k1,k2,k3,k4⟩:=vP q2;let⟨v',k5⟩:=MZ hc.2 t v k1 k2 k3 k4;have:=hk t k1 q1 v k2 k3 k4 v' k5;subst this;have h3:=c.env t y (by simp[fR,k5,aF];rw[WP s'.h h1 v' k3];exact hy);exact h3.restrict (p:=λ_=>af) (λam k hi _=>by cases hi) (λk hk=>by
           have h4:=S.tot_ k hk;rcases h4 with h4|h4
           .exact .inl h4
           .exact .inr (by
             have hkl:k<w.heap.size:=by
              let⟨n,b,e1,e2⟩:=h4;let⟨k',p1,_,ob,p3,_⟩:=c2.zq.at_ n b e1
              grind
             exact t2.ql k hkl h4)) (Wx v' y k3 hy)
       .intro t v hv;rcases FX hlen t v hv with ⟨j,q1,q2⟩|⟨q1,q2⟩
        .obtain⟨y',_,p2⟩:=mE hlu j v q2;exact IW _ _ _ p2
        .exact ad2 _ v (vP q2).2.2.1
      .cases hs
     .cases hs
    .cases L
   .cases L
  .cases L
 .cases L
def H_ {A:Ann} {L s1:TS} {x:A.D} (z:KN A i L x=Z s1):fQ (P3 A.ks 0) L.e s1.e/\∀k,k∉A.ks->∀v,s1.e.get k=Z v->L.e.get k=Z v:=by
 unfold KN at z;split at z
 .rename_i us h1 hi;split at z
  .rename_i hlen;have hlen:=au hlen;simp[ah]at z;subst z;have key:∀k,k∉A.ks->∀v,(aen (Gt i L.e A.zw) A.ks us).get k=Z v->L.e.get k=Z v:=λk hk v hv=>by
    rcases FX hlen k v hv with ⟨j,q1,_⟩|⟨_,q2⟩
    .grind
    .exact (vP q2).2.1
   refine ⟨λk hk v' hv=>?_,key⟩;have hnk:k∉A.ks:=λhm=>by rw[acq hm]at hk;cases hk
   grind
  .cases z
 .cases z
end walk
inductive Er:TC->SC->Prop
 |skip:Er .skip .skip
 |jw (ops:List uD) (prs:List (Nat×Nat)):Er (.jw ops prs) (.jw ops prs)
 |seq {a b:TC} {a' b':SC}:Er a a'->Er b b'->Er (.seq a b) (.seq a' b')
 |jq (A:Ann) {a b:TC} {a' b':SC}:Er a a'->Er b b'->Er (.jq A a b) (.seq a' b')
 |cond (c:Nat) {a b:TC} {a' b':SC}:Er a a'->Er b b'->Er (.cond c a b) (.cond c a' b')
 |block (id:Nat) {b:TC} {b':SC}:Er b b'->Er (.block id b) (.block id b')
 |zk (A:Ann) (id:Nat) {b:TC} {b':SC}:Er b b'->Er (.zk A id b) (.block id b')
 |loop (A:Ann) {b:TC} {b':SC}:Er b b'->Er (.loop A b) (.loop b')
 |exit (id:Nat):Er (.exit id) (.exit id)
 |ret:Er .ret .ret
 |defer (f:FuncId) (c:List Operand) (t:Nat):Er (.defer f c t) (.defer f c t)
 |adj (l:List Adj) {c:TC} {c':SC}:Er c c'->Er (.adj l c) c'
 |split (k off lo n:Nat) {c:TC} {c':SC}:Er c c'->Er (.split k off lo n c) c'
 |bsp (t:Nat) {a b:TC} {c':SC}:Er a c'->Er b c'->Er (.bsp t a b) c'
 |unl (n:Nat) {b:TC} {b':SC}:Er b b'->Er (.unl n b) (.loop b')
 |zn (c:SC):Er .zn c
def FI {H:PT amq} {c:TC} {z:SC} (h:Er c z):Er (Ma H i c) z:=by
 unfold Ma;split
 .exact .adj _ h
 .exact .split _ _ _ _ h
 .exact .bsp _ (.split _ _ _ _ h) h
 .exact h
def Bi (H:PT amq):∀(c:SC) (n:Nat),Er (I0 H c n).1 c
 |.skip,n=>FI .skip
 |.jw o p,n=>FI (.jw o p)
 |.seq a b,n=>by
  have h1:=Bi H a (n+1);have z:=Bi H b (I0 H a (n+1)).2;simp[I0];split
  .exact .jq _ h1 z
  .exact .seq h1 z
 |.cond c a b,n=>by
  have h1:=Bi H a (n+1);have z:=Bi H b (I0 H a (n+1)).2;exact FI (.cond c h1 z)
 |.block id b,n=>by
  have h1:=Bi H b (n+1);simp[I0];split
  .exact .zk _ id h1
  .exact .block id h1
 |.loop b,n=>by
  have h1:=Bi H b (n+1);simp[I0];split
  .exact .loop _ h1
  .exact .unl _ h1
  .exact .zn _
 |.exit id,n=>FI (.exit id)
 |.ret,n=>FI .ret
 |.defer f c t,n=>.defer f c t
 |.zn,n=>.zn _
def af5 {σ:Type} {step:σ->M (σ⊕R)} {x:σ} {r:R} (h:iter step x=Z r):∃n,iterN step n x=Z r:=by
 unfold iter at h;split at h
 .exact⟨_,h⟩
 .cases h
def act {α:Type} {o:M (R⊕α)} {k:α->M R} {r:R} (h:jn o k=Z r):(∃x,o=Z (.inr x)/\k x=Z r)\/o=Z (.inl r):=by
 unfold jn at h
 grind
section inv
variable {P:Program} {nt:Nat}
def C3 (id:Nat) (ops:Array Oper) (z:Bool):cC P nt (.region id ops z)= .zn\/
 ((ops.toList.all λo=>match o.dst with|some d=>decide (d<nt)|none=>J)=J/\
   ((∃f caps t,Hq ops z=Z (f,caps,t)/\cC P nt (.region id ops z)= .defer f caps t)\/
    ∃l prs,tZ P ops ops.toList=Z l/\Ri ops l=Z prs/\cC P nt (.region id ops z)= .jw l prs)):=by
 simp[cC]
 grind
def Ik:Code->Bool
 |.cond (.const (.bool _)) _ _=>af
 |_=>J
def lE (P:Program) (nt:Nat) (c:Code):∃z,Ik z=J/\cC P nt z=cC P nt c/\∀Q a w,z.wp P Q a w->c.wp P Q a w:=by
 have self:∀c:Code,Ik c=J->∃z,Ik z=J/\cC P nt z=cC P nt c/\∀Q a w,z.wp P Q a w->c.wp P Q a w:=λc h=>⟨c,h,rfl,λ_ _ _ h=>h⟩
 induction c with
 |cond o x y ihx ihy=>
  cases o with
  |const v=>
   cases v with
   |bool b=>
    cases b with
    |true=>
     let⟨z,h1,D,A⟩:=ihx;exact⟨z,h1,D,λQ a w h=>wp_cond_true rfl (A Q a w h)⟩
    |false=>
     let⟨z,h1,D,A⟩:=ihy;exact⟨z,h1,D,λQ a w h=>wp_cond_false rfl (A Q a w h)⟩
   |_=>exact self _ rfl
  |_=>exact self _ rfl
 |_=>exact self _ rfl
variable {c:Operand}
def JG {α:Prop} {x y:Code} {sc:SC} (z:Ik (.cond c x y)=J) (h:cC P nt (.cond c x y)=sc) (h1:sc≠ .zn) (A:∀t a b,sc≠ .cond t a b):α:=by
 cases c with
 |tmp q=>exact (A _ _ _ h.symm).elim
 |const v=>cases v<;>first|exact (h1 h.symm).elim|cases z
 |_=>exact (h1 h.symm).elim
def aoq {c:Code} {sl:Y uD} {prs:Y q!} (A:Ik c=J) (h:cC P nt c= .jw sl prs):∃id ops z,c= .region id ops z/\(ops.toList.all λo=>match o.dst with|some d=>decide (d<nt)|none=>J)=J/\tZ P ops ops.toList=Z sl/\Ri ops sl=Z prs:=by
 cases c with
 |region id ops z=>
  rcases C3 (P:=P) (nt:=nt) id ops z with h1|⟨hd,⟨f,caps,t,_,h1⟩|⟨l,p,L,D,h1⟩⟩
  .rw[h1]at h;cases h
  .rw[h1]at h;cases h
  .grind
 |cond o x y=>exact JG A h (by simp) (by simp)
 |_=>simp[cC]at h
variable {f:FuncId}
def af6 {c:Code} {caps:Y Operand} (A:Ik c=J) (h:cC P nt c= .defer f caps i):∃id ops z,c= .region id ops z/\(ops.toList.all λo=>match o.dst with|some d=>decide (d<nt)|none=>J)=J/\Hq ops z=Z (f,caps,i):=by
 cases c with
 |region id ops z=>
  rcases C3 (P:=P) (nt:=nt) id ops z with h1|⟨hd,⟨f',caps',L,D,h1⟩|⟨l,p,D,h3,h1⟩⟩
  .rw[h1]at h;cases h
  .grind
  .rw[h1]at h;cases h
 |cond o x y=>exact JG A h (by simp) (by simp)
 |_=>simp[cC]at h
def qJ {c:Code} {sc:SC} (h:cC P nt c=sc) (h1:sc≠ .zn) (L:∀a b,sc≠ .jw a b) (D:∀a b t,sc≠ .defer a b t):∀id ops A,c≠ .region id ops A:=by
 rintro id ops A rfl;rcases C3 (P:=P) (nt:=nt) id ops A with z|⟨_,⟨f,caps,t,_,z⟩|⟨l,p,_,_,z⟩⟩<;>rw[z]at h
 .exact h1 h.symm
 .exact D _ _ _ h.symm
 .exact L _ _ h.symm
def aju {c:Code} (z:Ik c=J) (h:cC P nt c= .skip):c= .skip:=by
 have nr:=qJ h (by simp) (by simp) (by simp);cases c with
 |skip=>rfl
 |region id ops A=>exact cu rfl (nr id ops A)
 |cond o x y=>exact JG z h (by simp) (by simp)
 |_=>simp[cC]at h
def aoo {c:Code} (z:Ik c=J) (h:cC P nt c= .ret):c= .ret:=by
 have nr:=qJ h (by simp) (by simp) (by simp);cases c with
 |ret=>rfl
 |region id ops A=>exact cu rfl (nr id ops A)
 |cond o x y=>exact JG z h (by simp) (by simp)
 |_=>simp[cC]at h
def ajv {c:Code} (z:Ik c=J) (h:cC P nt c= .exit i):c= .exit i:=by
 have nr:=qJ h (by simp) (by simp) (by simp);cases c with
 |exit id=>simp[cC]at h;rw[h]
 |region id ops A=>exact cu rfl (nr id ops A)
 |cond o x y=>exact JG z h (by simp) (by simp)
 |_=>simp[cC]at h
def acw {c:Code} {a b:SC} (z:Ik c=J) (h:cC P nt c= .seq a b):∃x y,c= .seq x y/\cC P nt x=a/\cC P nt y=b:=by
 have nr:=qJ h (by simp) (by simp) (by simp);cases c with
 |seq x y=>simp[cC]at h;exact⟨x,y,rfl,h.1,h.2⟩
 |region id ops A=>exact cu rfl (nr id ops A)
 |cond o x y=>exact JG z h (by simp) (by simp)
 |_=>simp[cC]at h
def ajw {c:Code} {a b:SC} (z:Ik c=J) (h:cC P nt c= .cond i a b):∃x y,c= .cond (.tmp i) x y/\cC P nt x=a/\cC P nt y=b:=by
 have nr:=qJ h (by simp) (by simp) (by simp);cases c with
 |cond o x y=>
  cases o with
  |tmp q=>simp[cC]at h;obtain⟨rfl,h1,A⟩:=h;exact⟨x,y,rfl,h1,A⟩
  |const v=>cases v<;>first|(simp [cC]at h;done)|cases z
  |_=>simp[cC]at h
 |region id ops D=>exact cu rfl (nr id ops D)
 |_=>simp[cC]at h
def Rw {c:Code} {b:SC} (z:Ik c=J) (h:cC P nt c= .block i b):∃y,c= .block i y/\cC P nt y=b:=by
 have nr:=qJ h (by simp) (by simp) (by simp);cases c with
 |block id y=>simp[cC]at h;obtain⟨rfl,h1⟩:=h;exact⟨y,rfl,h1⟩
 |region i ops A=>exact cu rfl (nr i ops A)
 |cond o x y=>exact JG z h (by simp) (by simp)
 |_=>simp[cC]at h
def VW {c:Code} {b:SC} (z:Ik c=J) (h:cC P nt c= .loop b):∃y,c= .loop y/\cC P nt y=b:=by
 have nr:=qJ h (by simp) (by simp) (by simp);cases c with
 |loop y=>simp[cC]at h;exact⟨y,rfl,h⟩
 |region id ops A=>exact cu rfl (nr id ops A)
 |cond o x y=>exact JG z h (by simp) (by simp)
 |_=>simp[cC]at h
end inv
def asm (P:Program) (E:Nat->Prop) (nt np:Nat) (φ:PM) (s:TS) (w:World) (am:Nat) (K:Ex->TS->M R) (r:R):Exit->Act->World->Prop:=
 λe z w'=>∃ex s' φ',e=ex.to/\K ex s'=Z r/\jL P E nt np φ' s' z w'/\x_ np φ φ' (erHF s.h) (erHF s'.h) w w'/\fQ am s.e s'.e
def jL.bool {s:TS} (c:jL T O i j V s z w) {t:Nat} (ht:s.e.get t=Z (.f .bool b)):z.eval (.tmp t)= .bool b:=
 fD (c.env t _ (by simp[fR,ht,aF,bW];rfl))
def jL.qw {s:TS} (c:jL T O i j V s z w) {t:Nat} (ht:s.e.get t=Z .qw):∃b,z.eval (.tmp t)= .bool b:=by
 have:=c.env t .qw (by simp[fR,ht,aF,bW]);show ∃b,z.tmps.getD t undef= .bool b;generalize z.tmps.getD t undef=a at this;cases this with
 |qw=>exact⟨_,rfl⟩
def agr {a b:M R} {r:R} (h:zZ a b=Z r):a=Z r/\b=Z r:=by
 unfold zZ at h
 grind
variable {f:FuncId}
def apf {inert:FuncId->Bool} (hin:Pr T inert) (ha:∀Q∈z.defers,Yr T Q) (hs:z.tmps.size=i) {caps:Y Operand} {t:Nat} (hd:(B.toList.all λo=>match o.dst with|some Q=>decide (Q<i)|none=>J)=J) (hdf:Hq B b=Z (f,caps,t)) (hi:inert f=J) 
 (hQ:∀L,(∀u,u≠t->L.tmps.getD u undef=z.tmps.getD u undef)->(∀Q∈L.defers,Yr T Q)->L.tmps.size=i->d .normal L w):(Code.region j B b).wp T d z w:=by
 unfold Hq at hdf;split at hdf
 .rename_i p q hops;split at hdf
  .rename_i D first caps' t1 cl hpo hpg hpd hqo hqg hqd
   split at hdf
   .rename_i t2 hcl hca;split at hdf
    .rename_i hcond;simp only[al]at hcond;let⟨h1,h2⟩:=hcond;have h1:=au h1;have h2:first=#[]:=by grind
     simp only[ah,aR]at hdf;obtain⟨rfl,rfl,rfl⟩:=hdf;subst h1 h2;have hops':B=#[p,q]:=by grind
     let⟨hcb,hincalls⟩:=hin D hi;have htn:t1<i:=by grind
     let a:Value:=.func (.func D) #[] (caps'.map z.eval)
     refine wp_region ?_;have hr2:eA B.size=[0,1]:=by rw[hops'];rfl
     rw[hr2];have e0:B[0]? =Z p:=by grind
     have e1:B[1]? =Z q:=by grind
     rw[wpOps_cons];have hexec1:(execOp z.eval p).run T w= .ok (.value a) w:=by
      unfold execOp;rw[hpo];simp[Instr.makeFunc,a]
     have w1:jM p (yielded B z.tmps)=J:=by unfold jM;rw[hpg]
     unfold wpOp;simp only[e0,w1,bk];left;unfold LB;rw[hexec1];show wpOps T B d [1] (z.put p.dst a) w;rw[wpOps_cons];unfold wpOp;have w2:jM q (yielded B (z.put p.dst a).tmps)=J:=by unfold jM;rw[hqg]
     simp only[e1,w2,bk];left;have pg:∀u,(z.put p.dst a).tmps.getD u undef=if p.dst=Z u then a else z.tmps.getD u undef:=λu=>Vx (by intro Q A;rw[hpd]at A;cases A;rw[hs];exact htn)
     have heval:(z.put p.dst a).eval (.tmp t1)=a:=by
      show (z.put p.dst a).tmps.getD t1 undef=a;rw[pg,aD hpd]
     have hargs:cl.args=#[]:=by grind
     have hexec2:(execOp (z.put p.dst a).eval q).run T w= .ok (.defer {target:=.fn (.func D) (caps'.map z.eval),args:=#[]}) w:=by
      unfold execOp;rw[hqo];simp[resolve,hcl,heval,a,Deferred.ofValue,hargs]
     unfold LB;rw[hexec2];show wpOps T B d [] _ w;refine hQ _ (λu hu=>?_) (λQ A=>?_) ?_
     .rw[hqd];show (z.put p.dst a).tmps.getD u undef=_;rw[pg,av (by rw[hpd];intro e;cases e;exact hu rfl)]
     .rw[hqd]at A;have hd'':Q={target:=.fn (.func D) (caps'.map z.eval),args:=#[]}\/Q∈(z.put p.dst a).defers:=by
       simpa[Sp] using A
      rcases hd'' with rfl|hd''
      .intro w0;refine ⟨_,_,D,caps'.map z.eval,rfl,?_,hincalls _ w0⟩;simp[invoke,Au hcb]
      .rw[Mp]at hd'';exact ha Q hd''
     .rw[hqd];show (z.put p.dst a).tmps.size=i;rw[Vw];exact hs
    .cases hdf
   .cases hdf
  .cases hdf
 .cases hdf
def at4 {E:Nat->Prop} {inert:FuncId->Bool} (hm:T.follows .mixedOrders=J) (hcon:HV T X) (hin:Pr T inert):
 ∀{tc:TC} {sc:SC},Er tc sc->∀(c:Code),cC T i c=sc->∀(R:Type) (s:TS) (K:Ex->TS->M R) (r:R),oV j X W inert tc s K=Z r->∀(φ:PM) (a:Act) (w:World),jL T E i j φ s a w->c.wp T (asm T E i j φ s w (tc.asg 0) K r) a w:=by
 intro tc sc hE;induction hE with
 |skip=>
  intro c hc R s K r h φ a w g;let⟨c',hn,L,hsim⟩:=lE T i c;refine hsim _ _ _ ?_;rw[<- L]at hc;rw[aju hn hc];exact wp_skip ⟨.normal,s,φ,rfl,h,g,x_.refl _ _ _ _,fQ.refl _ _⟩
 |jw ops prs=>
  intro c hc R s K r h φ a w g;let⟨c',hn,L,hsim⟩:=lE T i c;refine hsim _ _ _ ?_;rw[<- L]at hc;obtain⟨id,os,dr,rfl,h1,h2,h3⟩:=aoq hn hc;simp only[oV]at h;refine aio (K:=λs'=>K .normal s') hm hcon g (am:=UA ops 0) (λnp o d ho hd=>?_) h1 h2 h3 h λa' w' s' φ' q1 q2 q3 q4=>⟨.normal,s',φ',rfl,q1,q2,q3,q4⟩
  have hmem:o∈os.toList:=by have:=Array.mem_of_getElem? ho;simpa using this
  have key:∀(rest:Y Oper) (sl:Y uD),tZ T os rest=Z sl->∀o∈rest,∃so∈sl,so.dst=o.dst:=by
   intro rest;induction rest with
   |nil=>intro sl _ o ho;cases ho
   |cons x rest ih=>
    intro sl hsl o ho;simp only[tZ]at hsl;split at hsl
    .rename_i l hl;have:∃so,sl=so::l/\so.dst=x.dst:=by
      split at hsl
      .simp only[ah]at hsl;exact⟨_,hsl.symm,rfl⟩
      .split at hsl
       .simp only[ah]at hsl;exact⟨_,hsl.symm,rfl⟩
       .cases hsl
     obtain⟨so,rfl,hso⟩:=this;rcases aV.1 ho with rfl|ho
     .exact⟨so,by simp,hso⟩
     .obtain⟨q,hq,hq2⟩:=ih l hl o ho;exact⟨q,by simp[hq],hq2⟩
    .cases hsl
  let⟨so,hso,hd2⟩:=key os.toList ops h2 o hmem;exact X5 hso (by rw[hd2];exact hd)
 |@seq x y x' y' _ _ ihx ihy=>
  intro c hc R s K r h φ a w g;let⟨c',hn,L,hsim⟩:=lE T i c;refine hsim _ _ _ ?_;rw[<- L]at hc;obtain⟨cx,cy,rfl,h1,h2⟩:=acw hn hc;simp only[oV]at h;refine wp_seq (wp_mono (ihx cx h1 R s _ r h φ a w g) ?_);rintro e a' w' ⟨ex,s',φ',rfl,z,g',st,kp⟩;have kp':fQ ((TC.seq x y).asg 0) s.e s'.e:=kp.mono λk z=>by simp only[TC.asg];exact kF z
  cases ex with
  |normal=>
   refine wp_mono (ihy cy h2 R s' K r z φ' a' w' g') ?_;rintro e2 a2 w2 ⟨ex2,s2,φ2,rfl,hk2,g2,st2,kp2⟩;exact⟨ex2,s2,φ2,rfl,hk2,g2,st.trans st2,kp'.trans (kp2.mono λk z=>by simp only[TC.asg];exact vH z)⟩
  |exit id=>exact⟨.exit id,s',φ',rfl,z,g',st,kp'⟩
  |ret=>exact⟨.ret,s',φ',rfl,z,g',st,kp'⟩
 |@jq A x y x' y' _ _ ihx ihy=>
  intro c hc R s K r h φ a w g;let⟨c',hn,L,hsim⟩:=lE T i c;refine hsim _ _ _ ?_;rw[<- L]at hc;obtain⟨cx,cy,rfl,h1,h2⟩:=acw hn hc;simp only[oV]at h;have sub1:∀k,aL (x.asg 0) k=J->aL ((TC.jq A x y).asg 0) k=J:=λk z=>by simp only[TC.asg];exact kF (vH z)
  have sub2:∀k,aL (y.asg 0) k=J->aL ((TC.jq A x y).asg 0) k=J:=λk z=>by simp only[TC.asg];exact vH z
  have sub3:∀k,aL (P3 A.ks 0) k=J->aL ((TC.jq A x y).asg 0) k=J:=λk z=>by simp only[TC.asg];exact kF (kF z)
  rcases act h with ⟨d,h3,h4⟩|h3
  .refine wp_seq (wp_mono (ihx cx h1 _ s _ _ h3 φ a w g) ?_);rintro e a' w' ⟨ex,s',φ',rfl,z,g',st,kp⟩;cases ex with
   |normal=>
    simp only[]at z;let⟨d',q1,q2⟩:=d_ z;simp only[ah,Sum.inr.injEq]at q2;subst q2;split at h4
    .rename_i s1 hs1;let⟨φ1,g1,Px⟩:=Tj g' q1 hs1 λk _ _ v hv hf ha v' hv'=>by
      let⟨v0,e1,e2⟩:=kp k ha v' hv';rw[hv]at e1;cases e1;exact e2 hf
     refine wp_mono (ihy cy h2 R s1 K r h4 φ1 a' w' g1) ?_;rintro e2 a2 w2 ⟨ex2,s2,φ2,rfl,hk2,g2,st2,kp2⟩;exact⟨ex2,s2,φ2,rfl,hk2,g2,(st.trans Px).trans st2,((H_ hs1).1.mono sub3).trans (kp2.mono sub2)⟩
    .cases h4
   |_=>simp only[]at z;let⟨_,_,q2⟩:=d_ z;simp at q2
  .refine wp_seq (wp_mono (ihx cx h1 _ s _ _ h3 φ a w g) ?_);rintro e a' w' ⟨ex,s',φ',rfl,z,g',st,kp⟩;cases ex with
   |normal=>simp only[]at z;let⟨_,_,q2⟩:=d_ z;simp at q2
   |exit id=>
    simp only[]at z;let⟨r',q1,q2⟩:=d_ z;simp only[ah,Sum.inl.injEq]at q2;subst q2;exact⟨.exit id,s',φ',rfl,q1,g',st,kp.mono sub1⟩
   |ret=>
    simp only[]at z;let⟨r',q1,q2⟩:=d_ z;simp only[ah,Sum.inl.injEq]at q2;subst q2;exact⟨.ret,s',φ',rfl,q1,g',st,kp.mono sub1⟩
 |@cond t x y x' y' _ _ ihx ihy=>
  intro c hc R s K r h φ a w g;let⟨c',hn,L,hsim⟩:=lE T i c;refine hsim _ _ _ ?_;rw[<- L]at hc;obtain⟨cx,cy,rfl,h1,h2⟩:=ajw hn hc;simp only[oV]at h;split at h
  .rename_i b hb;rcases lV h with ⟨rfl,h⟩|⟨rfl,h⟩
   .refine wp_cond_true (g.bool hb) (wp_mono (ihx cx h1 R s K r h φ a w g) ?_);rintro e a' w' ⟨ex,s',φ',rfl,z,g',st,kp⟩;exact⟨ex,s',φ',rfl,z,g',st,kp.mono λk z=>by simp only[TC.asg];exact kF z⟩
   .refine wp_cond_false (g.bool hb) (wp_mono (ihy cy h2 R s K r h φ a w g) ?_);rintro e a' w' ⟨ex,s',φ',rfl,z,g',st,kp⟩;exact⟨ex,s',φ',rfl,z,g',st,kp.mono λk z=>by simp only[TC.asg];exact vH z⟩
  .rename_i hb;let⟨ha,hbb⟩:=agr h;let⟨bv,hbv⟩:=g.qw hb;cases bv with
   |true=>
    refine wp_cond_true hbv (wp_mono (ihx cx h1 R s K r ha φ a w g) ?_);rintro e a' w' ⟨ex,s',φ',rfl,z,g',st,kp⟩;exact⟨ex,s',φ',rfl,z,g',st,kp.mono λk z=>by simp only[TC.asg];exact kF z⟩
   |false=>
    refine wp_cond_false hbv (wp_mono (ihy cy h2 R s K r hbb φ a w g) ?_);rintro e a' w' ⟨ex,s',φ',rfl,z,g',st,kp⟩;exact⟨ex,s',φ',rfl,z,g',st,kp.mono λk z=>by simp only[TC.asg];exact vH z⟩
  .cases h
 |@block id b b' _ ih=>
  intro c hc R s K r h φ a w g;let⟨c',hn,L,hsim⟩:=lE T i c;refine hsim _ _ _ ?_;rw[<- L]at hc;obtain⟨cb,rfl,h1⟩:=Rw hn hc;simp only[oV]at h;refine wp_block (wp_mono (ih cb h1 R s _ r h φ a w g) ?_);rintro e a' w' ⟨ex,s',φ',rfl,z,g',st,kp⟩;cases ex with
  |normal=>exact⟨.normal,s',φ',rfl,z,g',st,kp⟩
  |ret=>exact⟨.ret,s',φ',rfl,z,g',st,kp⟩
  |exit nt=>
   simp only[Ex.to,Exit.inBlock];simp only[]at z;split at z
   next hb=>rw[aD (au hb)];exact⟨.normal,s',φ',rfl,z,g',st,kp⟩
   next hb=>rw[av (λe=>hb (by rw[e];exact fU id))];exact⟨.exit nt,s',φ',rfl,z,g',st,kp⟩
 |@zk A id b b' _ ih=>
  intro c hc R s K r h φ a w g;let⟨c',hn,L,hsim⟩:=lE T i c;refine hsim _ _ _ ?_;rw[<- L]at hc;obtain⟨cb,rfl,h1⟩:=Rw hn hc;simp only[oV]at h;have sub1:∀k,aL (b.asg 0) k=J->aL ((TC.zk A id b).asg 0) k=J:=λk z=>by simp only[TC.asg];exact vH z
  have sub3:∀k,aL (P3 A.ks 0) k=J->aL ((TC.zk A id b).asg 0) k=J:=λk z=>by simp only[TC.asg];exact kF z
  rcases act h with ⟨d,h3,h4⟩|h3
  .refine wp_block (wp_mono (ih cb h1 _ s _ _ h3 φ a w g) ?_);rintro e a' w' ⟨ex,s',φ',rfl,z,g',st,kp⟩;have fin:aB (Qq j A (b.asg 0) s s') (λx=>Z (b7 (α:=R) x))=Z (b7 d)->asm T E i j φ s w ((TC.zk A id b).asg 0) K r .normal a' w':=by
    intro z;let⟨d',q1,q2⟩:=d_ z;simp only[ah,Sum.inr.injEq]at q2;subst q2;split at h4
    .rename_i s1 hs1;let⟨φ1,g1,Px⟩:=Tj g' q1 hs1 λk _ _ v hv hf ha v' hv'=>by
      let⟨v0,e1,e2⟩:=kp k ha v' hv';rw[hv]at e1;cases e1;exact e2 hf
     exact⟨.normal,s1,φ1,rfl,h4,g1,st.trans Px,(H_ hs1).1.mono sub3⟩
    .cases h4
   cases ex with
   |normal=>exact fin z
   |ret=>simp only[]at z;let⟨_,_,q2⟩:=d_ z;simp at q2
   |exit nt=>
    simp only[Ex.to,Exit.inBlock];simp only[]at z;split at z
    next hb=>rw[aD (au hb)];exact fin z
    .obtain⟨_,_,q2⟩:=d_ z;simp at q2
  .refine wp_block (wp_mono (ih cb h1 _ s _ _ h3 φ a w g) ?_);rintro e a' w' ⟨ex,s',φ',rfl,z,g',st,kp⟩;cases ex with
   |normal=>simp only[]at z;let⟨_,_,q2⟩:=d_ z;simp at q2
   |ret=>
    simp only[]at z;let⟨r',q1,q2⟩:=d_ z;simp only[ah,Sum.inl.injEq]at q2;subst q2;exact⟨.ret,s',φ',rfl,q1,g',st,kp.mono sub1⟩
   |exit nt=>
    simp only[Ex.to,Exit.inBlock];simp only[]at z;split at z
    .obtain⟨_,_,q2⟩:=d_ z;simp at q2
    next hb=>rw[av (λe=>hb (by rw[e];exact fU id))];let⟨r',q1,q2⟩:=d_ z;simp only[ah,Sum.inl.injEq]at q2;subst q2;exact⟨.exit nt,s',φ',rfl,q1,g',st,kp.mono sub1⟩
 |@loop A b b' _ ih=>
  intro c hc R s K r h φ a w g;let⟨c',hn,L,hsim⟩:=lE T i c;refine hsim _ _ _ ?_;rw[<- L]at hc;obtain⟨cb,rfl,h1⟩:=VW hn hc;simp only[oV]at h;let⟨x0,hx0,h⟩:=d_ h;let⟨n,hn⟩:=af5 h;have sub1:∀k,aL (b.asg 0) k=J->aL ((TC.loop A b).asg 0) k=J:=λk z=>by simp only[TC.asg];exact vH z
  have sub3:∀k,aL (P3 A.ks 0) k=J->aL ((TC.loop A b).asg 0) k=J:=λk z=>by simp only[TC.asg];exact kF z
  obtain⟨step,hstep⟩:∃step:A.D->M (A.D⊕R),step=λx=>(match KN A (b.asg 0) s x with
   |some s'=>oV j X W inert b s' λex s'=>(match ex with
    |.normal=>aB (Qq j A (b.asg 0) s s') λy=>Z (oU y)
    |ex=>aB (K ex s') λr=>Z (b7 r))
   |none=>U):=⟨_,rfl⟩
  have hn:iterN step n x0=Z r:=by rw[hstep];exact hn
  have stepEq:∀x,step x=(match KN A (b.asg 0) s x with
   |some s'=>oV j X W inert b s' λex s'=>(match ex with
    |.normal=>aB (Qq j A (b.asg 0) s s') λy=>Z (oU y)
    |ex=>aB (K ex s') λr=>Z (b7 r))
   |none=>U):=λx=>by rw[hstep]
  let Inv:Nat->Act->World->Prop:=λn a w'=>∃x s1 φ1,iterN step n x=Z r/\KN A (b.asg 0) s x=Z s1/\jL T E i j φ1 s1 a w'/\x_ j φ φ1 (erHF s.h) (erHF s1.h) w w'
  have head:∀(n:Nat) (x:A.D),iterN step n x=Z r->∃s1,KN A (b.asg 0) s x=Z s1:=by
   intro n x hn;cases n with
   |zero=>cases hn
   |succ n=>
    simp only[iterN]at hn;cases hr:KN A (b.asg 0) s x with
    |some s1=>exact⟨s1,rfl⟩
    |none=>rw[stepEq,hr]at hn;cases hn
  refine FJ Inv ?_ (n:=n) ?_
  .rintro n a1 w1 ⟨x,s1,φ1,hi,hr,g1,Px⟩;cases n with
   |zero=>cases hi
   |succ n=>
    simp only[iterN]at hi;have hse:=stepEq x;rw[hr]at hse;simp only[]at hse;let⟨kp1,kp1'⟩:=H_ hr;split at hi
    .rename_i y hy;rw[hy]at hse;refine wp_mono (ih cb h1 _ s1 _ _ hse.symm φ1 a1 w1 g1) ?_;rintro e a' w' ⟨ex,s',φ',rfl,z,g',st,kp⟩;cases ex with
     |normal=>
      simp only[]at z;let⟨d',q1,q2⟩:=d_ z;simp only[ah,Sum.inl.injEq]at q2;subst q2;let⟨s2,hs2⟩:=head n d' hi;let⟨φ2,g2,st2⟩:=Tj g' q1 hs2 λk hkk hks v hv hf ha v' hv'=>by
       let⟨v0,e1,e2⟩:=kp k ha v' hv';have:=kp1' k hks v0 e1;rw[hv]at this;cases this;exact e2 hf
      exact⟨n,by omega,d',s2,φ2,hi,hs2,g2,(Px.trans st).trans st2⟩
     |_=>simp only[]at z;let⟨_,_,q2⟩:=d_ z;simp at q2
    .rename_i r' hy;cases hi;rw[hy]at hse;refine wp_mono (ih cb h1 _ s1 _ _ hse.symm φ1 a1 w1 g1) ?_;rintro e a' w' ⟨ex,s',φ',rfl,z,g',st,kp⟩;cases ex with
     |normal=>simp only[]at z;let⟨_,_,q2⟩:=d_ z;simp at q2
     |exit id=>
      simp only[]at z;let⟨r',q1,q2⟩:=d_ z;simp only[ah,Sum.inr.injEq]at q2;subst q2;exact⟨.exit id,s',φ',rfl,q1,g',Px.trans st,(kp1.mono sub3).trans (kp.mono sub1)⟩
     |ret=>
      simp only[]at z;let⟨r',q1,q2⟩:=d_ z;simp only[ah,Sum.inr.injEq]at q2;subst q2;exact⟨.ret,s',φ',rfl,q1,g',Px.trans st,(kp1.mono sub3).trans (kp.mono sub1)⟩
    .cases hi
  .obtain⟨s1,hs1⟩:=head n x0 hn;let⟨φ1,g1,Px⟩:=Tj g hx0 hs1 λk _ _ v hv _ _ v' hv'=>by rw[hv]at hv';cases hv';rfl
   exact⟨x0,s1,φ1,hn,hs1,g1,Px⟩
 |exit id=>
  intro c hc R s K r h φ a w g;let⟨c',hn,L,hsim⟩:=lE T i c;refine hsim _ _ _ ?_;rw[<- L]at hc;rw[ajv hn hc];exact wp_exit ⟨.exit id,s,φ,rfl,h,g,x_.refl _ _ _ _,fQ.refl _ _⟩
 |ret=>
  intro c hc R s K r h φ a w g;let⟨c',hn,L,hsim⟩:=lE T i c;refine hsim _ _ _ ?_;rw[<- L]at hc;rw[aoo hn hc];exact wp_ret ⟨.ret,s,φ,rfl,h,g,x_.refl _ _ _ _,fQ.refl _ _⟩
 |defer f caps t=>
  intro c hc R s K r h φ a w g;let⟨c',hn,L,hsim⟩:=lE T i c;refine hsim _ _ _ ?_;rw[<- L]at hc;obtain⟨id,ops,dr,rfl,h1,h2⟩:=af6 hn hc;simp only[oV]at h;split at h
  .rename_i hi;refine apf hin g.inert g.size h1 h2 hi λa' d1 d2 d3=>⟨.normal,_,φ,rfl,h,⟨g.zq,λu x hx=>?_,g.dom,g.low,g.qz,λu x hx=>?_,d2,d3⟩,x_.refl _ _ _ _,λk z v' hv'=>?_⟩
   .simp only[fR,PT.get_set]at hx;split at hx
    .cases hx
    next hu=>rw[d1 u hu];exact g.env u x hx
   .simp only[PT.get_set]at hx;split at hx
    .cases hx
    .exact g.qm u x hx
   .simp only[PT.get_set]at hv';split at hv'
    .cases hv'
    .exact⟨v',hv',λ_=>rfl⟩
  .cases h
 |@adj l tc' sc' _ ih=>
  intro c hc R s K r h φ a w g;let⟨c',hn,L,hsim⟩:=lE T i c;refine hsim _ _ _ ?_;rw[<- L]at hc;simp only[oV]at h;split at h
  next s1 hs1=>let⟨φ1,g1,Px,kp1⟩:=UF g hs1;refine wp_mono (ih c' hc R s1 K r h φ1 a w g1) ?_;rintro e a' w' ⟨ex,s',φ',rfl,z,g',st,kp⟩;exact⟨ex,s',φ',rfl,z,g',Px.trans st,(kp1.mono λk z=>by simp only[TC.asg];exact kF z).trans (kp.mono λk z=>by simp only[TC.asg];exact vH z)⟩
  .cases h
 |@split k off lo n tc' sc' _ ih=>
  intro c hc R s K r h φ a w g;let⟨c',hn,L,hsim⟩:=lE T i c;refine hsim _ _ _ ?_;rw[<- L]at hc;simp only[oV]at h;split at h
  .rename_i kd v hv;let⟨np,hj,h2⟩:=U9 h;subst hj;split at h2
   .rename_i s1 hs1;let⟨g1,hH,he⟩:=aic g hv hs1;refine wp_mono (ih c' hc R s1 K r h2 φ a w g1) ?_;rintro e a' w' ⟨ex,s',φ',rfl,z,g',st,kp⟩;exact⟨ex,s',φ',rfl,z,g',by rw[<- hH];exact st,λk z v' hv'=>by
     let⟨v,q1,q2⟩:=kp k z v' hv';exact⟨v,by rw[<- he];exact q1,q2⟩⟩
   .cases h2
  .cases h
 |@bsp t x y sc' _ _ ihx ihy=>
  intro c hc R s K r h φ a w g;simp only[oV]at h;split at h
  .rename_i v hv;rcases lV h with ⟨rfl,h⟩|⟨rfl,h⟩
   .have he:∀q,(s.e.set t (Z (.f .bool J))).get q=s.e.get q:=λq=>by
     rw[PT.get_set];split
     next e=>subst e;exact hv.symm
     .rfl
    let⟨g1,hH⟩:=g.congr (s':=⟨s.e.set t (Z (.f .bool J)),s.h,s.nx⟩) he (λ_=>rfl) rfl;refine wp_mono (ihx c hc R _ K r h φ a w g1) ?_;rintro e a' w' ⟨ex,s',φ',rfl,z,g',st,kp⟩;exact⟨ex,s',φ',rfl,z,g',by rw[<- hH];exact st,λk z v' hv'=>by
     let⟨v,q1,q2⟩:=(kp.mono λk z=>by simp only[TC.asg];exact kF z) k z v' hv';exact⟨v,by rw[<- he];exact q1,q2⟩⟩
   .have he:∀q,(s.e.set t (Z (.f .bool af))).get q=s.e.get q:=λq=>by
     rw[PT.get_set];split
     next e=>subst e;exact hv.symm
     .rfl
    let⟨g1,hH⟩:=g.congr (s':=⟨s.e.set t (Z (.f .bool af)),s.h,s.nx⟩) he (λ_=>rfl) rfl;refine wp_mono (ihy c hc R _ K r h φ a w g1) ?_;rintro e a' w' ⟨ex,s',φ',rfl,z,g',st,kp⟩;exact⟨ex,s',φ',rfl,z,g',by rw[<- hH];exact st,λk z v' hv'=>by
     let⟨v,q1,q2⟩:=(kp.mono λk z=>by simp only[TC.asg];exact vH z) k z v' hv';exact⟨v,by rw[<- he];exact q1,q2⟩⟩
  .cases h
 |@unl n b b' _ ih=>
  intro c hc R s K r h φ a w g;let⟨c',hn,L,hsim⟩:=lE T i c;refine hsim _ _ _ ?_;rw[<- L]at hc;obtain⟨cb,rfl,h1⟩:=VW hn hc;simp only[oV]at h
  let Inv:Nat->Act->World->Prop:=λm a w'=>∃s1 φ1,ane (λs K=>oV j X W inert b s K) m s1 K=Z r/\jL T E i j φ1 s1 a w'/\x_ j φ φ1 (erHF s.h) (erHF s1.h) w w'/\fQ (b.asg 0) s.e s1.e
  refine FJ Inv ?_ (n:=n) ⟨s,φ,h,g,x_.refl _ _ _ _,fQ.refl _ _⟩;rintro m a1 w1 ⟨s1,φ1,hi,g1,Px,kp1⟩;cases m with
  |zero=>cases hi
  |succ m=>
   simp only[ane]at hi;refine wp_mono (ih cb h1 R s1 _ r hi φ1 a1 w1 g1) ?_;rintro e a' w' ⟨ex,s',φ',rfl,z,g',st,kp⟩;cases ex with
   |normal=>exact⟨m,xo m,s',φ',z,g',Px.trans st,kp1.trans kp⟩
   |exit id=>exact⟨.exit id,s',φ',rfl,z,g',Px.trans st,kp1.trans kp⟩
   |ret=>exact⟨.ret,s',φ',rfl,z,g',Px.trans st,kp1.trans kp⟩
 |zn sc'=>
  intro c hc R s K r h;simp[oV]at h
def SK {s:TS} (hinv:hX s.h s.nx) (hiE:sM s.e s.h) (r:sC V O (erHF s.h) w) (en:Sh V (tot O V (erHF s.h)) w (fR s.e s.h) z):∀(rs:Y ResultVar) (rvs:Y RV) (l:Y TV),xV T rs=Z rvs->Vi s rvs=Z l->
 ∃la vs,cN s.h l=Z la/\(rs.mapM (ail z.tmps)).run T w= .ok vs w/\lY V (tot O V (erHF s.h)) w la vs
 |[],rvs,l,A,a=>by
  simp[xV,ah]at A;subst A;simp[Vi,ah]at a;subst a;exact⟨[],[],rfl,by simp,trivial⟩
 |.tmp t::rs,rvs,l,A,a=>by
  simp[xV]at A;split at A
  .rename_i rvs' hrs;simp[ah]at A;subst A;simp[Vi]at a;split at a
   .rename_i v D;split at a
    next l' L=>simp[ah]at a;subst a;let⟨la,vs,h0,h1,h2⟩:=SK hinv hiE r en rs rvs' l' hrs L;simp[rvT]at D;let⟨y,hy⟩:=pn s.h v (hiE t v D);refine ⟨y::la,z.tmps.getD t undef::vs,qC hy h0,?_,en t y (by simp[fR,D,aF,hy]),h2⟩;simp[List.mapM_cons,fG,ail,xl,cZ];simp_all
    .cases a
   .cases a
  .cases A
 |.cell ad t::rs,rvs,l,A,a=>by
  simp[xV]at A;split at A
  .rename_i rvs' sz ag hrs hsz hag;simp[ah]at A;subst A;simp[Vi]at a;split at a
   .rename_i v D;split at a
    .rename_i l' L;simp[ah]at a;subst a;let⟨la,vs,h0,h1,h2⟩:=SK hinv hiE r en rs rvs' l' hrs L;simp[rvT]at D;split at D
     .rename_i id off hp;split at D
      .rename_i ty q hb;let⟨q',hq'⟩:=fI s.h q (hinv.G id _ q hb);let⟨y,e1,e2⟩:=abl hq' D;let⟨H,hH⟩:=gJ s.h;have hR:xZ H sz ag (.P (nm id) off)=Z ⟨y,[nm id],[],[],[]⟩:=by
        have hg:H.get (nm id)=Z ⟨ty,.mx q'⟩:=by rw[hH,bJ,hb];simp[aF,kJ,hq']
        simp[xZ,hg,e2]
       let⟨_,_,_,h3⟩:=X8 (P:=T) hsz hag hR;let⟨qq,v',h4,h5,h6⟩:=h3 V O (erHF s.h) w _ (λi _=>by rw[hH]) r (en ad _ (by simp[fR,hp,aF,bW]));refine ⟨y::la,v'::vs,qC e1 h0,?_,h6,h2⟩;have hone:(ail z.tmps (.cell ad t)).run T w= .ok v' w:=by
        simp[ail,fG,h4,asAddr,xl,cZ,h5]
       simp_all
      .cases D
     .cases D
    .cases a
   .cases a
  .cases A
def Jc:∀(args:Y TV) (k t:Nat) (x:TV),(O6 k args).get t=Z x->k<=t/\args[t-k]? =Z x
 |[],k,t,x,h=>by simp[O6,PT.get]at h
 |y::args,k,t,x,h=>by
  rw[O6,PT.get_set]at h;split at h
  .grind
  .obtain⟨h1,z⟩:=Jc args (k+1) t x h
   grind
variable {m:Y TV}
def aj5 (A:l8 h m=J) (L:m[j]? =Z u):P0 h u=J:=by
 let⟨l',D⟩:=fI h m A;let⟨y,_,z⟩:=mE D j u L;exact IW _ _ _ z
def YH {inert:FuncId->Bool} (hm:T.follows .mixedOrders=J) (hcon:HV T X) (hin:Pr T inert) {sf:SF} (hf:C4 T f=Z sf) (D:FT) (m:D.pre.ty.den->M D.post.ty.den) (hmod:∀x y,m x=Z y->ai1 X W inert (Z sf) D x=Z y):rx T f ⟨D.pre,D.post,m⟩:=by
 let⟨fn,c,hfn,hb,hnm,hcode,hres,hnt⟩:=XT hf;refine ⟨⟨fn,hfn,by rw[hb];rfl,hnm⟩,λx y hxy vs hp l1 rs hq l2 la lr I V hla hlr φ E w us hrep hrel hdom=>?_⟩;have ht:=hmod x y hxy;unfold ai1 at ht;simp only[]at ht;split at ht
 .rename_i args h hins;let⟨l1',I'⟩:=zD hins;have e1:args=vs:=by have h1:=I.pv;have h2:=I'.pv;rw[h1]at h2;cases h2;rfl
  have e2:l1'=l1:=by have h1:=I.pb;have h2:=I'.pb;rw[h1]at h2;cases h2;rfl
  subst e1 e2;have hget:∀i,h.get i=hp.get i:=λi=>by
   cases h3:hp.get i with
   |some b=>exact (I'.at_ i b).2 ((I.at_ i b).1 h3)
   |none=>
    cases h4:h.get i with
    |none=>rfl
    |some b=>have:=(I.at_ i b).2 ((I'.at_ i b).1 h4);rw[h3]at this;cases this
  have hrow:∀i,eQ h i=eQ hp i:=λi=>by rw[bA,bA,hget]
  have herH:erHF h=erHF hp:=by
   funext n;unfold erHF;rw[hget];cases h3:hp.get (ow n) with
   |none=>rfl
   |some b=>
    simp only[aF];refine mF (λi r hr=>by rw[hrow];exact hr) (λty l e=>?_) _ _;exact (I.G _ _ l (by rw[h3,e])).1
  have hla':cN h args=Z la:=g_ (λi r hr=>by rw[hrow];exact hr) args la hla;split at ht
  .rename_i hle;simp only[al]at hle;have hle2:=aU hle.2;have hle:=aU hle.1;have hlen:=hrel.length;have hargl:args.length=la.length:=(iH hla).symm;refine calls_of_wp_defers hfn hb ?_;have hcfg:jL T E fn.ntmps D.pre.bs.length φ ⟨O6 0 args,h,D.pre.bs.length⟩ {tmps:=us.toArray++uH (fn.ntmps-us.toArray.size) undef,defers:=[]} w:=by
    refine ⟨by rw[herH];exact hrep,?_,hdom,bK _,⟨λi ty l hl=>(I'.G i _ l hl).1,λi b hbb=>I'.lt_len hbb⟩,?_,by simp,by simp;omega⟩
    .intro t z hz;simp only[fR]at hz;cases hx:(O6 0 args).get t with
     |none=>rw[hx]at hz;cases hz
     |some v0=>
      rw[hx]at hz;let⟨_,h2⟩:=Jc args 0 t v0 hx;rw[Nat.sub_zero]at h2;let⟨y0,q1,q2⟩:=mE hla' t v0 h2;simp only[aF]at hz;rw[hz]at q2;cases q2;let⟨v,h3,h4⟩:=hrel.get t z q1;have hlt:t<us.length:=(bC.1 h3).1;have:(us.toArray++uH (fn.ntmps-us.toArray.size) undef).getD t undef=v:=by
       rw[ko,Array.getElem?_append]
       grind
      grind
    .intro t v0 hv0;let⟨_,h2⟩:=Jc args 0 t v0 hv0;exact aj5 I'.ok h2
   refine wp_mono (at4 (E:=E) hm hcon hin (Bi D.hints sf.code 0) c hcode.symm _ _ _ _ ht φ _ w hcfg) ?_;rintro e a' w' ⟨ex,s',φ',rfl,L,g',st,_⟩;have fin:∀(s':TS) (φ':PM),jL T E fn.ntmps D.pre.bs.length φ' s' a' w'->x_ D.pre.bs.length φ φ' (erHF h) (erHF s'.h) w w'->(match Vi s' sf.res with
    |some l=>(match Fc D.pre.bs.length D.post l s'.h with
     |some ⟨y,_,_,_⟩=>(match Ee D.post y with|some _=>Z y|none=>U)
     |none=>U)
    |none=>U)=Z y->Leaves T fn a'.tmps (λen w'=>∃v φ',en= .returned v/\H4 (own φ (erHF hp)) w w'/\(∀k,k<w.heap.size->own φ' (erHF hq) k->own φ (erHF hp) k)/\(∀n,ow n<D.pre.bs.length->φ' n=φ n)/\sC φ' E (erHF hq) w'/\co φ' (tot E φ' (erHF hq)) w' (FP lr) v) a'.defers .returning w':=by
    intro s' φ' g' st L;split at L
    .rename_i l hl;split at L
     .rename_i y' m' σ sm hM;split at L
      .cases L;let⟨lo,rvs,q0,q1,q2⟩:=SK g'.qz g'.qm g'.zq g'.env fn.results.toList sf.res l hres hl;have A:=ze hM;let⟨φ2,lu,hlu,S⟩:=PP (np:=D.pre.bs.length) (E:=E) V g'.qz A q0 g'.zq;rw[hlr]at hlu;cases hlu;have hresults:(results fn a'.tmps).run T w'= .ok (if h:rvs.toArray.size=1 then rvs.toArray[0] else .tuple rvs.toArray) w':=by
        rw[YW,Array.mapM_eq_mapM_toList];simp only[fG,Sem.run_map,q1,cZ,xl]
       have hrl:lY φ2 (tot E φ2 (erHF hq)) w' lr rvs:=by
        refine lY.of (by rw[q2.length,S.len]) λj z v hz hv=>?_
        let⟨z0,p1,p2⟩:=S.val j z v hz;let⟨v',p3,p4⟩:=q2.get j z0 p1;rw[hv]at p3;cases p3;exact p2 p4
       have hval:co φ2 (tot E φ2 (erHF hq)) w' (FP lr) (if h:rvs.toArray.size=1 then rvs.toArray[0] else .tuple rvs.toArray):=by
        have hll:=hrl.length;clear hlr S;cases lr with
        |nil=>
         cases rvs with
         |nil=>exact co.qb (vs:=[]) rfl (by intro j x v hx;simp at hx)
         |cons _ _=>exact hrl.elim
        |cons z lr=>
         cases rvs with
         |nil=>exact hrl.elim
         |cons v rvs=>
          cases lr with
          |nil=>
           cases rvs with
           |nil=>exact hrl.1
           |cons _ _=>exact hrl.2.elim
          |cons y l=>
           cases rvs with
           |nil=>exact hrl.2.elim
           |cons u rvs=>
            rw[dif_neg (by simp)];refine co.qb (vs:=v::u::rvs) (by simpa using hll) λj x' v' hx hv=>?_
            let⟨v'',q1,q2⟩:=hrl.get j x' hx;rw[hv]at q1;cases q1;exact q2
       have st':x_ D.pre.bs.length φ φ' (erHF hp) (erHF s'.h) w w':=by rw[<- herH];exact st
       refine Gn hresults ⟨_,φ2,rfl,st'.ext,λk L ho=>st'.ql k L (S.ql k ho),λi hi=>?_,S.zq,hval⟩ a'.defers g'.inert;rw[S.par i hi (dD hi hle2),st'.par i hi]
      .cases L
     .cases L
    .cases L
   have fin2:(match X_ s' (axr D) with
    |some s=>(match Vi s sf.res with
     |some l=>(match Fc D.pre.bs.length D.post l s.h with
      |some ⟨y,_,_,_⟩=>(match Ee D.post y with|some _=>Z y|none=>U)
      |none=>U)
     |none=>U)
    |none=>U)=Z y->Leaves T fn a'.tmps (λen w'=>∃v φ',en= .returned v/\H4 (own φ (erHF hp)) w w'/\(∀k,k<w.heap.size->own φ' (erHF hq) k->own φ (erHF hp) k)/\(∀n,ow n<D.pre.bs.length->φ' n=φ n)/\sC φ' E (erHF hq) w'/\co φ' (tot E φ' (erHF hq)) w' (FP lr) v) a'.defers .returning w':=by
    intro L;split at L
    next s2 ha=>let⟨φ3,c3,t3,_⟩:=UF g' ha;exact fin s2 φ3 c3 (st.trans t3) L
    .cases L
   cases ex with
   |exit id=>cases L
   |_=>exact fin2 L
  .cases ht
 .cases ht
abbrev B?:=FuncId×cw
def aae:Y B?->FuncId->M cw
 |[],_=>U
 |(g,c)::r,f=>if ax g f then Z c else aae r f
def Q0 (P:Program):Y B?->Prop
 |[]=>True
 |p::r=>aJ P (p.1%65536) p.2/\Q0 P r
def adn :∀{l:Y B?},Q0 T l->HV T (aae l)
 |[],_,f,c,h=>by simp[aae]at h
 |(g,d)::r,z,f,c,h=>by
  simp only[aae]at h;split at h
  next A=>have:=au A;subst this;cases h;exact z.1
  .exact adn z.2 f c h
def Wr {inert:FuncId->Bool} (hm:T.follows .mixedOrders=J) (hin:Pr T inert) {l:Y B?} (A:Q0 T l) {D:FT} {m:D.pre.ty.den->M D.post.ty.den} (z:(C4 T f).isSome=J) (he:∀x,ai1 (aae l) W inert (C4 T f) D x=m x):rx T f ⟨D.pre,D.post,m⟩:=by
 let⟨L,hf⟩:=jN.1 z;exact YH hm (adn A) hin hf D m λx y hxy=>by rw[<- hf,he];exact hxy
def rx.sub {pre post:Tm} {m m':pre.ty.den->M post.ty.den} (h:rx T f ⟨pre,post,m⟩) (z:∀x y,m' x=Z y->m x=Z y):rx T f ⟨pre,post,m'⟩:=
 ⟨h.zg,λx y hxy=>h.calls x y (z x y hxy)⟩
def aJ.sub {P:Program} {f:FuncId} {pre post:Tm} {m m':pre.ty.den->M post.ty.den} (h:aJ P f ⟨pre,post,m⟩) (z:dR (l! pre.bs) (l! post.bs)=J) (A:∀x y,m' x=Z y->m x=Z y):aJ P f ⟨pre,post,m'⟩:=
 ((h.holds z).sub A).toC z
def tL {b:Nat}:∀(x y:Y R),chk (be (aj x) b) (λ_=>Z x)=Z y->aI (ax (aj x) 0) (zZ (Z ([]:Y R)) (chk (be (aj ([]:Y R)+aj x) b) λ_=>(Z (([]:Y R)++x)))) (chk (be (aj ([]:Y R)+aj x) b) λ_=>(Z (([]:Y R)++x)))=Z y:=by
 intro x y h;rw[lq,pK,bX,h];cases x with
 |nil=>
  let⟨_,h⟩:=cI h;cases h;show zZ (Z []) (Z [])=_;unfold zZ;rw[aD rfl]
 |cons a r=>rfl
def ZB {pre post:Tm} (z:(C4 T f).isSome=J):rx T f ⟨pre,post,λ_=>U⟩:=by
 let⟨D,hf⟩:=jN.1 z;let⟨fn,c,hfn,A,hnm,_⟩:=XT hf;exact⟨⟨fn,hfn,by rw[A];rfl,hnm⟩,λx y h=>by cases h⟩
def rx.orElse {pre post:Tm} {m m':pre.ty.den->M post.ty.den} (h:rx T f ⟨pre,post,m⟩) (h':rx T f ⟨pre,post,m'⟩):rx T f ⟨pre,post,λx=>match m x with|some y=>Z y|none=>m' x⟩:=
 ⟨h.zg,λx y hxy=>by
   cases hm:m x with
   |some z=>rw[show (cw.m ⟨pre,post,λx=>match m x with|some y=>Z y|none=>m' x⟩ x)=Z z by show (match m x with|some y=>Z y|none=>m' x)=Z z;rw[hm]]at hxy;cases hxy;exact h.calls x _ hm
   |none=>rw[show (cw.m ⟨pre,post,λx=>match m x with|some y=>Z y|none=>m' x⟩ x)=m' x by show (match m x with|some y=>Z y|none=>m' x)=m' x;rw[hm]]at hxy;exact h'.calls x y hxy⟩
def aJ.orE {pre post:Tm} {m m':pre.ty.den->M post.ty.den} (z:dR (l! pre.bs) (l! post.bs)=J) (h:aJ T f ⟨pre,post,m⟩) (h':aJ T f ⟨pre,post,m'⟩):aJ T f ⟨pre,post,λx=>AI.orE (m x) (m' x)⟩:=by
 have e:(λx=>AI.orE (m x) (m' x))=λx=>match m x with|some y=>Z y|none=>m' x:=by funext x;cases m x<;>rfl
 rw[e];exact ((h.holds z).orElse (h'.holds z)).toC z
def inert (f:FuncId):Bool:=ax f 40
def VY:∃z,Tryz.prog.underlying 20=Z (.interface z):=⟨#[],by kernel_rfl⟩
def ajz (w:World):(Op.equal 20 .nilIface .nilIface).run Tryz.prog w= .ok J w:=by
 let⟨A,z⟩:=VY;have key:∀d,(Op.equalIn (d+1) 20 .nilIface .nilIface).run Tryz.prog w= .ok J w:=λd=>by simp[Op.equalIn,run_underlying z]
 exact key 9999
def aj0 {Q:Exit->Act->Y Frame->World->Prop} {rest:ι} {cs:Y Frame} {w':World} {o:Oper} (D:B[i]? =Z o) (a:o.guard=U) (A:(execOp z.eval o).run T w= .ok .recover w') (L:recoverD cs=U) (h:wpOpsS T B Q rest (z.put o.dst .nilIface) cs w'):wpOpsS T B Q (i::rest) z cs w:=by
 have a:jM o (yielded B z.tmps)=J:=by unfold jM;rw[a]
 simp only[wpOpsS,D,a,bk,A,L];exact h
variable {v:Value}
def aiz {Q:Exit->Act->Y Frame->World->Prop} {rest:ι} {cs:Y Frame} {w':World} {o:Oper} (D:B[i]? =Z o) (a:o.guard=U) (A:(execOp z.eval o).run T w= .ok (.value v) w') (h:wpOpsS T B Q rest (z.put o.dst v) cs w'):wpOpsS T B Q (i::rest) z cs w:=by
 have a:jM o (yielded B z.tmps)=J:=by unfold jM;rw[a]
 simp only[wpOpsS,D,a,bk,A];exact h
def VX:Pr Tryz.prog inert:=by
 intro f hf;have hf:f=40:=au hf;subst hf;refine ⟨⟨Tryz.f40,Tryz.func40,by kernel_rfl,by kernel_rfl⟩,λargs w=>?_⟩;refine callsD_of_wpS Tryz.func40 rfl λc₀ cs z=>?_
 refine wpS_seq (wpS_region ?_);generalize ht:(args++uH (Tryz.f40.ntmps-args.size) undef)=T;have hs:5<=T.size:=by
  rw[<- ht];simp only[Array.size_append,Array.size_replicate];have:Tryz.f40.ntmps=5:=rfl;omega
 have D:recoverD (c₀::cs)=U:=by simp[recoverD,z]
 refine aj0 (i:=0) (rest:=[1]) rfl rfl (w':=w) ?_ D ?_
 .simp[execOp,resolve,invoke,builtin]
 refine aiz (v:=.bool af) rfl rfl (w':=w) ?_ ?_
 .have A:Act.eval (Sp {tmps:=T,defers:=[]} (Z 2) .nilIface) (.tmp 2)= .nilIface:=by
   simp[Act.eval,Sp,show 2<T.size by omega]
  have L:=ajz w;have hcst:Act.eval (Sp {tmps:=T,defers:=[]} (Z 2) .nilIface) (.const .nilIface)= .nilIface:=rfl;show (execOp (Act.eval (Sp {tmps:=T,defers:=[]} (Z 2) .nilIface)) _).run _ w=_;simp[execOp,A,hcst,eqGuard,binOp,L]
 show Exit.thenS _ _ .normal _ _ _;refine wpS_cond (t:=af) ?_ ?_
 .simp[Act.eval,Sp,show 3<T.size by omega]
 refine wpS_of_wp (wp_skip ?_);have hres:Tryz.f40.results=#[]:=rfl;exact⟨rfl,c₀.mode,rfl,.tuple #[],by simp[results,hres],⟨_,rfl⟩,z,rfl⟩
def ef :Y (Nat×R)->PT R
 |[]=>.leaf
 |p::r=>(ef r).set p.1 (Z p.2)
noncomputable abbrev Pg:Program:=Tryz.prog
def cn (D:FT) (m:D.pre.ty.den->M D.post.ty.den):cw:=⟨D.pre,D.post,m⟩
def axk:Pg.follows .mixedOrders=J:=by kernel_rfl
def ac {c:cw} {l:Y B?} (h:aJ Pg f c) (t:Q0 Pg l) (hf:eE f 65536=J:=by rfl):Q0 Pg ((f,c)::l):=⟨by rw[xn (Uz hf)];exact h,t⟩
def ac2 {c:cw} {l:Y B?} (q:FuncId) (z:q%65536=f) (h:aJ Pg f c) (t:Q0 Pg l):Q0 Pg ((q,c)::l):=⟨by rw[z];exact h,t⟩
def an:Q0 Pg []:=trivial
inductive OI {R:Type}:Option R->Option R->Prop where
 |rfl {a:Option R}:OI a a
 |chk {b:Bool} {k k':Option R} (h:l9 k k'):OI (chk b λ_=>k) (chk b λ_=>k')
 |aI {b:Bool} {t f t' f':Option R} (h1:l9 t t') (h2:l9 f f'):OI (aI b t f) (aI b t' f')
 |lt {α:Type} {x:α} {k k':α->Option R} (h:∀y,l9 (k y) (k' y)):OI (lt x k) (lt x k')
 |jn {α:Type} {o o':Option (R⊕α)} {k k':α->Option R} (h:l9 o o') (hk:∀x,l9 (k x) (k' x)):OI (jn o k) (jn o' k')
 |aB {α:Type} {o o':Option α} {k k':α->Option R} (h:l9 o o') (hk:∀x,l9 (k x) (k' x)):OI (aB o k) (aB o' k')
 |iter {σ:Type} {f g:σ->Option (σ⊕R)} {x:σ} (h:∀x,l9 (f x) (g x)):OI (f_ f x) (iter g x)
def OI.o {a b:M R} (h:OI a b):l9 a b:=by
 cases h with
 |rfl=>exact l9.rfl
 |chk h=>exact l9.chk h
 |aI h g=>exact l9.bcase h g
 |lt h=>exact l9.lt h
 |jn h g=>exact l9.jn h g
 |aB h g=>exact l9.obind h g
 |iter h=>exact l9.iter h
def mk (D:FT) (m:D.pre.ty.den->M D.post.ty.den) {l:Y B?} (ha:Q0 Pg l) (z:TypeId->M Ty) (he:∀x,ai1 (aae l) z inert (C4 Pg f) D x=m x:=by intro x;kernel_rfl) (A:(C4 Pg f).isSome=J:=by kernel_rfl) (L:dR (l! D.pre.bs) (l! D.post.bs)=J:=by kernel_rfl):aJ Pg f (cn D m):=(Wr axk VX ha A he).toC L
def AF (D:FT) (m n:D.pre.ty.den->M D.post.ty.den) (L:∀x,l9 (m x) (n x)) {l:Y B?} (ha:Q0 Pg l) (z:TypeId->M Ty) (he:∀x,ai1 (aae l) z inert (C4 Pg f) D x=n x:=by intro x;kernel_rfl) (A:(C4 Pg f).isSome=J:=by kernel_rfl) (hb:dR (l! D.pre.bs) (l! D.post.bs)=J:=by kernel_rfl):aJ Pg f (cn D m):=((Wr axk VX ha A he).sub L).toC hb
def JE (D:FT) (z:(C4 Pg f).isSome=J:=by kernel_rfl) (A:dR (l! D.pre.bs) (l! D.post.bs)=J:=by kernel_rfl):aJ Pg f (cn D λ_=>U):=(ZB z).toC A
abbrev aM:Ty:=(.int .i64)
abbrev lZ:Ty:=(.st (.pr .str (.pr aM (.pr aM (.pr .bool aM)))))
abbrev tM:Ty:=(.st (.pr .str .bool))
abbrev pW:Ty:=(.st (.pr aM (.pr aM aM)))
abbrev oA:Ty:=(.st (.pr (.sl lZ) (.pr (.sl tM) (.pr (.sl itK) (.pr (.sl .str) (.pr (.sl .str) (.sl pW)))))))
abbrev yB:Ty:=(.sl (.sl aM))
abbrev fB:Ty:=(.st (.pr aM (.pr (.sl aM) (.pr yB aM))))
abbrev sK:Ty:=(.st (.pr aM (.pr aM (.pr aM (.pr aM (.pr aM aM))))))
abbrev eM:Ty:=(.st (.pr aM (.sl aM)))
abbrev uE:Ty:=(.sl .bool)
abbrev iI:Ty:=(.st (.pr aM (.pr aM .bool)))
abbrev Lw:Ty:=(.st (.pr (.sl eM) (.pr aM (.pr uE (.sl iI)))))
abbrev iZ:Ty:=(.st (.pr aM (.pr aM (.pr aM (.pr aM (.pr aM (.pr (.sl aM) (.sl aM))))))))
abbrev KH:Ty:=(.st (.pr aM (.pr aM (.pr .str (.pr aM (.pr aM .str))))))
abbrev uZ:Ty:=(.st (.pr .str (.pr aM (.pr (.sl .str) (.sl .sm)))))
abbrev Sg:Ty:=(.st (.pr (.sl KH) (.sl uZ)))
abbrev Aj:Ty:=(.st (.pr aM (.sl sK)))
abbrev wV:Ty:=(.st (.pr oA (.sl Aj)))
abbrev yC:Ty:=(.st (.pr Lw (.pr (.sl aM) (.pr (.sl aM) (.sl fB)))))
abbrev nY:Ty:=(.st (.pr Lw (.pr (.sl aM) (.pr (.sl aM) (.sl aM)))))
abbrev HR:Ty:=(.sl (.int .u8))
abbrev B8:Ty:=(.st (.pr HR aM))
abbrev eU:Ty:=(.st (.pr aM aM))
abbrev rB:Ty:=(.st (.pr oA (.sl iZ)))
abbrev o?:=Int×Int×Bool×Int
abbrev Yb:=(ζ×o?)
abbrev nX:=(Y Yb)
abbrev H!:=ζ×Bool
abbrev nu:=(Y H!)
abbrev ki:=(ζ×Int)
abbrev du:=(Y ζ)
abbrev b?:=nX×nu×(Y ki)×du×du×Y π
abbrev fe:=b?
abbrev j?:=Int×Int
abbrev t_:=(nX×nu×(Y ki)×du×du×(Y π)×du×j?)
abbrev k!:=Int×η
abbrev kh:=(Y k!)
abbrev d?:=Int×Int×Bool
abbrev eL:=d?
abbrev j!:=(θ)×Y eL
abbrev w?:=kh×Int×j!
abbrev uI:=w?
abbrev l?:=Int×(η)×(Y η)×Int
abbrev yr:=l?
abbrev mG:=(ω)
abbrev c!:=Int×Int×Int×Int×Int×(η)×η
abbrev ic:=c!
abbrev C?:=Int×Int×(ζ)×Int×Int×ζ
abbrev aul:=C?
abbrev Ad:=(Y aul)
abbrev Ac:=(ζ×Int×du×Y Sx)
abbrev L!:=Bool×Bool
abbrev V!:=Int×Int×Bool×Bool×L!
abbrev HL:=V!
abbrev A?:=fe×Y (Int×Y mG)
abbrev FF:=A?
abbrev HN:=(υ)
abbrev f?:=(η)×(η)×η
abbrev S!:=uI×f?
abbrev ky:=S!
abbrev o!:=η×Int
abbrev iJ:=o!
abbrev h?:=uI×(η)×(η)×Y yr
abbrev Bn:=h?
abbrev ab2:=(Int×Int×(ζ)×(ζ)×Int×Int×ζ)
abbrev Ae:=(Ad×(Y Ac)×Int)
abbrev Yc:=(Bool×Y ζ)
abbrev Ya23:=(Int×Int×yr×yr×l?)
abbrev Ya24:=(yr×Int×Int×yr×l?)
abbrev X?:=Int×Int×l?
abbrev Ya25:=(yr×yr×X?)
abbrev k?:=HL×iJ×Bool×Y ζ
abbrev am2:=((Y Sx)×k?)
abbrev Ya27:=(Int×Int×yr×l?)
abbrev Ya28:=(yr×X?)
abbrev Ya29:=X?
abbrev agt:=(Int×k?)
abbrev am1:=(Sx×k?)
abbrev e?:=Ae×(Bool×Y Sx)×du×Y ζ
abbrev aq9:=(ν×e?)
abbrev g?:=t_×Y mG
abbrev QR:=(Sx×g?)
abbrev HM:=(Bn×ic×Bool)
abbrev W!:=(Sx×Int×Int×Int)×g?
abbrev am0:=W!
abbrev aq8:=(ν×k?)
abbrev aq7:=(ki×k?)
abbrev ags:=(HL×iJ×Yc×Y Sx)
abbrev aq6:=(Xp×k?)
abbrev Ya42:=(yr×yr×yr×j?)
abbrev alz:=((Y Sx)×g?)
abbrev aZ {α:Type} (l:Y α):Int:=aQ (aj l)
abbrev cV (n:Int):Int:=bl .i64 (n+1)
abbrev aH {R α:Type} (x:α):M (R⊕α):=Z (b7 x)
abbrev c7 {R α:Type} (x:R):M (R⊕α):=Z (oU x)
abbrev bY {R:Type} (T:Ty) (l:Y T.den) (j:Int) (k:T.den->M R):M R:=chk (dO j (aj l)) λ_=>lt (geti T l j) k
abbrev kK {R:Type} (T:Ty) (l:Y T.den) (j:Int) (k:T.den->M R):M R:=chk (dO j (aj l)) λ_=>chk (dO j (aj l)) λ_=>lt (geti T l j) k
abbrev mK {R α:Type} (j:Int) (l:Y α) (k:M R):M R:=chk (dO j (aj l)) λ_=>k
abbrev bR {R:Type} (b:Bool) (k:M R):M R:=chk b λ_=>k
abbrev bn {R:Type} (a b:Int) (t f:M R):M R:=aI (decide (a=b)) t f
abbrev jQ {R:Type} (a b:Int) (t f:M R):M R:=aI (!decide (a=b)) t f
abbrev bU {R:Type} (a b:Int) (t f:M R):M R:=aI (gC a b) t f
abbrev kY {R:Type} (a b:Int) (t f:M R):M R:=aI (dg a b) t f
def ck (b:Bool) (k:M R):M R:=chk b λ_=>chk b λ_=>k
def eS (s:Sx):Sx:=o_ (Sx.op s,Sx.line s,Sx.name s,Sx.arg s,Sx.index s,eP (Xp.op (Sx.expr s),Xp.n (Sx.expr s),Xp.name (Sx.expr s),Xp.l (Sx.expr s)),Sx.body s,Sx.els s)
def lP (x:Unit):M du:=
 (Z ([[118,97,114],[118,111,108,97,116,105,108,101],[109,117,116,101,120],[114,119,108,111,99,107],[99,111,110,100],[102,117,116,117,114,101],[116,104,114,101,97,100],[105,102],[101,108,115,101],[119,104,105,108,101],[108,111,99,107],[114,101,97,100],[119,114,105,116,101],[116,114,97,110,115,97,99,116,105,111,110],[97,116,111,109,105,99],[119,97,105,116],[110,111,116,105,102,121],[110,111,116,105,102,121,97,108,108],[115,112,97,119,110],[106,111,105,110],[115,101,116],[103,101,116]]))
def mq (x:ζ):M (Bool):=
 (aB (lP ()) λA=>(iter (σ:=Int) (λz=>(bU z (aZ A) (bY (.str) A z λD=>(aI (decide ((D:ζ)=x)) (aH J) (c7 (cV z)))) (aH af))) 0))
def mO (x:Int):M (Bool):=
 (jn (kY 97 x (kY x 122 (aH J) (kY 65 x (aH (dg x 90)) (aH af))) (kY 65 x (aH (dg x 90)) (aH af))) λz=>(Z z))
def s_ (x:Int):M (Bool):=
 (jn (kY 48 x (aH (dg x 57)) (aH af)) λz=>(Z z))
def qP (x:Int):M (Bool):=
 (jn (aB (mO x) λA=>(aI A (aH J) (aB (s_ x) λz=>(aI z (aH J) (aH (decide ((x:Int)=95))))))) λD=>(Z D))
def fZ (x:ζ):M (Bool):=
 (jn (bU (aZ x) 1 (aH J) (bU 12 (aZ x) (aH J) (mK 0 x (aB (mO (ann x 0)) λL=>(aI (!L) (aH J) (aB (mq x) λD=>(aH D))))))) λx1=>(aI x1 (Z af) (iter (σ:=Int) (λz=>(bU z (aZ x) (mK z x (aB (qP (ann x z)) λA=>(aI (!A) (aH af) (c7 (cV z))))) (aH J))) 0)))
def gw (x:Bool):M (Int):=
 (aI x (Z 1) (Z 0))
def ww (x:ν):M u!:=
 (bn x.1 4 (Z ((bl .i64 (0-x.2)),J)) (bn x.1 5 (aB (gw (decide ((x.2:Int)=0))) λz=>(Z (z,J))) (Z (0,af))))
def xD (x:π):M u!:=
 (bn x.1 6 (Z ((bl .i64 (x.2.1+x.2.2)),J)) (bn x.1 7 (Z ((bl .i64 (x.2.1-x.2.2)),J)) (bn x.1 8 (Z ((bl .i64 (x.2.1*x.2.2)),J)) (bn x.1 9 (bn x.2.2 0 (Z (0,J)) (bR (!decide ((x.2.2:Int)=0)) (Z ((bl .i64 (Int.tdiv x.2.1 x.2.2)),J)))) (bn x.1 10 (bn x.2.2 0 (Z (0,J)) (bR (!decide ((x.2.2:Int)=0)) (Z ((Df x.2.1 x.2.2),J)))) (bn x.1 11 (aB (gw (decide ((x.2.1:Int)=x.2.2))) λy1=>(Z (y1,J))) (bn x.1 12 (aB (gw (!decide ((x.2.1:Int)=x.2.2))) λy2=>(Z (y2,J))) (bn x.1 13 (aB (gw (gC x.2.1 x.2.2)) λy3=>(Z (y3,J))) (bn x.1 14 (aB (gw (dg x.2.1 x.2.2)) λy4=>(Z (y4,J))) (bn x.1 15 (aB (gw (gC x.2.2 x.2.1)) λy5=>(Z (y5,J))) (bn x.1 16 (aB (gw (dg x.2.2 x.2.1)) λy6=>(Z (y6,J))) (bn x.1 17 (jn (jQ x.2.1 0 (aB (gw (!decide ((x.2.2:Int)=0))) λy8=>(aH (y8,J))) (aB (gw af) λL=>(aH (L,J)))) λx7=>(Z x7)) (bn x.1 18 (jn (jQ x.2.1 0 (aB (gw J) λA=>(aH (A,J))) (aB (gw (!decide ((x.2.2:Int)=0))) λz=>(aH (z,J)))) λD=>(Z D)) (Z (0,af)))))))))))))))
def wy (x:ν):M (Int):=
 (bU x.2 1 (Z 0) (bR (!decide ((x.2:Int)=0)) (jn (bU (Df x.1 x.2) 0 (aH (bl .i64 ((Df x.1 x.2)+x.2))) (aH (Df x.1 x.2))) λz=>(Z z))))
def nO (x:Int):M (Int):=
 (jn (bn x 1 (aH J) (aH (decide ((x:Int)=2)))) λD=>(aI D (Z 0) (jn (kY 3 x (aH (dg x 5)) (aH af)) λA=>(aI A (Z 1) (jn (kY 6 x (aH (dg x 18)) (aH af)) λz=>(aI z (Z 2) (Z (-1))))))))
def qA (rr02_ShapedExpr:Xp->M (Bool)) (x:Xp):M (Bool):=
 (jn (bn (Xp.op x) 2 (aH (J,eP ((Xp.op x),(Xp.n x),(Xp.name x),(Xp.l x)))) (aH ((decide (((Xp.op x):Int)=3)),eP ((Xp.op x),(Xp.n x),(Xp.name x),(Xp.l x))))) λz=>(jn (α:=Bool×Xp) (aB (nO (Xp.op z.2)) λy3=>(jQ y3 (aQ (aj (Xp.l z.2))) (aH (J,eP ((Xp.op z.2),(Xp.n z.2),(Xp.name z.2),(Xp.l z.2)))) (aI ((z.1==(!decide (((Xp.name z.2):ζ)=([])))) !=J) (aH (J,eP ((Xp.op z.2),(Xp.n z.2),(Xp.name z.2),(Xp.l z.2)))) (aI z.1 (aB (fZ (Xp.name z.2)) λy4=>(aI (!y4) (aH (J,eP ((Xp.op z.2),(Xp.n z.2),(Xp.name z.2),(Xp.l z.2)))) (bU (Xp.n z.2) 0 (aH (J,eP ((Xp.op z.2),(Xp.n z.2),(Xp.name z.2),(Xp.l z.2)))) (jQ (Xp.op z.2) 1 (aH ((!decide (((Xp.n z.2):Int)=0)),eP ((Xp.op z.2),(Xp.n z.2),(Xp.name z.2),(Xp.l z.2)))) (aH (af,eP ((Xp.op z.2),(Xp.n z.2),(Xp.name z.2),(Xp.l z.2)))))))) (bU (Xp.n z.2) 0 (aH (J,eP ((Xp.op z.2),(Xp.n z.2),(Xp.name z.2),(Xp.l z.2)))) (jQ (Xp.op z.2) 1 (aH ((!decide (((Xp.n z.2):Int)=0)),eP ((Xp.op z.2),(Xp.n z.2),(Xp.name z.2),(Xp.l z.2)))) (aH (af,eP ((Xp.op z.2),(Xp.n z.2),(Xp.name z.2),(Xp.l z.2)))))))))) λD=>(aI D.1 (Z af) (iter (σ:=Int×Xp) (λA=>(bU A.1 (aQ (aj (Xp.l A.2))) (bY (.ex) (Xp.l A.2) A.1 λL=>(aB (rr02_ShapedExpr L) λy7=>(aI (!y7) (aH af) (c7 ((cV A.1),eP ((Xp.op A.2),(Xp.n A.2),(Xp.name A.2),(Xp.l A.2))))))) (aH J))) (0,eP ((Xp.op D.2),(Xp.n D.2),(Xp.name D.2),(Xp.l D.2)))))))
def iG:Nat->Xp->M (Bool)
 |0,_=>U
 |n+1,x=>qA (iG n) x
def CE (n:Nat) (x:Xp):iG (n+1) x=qA (iG n) x:=rfl
def jY (x:Xp):M (Bool):=iG fuel x
def qO (x:Xp):M (Bool):=
 (jn (α:=Bool) (bn (Xp.op x) 0 (bn (Xp.n x) 0 (aI (decide (((Xp.name x):ζ)=([]))) (aH (decide (((aQ (aj (Xp.l x))):Int)=0))) (aH af)) (aH af)) (aH af)) λz=>(Z z))
def lD (rr02_ShapedStmt:Sx->M (Bool)) (rr02_ShapedStmts:(Y Sx)->M (Bool)) (x:Sx):M (Bool):=
 (jn (bU (Sx.op x) 1 (aH (J,eS x)) (aH ((gC 15 (Sx.op x)),eS x))) λx1=>(aI x1.1 (Z af) (jn (bn (Sx.op x1.2) 2 (aH (J,eS x1.2)) (bn (Sx.op x1.2) 3 (aH (J,eS x1.2)) (bn (Sx.op x1.2) 7 (aH (J,eS x1.2)) (aH ((decide (((Sx.op x1.2):Int)=8)),eS x1.2))))) λx2=>(jn (α:=Bool×Sx) (aI x2.1 (aI (!decide (((Sx.name x2.2):ζ)=([]))) (aH (J,eS x2.2)) (aI (!x2.1) (aB (fZ (Sx.name x2.2)) λy4=>(aH ((!y4),eS x2.2))) (aH (af,eS x2.2)))) (aI (!x2.1) (aB (fZ (Sx.name x2.2)) λy5=>(aH ((!y5),eS x2.2))) (aH (af,eS x2.2)))) λL=>(aI L.1 (Z af) (jn (α:=Bool×Sx) (bn (Sx.op L.2) 15 (aB (fZ (Sx.arg L.2)) λy7=>(aI (!y7) (aH (J,eS L.2)) (jQ (Sx.op L.2) 15 (aH ((!decide (((Sx.arg L.2):ζ)=([]))),eS L.2)) (aH (af,eS L.2))))) (jQ (Sx.op L.2) 15 (aH ((!decide (((Sx.arg L.2):ζ)=([]))),eS L.2)) (aH (af,eS L.2)))) λD=>(aI D.1 (Z af) (jn (bU 1 (aQ (aj (Sx.index D.2))) (aH (J,eS D.2)) (jQ (Sx.op D.2) 1 (bU 0 (aQ (aj (Sx.index D.2))) (aH (J,eS D.2)) (bn (aQ (aj (Sx.index D.2))) 1 (bY (.ex) (Sx.index D.2) 0 λz9=>(aB (jY z9) λy10=>(aH ((!y10),eS D.2)))) (aH (af,eS D.2)))) (bn (aQ (aj (Sx.index D.2))) 1 (bY (.ex) (Sx.index D.2) 0 λz11=>(aB (jY z11) λy12=>(aH ((!y12),eS D.2)))) (aH (af,eS D.2))))) λx8=>(aI x8.1 (Z af) (jn (bn (Sx.op x8.2) 1 (aH (J,eS x8.2)) (bn (Sx.op x8.2) 2 (aH (J,eS x8.2)) (bn (Sx.op x8.2) 3 (aH (J,eS x8.2)) (aH ((decide (((Sx.op x8.2):Int)=14)),eS x8.2))))) λz=>(jn (aI z.1 (aB (jY (eP ((Xp.op (Sx.expr z.2)),(Xp.n (Sx.expr z.2)),(Xp.name (Sx.expr z.2)),(Xp.l (Sx.expr z.2))))) λy15=>(aI (!y15) (aH (J,eS z.2)) (aI (!z.1) (aB (qO (eP ((Xp.op (Sx.expr z.2)),(Xp.n (Sx.expr z.2)),(Xp.name (Sx.expr z.2)),(Xp.l (Sx.expr z.2))))) λy16=>(aH ((!y16),eS z.2))) (aH (af,eS z.2))))) (aI (!z.1) (aB (qO (eP ((Xp.op (Sx.expr z.2)),(Xp.n (Sx.expr z.2)),(Xp.name (Sx.expr z.2)),(Xp.l (Sx.expr z.2))))) λy17=>(aH ((!y17),eS z.2))) (aH (af,eS z.2)))) λx14=>(aI x14.1 (Z af) (jn (kY 2 (Sx.op x14.2) (aH ((dg (Sx.op x14.2) 8),eS x14.2)) (aH (af,eS x14.2))) λA=>(jn (aI (!A.1) (bU 0 (aQ (aj (Sx.body A.2))) (aH (J,eS A.2)) (jQ (Sx.op A.2) 2 (aH ((gC 0 (aQ (aj (Sx.els A.2)))),eS A.2)) (aH (af,eS A.2)))) (jQ (Sx.op A.2) 2 (aH ((gC 0 (aQ (aj (Sx.els A.2)))),eS A.2)) (aH (af,eS A.2)))) λx19=>(aI x19.1 (Z af) (jn (aB (rr02_ShapedStmts (Sx.body x19.2)) λy21=>(aI y21 (aB (rr02_ShapedStmts (Sx.els x19.2)) λy22=>(aH y22)) (aH af))) λx20=>(Z x20)))))))))))))))))
def mA (rr02_ShapedStmt:Sx->M (Bool)) (rr02_ShapedStmts:(Y Sx)->M (Bool)) (x:Y Sx):M (Bool):=
 (iter (σ:=Int) (λz=>(bU z (aZ x) (mK z x (aB (rr02_ShapedStmt (geti (.sm) x z)) λA=>(aI (!A) (aH af) (c7 (cV z))))) (aH J))) 0)
mutual
def eY:Nat->Sx->M (Bool)
 |0,_=>U
 |n+1,x=>lD (eY n) (dV n) x
def dV:Nat->(Y Sx)->M (Bool)
 |0,_=>U
 |n+1,x=>mA (eY n) (dV n) x
end
def CD (n:Nat) (x:Sx):eY (n+1) x=lD (eY n) (dV n) x:=rfl
def BZ (n:Nat) (x:Y Sx):dV (n+1) x=mA (eY n) (dV n) x:=rfl
def o8 (x:Y Sx):M (Bool):=dV fuel x
def nE (x:C?):M (Bool):=
 (jn (bU x.1 1 (aH (J,x)) (bU 6 x.1 (aH (J,x)) (aB (fZ x.a) λL=>(aI (!L) (aH (J,x)) (bU x.b 0 (aH (J,x)) (jQ x.1 1 (aH ((!decide ((x.b:Int)=0)),x)) (aH (af,x)))))))) λz=>(aI z.1 (Z af) (jn (α:=Bool×C?) (bn z.2.1 5 (aB (fZ z.n) λD=>(aI (!D) (aH (J,z.2)) (jQ z.2.1 5 (aH ((!decide ((z.n:ζ)=([]))),z.2)) (aH (af,z.2))))) (jQ z.2.1 5 (aH ((!decide ((z.n:ζ)=([]))),z.2)) (aH (af,z.2)))) λA=>(aI A.1 (Z af) (jn (α:=Bool) (bU (-9223372036854775808) A.d (bn A.d 0 (aH J) (bn A.2.1 1 (aH J) (aH (decide ((A.2.1:Int)=2))))) (aH af)) λx5=>(Z x5))))))
abbrev B!:=Ad×Y Ac
abbrev K?:=Int×(Ad×Y Ac)×(ζ)×Int×du×Y Sx
def rc (x:B!):M (Bool):=
 (iter (σ:=Int×B!) (λD=>(bU D.1 (aZ D.2.1) (bY KH D.2.1 D.1 λz2=>(aB (nE z2) λy3=>(aI (!y3) (aH af) (c7 ((cV D.1),D.2))))) (aB (iter (σ:=Int×B!) (λA=>(bU A.1 (aZ A.2.2) (bY uZ A.2.2 A.1 λz5=>(iter (σ:=K?) (λz=>(bU z.1 (aZ z.c) (bY (.str) z.c z.1 λz7=>(aB (fZ z7) λy8=>(aI (!y8) (aH (b7 af)) (c7 ((cV z.1),z.2))))) (aB (jn (aB (fZ z.a) λy10=>(aI (!y10) (aH (J,z.2.1)) (aB (o8 z.h) λL=>(aH ((!L),z.2.1))))) λx9=>(aI x9.1 (aH af) (c7 ((cV A.1),x9.2)))) λr=>Z (b7 r)))) (0,A.2,z5))) (aH (gC 0 (aZ A.2.2))))) (0,D.2)) λr=>Z (b7 r)))) (0,x))
def ku (x:du×ζ):M (Int):=
 (iter (σ:=Int) (λz=>(bU z (aZ x.1) (bY (.str) x.1 z λA=>(aI (decide ((A:ζ)=x.2)) (aH z) (c7 (cV z)))) (aH (-1)))) 0)
def jI (x:Ad×ζ):M (Int):=
 (iter (σ:=Int) (λz=>(bU z (aZ x.1) (bY KH x.1 z λA=>(aI (decide ((A.2.2.1:ζ)=x.2)) (aH z) (c7 (cV z)))) (aH (-1)))) 0)
def jB (x:(Y Ac)×ζ):M (Int):=
 (iter (σ:=Int) (λz=>(bU z (aZ x.1) (bY uZ x.1 z λA=>(aI (decide ((A.1:ζ)=x.2)) (aH z) (c7 (cV z)))) (aH (-1)))) 0)
def uq (x:(Ad×Y Ac)×Int×ζ):M (Int):=
 (jn (kY 0 x.2.1 (bU x.2.1 (aZ x.1.2) (bY uZ x.1.2 x.2.1 λz2=>(aB (ku (z2.2.2.1,x.2.2)) λy3=>(aH ((dg 0 y3),x.1)))) (aH (af,x.1))) (aH (af,x.1))) λz=>(aI z.1 (Z 8) (aB (jI (z.2.1,x.2.2)) λD=>(bU D 0 (aB (jB (z.2.2,x.2.2)) λy5=>(kY 0 y5 (Z 7) (Z 0))) (mK D z.2.1 (lt ((geti KH z.2.1 D).1) λA=>(bn A 1 (bY KH z.2.1 D λz7=>(jQ z7.2.2.2.1 0 (Z 2) (Z 1))) (bn A 2 (Z 1) (jn (bn A 3 (aH ((decide ((A:Int)=3)),z.2)) (bn A 4 (aH ((decide ((A:Int)=4)),z.2)) (bn A 5 (aH ((decide ((A:Int)=5)),z.2)) (aH ((decide ((A:Int)=6)),z.2))))) λL=>(aI L.1 (bY KH L.2.1 D λz9=>(Z z9.1)) (Z 9)))))))))))
def iv (x:(Ad×Y Ac)×Int×(ζ)×j?):M (Int):=
 (aB (uq (x.1,x.2.1,x.a)) λz=>(bn z 0 (Z 5) (jn (jQ z x.b (aH (!decide ((z:Int)=x.g))) (aH af)) λA=>(aI A (Z 6) (Z 0)))))
def AU (rr04_Nodes:Xp->M ν) (x:Xp):M ν:=
 (iter (σ:=(π)×Xp) (λz=>(bU z.1.2.2 (aQ (aj (Xp.l z.2))) (bY (.ex) (Xp.l z.2) z.1.2.2 λD=>(aB (rr04_Nodes D) λA=>(c7 (((bl .i64 (z.1.1+A.1)),(j6 z.1.2.1 A.2),(cV z.1.2.2)),eP ((Xp.op z.2),(Xp.n z.2),(Xp.name z.2),(Xp.l z.2)))))) (aH (z.1.1,(cV z.1.2.1))))) ((1,0,0),eP ((Xp.op x),(Xp.n x),(Xp.name x),(Xp.l x))))
def oM:Nat->Xp->M ν
 |0,_=>U
 |n+1,x=>AU (oM n) x
def La (n:Nat) (x:Xp):oM (n+1) x=AU (oM n) x:=rfl
def Fa (x:Xp):M ν:=oM fuel x
abbrev y!:=(Ad×Y Ac)×Int×Xp
def wL (rr04_names:y!->M (Int)) (x:y!):M (Int):=
 (jn (α:=Int×(Ad×Y Ac)×Xp) (bn (Xp.op x.2.2) 2 (aB (iv (x.1,x.2.1,(Xp.name x.2.2),8,1)) λy2=>(aH (y2,x.1,eP ((Xp.op x.2.2),(Xp.n x.2.2),(Xp.name x.2.2),(Xp.l x.2.2))))) (bn (Xp.op x.2.2) 3 (aB (iv (x.1,x.2.1,(Xp.name x.2.2),2,2)) λy3=>(aH (y3,x.1,eP ((Xp.op x.2.2),(Xp.n x.2.2),(Xp.name x.2.2),(Xp.l x.2.2))))) (aH (0,x.1,eP ((Xp.op x.2.2),(Xp.n x.2.2),(Xp.name x.2.2),(Xp.l x.2.2)))))) λD=>(iter (σ:=(ν)×(Ad×Y Ac)×Xp) (λz=>(jn (bU z.1.2 (aQ (aj (Xp.l z.2.2))) (aH ((decide ((z.1.1:Int)=0)),z.2.1,eP ((Xp.op z.2.2),(Xp.n z.2.2),(Xp.name z.2.2),(Xp.l z.2.2)))) (aH (af,z.2.1,eP ((Xp.op z.2.2),(Xp.n z.2.2),(Xp.name z.2.2),(Xp.l z.2.2))))) λA=>(aI A.1 (bY (.ex) (Xp.l A.2.2) z.1.2 λL=>(aB (rr04_names (A.2.1,x.2.1,L)) λy7=>(c7 ((y7,(cV z.1.2)),A.2.1,eP ((Xp.op A.2.2),(Xp.n A.2.2),(Xp.name A.2.2),(Xp.l A.2.2)))))) (aH z.1.1)))) ((D.1,0),D.2.1,eP ((Xp.op D.2.2),(Xp.n D.2.2),(Xp.name D.2.2),(Xp.l D.2.2)))))
def oL:Nat->(y!)->M (Int)
 |0,_=>U
 |n+1,x=>wL (oL n) x
def BD (n:Nat) (x:y!):oL (n+1) x=wL (oL n) x:=rfl
def E_ (x:y!):M (Int):=oL fuel x
def o7 (x:y!):M (Int):=
 (aB (jY (eP ((Xp.op x.2.2),(Xp.n x.2.2),(Xp.name x.2.2),(Xp.l x.2.2)))) λL=>(aI (!L) (Z 3) (aB (Fa (eP ((Xp.op x.2.2),(Xp.n x.2.2),(Xp.name x.2.2),(Xp.l x.2.2)))) λA=>(jn (bU 24 A.1 (aH (J,x.1,eP ((Xp.op x.2.2),(Xp.n x.2.2),(Xp.name x.2.2),(Xp.l x.2.2)))) (aH ((gC 6 A.2),x.1,eP ((Xp.op x.2.2),(Xp.n x.2.2),(Xp.name x.2.2),(Xp.l x.2.2))))) λz=>(aI z.1 (Z 2) (aB (E_ (z.2.1,x.2.1,eP ((Xp.op z.2.2),(Xp.n z.2.2),(Xp.name z.2.2),(Xp.l z.2.2)))) λD=>(Z D)))))))
def dh (x:Bool):M (Int):=
 (aI x (Z 7) (Z 0))
def jV (x:ν):M (Int):=
 (jQ x.1 0 (Z x.1) (Z x.2))
abbrev Q?:=Int×e?
def eC (x:(Int×Int×ζ)×e?):M (Bool×e?):=
 (iter (σ:=Q?) (λz=>(bU z.1 (aZ z.a.2) (kK (.sm) z.a.2 z.1 λA=>(jn (α:=Bool×e?) (bn (Sx.op A) x.1.1 (aI (decide ((x.1.2.2:ζ)=([]))) (aH (J,z.2)) (aH ((decide (((Sx.name A):ζ)=x.1.2.2)),z.2))) (bn (Sx.op A) x.1.2.1 (aI (decide ((x.1.2.2:ζ)=([]))) (aH (J,z.2)) (aH ((decide (((Sx.name A):ζ)=x.1.2.2)),z.2))) (aH (af,z.2)))) λD=>(aI D.1 (aH (J,D.2)) (c7 ((cV z.1),D.2))))) (aH (af,z.2)))) (0,x.2))
abbrev F!:=Int×Ae×(Bool×Y Sx)×Sx×(Ad×Y Ac)×du×Y ζ
def nN (x:Sx×e?):M Q?:=
 (aB (eC ((7,7,[]),x.2)) λy1=>(bR (ax (aj x.g) (aj y1.g)&&(ax (aj x.b) (aj y1.b)&&(((x.a.1==y1.a.1)&&J)&&ax (aj x.a.2) (aj y1.a.2)&&J))) (aB (eC ((8,8,[]),y1.2)) λy2=>(bR (ax (aj y1.g) (aj y2.g)&&(ax (aj y1.b) (aj y2.b)&&(((y1.a.1==y2.a.1)&&J)&&ax (aj y1.a.2) (aj y2.a.2)&&J))) (aB (eC ((3,3,[]),y2.2)) λy3=>(bR (ax (aj y2.g) (aj y3.g)&&(ax (aj y2.b) (aj y3.b)&&(((y2.a.1==y3.a.1)&&J)&&ax (aj y2.a.2) (aj y3.a.2)&&J))) (bn (Sx.op x.1) 1 (bn (aQ (aj (Sx.index x.1))) 0 (aB (iv ((x.2.1.1,x.2.1.2.1),x.2.1.2.2,(Sx.name x.1),8,1)) λy4=>(aB (o7 ((x.2.1.1,x.2.1.2.1),x.2.1.2.2,eP ((Xp.op (Sx.expr x.1)),(Xp.n (Sx.expr x.1)),(Xp.name (Sx.expr x.1)),(Xp.l (Sx.expr x.1))))) λy5=>(aB (jV (y4,y5)) λy6=>(Z (y6,y3.2))))) (aB (iv ((x.2.1.1,x.2.1.2.1),x.2.1.2.2,(Sx.name x.1),2,2)) λy7=>(bY (.ex) (Sx.index x.1) 0 λz8=>(aB (o7 ((x.2.1.1,x.2.1.2.1),x.2.1.2.2,z8)) λy9=>(aB (o7 ((x.2.1.1,x.2.1.2.1),x.2.1.2.2,eP ((Xp.op (Sx.expr x.1)),(Xp.n (Sx.expr x.1)),(Xp.name (Sx.expr x.1)),(Xp.l (Sx.expr x.1))))) λy10=>(aB (jV (y9,y10)) λy11=>(aB (jV (y7,y11)) λy12=>(Z (y12,y3.2))))))))) (jn (bn (Sx.op x.1) 2 (aH ((decide (((Sx.op x.1):Int)=2)),y3.2.1,y3.a,eS x.1,(x.2.1.1,x.2.1.2.1),y3.e)) (aH ((decide (((Sx.op x.1):Int)=3)),y3.2.1,y3.a,eS x.1,(x.2.1.1,x.2.1.2.1),y3.e))) λD=>(aI D.1 (aB (o7 (D.c,x.2.1.2.2,eP ((Xp.op (Sx.expr D.b)),(Xp.n (Sx.expr D.b)),(Xp.name (Sx.expr D.b)),(Xp.l (Sx.expr D.b))))) λy14=>(Z (y14,D.2.1,D.a,D.h))) (bn (Sx.op x.1) 4 (jn (α:=Q?) (aB (iv (D.c,x.2.1.2.2,(Sx.name D.b),3,3)) λy16=>(aI y1.1 (aB (dh J) λy17=>(aB (jV (y16,y17)) λy18=>(aH (y18,D.2.1,D.a,D.h)))) (aB (eC ((4,4,(Sx.name D.b)),D.2.1,D.a,D.h)) λy19=>(bR (ax (aj D.n) (aj y19.g)&&(ax (aj D.d) (aj y19.b)&&(((D.a.1==y19.a.1)&&J)&&ax (aj D.a.2) (aj y19.a.2)&&J))) (aB (dh y19.1) λy20=>(aB (jV (y16,y20)) λy21=>(aH (y21,y19.2)))))))) λx15=>(Z x15)) (jn (bn (Sx.op x.1) 5 (aH ((decide (((Sx.op x.1):Int)=5)),D.2.1,D.a,eS D.b,D.g)) (aH ((decide (((Sx.op x.1):Int)=6)),D.2.1,D.a,eS D.b,D.g))) λA=>(aI A.1 (jn (α:=Q?) (aB (iv (A.c,x.2.1.2.2,(Sx.name A.b),4,4)) λy24=>(aI y1.1 (aB (dh J) λy25=>(aB (jV (y24,y25)) λy26=>(aH (y26,A.2.1,A.a,A.h)))) (aB (eC ((5,6,(Sx.name A.b)),A.2.1,A.a,A.h)) λy27=>(bR (ax (aj A.n) (aj y27.g)&&(ax (aj A.d) (aj y27.b)&&(((A.a.1==y27.a.1)&&J)&&ax (aj A.a.2) (aj y27.a.2)&&J))) (aB (dh y27.1) λy28=>(aB (jV (y24,y28)) λy29=>(aH (y29,y27.2)))))))) λx23=>(Z x23)) (bn (Sx.op x.1) 7 (aB (dh y1.1) λy30=>(Z (y30,A.2.1,A.a,A.h))) (bn (Sx.op x.1) 8 (jn (aI y1.1 (aB (dh J) λy32=>(aH (y32,A.2.1,A.a,A.h))) (aB (dh y2.1) λy33=>(aH (y33,A.2.1,A.a,A.h)))) λx31=>(Z x31)) (jn (bn (Sx.op x.1) 9 (aH ((decide (((Sx.op x.1):Int)=9)),A.2.1,A.a,eS A.b,A.g)) (bn (Sx.op x.1) 10 (aH ((decide (((Sx.op x.1):Int)=10)),A.2.1,A.a,eS A.b,A.g)) (aH ((decide (((Sx.op x.1):Int)=11)),A.2.1,A.a,eS A.b,A.g)))) λz=>(aI z.1 (aB (iv (z.c,x.2.1.2.2,(Sx.name z.b),5,5)) λy35=>(jQ y35 0 (Z (y35,z.2.1,z.a,z.h)) (aB (jI (z.c.1,(Sx.name z.b))) λy36=>(bY KH z.c.1 y36 λz37=>(aB (eC ((4,4,z37.2.2.2.2.2),z.2.1,z.a,z.h)) λy38=>(bR (ax (aj z.n) (aj y38.g)&&(ax (aj z.d) (aj y38.b)&&(((z.a.1==y38.a.1)&&J)&&ax (aj z.a.2) (aj y38.a.2)&&J))) (jn (aI y1.1 (aB (dh J) λy40=>(aH (y40,y38.2))) (aI (!y38.1) (aB (dh J) λy41=>(aH (y41,y38.2))) (bn (Sx.op z.b) 9 (aB (dh y2.1) λy42=>(aH (y42,y38.2))) (aB (dh af) λy43=>(aH (y43,y38.2)))))) λx39=>(Z x39)))))))) (bn (Sx.op x.1) 12 (aB (iv (z.c,x.2.1.2.2,(Sx.name z.b),7,7)) λy44=>(jQ y44 0 (Z (y44,z.2.1,z.a,z.h)) (aB (jB (z.c.2,(Sx.name z.b))) λy45=>(jn (aI y1.1 (aH (J,z.2.1,z.a,eS z.b,z.h)) (aI y2.1 (aH (J,z.2.1,z.a,eS z.b,z.h)) (aI y3.1 (aH (J,z.2.1,z.a,eS z.b,z.h)) (bn y45 x.2.1.2.2 (aH (J,z.2.1,z.a,eS z.b,z.h)) (aH ((decide ((y45:Int)=0)),z.2.1,z.a,eS z.b,z.h)))))) λL=>(aI L.1 (Z (7,L.2.1,L.a,L.g)) (aB (ku (L.c,(Sx.name L.b))) λy47=>(kY 0 y47 (Z (8,L.2.1,L.a,L.g)) (bR (be (aj L.c+aj ([(Sx.name L.b)])) 16) (Z (0,L.2.1,L.a,(L.c++([(Sx.name L.b)])),L.h)))))))))) (bn (Sx.op x.1) 13 (jn (α:=Q?) (aB (iv (z.c,x.2.1.2.2,(Sx.name z.b),7,7)) λy49=>(aI y1.1 (aB (dh J) λy50=>(aB (jV (y49,y50)) λy51=>(aH (y51,z.2.1,z.a,z.h)))) (aI y2.1 (aB (dh J) λy52=>(aB (jV (y49,y52)) λy53=>(aH (y53,z.2.1,z.a,z.h)))) (aB (jB (z.c.2,(Sx.name z.b))) λy54=>(aB (dh (decide ((y54:Int)=x.2.1.2.2))) λy55=>(aB (jV (y49,y55)) λy56=>(aH (y56,z.2.1,z.a,z.h)))))))) λx48=>(Z x48)) (bn (Sx.op x.1) 14 (jn (α:=F!) (aB (iv (z.c,x.2.1.2.2,(Sx.name z.b),6,6)) λy58=>(aI y1.1 (aB (dh J) λy59=>(aB (jV (y58,y59)) λy60=>(aH (y60,z.2.1,z.a,eS z.b,z.g)))) (aB (dh y3.1) λy61=>(aB (jV (y58,y61)) λy62=>(aH (y62,z.2.1,z.a,eS z.b,z.g)))))) λx57=>(jn (α:=F!) (jn (bn x57.1 0 (aB (ku (x57.n,(Sx.name x57.b))) λy65=>(aH ((dg 0 y65),x57.2.1,x57.a,eS x57.b,x57.g))) (aH (af,x57.2.1,x57.a,eS x57.b,x57.g))) λx64=>(aI x64.1 (aH (8,x64.2.1,x64.a,eS x64.b,x64.g)) (aH (x57.1,x64.2.1,x64.a,eS x64.b,x64.g)))) λx63=>(bR (be (aj x63.n+aj ([(Sx.name x63.b)])) 16) (aB (o7 (x63.c,x.2.1.2.2,eP ((Xp.op (Sx.expr x63.b)),(Xp.n (Sx.expr x63.b)),(Xp.name (Sx.expr x63.b)),(Xp.l (Sx.expr x63.b))))) λy66=>(aB (jV (x63.1,y66)) λy67=>(Z (y67,x63.2.1,x63.a,x63.d,(x63.n++([(Sx.name x63.b)]))))))))) (aB (iv (z.c,x.2.1.2.2,(Sx.name z.b),8,8)) λy68=>(aB (iv (z.c,x.2.1.2.2,(Sx.arg z.b),6,6)) λy69=>(aB (dh y1.1) λy70=>(aB (jV (y69,y70)) λy71=>(aB (jV (y68,y71)) λy72=>(Z (y72,z.2.1,z.a,z.h))))))))))))))))))))))))))
abbrev L?:=(Y Sx)×e?
def nR (rr04_walk_all:L?->M aq9) (x:L?):M aq9:=
 (iter (σ:=Q?) (λL=>(bU L.1 (aZ x.1) (bY (.sm) x.1 L.1 λz2=>(aB (nN (eS z2,L.2)) λy3=>(bR (ax (aj L.g) (aj L.g)&&(ax (aj L.b) (aj L.b)&&(((L.a.1==y3.a.1)&&J)&&ax (aj L.a.2) (aj y3.a.2)&&J))) (jn (α:=Int×Ae×Sx×(Bool×Y Sx)×du×Y ζ) (bU 6 (bl .i64 ((aZ y3.a.2)+1)) (aH (2,y3.2.1,eS z2,y3.2.2)) (aH (y3.1,y3.2.1,eS z2,y3.2.2))) λz=>(jQ z.1 0 (aH ((z.1,(Sx.line z.a)),z.2.1,z.e)) (bR (be (aj z.b.2+aj ([o_ (0,0,[],[],([]:Y Xp),eP (0,0,[],([]:Y Xp)),([]:Y Sx),([]:Y Sx))])) 176) (ck (dO (aZ z.b.2) (aj (z.b.2++([o_ (0,0,[],[],([]:Y Xp),eP (0,0,[],([]:Y Xp)),([]:Y Sx),([]:Y Sx))])))) (aB (rr04_walk_all ((Sx.body z.a),z.2.1,(z.b.1,(ch (z.b.2++([o_ (0,0,[],[],([]:Y Xp),eP (0,0,[],([]:Y Xp)),([]:Y Sx),([]:Y Sx))])) (aZ z.b.2) (eS z.a))),z.g)) λD=>(bR (ax (aj z.h) (aj z.h)&&(ax (aj z.c) (aj z.c)&&(((z.b.1==z.b.1)&&J)&&ax (aj (ch (z.b.2++([o_ (0,0,[],[],([]:Y Xp),eP (0,0,[],([]:Y Xp)),([]:Y Sx),([]:Y Sx))])) (aZ z.b.2) (eS z.a))) (aj (ch (z.b.2++([o_ (0,0,[],[],([]:Y Xp),eP (0,0,[],([]:Y Xp)),([]:Y Sx),([]:Y Sx))])) (aZ z.b.2) (eS z.a)))&&J))) (jn (bn D.1.1 0 (aB (rr04_walk_all ((Sx.els z.a),D.2)) λy7=>(bR (ax (aj D.g) (aj D.g)&&(ax (aj D.b) (aj D.b)&&(((D.a.1==D.a.1)&&J)&&ax (aj D.a.2) (aj D.a.2)&&J))) (aH y7))) (aH D)) λA=>(bR (dg 0 (bl .i64 ((aZ A.a.2)-1))&&gC (bl .i64 ((aZ A.a.2)-1)) (aj A.a.2)) (jQ A.1.1 0 (aH (A.1,A.2.1,(af,(dx (aN (bl .i64 ((aZ A.a.2)-1))) A.a.2)),A.e)) (c7 ((cV L.1),A.2.1,(af,(dx (aN (bl .i64 ((aZ A.a.2)-1))) A.a.2)),A.e)))))))))))))) (aH ((0,0),L.2)))) (0,x.2))
def jD:Nat->(L?)->M aq9
 |0,_=>U
 |n+1,x=>nR (jD n) x
def Fo (n:Nat) (x:L?):jD (n+1) x=nR (jD n) x:=rfl
def yh (x:L?):M aq9:=jD fuel x
def AW (rr04_Count:(Y Sx)->M (Int)) (x:Y Sx):M (Int):=
 (iter (σ:=ν) (λz=>(bU z.2 (aZ x) (mK z.2 x (lt (Sx.body (geti (.sm) x z.2)) λD=>(aB (rr04_Count D) λy3=>(mK z.2 x (lt (Sx.els (geti (.sm) x z.2)) λA=>(aB (rr04_Count A) λL=>(c7 ((bl .i64 ((bl .i64 (z.1+y3))+L)),(cV z.2))))))))) (aH z.1))) ((aZ x),0))
def oN:Nat->(Y Sx)->M (Int)
 |0,_=>U
 |n+1,x=>AW (oN n) x
def Lb (n:Nat) (x:Y Sx):oN (n+1) x=AW (oN n) x:=rfl
def Fb (x:Y Sx):M (Int):=oN fuel x
abbrev u?:=Int×Int×j?
def s9 (x:Y aul):M ν:=
 (iter (σ:=υ) (λz=>(bU z.g (aZ x) (jn (α:=u?) (bY KH x z.g λA=>(bR (dg 0 z.g&&dg z.g (aj x)) (aB (jI ((dx (aN z.g) x),A.a)) λy4=>(kY 0 y4 (c7 (b7 (4,A.2.1))) (bU 4 A.b (c7 (b7 (2,A.2.1))) (jn (jn (bn A.1 1 (aH ((decide ((A.1:Int)=1)),A)) (aH ((decide ((A.1:Int)=2)),A))) λx6=>(aI x6.1 (aH (((bl .i64 (z.1+(j6 x6.c 1))),z.2.1,z.a,z.b),x6.2)) (jn (bn A.1 3 (aH ((decide ((A.1:Int)=3)),x6.2)) (aH ((decide ((A.1:Int)=4)),x6.2))) λx7=>(aI x7.1 (aH ((z.1,(cV z.2.1),z.a,z.b),x7.2)) (bn A.1 5 (aH ((z.1,z.2.1,(cV z.a),z.b),x7.2)) (aH ((z.1,z.2.1,z.a,(cV z.b)),x7.2))))))) λD=>(jn (bU 12 D.1.1 (aH (J,D.2)) (bU 4 D.1.2.1 (aH (J,D.2)) (bU 2 D.1.a (aH (J,D.2)) (aH ((gC 2 D.1.e),D.2))))) λL=>(aI L.1 (c7 (b7 (2,L.a))) (bn L.2.1 5 (bR (dg 0 z.g&&dg z.g (aj x)) (aB (jI ((dx (aN z.g) x),L.n)) λy9=>(bU y9 0 (c7 (b7 (5,L.a))) (bY KH x y9 λz10=>(jQ z10.1 3 (c7 (b7 (6,L.a))) (aH D.1)))))) (aH D.1)))))))))) λx2=>(c7 (x2.1,x2.2.1,x2.a,x2.e,(cV z.g)))) (aH (0,0)))) (0,0,0,0,0))
def o6 (x:B!):M ν:=
 (iter (σ:=Int×B!) (λA=>(bU A.1 (aZ A.2.2) (bY uZ A.2.2 A.1 λz2=>(jn (aB (jI (A.2.1,z2.1)) λy4=>(kY 0 y4 (aH (J,A.2,z2)) (bR (dg 0 A.1&&dg A.1 (aj A.2.2)) (aB (jB ((dx (aN A.1) A.2.2),z2.1)) λy5=>(aH ((dg 0 y5),A.2,z2)))))) λx3=>(aI x3.1 (aH (4,x3.b)) (c7 ((cV A.1),x3.2.1))))) (aB (iter (σ:=Int×B!) (λL=>(bU L.1 (aZ L.2.2) (bY uZ L.2.2 L.1 λz7=>(bU 4 (aZ z7.a) (aH (2,z7.2.1)) (iter (σ:=K?) (λz=>(bU z.1 (aZ z.c) (bY (.str) z.c z.1 λz9=>(jn (aB (jI (z.2.1.1,z9)) λy11=>(kY 0 y11 (aH (J,z.2)) (aB (jB (z.2.1.2,z9)) λy12=>(kY 0 y12 (aH (J,z.2)) (bR (dg 0 z.1&&dg z.1 (aj z.c)) (aB (ku ((dx (aN z.1) z.c),z9)) λy13=>(aH ((dg 0 y13),z.2)))))))) λD=>(aI D.1 (aH (b7 (4,D.b))) (c7 ((cV z.1),D.2))))) (aH (oU ((cV L.1),z.2.1))))) (0,L.2,z7)))) (aH (0,0)))) (0,A.2)) λr=>Z (b7 r)))) (0,x))
def gm (x:B!):M ν:=
 (aB (rc x) λy1=>(aI (!y1) (Z (3,0)) (aB (s9 x.1) λy2=>(jQ y2.1 0 (Z y2) (bU 4 (aZ x.2) (Z (2,0)) (aB (o6 x) λL=>(jQ L.1 0 (Z L) (iter (σ:=(ν)×B!) (λA=>(bU A.1.2 (aZ A.2.2) (bY uZ A.2.2 A.1.2 λz5=>(aB (Fb z5.2.2.2) λy6=>(c7 (((bl .i64 (A.1.1+y6)),(cV A.1.2)),A.2)))) (aB (bU 60 A.1.1 (Z (2,0)) (iter (σ:=Int×(Ad×Y Ac)×e?) (λz=>(bU z.1 (aZ z.2.1.2) (bY uZ z.2.1.2 z.1 λz8=>(aB (yh (z8.2.2.2,(z.a.1,z.a.2.1,z.1),z.e)) λD=>(bR (ax (aj z.h) (aj z.h)&&(ax (aj z.c) (aj z.c)&&(((z.b.1==z.b.1)&&J)&&ax (aj z.b.2) (aj z.b.2)&&J))) (jQ D.1.1 0 (aH D.1) (c7 ((cV z.1),z.2.1,D.2)))))) (aH (0,0)))) (0,A.2,(A.2.1,A.2.2,0),(J,([]:Y Sx)),([]:Y ζ),([]:Y ζ)))) λr=>Z (b7 r)))) ((0,0),x)))))))))
abbrev y?:=(Int×Int×Y Sx)×Y π
abbrev W?:=Int×Y π
def AT (rr06_sites:y?->M W?) (x:y?):M W?:=
 (iter (σ:=(ν)×Y π) (λz=>(bU z.1.2 (aZ x.1.2.2) (mK z.1.2 x.1.2.2 (lt (Sx.line (geti (.sm) x.1.2.2 z.1.2)) λA=>(bR (be (aj z.2+aj ([(x.1.1,z.1.1,A)])) 24) (mK z.1.2 x.1.2.2 (lt (Sx.body (geti (.sm) x.1.2.2 z.1.2)) λz3=>(aB (rr06_sites ((x.1.1,(cV z.1.1),z3),(z.2++([(x.1.1,z.1.1,A)])))) λD=>(bR (ax (aj (z.2++([(x.1.1,z.1.1,A)]))) (aj (z.2++([(x.1.1,z.1.1,A)])))&&J) (mK z.1.2 x.1.2.2 (lt (Sx.els (geti (.sm) x.1.2.2 z.1.2)) λz5=>(aB (rr06_sites ((x.1.1,D.1,z5),D.2)) λL=>(bR (ax (aj D.2) (aj D.2)&&J) (c7 ((L.1,(cV z.1.2)),L.2))))))))))))) (aH (z.1.1,z.2)))) ((x.1.2.1,0),x.2))
def qT:Nat->(y?)->M W?
 |0,_=>U
 |n+1,x=>AT (qT n) x
def K_ (n:Nat) (x:y?):qT (n+1) x=AT (qT n) x:=rfl
def ML (x:y?):M W?:=qT fuel x
def mN (x:nu×ζ):M (Int):=
 (iter (σ:=Int) (λz=>(bU z (aZ x.1) (bY tM x.1 z λA=>(aI (decide ((A.1:ζ)=x.2)) (aH z) (c7 (cV z)))) (aH (-1)))) 0)
abbrev F?:=Int×b?
def oJ (x:fe×ζ):M (Int):=
 (iter (σ:=F?) (λz=>(bU z.1 (aZ z.2.1) (bY lZ z.2.1 z.1 λA=>(aI (decide ((A.1:ζ)=x.2)) (aH z.1) (c7 ((cV z.1),z.2)))) (aH (-1)))) (0,x.1))
abbrev J!:=nX×nu×(Y ki)×Y ζ
def wv (x:B!):M fe:=
 (aB (gm x) λy1=>(jQ y1.1 0 (Z (([]:Y Yb),([]:Y H!),([]:Y ki),([]:Y ζ),([]:Y ζ),([]:Y π))) (iter (σ:=Int×(Ad×Y Ac)×J!) (λL=>(bU L.1 (aZ L.2.1.1) (bY KH L.2.1.1 L.1 λz3=>(jn (α:=(Ad×Y Ac)×J!) (jn (bn z3.1 1 (aH ((decide ((z3.1:Int)=1)),L.2.1,z3,L.2.2)) (aH ((decide ((z3.1:Int)=2)),L.2.1,z3,L.2.2))) λx5=>(aI x5.1 (iter (σ:=Int×(Ad×Y Ac)×aul×J!) (λA=>(bU A.1 (j6 A.a.b 1) (bR (be (aj A.b+aj ([(A.a.a,A.1,A.a.b,(decide ((A.a.1:Int)=2)),A.a.c)])) 48) (c7 ((cV A.1),A.2.1,A.a,(A.b++([(A.a.a,A.1,A.a.b,(decide ((A.a.1:Int)=2)),A.a.c)])),A.g))) (aH (b7 (A.2.1,A.e))))) (0,x5.2)) (jn (bn z3.1 3 (aH ((decide ((z3.1:Int)=3)),x5.2)) (aH ((decide ((z3.1:Int)=4)),x5.2))) λz=>(aI z.1 (bR (be (aj z.c+aj ([(z.a.a,(decide ((z.a.1:Int)=4)))])) 24) (aH (z.2.1,z.b,(z.c++([(z.a.a,(decide ((z.a.1:Int)=4)))])),z.h))) (bn z3.1 5 (aB (mN (z.c,z.a.h)) λy8=>(bR (be (aj z.d+aj ([(z.a.a,y8)])) 24) (aH (z.2.1,z.b,z.c,(z.d++([(z.a.a,y8)])),z.n)))) (bR (be (aj z.n+aj ([z.a.a])) 16) (aH (z.2.1,z.b,z.c,z.d,(z.n++([z.a.a])))))))))) λx4=>(c7 ((cV L.1),x4)))) (aB (iter (σ:=Int×(Ad×Y Ac)×b?) (λD=>(bU D.1 (aZ D.2.1.2) (bY uZ D.2.1.2 D.1 λz10=>(bR (be (aj D.f+aj ([z10.1])) 16) (bY uZ D.2.1.2 D.1 λz11=>(aB (ML ((D.1,0,z11.2.2.2),D.p)) λy12=>(bR (ax (aj D.p) (aj D.p)&&J) (c7 ((cV D.1),D.2.1,D.a,D.b,D.c,D.d,(D.f++([z10.1])),y12.2))))))) (aH D.2.2))) (0,L.2.1,L.a,L.b,L.c,L.h,([]:Y ζ),([]:Y π))) λr=>Z (b7 r)))) (0,x,([]:Y Yb),([]:Y H!),([]:Y ki),([]:Y ζ)))))
abbrev C!:=Int×fe×Y ζ
abbrev N!:=du×(ζ)×o?
def qL (x:b?):M (du×Bool):=
 (iter (σ:=C!) (λA=>(bU A.1 (aZ A.2.1.1) (jn (α:=C!) (bY lZ A.2.1.1 A.1 λL=>(bR (be (aj A.2.2+aj ([L.1])) 16) (bn L.a 0 (jQ L.2.1 0 (c7 (b7 (([]:Y ζ),af))) (aH ((cV A.1),A.2.1,(A.2.2++([L.1]))))) (jn (α:=Bool×fe×N!) (bU L.a 1 (aH (J,A.2.1,(A.2.2++([L.1])),L)) (bU 4 L.a (aH (J,A.2.1,(A.2.2++([L.1])),L)) (aH ((gC (bl .i64 ((aZ A.2.1.1)-A.1)) L.a),A.2.1,(A.2.2++([L.1])),L)))) λx4=>(aI x4.1 (c7 (b7 (([]:Y ζ),af))) (iter (σ:=Int×fe×N!) (λD=>(bU D.1 D.d (bY lZ D.2.1.1 (bl .i64 (A.1+D.1)) λz6=>(jn (jQ z6.2.1 D.1 (aH (J,D.2)) (aI (!decide ((z6.1:ζ)=D.b)) (aH (J,D.2)) (jQ z6.a D.d (aH (J,D.2)) (jQ z6.g D.p (aH (J,D.2)) (aH (z6.b,D.2)))))) λx7=>(aI x7.1 (aH (oU (b7 (([]:Y ζ),af)))) (c7 ((cV D.1),x7.2))))) (aH (b7 ((bl .i64 (A.1+D.d)),D.2.1,D.a))))) (0,x4.2))))))) λx2=>(c7 x2)) (aB (iter (σ:=C!) (λx8=>(bU x8.1 (aZ x8.2.1.2.1) (bY tM x8.2.1.2.1 x8.1 λz9=>(bR (be (aj x8.2.2+aj ([z9.1])) 16) (c7 ((cV x8.1),x8.2.1,(x8.2.2++([z9.1])))))) (aB (iter (σ:=C!) (λz=>(bU z.1 (aZ z.2.1.a) (bY itK z.2.1.a z.1 λz11=>(bR (be (aj z.2.2+aj ([z11.1])) 16) (c7 ((cV z.1),z.2.1,(z.2.2++([z11.1])))))) (aB (bR (be (aj z.2.2+aj z.2.1.b) 16) (bR (be (aj (z.2.2++z.2.1.b)+aj z.2.1.c) 16) (Z (((z.2.2++z.2.1.b)++z.2.1.c),J)))) λr=>Z (b7 r)))) (0,x8.2)) λr=>Z (b7 r)))) (0,A.2)) λr=>Z (b7 r)))) (0,x,([]:Y ζ)))
def iF (x:b?):M (Bool):=
 (jn (bU 12 (aZ x.1) (aH (J,x)) (bU 4 (aZ x.2.1) (aH (J,x)) (bU 2 (aZ x.a) (aH (J,x)) (bU 2 (aZ x.b) (aH (J,x)) (bU (aZ x.c) 1 (aH (J,x)) (bU 4 (aZ x.c) (aH (J,x)) (aH ((gC 60 (aZ x.h)),x)))))))) λx1=>(aI x1.1 (Z af) (aB (qL x1.2) λy2=>(aI (!y2.2) (Z af) (iter (σ:=F?) (λx3=>(bU x3.1 (aZ y2.1) (jn (bY (.str) y2.1 x3.1 λz5=>(aB (fZ z5) λy6=>(aI (!y6) (aH (J,x3.2)) (bR (dg 0 x3.1&&dg x3.1 (aj y2.1)) (bY (.str) y2.1 x3.1 λz7=>(aB (ku ((dx (aN x3.1) y2.1),z7)) λy8=>(aH ((dg 0 y8),x3.2)))))))) λx4=>(aI x4.1 (aH af) (c7 ((cV x3.1),x4.2)))) (aB (iter (σ:=F?) (λD=>(bU D.1 (aZ D.b) (bY itK D.b D.1 λz10=>(jn (bU z10.2 0 (aH (J,D.2)) (kY (aZ D.a) z10.2 (aH (J,D.2)) (bY tM D.a z10.2 λz12=>(aH (z12.2,D.2))))) λx11=>(aI x11.1 (aH af) (c7 ((cV D.1),x11.2))))) (aB (iter (σ:=F?) (λz=>(bU z.1 (aZ z.n) (jn (bY pW z.n z.1 λz15=>(jn (bU z15.1 0 (aH (J,z.2,z15)) (aH ((dg (aZ z.d) z15.1),z.2,z15))) λL=>(aI L.1 (c7 (b7 af)) (jn (bn z.1 0 (aH (J,L.2)) (bY pW L.2.1.h (bl .i64 (z.1-1)) λz18=>(aH ((!decide ((z18.1:Int)=L.a)),L.2)))) λA=>(aI A.1 (jn (jQ A.b 0 (aH (J,A.2.1)) (bU 0 z.1 (bY pW A.2.1.h (bl .i64 (z.1-1)) λz20=>(aH ((gC A.a z20.1),A.2.1))) (aH (af,A.2.1)))) λx19=>(aI x19.1 (c7 (b7 af)) (aH x19.2))) (bY pW A.2.1.h (bl .i64 (z.1-1)) λz21=>(jQ A.b (cV z21.2.1) (c7 (b7 af)) (aH A.2.1)))))))) λx14=>(c7 ((cV z.1),x14))) (aH J))) (0,D.2)) λr=>Z (b7 r)))) (0,x3.2)) λr=>Z (b7 r)))) (0,x1.2))))))
def kO (x:ω):M η:=
 (jn (bn x.1 1 (aH ((decide ((x.1:Int)=1)),x)) (bn x.1 6 (aH ((decide ((x.1:Int)=6)),x)) (bn x.1 10 (aH ((decide ((x.1:Int)=10)),x)) (aH ((decide ((x.1:Int)=27)),x))))) λD=>(aI D.1 (Z ([D.a])) (jn (bn x.1 2 (aH ((decide ((x.1:Int)=2)),D.2)) (aH ((decide ((x.1:Int)=3)),D.2))) λz=>(aI z.1 (Z ([z.a,z.b])) (bn x.1 4 (Z ([z.a,z.b,z.c])) (bn x.1 7 (Z ([z.a,z.c])) (jn (bn x.1 8 (aH ((decide ((x.1:Int)=8)),z.2)) (aH ((decide ((x.1:Int)=26)),z.2))) λA=>(aI A.1 (Z ([A.b])) (bn x.1 9 (Z ([A.b,A.c])) (Z ([]:η)))))))))))
def q_ (x:Int):M (Bool):=
 (jn (kY 1 x (aH (dg x 5)) (aH af)) λz=>(Z z))
def qM (x:(Y mG)×Int):M (Bool):=
 (iter (σ:=ν) (λz=>(kY z.2 (aZ x.1) (jn (jn (bU z.1 0 (aH J) (aH (dg (aZ x.1) z.1))) λx3=>(aI x3 (c7 (b7 af)) (bY sK x.1 z.1 λL=>(aB (q_ L.1) λy5=>(aI (!y5) (c7 (b7 J)) (bY sK x.1 z.1 λD=>(bn D.1 5 (bY sK x.1 z.1 λA=>(aH A.2.1)) (aH (cV z.1))))))))) λx2=>(c7 (x2,(cV z.2)))) (aH af))) (x.2,0))
def kr (x:ν):M (Bool):=
 (jn (kY 0 x.1 (aH (gC x.1 x.2)) (aH af)) λz=>(Z z))
def qN (x:fe×j?):M (Bool):=
 (jn (aB (kr (x.2.1,(aZ x.1.1))) λL=>(aI L (bY lZ x.1.1 x.2.1 λD=>(bn D.2.1 0 (bY lZ x.1.1 x.2.1 λA=>(jQ A.2.2.1 0 (bY lZ x.1.1 x.2.1 λz=>(aH (decide ((z.2.2.1:Int)=x.2.2)))) (aH af))) (aH af))) (aH af))) λx1=>(Z x1))
def mW (x:fe×Int×Int×u?):M (Bool):=
 (bn x.2.1 6 (jn (aB (kr (x.b,(aZ x.1.1))) λy2=>(aI y2 (bY lZ x.1.1 x.b λz3=>(aH (decide ((z3.2.2.1:Int)=0)))) (aH af))) λx1=>(Z x1)) (bn x.2.1 8 (jn (aB (kr (x.a,(aZ x.1.1))) λy5=>(aI y5 (bY lZ x.1.1 x.a λz6=>(aH (decide ((z6.2.2.1:Int)=0)))) (aH af))) λx4=>(Z x4)) (bn x.2.1 7 (aB (qN (x.1,x.b,x.d)) λy7=>(Z y7)) (bn x.2.1 9 (aB (qN (x.1,x.a,x.d)) λy8=>(Z y8)) (jn (bn x.2.1 11 (aH ((decide ((x.2.1:Int)=11)),x)) (aH ((decide ((x.2.1:Int)=12)),x))) λL=>(aI L.1 (jn (aB (kr (L.b,(aZ L.2.1.2.1))) λy11=>(aI y11 (bY tM L.2.1.2.1 L.b λz12=>(aH (!z12.2))) (aH af))) λx10=>(Z x10)) (jn (bn x.2.1 13 (aH ((decide ((x.2.1:Int)=13)),L.2)) (bn x.2.1 14 (aH ((decide ((x.2.1:Int)=14)),L.2)) (bn x.2.1 15 (aH ((decide ((x.2.1:Int)=15)),L.2)) (aH ((decide ((x.2.1:Int)=16)),L.2))))) λA=>(aI A.1 (jn (aB (kr (A.b,(aZ A.2.1.2.1))) λy15=>(aI y15 (bY tM A.2.1.2.1 A.b λz16=>(aH z16.2)) (aH af))) λx14=>(Z x14)) (jn (bn x.2.1 21 (aH ((decide ((x.2.1:Int)=21)),A.2)) (bn x.2.1 22 (aH ((decide ((x.2.1:Int)=22)),A.2)) (aH ((decide ((x.2.1:Int)=23)),A.2)))) λD=>(aI D.1 (aB (kr (D.b,(aZ D.2.1.a))) λy18=>(Z y18)) (jn (bn x.2.1 24 (aH ((decide ((x.2.1:Int)=24)),D.2)) (aH ((decide ((x.2.1:Int)=25)),D.2))) λz=>(aI z.1 (aB (kr (z.b,(aZ z.2.1.c))) λy20=>(Z y20)) (bn x.2.1 26 (aB (kr (z.b,(aZ z.2.1.b))) λy21=>(Z y21)) (bn x.2.1 27 (aB (kr (z.c,(aZ z.2.1.b))) λy22=>(Z y22)) (bn x.2.1 3 (jn (bn z.f 4 (aH J) (aH (decide ((z.f:Int)=5)))) λx23=>(Z x23)) (bn x.2.1 4 (jn (kY 6 z.f (aH (dg z.f 18)) (aH af)) λx24=>(Z x24)) (Z J)))))))))))))))))
abbrev O!:=Int×Y mG
def iU (x:fe×Int×O!):M (Bool):=
 (jn (bU x.a 0 (aH (J,x.1,x.2.2)) (bU 32 x.a (aH (J,x.1,x.2.2)) (aH ((decide (((aZ x.e):Int)=0)),x.1,x.2.2)))) λx1=>(aI x1.1 (Z af) (iter (σ:=Int×fe×O!) (λA=>(bU A.1 (aZ x.e) (bY sK A.e A.1 λz3=>(jn (bU z3.1 1 (aH (J,A.2.1,A.2.2,z3)) (bU 28 z3.1 (aH (J,A.2.1,A.2.2,z3)) (aI (((decide ((z3.1:Int)=28))==(decide ((A.1:Int)=(bl .i64 ((aZ x.e)-1))))) !=J) (aH (J,A.2.1,A.2.2,z3)) (aB (mW (A.2.1,z3)) λy5=>(aI (!y5) (aH (J,A.2.1,A.2.2,z3)) (aB (qM (A.e,A.1)) λy6=>(aH ((!y6),A.2.1,A.2.2,z3)))))))) λz=>(aI z.1 (aH af) (jn (α:=Bool×fe×(Int×Y mG)×Int×Int×u?) (bn z.b 28 (jQ z.r (-1) (aH (J,z.2)) (jQ z.b 28 (aB (kr (z.r,(aZ z.2.1.h))) λy8=>(aI (!y8) (aH (J,z.2)) (bY pW z.2.1.h z.r λz9=>(aH ((!decide ((z9.1:Int)=x.2.1)),z.2))))) (aH (af,z.2)))) (jQ z.b 28 (aB (kr (z.r,(aZ z.2.1.h))) λy10=>(aI (!y10) (aH (J,z.2)) (bY pW z.2.1.h z.r λz11=>(aH ((!decide ((z11.1:Int)=x.2.1)),z.2))))) (aH (af,z.2)))) λL=>(aI L.1 (aH af) (jn (bn L.b 5 (aB (kr (L.c,(aZ x.e))) λy13=>(aI (!y13) (aH (J,L.2)) (bn L.b 10 (aB (kr (L.d,(aZ x.e))) λy14=>(aH ((!y14),L.2))) (aH (af,L.2))))) (bn L.b 10 (aB (kr (L.d,(aZ x.e))) λy15=>(aH ((!y15),L.2))) (aH (af,L.2)))) λx12=>(aI x12.1 (aH af) (aB (kO x12.e) λy16=>(iter (σ:=Int×fe×O!) (λD=>(bU D.1 (aZ y16) (bY aM y16 D.1 λz18=>(aB (kr (z18,D.a)) λy19=>(aI (!y19) (aH (b7 af)) (c7 ((cV D.1),D.2))))) (aH (oU ((cV A.1),D.2))))) (0,x12.2.1,x12.a)))))))))) (aH J))) (0,x1.2))))
def kN (x:A?):M (Bool):=
 (jn (aB (iF x.1) λy2=>(aI (!y2) (aH (J,x)) (aH ((!decide (((aZ x.2):Int)=(aZ x.1.c))),x)))) λA=>(aI A.1 (Z af) (iter (σ:=Int×A?) (λz=>(bU z.1 (aZ z.2.2) (bY Aj z.2.2 z.1 λD=>(aB (iU (z.2.1,z.1,D)) λL=>(aI (!L) (aH af) (c7 ((cV z.1),z.2))))) (aH J))) (0,A.2))))
def cO (x:mG×g?):M g?:=
 (bR (be (aj x.2.2+aj ([(x.1.1,x.1.2.1,x.1.a,x.1.b,x.1.c,x.2.1.i)])) 48) (Z (x.2.1,(x.2.2++([(x.1.1,x.1.2.1,x.1.a,x.1.b,x.1.c,x.2.1.i)])))))
abbrev G?:=(Xp×Int)×g?
def sh (rr06_gen_value:G?->M g?) (x:G?):M g?:=
 (jn (α:=g?) (bn (Xp.op x.1.1) 1 (aB (cO ((1,x.1.2,0,0,(Xp.n x.1.1),0),x.2)) λy2=>(bR (ax (aj x.2.2) (aj x.2.2)&&J) (aH y2))) (bn (Xp.op x.1.1) 2 (aB (ku (x.2.1.f,(Xp.name x.1.1))) λy3=>(kY 0 y3 (aB (cO ((2,x.1.2,y3,0,0,0),x.2)) λy4=>(bR (ax (aj x.2.2) (aj x.2.2)&&J) (aH y4))) (aB (oJ ((x.2.1.1,x.2.1.2.1,x.2.1.a,x.2.1.b,x.2.1.c,x.2.1.d),(Xp.name x.1.1))) λy5=>(aB (cO ((6,x.1.2,y5,0,0,0),x.2)) λy6=>(bR (ax (aj x.2.2) (aj x.2.2)&&J) (aH y6)))))) (bn (Xp.op x.1.1) 3 (bY (.ex) (Xp.l x.1.1) 0 λz7=>(aB (rr06_gen_value ((z7,x.1.2),x.2)) λz=>(bR (ax (aj x.2.2) (aj x.2.2)&&J) (aB (oJ ((z.1.1,z.1.2.1,z.1.a,z.1.b,z.1.c,z.1.d),(Xp.name x.1.1))) λy9=>(bY lZ z.1.1 y9 λz10=>(aB (cO ((7,x.1.2,y9,x.1.2,z10.2.2.1,0),z)) λy11=>(bR (ax (aj z.2) (aj z.2)&&J) (aH y11)))))))) (bn (aQ (aj (Xp.l x.1.1))) 1 (bY (.ex) (Xp.l x.1.1) 0 λz12=>(aB (rr06_gen_value ((z12,x.1.2),x.2)) λL=>(bR (ax (aj x.2.2) (aj x.2.2)&&J) (aB (cO ((3,x.1.2,x.1.2,0,(Xp.op x.1.1),0),L)) λy14=>(bR (ax (aj L.2) (aj L.2)&&J) (aH y14)))))) (bY (.ex) (Xp.l x.1.1) 0 λz15=>(aB (rr06_gen_value ((z15,x.1.2),x.2)) λD=>(bR (ax (aj x.2.2) (aj x.2.2)&&J) (bY (.ex) (Xp.l x.1.1) 1 λz17=>(aB (rr06_gen_value ((z17,(cV x.1.2)),D)) λA=>(bR (ax (aj D.2) (aj D.2)&&J) (aB (cO ((4,x.1.2,x.1.2,(cV x.1.2),(Xp.op x.1.1),0),A)) λy19=>(bR (ax (aj A.2) (aj A.2)&&J) (aH y19))))))))))))) λx1=>(Z x1))
def jK:Nat->(G?)->M g?
 |0,_=>U
 |n+1,x=>sh (jK n) x
def DZ (n:Nat) (x:G?):jK (n+1) x=sh (jK n) x:=rfl
def jH (x:G?):M g?:=jK fuel x
def nD (x:Sx×g?):M g?:=
 (bU 0 (aQ (aj (Sx.index x.1))) (bY (.ex) (Sx.index x.1) 0 λz1=>(aB (jH ((z1,(aZ x.2.1.f)),x.2)) λD=>(bR (ax (aj x.2.2) (aj x.2.2)&&J) (aB (jH ((eP ((Xp.op (Sx.expr x.1)),(Xp.n (Sx.expr x.1)),(Xp.name (Sx.expr x.1)),(Xp.l (Sx.expr x.1))),(bl .i64 ((aZ x.2.1.f)+1))),D)) λA=>(bR (ax (aj D.2) (aj D.2)&&J) (aB (oJ ((A.1.1,A.1.2.1,A.1.a,A.1.b,A.1.c,A.1.d),(Sx.name x.1))) λy4=>(bY lZ A.1.1 y4 λz5=>(aB (cO ((9,y4,(bl .i64 ((aZ x.2.1.f)+1)),(aZ x.2.1.f),z5.2.2.1,0),A)) λy6=>(bR (ax (aj A.2) (aj A.2)&&J) (Z y6)))))))))) (aB (jH ((eP ((Xp.op (Sx.expr x.1)),(Xp.n (Sx.expr x.1)),(Xp.name (Sx.expr x.1)),(Xp.l (Sx.expr x.1))),(aZ x.2.1.f)),x.2)) λz=>(bR (ax (aj x.2.2) (aj x.2.2)&&J) (aB (ku (z.1.f,(Sx.name x.1))) λy8=>(kY 0 y8 (aB (cO ((2,y8,(aZ x.2.1.f),0,0,0),z)) λy9=>(bR (ax (aj z.2) (aj z.2)&&J) (Z y9))) (aB (oJ ((z.1.1,z.1.2.1,z.1.a,z.1.b,z.1.c,z.1.d),(Sx.name x.1))) λy10=>(aB (cO ((8,y10,(aZ x.2.1.f),0,0,0),z)) λL=>(bR (ax (aj z.2) (aj z.2)&&J) (Z L)))))))))
def kD (x:ζ×g?):M (Int×g?):=
 (iter (σ:=Int×g?) (λz=>(bU z.1 (aZ z.2.1.a) (bY itK z.2.1.a z.1 λA=>(aI (decide ((A.1:ζ)=x.1)) (aH z) (c7 ((cV z.1),z.2)))) (aH ((-1),z.2)))) (0,x.2))
def wK (rr06_gen_stmts:alz->M g?) (rr06_gen_stmt:QR->M g?) (rr06_gen_branches:QR->M g?) (rr06_gen_around:am0->M g?) (x:(Y Sx)×g?):M g?:=
 (iter (σ:=Int×g?) (λz=>(bU z.1 (aZ x.1) (bY (.sm) x.1 z.1 λA=>(aB (rr06_gen_stmt (A,z.2)) λD=>(bR (ax (aj z.2.2) (aj z.2.2)&&J) (c7 ((cV z.1),D))))) (aH z.2))) (0,x.2))
def tW (rr06_gen_stmts:alz->M g?) (rr06_gen_stmt:QR->M g?) (rr06_gen_branches:QR->M g?) (rr06_gen_around:am0->M g?) (x:Sx×g?):M g?:=
 (jn (α:=g?) (bn (Sx.op x.1) 1 (aB (nD (eS x.1,(x.2.1.1,x.2.1.2.1,x.2.1.a,x.2.1.b,x.2.1.c,x.2.1.d,x.2.1.f,x.2.1.r,(cV x.2.1.r)),x.2.2)) λy2=>(bR (ax (aj x.2.2) (aj x.2.2)&&J) (aH y2))) (jn (bn (Sx.op x.1) 2 (aH ((decide (((Sx.op x.1):Int)=2)),(x.2.1.1,x.2.1.2.1,x.2.1.a,x.2.1.b,x.2.1.c,x.2.1.d,x.2.1.f,x.2.1.r,(cV x.2.1.r)),eS x.1,x.2.2)) (aH ((decide (((Sx.op x.1):Int)=3)),(x.2.1.1,x.2.1.2.1,x.2.1.a,x.2.1.b,x.2.1.c,x.2.1.d,x.2.1.f,x.2.1.r,(cV x.2.1.r)),eS x.1,x.2.2))) λz=>(aI z.1 (aB (rr06_gen_branches (eS z.a,z.2.1,z.e)) λy4=>(bR (ax (aj z.e) (aj z.e)&&J) (aH y4))) (bn (Sx.op x.1) 4 (aB (mN (z.2.1.2.1,(Sx.name z.a))) λy5=>(aB (rr06_gen_around ((eS z.a,11,12,y5),z.2.1,z.e)) λy6=>(bR (ax (aj z.e) (aj z.e)&&J) (aH y6)))) (bn (Sx.op x.1) 5 (aB (mN (z.2.1.2.1,(Sx.name z.a))) λy7=>(aB (rr06_gen_around ((eS z.a,13,14,y7),z.2.1,z.e)) λy8=>(bR (ax (aj z.e) (aj z.e)&&J) (aH y8)))) (bn (Sx.op x.1) 6 (aB (mN (z.2.1.2.1,(Sx.name z.a))) λy9=>(aB (rr06_gen_around ((eS z.a,15,16,y9),z.2.1,z.e)) λy10=>(bR (ax (aj z.e) (aj z.e)&&J) (aH y10)))) (bn (Sx.op x.1) 7 (aB (rr06_gen_around ((eS z.a,17,18,0),z.2.1,z.e)) λy11=>(bR (ax (aj z.e) (aj z.e)&&J) (aH y11))) (bn (Sx.op x.1) 8 (aB (rr06_gen_around ((eS z.a,19,20,0),z.2.1,z.e)) λy12=>(bR (ax (aj z.e) (aj z.e)&&J) (aH y12))) (bn (Sx.op x.1) 9 (aB (kD ((Sx.name z.a),z.2.1,z.e)) λL=>(bR (ax (aj z.e) (aj L.2.2)&&J) (aB (cO ((21,L.1,0,0,0,0),L.2)) λy14=>(bR (ax (aj L.2.2) (aj L.2.2)&&J) (aH y14))))) (bn (Sx.op x.1) 10 (aB (kD ((Sx.name z.a),z.2.1,z.e)) λD=>(bR (ax (aj z.e) (aj D.2.2)&&J) (aB (cO ((22,D.1,0,0,0,0),D.2)) λy16=>(bR (ax (aj D.2.2) (aj D.2.2)&&J) (aH y16))))) (bn (Sx.op x.1) 11 (aB (kD ((Sx.name z.a),z.2.1,z.e)) λA=>(bR (ax (aj z.e) (aj A.2.2)&&J) (aB (cO ((23,A.1,0,0,0,0),A.2)) λy18=>(bR (ax (aj A.2.2) (aj A.2.2)&&J) (aH y18))))) (bn (Sx.op x.1) 12 (aB (ku (z.2.1.c,(Sx.name z.a))) λy19=>(aB (cO ((24,y19,0,0,0,0),z.2.1,z.e)) λy20=>(bR (ax (aj z.e) (aj z.e)&&J) (aH y20)))) (bn (Sx.op x.1) 13 (aB (ku (z.2.1.c,(Sx.name z.a))) λy21=>(aB (cO ((25,y21,0,0,0,0),z.2.1,z.e)) λy22=>(bR (ax (aj z.e) (aj z.e)&&J) (aH y22)))) (bn (Sx.op x.1) 14 (aB (jH ((eP ((Xp.op (Sx.expr z.a)),(Xp.n (Sx.expr z.a)),(Xp.name (Sx.expr z.a)),(Xp.l (Sx.expr z.a))),(aZ x.2.1.f)),z.2.1,z.e)) λy23=>(bR (ax (aj z.e) (aj z.e)&&J) (aB (ku (y23.1.b,(Sx.name z.a))) λy24=>(aB (cO ((26,y24,(aZ x.2.1.f),0,0,0),y23)) λy25=>(bR (ax (aj y23.2) (aj y23.2)&&J) (aH y25)))))) (bn (Sx.op x.1) 15 (aB (ku (z.2.1.f,(Sx.name z.a))) λy26=>(aB (ku (z.2.1.b,(Sx.arg z.a))) λy27=>(aB (cO ((27,y26,y27,0,0,0),z.2.1,z.e)) λy28=>(bR (ax (aj z.e) (aj z.e)&&J) (aH y28))))) (aH (z.2.1,z.e))))))))))))))))) λx1=>(Z x1))
def od (rr06_gen_stmts:alz->M g?) (rr06_gen_stmt:QR->M g?) (rr06_gen_branches:QR->M g?) (rr06_gen_around:am0->M g?) (x:Sx×g?):M g?:=
 (aB (jH ((eP ((Xp.op (Sx.expr x.1)),(Xp.n (Sx.expr x.1)),(Xp.name (Sx.expr x.1)),(Xp.l (Sx.expr x.1))),(aZ x.2.1.f)),x.2)) λA=>(bR (ax (aj x.2.2) (aj x.2.2)&&J) (aB (cO ((10,(aZ A.1.f),0,0,0,0),A)) λy2=>(bR (ax (aj A.2) (aj A.2)&&J) (aB (rr06_gen_stmts ((Sx.body x.1),y2)) λz=>(bR (ax (aj y2.2) (aj y2.2)&&J) (bn (Sx.op x.1) 3 (aB (cO ((5,(aZ x.2.2),0,0,0,0),(z.1.1,z.1.2.1,z.1.a,z.1.b,z.1.c,z.1.d,z.1.f,x.2.1.i,z.1.r),z.2)) λL=>(bR (ax (aj z.2) (aj z.2)&&J) (ck (dO (aZ A.2) (aj L.2)) (Z (L.1,(ch L.2 (aZ A.2) ((geti sK L.2 (aZ A.2)).1,((geti sK L.2 (aZ A.2)).2).1,(aZ L.2),(((geti sK L.2 (aZ A.2)).2).2).2))))))) (bn (aQ (aj (Sx.els x.1))) 0 (ck (dO (aZ A.2) (aj z.2)) (Z ((z.1.1,z.1.2.1,z.1.a,z.1.b,z.1.c,z.1.d,z.1.f,x.2.1.i,z.1.r),(ch z.2 (aZ A.2) ((geti sK z.2 (aZ A.2)).1,((geti sK z.2 (aZ A.2)).2).1,(aZ z.2),(((geti sK z.2 (aZ A.2)).2).2).2))))) (aB (cO ((5,0,0,0,0,0),(z.1.1,z.1.2.1,z.1.a,z.1.b,z.1.c,z.1.d,z.1.f,x.2.1.i,z.1.r),z.2)) λD=>(bR (ax (aj z.2) (aj z.2)&&J) (ck (dO (aZ A.2) (aj D.2)) (aB (rr06_gen_stmts ((Sx.els x.1),D.1,(ch D.2 (aZ A.2) ((geti sK D.2 (aZ A.2)).1,((geti sK D.2 (aZ A.2)).2).1,(aZ D.2),(((geti sK D.2 (aZ A.2)).2).2).2)))) λy6=>(bR (ax (aj (ch D.2 (aZ A.2) ((geti sK D.2 (aZ A.2)).1,((geti sK D.2 (aZ A.2)).2).1,(aZ D.2),(((geti sK D.2 (aZ A.2)).2).2).2))) (aj (ch D.2 (aZ A.2) ((geti sK D.2 (aZ A.2)).1,((geti sK D.2 (aZ A.2)).2).1,(aZ D.2),(((geti sK D.2 (aZ A.2)).2).2).2)))&&J) (ck (dO (aZ z.2) (aj y6.2)) (Z (y6.1,(ch y6.2 (aZ z.2) ((geti sK y6.2 (aZ z.2)).1,(aZ y6.2),((geti sK y6.2 (aZ z.2)).2).2))))))))))))))))))
def uT (rr06_gen_stmts:alz->M g?) (rr06_gen_stmt:QR->M g?) (rr06_gen_branches:QR->M g?) (rr06_gen_around:am0->M g?) (x:W!):M g?:=
 (aB (cO ((x.1.2.1,x.1.e,0,0,0,0),x.2)) λA=>(bR (ax (aj x.2.2) (aj x.2.2)&&J) (aB (rr06_gen_stmts ((Sx.body x.1.1),A)) λz=>(bR (ax (aj A.2) (aj A.2)&&J) (aB (cO ((x.1.a,x.1.e,0,0,0,0),(z.1.1,z.1.2.1,z.1.a,z.1.b,z.1.c,z.1.d,z.1.f,x.2.1.i,z.1.r),z.2)) λD=>(bR (ax (aj z.2) (aj z.2)&&J) (Z D)))))))
mutual
def ec:Nat->alz->M g?
 |0,_=>U
 |n+1,x=>wK (ec n) (fk n) (dt n) (dX n) x
def fk:Nat->QR->M g?
 |0,_=>U
 |n+1,x=>tW (ec n) (fk n) (dt n) (dX n) x
def dt:Nat->QR->M g?
 |0,_=>U
 |n+1,x=>od (ec n) (fk n) (dt n) (dX n) x
def dX:Nat->am0->M g?
 |0,_=>U
 |n+1,x=>uT (ec n) (fk n) (dt n) (dX n) x
end
def wu (x:(Y Sx)×g?):M g?:=ec fuel x
abbrev D?:=Int×(Ad×Y Ac)×fe×t_×Int×(Y (Int×Y mG))×Y mG
def rV (x:B!):M (FF×j?):=
 (aB (gm x) λy1=>(jQ y1.1 0 (Z (((([]:Y Yb),([]:Y H!),([]:Y ki),([]:Y ζ),([]:Y ζ),([]:Y π)),([]:Y O!)),y1)) (aB (wv x) λy2=>(iter (σ:=(ν)×(Ad×Y Ac)×A?) (λA=>(bU A.1.2 (aZ A.2.1.2) (bY uZ A.2.1.2 A.1.2 λz4=>(bY uZ A.2.1.2 A.1.2 λz5=>(aB (wu (z5.2.2.2,(A.a.1,A.a.2.1,A.a.a,A.a.b,A.a.c,A.a.h,z4.2.2.1,0,A.1.1),([]:Y mG))) λL=>(bR (ax (aj ([]:Y mG)) (aj ([]:Y mG))&&J) (aB (cO ((28,0,0,0,0,0),(L.1.1,L.1.2.1,L.1.a,L.1.b,L.1.c,L.1.d,L.1.f,(-1),L.1.r),L.2)) λy7=>(bR (ax (aj L.2) (aj L.2)&&J) (iter (σ:=D?) (λD=>(bU D.1 (aZ D.n) (kK sK D.n D.1 λz9=>(aB (kO z9) λy10=>(iter (σ:=D?) (λz=>(bU z.1 (aZ y10) (bY aM y10 z.1 λz12=>(c7 ((cV z.1),z.2.1,z.a,z.b,(j6 z.c (cV z12)),z.h))) (aH (oU ((cV D.1),z.2))))) (0,D.2)))) (aB (bR (be (aj D.d+aj ([(D.c,D.n)])) 32) (c7 ((L.1.r,(cV A.1.2)),D.2.1,D.a,(D.d++([(D.c,D.n)]))))) λr=>Z (b7 r)))) (0,A.2.1,A.a,y7.1,(aZ y7.1.f),A.e,y7.2)))))))) (aH (A.2.2,0,0)))) ((0,0),x,y2,([]:Y O!))))))
def uo (x:o!):M (Bool):=
 (iter (σ:=Int) (λz=>(bU z (aZ x.1) (bY aM x.1 z λA=>(bn A x.2 (aH J) (c7 (cV z)))) (aH af))) 0)
def y_ (x:o!):M η:=
 (iter (σ:=Int) (λz=>(jn (bU z (aZ x.1) (bY aM x.1 z λD=>(aH (gC D x.2))) (aH af)) λx2=>(aI x2 (c7 (cV z)) (aB (jn (bU z (aZ x.1) (bY aM x.1 z λA=>(aH (decide ((A:Int)=x.2)))) (aH af)) λL=>(aI L (Z x.1) (bR (dg 0 z&&dg z (aj x.1)) (bR (be (aj ([]:η)+aj (dx (aN z) x.1)) 8) (bR (be (aj (([]:η)++(dx (aN z) x.1))+aj ([x.2])) 8) (bR (dg 0 z&&dg z (aj x.1)) (bR (be (aj ((([]:η)++(dx (aN z) x.1))++([x.2]))+aj (List.drop (aN z) x.1)) 8) (Z (((([]:η)++(dx (aN z) x.1))++([x.2]))++(List.drop (aN z) x.1)))))))))) λr=>Z (b7 r))))) 0)
abbrev v!:=(η)×Int
abbrev x!:=η×η
def wq (x:x!):M η:=
 (iter (σ:=v!) (λA=>(bU A.2 (aZ x.1) (bY aM x.1 A.2 λL=>(aB (y_ (A.1,L)) λy3=>(c7 (y3,(cV A.2))))) (aB (iter (σ:=v!) (λz=>(bU z.2 (aZ x.2) (bY aM x.2 z.2 λD=>(aB (y_ (z.1,D)) λy6=>(c7 (y6,(cV z.2))))) (aH z.1))) (A.1,0)) λr=>Z (b7 r)))) (([]:η),0))
def nM (x:Int):M (Int):=
 (jn (bU x 1 (aH J) (aH (gC 100 x))) λz=>(aI z (Z 0) (Z x)))
abbrev s?:=(η)×Y η
def cA (x:l?):M (ν×s?):=
 (bR (be (aj ([]:η)+aj x.2.1) 8) (iter (σ:=Int×yr×(ν)×(ν)×s?) (λz=>(bU z.1 (aZ z.2.1.a) (bY (.sl aM) z.2.1.a z.1 λA=>(bR (be (aj ([]:η)+aj A) 8) (bR (be (aj z.h+aj ([(([]:η)++A)])) 24) (c7 ((cV z.1),z.2.1,z.a,z.b,z.c,(z.h++([(([]:η)++A)]))))))) (aH z.e))) (0,x,(0,0),(x.1,x.e),(([]:η)++x.2.1),([]:Y η))))
abbrev S?:=(η)×(Y η)×mG×(ν)×j?
def yZ (x:(mG×Int×Int)×s?):M ((ν×Bool)×s?):=
 (aB (kO x.1.1) λy1=>(iter (σ:=Int×S?) (λz=>(bU z.1 (aZ y1) (jn (bY aM y1 z.1 λz4=>(bU z4 0 (aH (J,z.2)) (bY aM y1 z.1 λz5=>(aH ((dg (aZ z.2.1) z5),z.2))))) λx3=>(aI x3.1 U (c7 ((cV z.1),x3.2)))) (aB (jn (α:=(Int×Bool×η)×S?) (bn z.b.1 5 (c7 (((z.b.2.1,z.c.2),J),z.2.1,z.a)) (bn z.b.1 1 (aH ((z.b.c,J,([]:η)),z.2)) (bn z.b.1 2 (kK aM z.2.1 z.b.a λz7=>(kK (.sl aM) z.a z.b.a λz8=>(aH ((z7,J,z8),z.2)))) (bn z.b.1 3 (aB (nM z.b.c) λy9=>(kK aM z.2.1 z.b.a λz10=>(aB (ww (y9,z10)) λL=>(kK (.sl aM) z.a z.b.a λz12=>(aH ((L.1,L.2,z12),z.2)))))) (aB (nM z.b.c) λy13=>(kK aM z.2.1 z.b.a λz14=>(kK aM z.2.1 z.b.b λz15=>(aB (xD (y13,z14,z15)) λD=>(kK (.sl aM) z.a z.b.a λz17=>(kK (.sl aM) z.a z.b.b λz18=>(aB (wq (z17,z18)) λy19=>(aH ((D.1,D.2,y19),z.2))))))))))))) λA=>(bR (be (aj ([]:η)+aj A.1.2.2) 8) (ck (dO A.b.2.1 (aj A.2.1)) (ck (dO A.b.2.1 (aj A.a)) (Z ((((cV A.c.1),A.c.2),A.1.2.1),(ch A.2.1 A.b.2.1 A.1.1),(ch A.a A.b.2.1 (([]:η)++A.1.2.2)))))))) λr=>Z (b7 r)))) (0,x.2.1,x.2.2,x.1.1,x.1.2,0,0)))
def oI (x:(Int×Y mG)×l?):M (yr×Bool):=
 (jn (α:=Bool×(Int×Y mG)×yr×j?) (jQ (aZ x.a) x.1.1 (aH (J,x.1,x.2,0,0)) (aH ((!decide (((aZ x.b):Int)=x.1.1)),x.1,x.2,0,0))) λL=>(aI L.1 (Z ((0,([]:η),([]:Y η),0),af)) (aB (cA L.a) λy2=>(iter (σ:=Int×(Int×Y mG)×(ν)×(ν)×s?) (λA=>(kY A.1 (aZ A.2.1.2) (jn (bU A.a.1 0 (aH (J,A.2)) (aH ((dg (aZ A.2.1.2) A.a.1),A.2))) λz=>(aI z.1 (aH ((0,([]:η),([]:Y η),0),af)) (bY sK z.2.1.2 z.a.1 λz5=>(aB (q_ z5.1) λy6=>(aI (!y6) (aH ((z.a.1,z.c,z.h,z.a.2),J)) (bn A.1 (aZ z.2.1.2) (aH ((0,([]:η),([]:Y η),0),af)) (aB (yZ ((z5,z.a),z.g)) λD=>(bR (ax (aj z.h) (aj D.2.2)&&(ax (aj z.c) (aj D.2.1)&&J)) (aI (!D.1.2) (aH ((0,([]:η),([]:Y η),0),af)) (c7 ((cV A.1),z.2.1,D.1.1,z.b,D.2))))))))))) (aH ((0,([]:η),([]:Y η),0),af)))) (0,L.2.1,y2.1,L.e,y2.2)))))
abbrev t?:=Int×Int×kh×j!
abbrev E!:=kh×j!
def s7 (x:b?):M uI:=
 (iter (σ:=Int×fe×Int×Int×Y (Int×η)) (λD=>(bU D.1 (aZ D.2.1.2.1) (bR (be (aj D.g+aj ([((-1),([]:η))])) 32) (c7 ((cV D.1),D.2.1,D.a,D.b,(D.g++([((-1),([]:η))]))))) (aB (iter (σ:=Int×fe×Int×Int×kh×θ) (λA=>(bU A.1 (aZ A.2.1.b) (bR (be (aj A.h+aj ([af])) 1) (c7 ((cV A.1),A.2.1,A.a,A.b,A.c,(A.h++([af]))))) (aB (iter (σ:=Int×fe×t?) (λz=>(bU z.1 (aZ z.2.1.c) (jn (α:=fe×Int×Int×eL×E!) (bn z.1 0 (aH (z.2.1,z.a,z.b,(1,0,af),z.g)) (aH (z.2.1,z.a,z.b,(0,0,af),z.g))) λL=>(bR (be (aj L.n+aj ([L.b])) 24) (c7 ((cV z.1),L.1,L.2.1,L.a,L.c,L.d,(L.n++([L.b])))))) (aH (z.c,z.b,z.h)))) (0,A.2.1,A.a,A.b,A.c,A.h,([]:Y eL))) λr=>Z (b7 r)))) (0,D.2.1,D.a,D.b,D.g,([]:θ))) λr=>Z (b7 r)))) (0,x,0,(-1),([]:Y k!)))
def s8 (x:fe×w?):M (Bool):=
 (iter (σ:=Int×fe×w?) (λz=>(bU z.1 (aZ z.2.1.a) (jn (bY itK z.2.1.a z.1 λL=>(bU L.2 0 (aH (J,z.2)) (bY itK z.2.1.a z.1 λD=>(aH ((dg (aZ z.2.1.2.1) D.2),z.2))))) λA=>(aI A.1 (aH af) (c7 ((cV z.1),A.2)))) (aB (jn (bn (aZ z.a) (aZ z.2.1.2.1) (bn (aZ z.c) (aZ z.2.1.b) (aH (decide (((aZ z.h):Int)=(aZ z.2.1.c)))) (aH af)) (aH af)) λx5=>(Z x5)) λr=>Z (b7 r)))) (0,x))
def rU (x:ν):M (Bool):=
 (jn (kY 0 x.1 (aH (gC x.1 x.2)) (aH af)) λz=>(Z z))
def wn (x:fe×j?):M (Bool):=
 (jn (bn x.2.1 1 (aH ((decide ((x.2.1:Int)=1)),x.1)) (bn x.2.1 2 (aH ((decide ((x.2.1:Int)=2)),x.1)) (bn x.2.1 5 (aH ((decide ((x.2.1:Int)=5)),x.1)) (bn x.2.1 12 (aH ((decide ((x.2.1:Int)=12)),x.1)) (bn x.2.1 13 (aH ((decide ((x.2.1:Int)=13)),x.1)) (bn x.2.1 14 (aH ((decide ((x.2.1:Int)=14)),x.1)) (aH ((decide ((x.2.1:Int)=15)),x.1)))))))) λx1=>(aI x1.1 (Z (decide ((x.2.2:Int)=(-1)))) (jn (bn x.2.1 3 (aH ((decide ((x.2.1:Int)=3)),x1.2)) (aH ((decide ((x.2.1:Int)=4)),x1.2))) λx2=>(aI x2.1 (aB (rU (x.2.2,(aZ x2.2.1))) λy3=>(Z y3)) (jn (bn x.2.1 6 (aH ((decide ((x.2.1:Int)=6)),x2.2)) (aH ((decide ((x.2.1:Int)=7)),x2.2))) λL=>(aI L.1 (jn (aB (rU (x.2.2,(aZ L.a))) λy6=>(aI y6 (bY tM L.a x.2.2 λz7=>(aH (!z7.2))) (aH af))) λx5=>(Z x5)) (jn (bn x.2.1 8 (aH ((decide ((x.2.1:Int)=8)),L.2)) (bn x.2.1 9 (aH ((decide ((x.2.1:Int)=9)),L.2)) (bn x.2.1 10 (aH ((decide ((x.2.1:Int)=10)),L.2)) (aH ((decide ((x.2.1:Int)=11)),L.2))))) λD=>(aI D.1 (jn (aB (rU (x.2.2,(aZ D.a))) λy10=>(aI y10 (bY tM D.a x.2.2 λz11=>(aH z11.2)) (aH af))) λx9=>(Z x9)) (jn (bn x.2.1 16 (aH ((decide ((x.2.1:Int)=16)),D.2)) (bn x.2.1 17 (aH ((decide ((x.2.1:Int)=17)),D.2)) (bn x.2.1 18 (aH ((decide ((x.2.1:Int)=18)),D.2)) (aH ((decide ((x.2.1:Int)=19)),D.2))))) λA=>(aI A.1 (aB (rU (x.2.2,(aZ A.b))) λy13=>(Z y13)) (jn (bn x.2.1 20 (aH ((decide ((x.2.1:Int)=20)),A.2)) (aH ((decide ((x.2.1:Int)=21)),A.2))) λz=>(aI z.1 (aB (rU (x.2.2,(aZ z.d))) λy15=>(Z y15)) (jn (bn x.2.1 22 (aH ((decide ((x.2.1:Int)=22)),z.2)) (aH ((decide ((x.2.1:Int)=23)),z.2))) λx16=>(aI x16.1 (aB (rU (x.2.2,(aZ x16.c))) λy17=>(Z y17)) (Z af)))))))))))))))
abbrev P?:=fe×uI×Int×j?
def lK (x:P?):M (Bool):=
 (jn (aB (s8 (x.1,x.2.1)) λy2=>(aI (!y2) (aH (J,x.1,x.2.1)) (aB (rU (x.a,(aZ x.1.c))) λy3=>(aI (!y3) (aH (J,x.1,x.2.1)) (aB (wn (x.1,x.e)) λy4=>(aH ((!y4),x.1,x.2.1))))))) λD=>(aI D.1 (Z af) (bY iI D.h x.a λL=>(bn x.b 1 (Z (decide ((L.1:Int)=1))) (bn x.b 17 (jn (α:=Bool) (bn L.1 4 (bn L.2.1 x.g (bY itK D.2.1.a x.g λz7=>(bY eM D.a z7.2 λz8=>(aH (decide ((z8.1:Int)=(-1)))))) (aH af)) (aH af)) λx6=>(Z x6)) (jQ L.1 2 (Z af) (bn x.b 6 (bY eM D.a x.g λz9=>(Z (decide ((z9.1:Int)=(-1))))) (bn x.b 10 (jn (α:=Bool) (bY eM D.a x.g λz11=>(bn z11.1 (-1) (bY eM D.a x.g λz12=>(aH (decide (((aZ z12.2):Int)=0)))) (aH af))) λx10=>(Z x10)) (bn x.b 8 (jn (α:=Bool) (bY eM D.a x.g λz14=>(bn z14.1 (-1) (bY eM D.a x.g λz15=>(aB (uo (z15.2,x.a)) λy16=>(aH (!y16)))) (aH af))) λx13=>(Z x13)) (jn (bn x.b 7 (aH ((decide ((x.b:Int)=7)),D.2.1,D.2.2,L)) (aH ((decide ((x.b:Int)=11)),D.2.1,D.2.2,L))) λz=>(aI z.1 (bY eM z.a.1 x.g λz18=>(Z (decide ((z18.1:Int)=x.a)))) (bn x.b 9 (bY eM z.a.1 x.g λz19=>(aB (uo (z19.2,x.a)) λy20=>(Z y20))) (bn x.b 12 (Z (decide ((z.a.2.1:Int)=(-1)))) (bn x.b 13 (Z (decide ((z.a.2.1:Int)=x.a))) (bn x.b 14 (Z (!z.h)) (bn x.b 15 (Z z.h) (jn (bn x.b 16 (aH ((decide ((x.b:Int)=16)),z.2.1,z.a)) (bn x.b 18 (aH ((decide ((x.b:Int)=18)),z.2.1,z.a)) (aH ((decide ((x.b:Int)=19)),z.2.1,z.a)))) λA=>(aI A.1 (bY itK A.2.1.a x.g λz22=>(bY eM A.a z22.2 λz23=>(Z (decide ((z23.1:Int)=x.a))))) (bn x.b 20 (jn (jQ x.g x.a (bY iI A.h x.g λz25=>(aH (decide ((z25.1:Int)=0)))) (aH af)) λx24=>(Z x24)) (bn x.b 21 (jn (jQ x.g x.a (bY iI A.h x.g λz27=>(aH (decide ((z27.1:Int)=5)))) (aH af)) λx26=>(Z x26)) (bn x.b 22 (bY (.bool) A.c x.g λz28=>(Z (!z28))) (bn x.b 23 (bY (.bool) A.c x.g λz29=>(Z z29)) (Z J)))))))))))))))))))))))
def oZ (x:uI×Int):M η:=
 (iter (σ:=Int×uI×η) (λz=>(bU z.1 (aZ z.2.1.e) (jn (α:=uI×η) (jn (bY iI z.2.1.e z.1 λL=>(bn L.1 3 (bY iI z.2.1.e z.1 λD=>(aH ((decide ((D.2.1:Int)=x.2)),z.2))) (aH (af,z.2)))) λA=>(aI A.1 (bR (be (aj A.2.2+aj ([z.1])) 8) (aH (A.2.1,(A.2.2++([z.1]))))) (aH A.2))) λx2=>(c7 ((cV z.1),x2))) (aH z.2.2))) (0,x.1,([]:η)))
def rT (x:o!):M η:=
 (iter (σ:=k!) (λz=>(bU z.1 (aZ x.1) (jn (α:=η) (bY aM x.1 z.1 λD=>(jQ D x.2 (bY aM x.1 z.1 λA=>(bR (be (aj z.2+aj ([A])) 8) (aH (z.2++([A]))))) (aH z.2))) λL=>(c7 ((cV z.1),L))) (aH z.2))) (0,([]:η)))
def iT (x:w?):M (Int×E!):=
 (bR (be (aj ([]:θ)+aj x.a) 1) (bR (be (aj ([]:Y eL)+aj x.e) 24) (iter (σ:=Int×uI×t?) (λz=>(bU z.1 (aZ z.2.1.1) (bY eM z.2.1.1 z.1 λD=>(bY eM z.2.1.1 z.1 λA=>(bR (be (aj ([]:η)+aj A.2) 8) (bR (be (aj z.c+aj ([(D.1,(([]:η)++A.2))])) 32) (c7 ((cV z.1),z.2.1,z.a,z.b,(z.c++([(D.1,(([]:η)++A.2))])),z.h)))))) (aH z.e))) (0,x,0,x.2.1,([]:Y k!),(([]:θ)++x.a),(([]:Y eL)++x.e)))))
def nL (x:ν×E!):M (η×E!):=
 (iter (σ:=Int×kh×(θ)×(Y eL)×k!) (λz=>(bU z.1 (aZ z.b) (jn (α:=kh×(θ)×(Y eL)×k!) (jn (kK iI z.b z.1 λL=>(bn L.1 3 (kK iI z.b z.1 λD=>(aH ((decide ((D.2.1:Int)=x.1.2)),z.2))) (aH (af,z.2)))) λA=>(aI A.1 (bR (be (aj A.h+aj ([z.1])) 8) (aH (A.2.1,A.a,A.b,A.c,(A.h++([z.1]))))) (aH A.2))) λx2=>(c7 ((cV z.1),x2))) (aH (z.h,z.2.1,z.a,z.b)))) (0,x.2.1,x.a,x.e,x.1.1,([]:η)))
def mo (x:ν×E!):M η:=aB (nL x) λy=>same y.2 x.2 (Z y.1)
abbrev T!:=fe×uI×u?
abbrev Y!:=Int×t?
def qK (x:T!):M (uI×u!):=
 (aB (lK (x.1,x.2.1,x.a,x.b,x.c)) λy1=>(aI (!y1) (Z ((([]:Y k!),0,([]:θ),([]:Y eL)),0,af)) (aB (iT x.2.1) λL=>(jn (α:=Y!) (bn x.b 1 (ck (dO x.a (aj L.e)) (aH (0,L.1,0,L.2.1,L.a,(ch L.e x.a (2,(geti iI L.e x.a).2))))) (bn x.b 2 (ck (dO x.a (aj L.e)) (aH (0,L.1,0,L.2.1,L.a,(ch L.e x.a (5,(geti iI L.e x.a).2))))) (jn (α:=Bool×fe×t?) (bn x.b 6 (aH ((decide ((x.b:Int)=6)),x.1,L.1,0,L.2)) (aH ((decide ((x.b:Int)=10)),x.1,L.1,0,L.2))) λx4=>(aI x4.1 (ck (dO x.c (aj x4.c)) (aH (0,x4.a,x4.b,(ch x4.c x.c (x.a,(geti eM x4.c x.c).2)),x4.h))) (jn (bn x.b 7 (aH ((decide ((x.b:Int)=7)),x4.2)) (aH ((decide ((x.b:Int)=11)),x4.2))) λz=>(aI z.1 (ck (dO x.c (aj z.c)) (aH (0,z.a,z.b,(ch z.c x.c ((-1),(geti eM z.c x.c).2)),z.h))) (bn x.b 8 (kK eM z.c x.c λz6=>(aB (wq (z6.2,[x.a])) λy7=>(ck (dO x.c (aj z.c)) (aH (0,z.a,z.b,(ch z.c x.c ((geti eM z.c x.c).1,y7)),z.h))))) (bn x.b 9 (kK eM z.c x.c λz8=>(aB (rT (z8.2,x.a)) λy9=>(ck (dO x.c (aj z.c)) (aH (0,z.a,z.b,(ch z.c x.c ((geti eM z.c x.c).1,y9)),z.h))))) (bn x.b 12 (aH (0,x.a,z.e)) (bn x.b 13 (aH (0,(-1),z.e)) (bn x.b 14 (ck (dO x.a (aj z.n)) (aH (0,z.a,z.b,z.c,z.d,(ch z.n x.a ((geti iI z.n x.a).1,((geti iI z.n x.a).2).1,J))))) (bn x.b 15 (ck (dO x.a (aj z.n)) (aH (0,z.a,z.b,z.c,z.d,(ch z.n x.a ((geti iI z.n x.a).1,((geti iI z.n x.a).2).1,af))))) (bn x.b 16 (bY itK z.2.1.a x.c λz10=>(ck (dO z10.2 (aj z.c)) (ck (dO x.a (aj z.n)) (ck (dO x.a (aj (ch z.n x.a (3,(geti iI z.n x.a).2)))) (aH (0,z.a,z.b,(ch z.c z10.2 ((-1),(geti eM z.c z10.2).2)),z.d,(ch (ch z.n x.a (3,(geti iI z.n x.a).2)) x.a ((geti iI (ch z.n x.a (3,(geti iI z.n x.a).2)) x.a).1,x.c,((geti iI (ch z.n x.a (3,(geti iI z.n x.a).2)) x.a).2).2)))))))) (bn x.b 17 (bY itK z.2.1.a x.c λz11=>(ck (dO z11.2 (aj z.c)) (ck (dO x.a (aj z.n)) (ck (dO x.a (aj (ch z.n x.a (2,(geti iI z.n x.a).2)))) (aH (0,z.a,z.b,(ch z.c z11.2 (x.a,(geti eM z.c z11.2).2)),z.d,(ch (ch z.n x.a (2,(geti iI z.n x.a).2)) x.a ((geti iI (ch z.n x.a (2,(geti iI z.n x.a).2)) x.a).1,0,((geti iI (ch z.n x.a (2,(geti iI z.n x.a).2)) x.a).2).2)))))))) (bn x.b 18 (aB (mo ((z.a,x.c),z.g)) λy12=>(bU 0 (aZ y12) (bY aM y12 0 λz13=>(jn (aB (uo (y12,x.h)) λy15=>(aI y15 (aH (x.h,z.2.2)) (aH (z13,z.2.2)))) λD=>(ck (dO D.1 (aj D.h)) (aH (D.1,D.2.1,D.a,D.b,D.c,(ch D.h D.1 (4,(geti iI D.h D.1).2))))))) (aH ((-1),z.2.2)))) (bn x.b 19 (aB (mo ((z.a,x.c),z.g)) λy16=>(iter (σ:=Y!) (λA=>(bU A.1 (aZ y16) (bY aM y16 A.1 λz18=>(ck (dO z18 (aj A.h)) (c7 ((cV A.1),A.2.1,A.a,A.b,A.c,(ch A.h z18 (4,(geti iI A.h z18).2)))))) (aH (b7 ((aZ y16),A.2))))) (0,z.2.2))) (bn x.b 20 (ck (dO x.c (aj z.n)) (aH (0,z.a,z.b,z.c,z.d,(ch z.n x.c (1,(geti iI z.n x.c).2))))) (bn x.b 22 (ck (dO x.c (aj z.d)) (aH (0,z.a,z.b,z.c,(ch z.d x.c J),z.n))) (aH (0,z.2.2)))))))))))))))))))) λx3=>(Z ((x3.b,x3.2.1,x3.g),x3.1,J))))))
abbrev J?:=(η)×η
def wj (x:A?):M Bn:=
 (aB (kN x) λy1=>(aI (!y1) (Z ((([]:Y k!),0,([]:θ),([]:Y eL)),([]:η),([]:η),([]:Y yr))) (aB (s7 x.1) λy2=>(iter (σ:=Int×FF×Int×uI×η) (λD=>(bU D.1 (aZ D.2.1.1.1) (bY lZ D.2.1.1.1 D.1 λz4=>(bR (be (aj D.g+aj ([z4.2.2.2.2])) 8) (c7 ((cV D.1),D.2.1,D.a,D.b,(D.g++([z4.2.2.2.2])))))) (aB (iter (σ:=Int×FF×Int×uI×J?) (λA=>(bU A.1 (aZ A.2.1.1.b) (bR (be (aj A.h+aj ([0])) 8) (c7 ((cV A.1),A.2.1,A.a,A.b,A.c,(A.h++([0]))))) (aB (iter (σ:=Int×FF×Int×h?) (λz=>(bU z.1 (aZ z.2.1.2) (mK z.1 z.2.1.2 (lt ((geti Aj z.2.1.2 z.1).1) λz7=>(bR (dg 0 z7&&dg z7 z7&&be (aN z7) 8) (mK z.1 z.2.1.2 (lt ((geti Aj z.2.1.2 z.1).1) λL=>(bR (dg 0 L&&dg L L&&be (aN L) 24) (bR (be (aj z.n+aj ([(0,(aC (aN z7) (0:Int)),(aC (aN L) ([]:η)),0)])) 64) (c7 ((cV z.1),z.2.1,z.a,z.b,z.c,z.d,(z.n++([(0,(aC (aN z7) (0:Int)),(aC (aN L) ([]:η)),0)]))))))))))) (aH z.e))) (0,A.2.1,A.a,A.b,A.c,A.h,([]:Y yr))) λr=>Z (b7 r)))) (0,D.2.1,D.a,D.b,D.g,([]:η))) λr=>Z (b7 r)))) (0,x,0,y2,([]:η))))))
def yY (x:FF×h?):M (Bool):=
 (jn (aB (kN x.1) λy2=>(aI (!y2) (aH (J,x)) (aB (s8 (x.1.1,x.2.1)) λy3=>(aI (!y3) (aH (J,x)) (jQ (aZ x.a) (aZ x.1.1.1) (aH (J,x)) (jQ (aZ x.b) (aZ x.1.1.b) (aH (J,x)) (aH ((!decide (((aZ x.g):Int)=(aZ x.1.2))),x)))))))) λL=>(aI L.1 (Z af) (iter (σ:=Int×FF×h?) (λz=>(bU z.1 (aZ z.2.1.2) (bY fB z.h z.1 λA=>(jn (bU A.1 0 (aH (J,z.2)) (bY Aj z.2.1.2 z.1 λz7=>(kY (aZ z7.2) A.1 (aH (J,z.2)) (bY Aj z.2.1.2 z.1 λz8=>(jQ (aZ A.2.1) z8.1 (aH (J,z.2)) (bY Aj z.2.1.2 z.1 λz9=>(aH ((!decide (((aZ A.a):Int)=z9.1)),z.2)))))))) λD=>(aI D.1 (aH af) (c7 ((cV z.1),D.2))))) (aH J))) (0,L.2))))
def Dn (x:Int):M (Int):=
 (jn (α:=Bool×η) (bU x 6 (aH (J,[3,3,4,4,5,6,7,8,9,10,11,12,13,14,15,16,18,19,20,21,22,23,2])) (aH ((gC 28 x),[3,3,4,4,5,6,7,8,9,10,11,12,13,14,15,16,18,19,20,21,22,23,2]))) λz=>(aI z.1 (Z 0) (kK aM z.2 (bl .i64 (x-6)) λA=>(Z A))))
def xC (x:mG×l?):M (Int):=
 (jn (bn x.1.1 6 (aH ((decide ((x.1.1:Int)=6)),x)) (aH ((decide ((x.1.1:Int)=27)),x))) λz=>(aI z.1 (Z z.2.1.a) (bn x.1.1 7 (bY aM z.b z.2.1.b λL=>(aB (wy (L,z.2.1.c)) λy3=>(Z (bl .i64 (z.2.1.a+y3))))) (bn x.1.1 9 (bY aM z.b z.2.1.b λD=>(aB (wy (D,z.2.1.c)) λy5=>(Z (bl .i64 (z.2.1.2.1+y5))))) (jn (bn x.1.1 10 (aH ((decide ((x.1.1:Int)=10)),z.2.1)) (bn x.1.1 17 (aH ((decide ((x.1.1:Int)=17)),z.2.1)) (bn x.1.1 18 (aH ((decide ((x.1.1:Int)=18)),z.2.1)) (bn x.1.1 19 (aH ((decide ((x.1.1:Int)=19)),z.2.1)) (bn x.1.1 20 (aH ((decide ((x.1.1:Int)=20)),z.2.1)) (aH ((decide ((x.1.1:Int)=28)),z.2.1))))))) λA=>(aI A.1 (Z (-1)) (Z A.a)))))))
def oY (x:FF×Bn×Int):M (ic×Bool):=
 (jn (α:=Bool×FF×Bn×Int×u?) (aB (yY (x.1,x.2.1)) λy2=>(aI (!y2) (aH (J,x.1,x.2.1,0,0,0,0,0)) (bU x.2.2 0 (aH (J,x.1,x.2.1,0,0,0,0,0)) (aH ((dg (aZ x.1.2) x.2.2),x.1,x.2.1,0,0,0,0,0))))) λx1=>(aI x1.1 (Z ((0,0,0,0,0,([]:η),([]:η)),af)) (bY fB x1.a.e x.2.2 λz3=>(bY Aj x1.2.1.2 x.2.2 λz4=>(bY sK z4.2 z3.1 λD=>(bY iI x1.a.1.e x.2.2 λz6=>(bn z6.1 1 (Z ((x.2.2,1,(-1),0,(-1),([]:η),([]:η)),J)) (bn z6.1 4 (bY iI x1.a.1.e x.2.2 λz7=>(Z ((x.2.2,17,z7.2.1,0,D.h,([]:η),([]:η)),J))) (bn z6.1 2 (aB (Dn D.1) λy8=>(aB (xC (D,z3)) λy9=>(bn y8 0 (Z ((0,0,0,0,0,([]:η),([]:η)),af)) (jn (α:=HN×yr×mG×HN×η) (bn D.1 10 (bY (.sl aM) z3.a D.2.1 λz11=>(bR (be (aj (z11:η)) 8) (aH (x1.e,z3,D,(x.2.2,y8,y9,0,D.h),z11)))) (jn (α:=Bool×HN×yr×mG×Int×u?) (bn D.1 7 (aH ((decide ((D.1:Int)=7)),x1.e,z3,D,x.2.2,y8,y9,0,D.h)) (aH ((decide ((D.1:Int)=9)),x1.e,z3,D,x.2.2,y8,y9,0,D.h))) λz=>(aI z.1 (bY (.sl aM) z.a.a z.b.b λz13=>(bR (be (aj (z13:η)) 8) (aH (z.2.1,z.a,z.b,z.g,z13)))) (aH (z.2.1,z.a,z.b,z.g,([]:η)))))) λx10=>(jn (α:=HN×HN×J?) (jn (bn x10.a.1 8 (aH (J,x10)) (bn x10.a.1 9 (aH (J,x10)) (aH ((decide ((x10.a.1:Int)=26)),x10)))) λA=>(aI A.1 (bY (.sl aM) A.a.a A.b.a λz16=>(bR (be (aj (z16:η)) 8) (aH (A.2.1,A.c,A.h,z16)))) (aH (A.2.1,A.c,A.h,([]:η))))) λL=>(Z ((L.2.1.1,L.2.1.2.1,L.2.1.a,L.2.1.b,L.2.1.g,L.2.2),J))))))) (Z ((0,0,0,0,0,([]:η),([]:η)),af)))))))))))
def oG (x:b?):M ky:=
 (aB (s7 x) λD=>(bR (dg 0 (aZ x.b)&&dg (aZ x.b) (aZ x.b)&&be (aN (aZ x.b)) 8) (bR (dg 0 (aZ x.c)&&dg (aZ x.c) (aZ x.c)&&be (aN (aZ x.c)) 8) (iter (σ:=Int×fe×Int×S!) (λz=>(bU z.1 (aZ z.2.1.1) (bY lZ z.2.1.1 z.1 λA=>(bR (be (aj z.c+aj ([A.2.2.2.2])) 8) (c7 ((cV z.1),z.2.1,z.a,z.b,(z.c++([A.2.2.2.2])),z.h)))) (aH z.e))) (0,x,0,D,([]:η),(aC (aN (aZ x.b)) (0:Int)),(aC (aN (aZ x.c)) (0:Int)))))))
def yW (x:fe×S!):M (Bool):=
 (jn (aB (s8 (x.1,x.2.1)) λz=>(aI z (bn (aZ x.a) (aZ x.1.1) (bn (aZ x.b) (aZ x.1.b) (aH (decide (((aZ x.g):Int)=(aZ x.1.c)))) (aH af)) (aH af)) (aH af))) λA=>(Z A))
def Gk (x:ν):M (Bool):=
 (jn (kY 0 x.1 (aH (gC x.1 x.2)) (aH af)) λz=>(Z z))
def rS (x:o!):M (Bool):=
 (iter (σ:=Int) (λz=>(bU z (aZ x.1) (jn (bY aM x.1 z λz3=>(bU z3 1 (aH J) (bY aM x.1 z λL=>(kY x.2 L (aH J) (bU 0 z (bY aM x.1 z λD=>(bY aM x.1 (bl .i64 (z-1)) λA=>(aH (dg D A)))) (aH af)))))) λx2=>(aI x2 (aH af) (c7 (cV z)))) (aH J))) 0)
abbrev M!:=ky×c!
def AD (x:M!):M (Bool):=
 (bn x.a 3 (bY aM x.1.2.1 x.b λL=>(Z (decide ((x.c:Int)=L)))) (bn x.a 23 (bY aM x.1.a x.b λD=>(Z (decide ((x.c:Int)=D)))) (bn x.a 5 (jn (bn x.c 0 (aH J) (aH (decide ((x.c:Int)=1)))) λx3=>(Z x3)) (jn (bn x.a 4 (aH ((decide ((x.a:Int)=4)),x)) (aH ((decide ((x.a:Int)=22)),x))) λz=>(aI z.1 (Z J) (bn x.a 18 (aB (oZ (z.2.1.1,z.c)) λA=>(bn (aZ A) 0 (Z (decide ((z.d:Int)=(-1)))) (jn (kY 0 z.d (bU z.d (aZ z.2.1.1.e) (aB (uo (A,z.d)) λy7=>(aH y7)) (aH af)) (aH af)) λx6=>(Z x6)))) (bn x.a 19 (aB (oZ (z.2.1.1,z.c)) λy8=>(Z (decide ((z.d:Int)=(aZ y8))))) (Z (decide ((z.d:Int)=0))))))))))
abbrev I!:=fe×ky×ic×Int
def s6 (x:fe×M!):M (ky×Bool):=
 (jn (α:=Bool×I!) (aB (yW (x.1,x.2.1)) λy2=>(aI (!y2) (aH (J,x.1,x.2.1,x.2.2,0)) (aB (Gk (x.a,(aZ x.1.c))) λy3=>(aI (!y3) (aH (J,x.1,x.2.1,x.2.2,0)) (bU x.b 1 (aH (J,x.1,x.2.1,x.2.2,0)) (bU 23 x.b (aH (J,x.1,x.2.1,x.2.2,0)) (aB (lK (x.1,x.2.1.1,x.a,x.b,x.c)) λy4=>(aH ((!y4),x.1,x.2.1,x.2.2,0))))))))) λx1=>(aI x1.1 (Z (((([]:Y k!),0,([]:θ),([]:Y eL)),([]:η),([]:η),([]:η)),af)) (jn (α:=I!) (jn (bn x1.b.2.1 1 (aH (J,x1.2)) (aH ((decide ((x1.b.2.1:Int)=2)),x1.2))) λx6=>(aI x6.1 (jQ x6.b.c (-1) (c7 (((([]:Y k!),0,([]:θ),([]:Y eL)),([]:η),([]:η),([]:η)),af)) (aH x6.2)) (jn (aB (Gk (x6.b.c,(aZ x6.2.1.h))) λy8=>(aI (!y8) (aH (J,x6.2)) (bY pW x6.2.1.h x6.b.c λz9=>(aH ((!decide ((z9.1:Int)=x6.b.1)),x6.2))))) λx7=>(aI x7.1 (c7 (((([]:Y k!),0,([]:θ),([]:Y eL)),([]:η),([]:η),([]:η)),af)) (aH x7.2))))) λx5=>(jn (bn x5.a.2.1 3 (aH (J,x5)) (aH ((decide ((x5.a.2.1:Int)=4)),x5))) λx10=>(jn (bU 0 (aZ x10.b.d) (jQ x10.b.2.1 5 (aI x10.1 (bY lZ x10.2.1.1 x10.b.a λz12=>(aH ((!(!decide ((z12.2.2.1:Int)=0))),x10.2))) (aH (J,x10.2))) (aH (af,x10.2))) (aH (af,x10.2))) λx11=>(aI x11.1 (Z (((([]:Y k!),0,([]:θ),([]:Y eL)),([]:η),([]:η),([]:η)),af)) (jn (bU 0 (aZ x11.b.n) (jQ x11.b.2.1 4 (aH ((!decide ((x11.b.2.1:Int)=22)),x11.2)) (aH (af,x11.2))) (aH (af,x11.2))) λL=>(aI L.1 (Z (((([]:Y k!),0,([]:θ),([]:Y eL)),([]:η),([]:η),([]:η)),af)) (jn (bY aM L.a.e L.b.1 λz15=>(aB (rS (L.b.d,z15)) λy16=>(aI (!y16) (aH (J,L.2)) (bY aM L.a.e L.b.1 λz17=>(aB (rS (L.b.n,z17)) λy18=>(aI (!y18) (aH (J,L.2)) (aB (AD (L.a,L.b)) λy19=>(aH ((!y19),L.2))))))))) λz=>(aI z.1 (Z (((([]:Y k!),0,([]:θ),([]:Y eL)),([]:η),([]:η),([]:η)),af)) (bR (be (aj ([]:η)+aj z.a.2.1) 8) (bR (be (aj ([]:η)+aj z.a.a) 8) (bR (be (aj ([]:η)+aj z.a.e) 8) (jn (α:=Int×fe×ky×ic×Int×Int×f?) (bn z.b.2.1 18 (aH (z.b.b,z.2.1,z.a,z.b,z.g,0,(([]:η)++z.a.2.1),(([]:η)++z.a.a),(([]:η)++z.a.e))) (aH ((-1),z.2.1,z.a,z.b,z.g,0,(([]:η)++z.a.2.1),(([]:η)++z.a.a),(([]:η)++z.a.e)))) λA=>(aB (qK (A.2.1,A.a.1,A.b.1,A.b.2.1,A.b.a,A.1)) λy21=>(jn (bn A.b.2.1 4 (ck (dO A.b.a (aj A.f)) (aH (A.b,A.c,y21.1,(ch A.f A.b.a A.b.b),A.p))) (aH (A.b,A.c,y21.1,A.n))) λD=>(jn (bn D.1.2.1 22 (ck (dO D.1.a (aj D.c)) (aH (D.1,D.2.1,D.a,D.b,(ch D.c D.1.a D.1.b),D.h))) (aH D)) λx23=>(kK aM x23.h x23.1.1 λz24=>(ck (dO x23.1.1 (aj x23.h)) (Z ((x23.a,x23.b,x23.c,(ch x23.h x23.1.1 (cV z24))),J)))))))))))))))))))))
def s5 (x:(Y ic)×Int×k!):M (Bool):=
 (iter (σ:=Int) (λA=>(bU A (aZ x.e) (iter (σ:=Int×Bool×Int) (λz=>(bU z.2.2 x.2.1 (jn (bY iZ x.1 z.2.2 λz4=>(jQ z4.1 x.a (aH (z.1,z.2.1)) (jn (aI z.2.1 (aH J) (bY aM x.e A λz6=>(bn z.1 z6 (bY iZ x.1 z.2.2 λz7=>(bn z7.2.1 3 (aH J) (bY iZ x.1 z.2.2 λL=>(aH (decide ((L.2.1:Int)=23)))))) (aH af)))) λx5=>(aH ((cV z.1),x5))))) λD=>(c7 (D.1,D.2,(cV z.2.2)))) (aB (aI (!z.2.1) (aH af) (c7 (cV A))) λr=>Z (b7 r)))) (0,af,0)) (aH J))) 0)
abbrev q?:=fe×Y ic
def wh (x:q?):M ν:=
 (bU 400 (aZ x.2) (Z (0,2)) (aB (iF x.1) λy1=>(aI (!y1) (Z (0,1)) (aB (oG x.1) λy2=>(iter (σ:=Int×(fe×Y ic)×S!) (λz=>(bU z.1 (aZ z.2.1.2) (bY iZ z.2.1.2 z.1 λA=>(aB (s6 (z.2.1.1,z.2.2,A)) λD=>(jn (aI (!D.2) (aH (J,z.2.1,z.2.2,D.1)) (aB (s5 (z.2.1.2,z.1,A.1,A.d)) λy7=>(aI (!y7) (aH (J,z.2.1,z.2.2,D.1)) (aB (s5 (z.2.1.2,z.1,A.1,A.n)) λy8=>(aH ((!y8),z.2.1,z.2.2,D.1)))))) λL=>(aI L.1 (aH (z.1,12)) (c7 ((cV z.1),L.2.1,L.e)))))) (aH (0,0)))) (0,x,y2))))))
def KG {W V:Type} (i:Int) (t1:R->(η)->(Y η)->W) (t2:W->V) (t3:V->yr->Y yr) (x6:Int) (z:FF×uI×(ν)×Int×HN×ic×(ν)×(η)×(η)×R×(η)×Y η):M HM:=
 (jn (jn (jQ z.d.2.1 16 (aH ((!decide ((z.d.2.1:Int)=2)),z.1,z.2.1,z.a,z.b,z.c,z.d,(x6,z.k,z.v,(cV z.f.2)),z.i,z.j,(t1 z.m z.k z.v))) (aH (af,z.1,z.2.1,z.a,z.b,z.c,z.d,(x6,z.k,z.v,(cV z.f.2)),z.i,z.j,(t1 z.m z.k z.v)))) λA=>(aI A.1 (bY Aj A.2.1.2 A.b.1 λL=>(aB (oI (L,A.i)) λy18=>(aH (A.a,A.b,A.c,A.d,A.f,y18.1,A.j,A.m,(t2 A.y))))) (aH (A.a,A.b,A.c,A.d,A.f,A.i,A.j,A.m,(t2 A.y))))) λD=>(bn D.2.1.1 i (Z ((D.1,D.f,D.i,(t3 D.r D.d)),D.c,J)) U))
abbrev x?:=FF×Bn×j?
def SG (i:Int) (cp:h?->M (Int×kh×(θ)×(Y eL)×(η)×(η)×R×(η)×Y η)) (pc ev:R->Int) (k:Int->(FF×uI×(ν)×Int×HN×ic×(ν)×(η)×(η)×R×(η)×Y η)->M HM) (x:x?):M HM:=
 (aB (oY (x.1,x.2.1,x.a)) λD=>(aI (!D.2) (Z (((([]:Y k!),0,([]:θ),([]:Y eL)),([]:η),([]:η),([]:Y yr)),(0,0,0,0,0,([]:η),([]:η)),af)) (aB (qK (x.1.1,x.2.1.1,x.a,D.1.2.1,D.1.a,x.e)) λy2=>(aI (!y2.2.2) (Z (((([]:Y k!),0,([]:θ),([]:Y eL)),([]:η),([]:η),([]:Y yr)),(0,0,0,0,0,([]:η),([]:η)),af)) (aB (cp x.2.1) λL=>(bn x.a i (bY Aj x.1.2 i λz4=>(bY sK z4.2 (pc L.f) λz5=>(jn (α:=Int×FF×uI×(ν)×Int×HN×ic×(ν)×mG×(η)×(η)×R×(η)×Y η) (jn (α:=Bool×FF×uI×(ν)×Int×HN×ic×(ν)×mG×(η)×(η)×R×(η)×Y η) (bn D.1.2.1 1 (aH ((decide ((D.1.2.1:Int)=1)),x.1,y2.1,(i,x.e),0,(0,0,0,0,0),(D.1.1,D.1.2.1,D.1.a,y2.2.1,D.1.g),((pc L.f),(ev L.f)),z5,L.g)) (bn D.1.2.1 16 (aH ((decide ((D.1.2.1:Int)=16)),x.1,y2.1,(i,x.e),0,(0,0,0,0,0),(D.1.1,D.1.2.1,D.1.a,y2.2.1,D.1.g),((pc L.f),(ev L.f)),z5,L.g)) (aH ((decide ((D.1.2.1:Int)=2)),x.1,y2.1,(i,x.e),0,(0,0,0,0,0),(D.1.1,D.1.2.1,D.1.a,y2.2.1,D.1.g),((pc L.f),(ev L.f)),z5,L.g)))) λz=>(aI z.1 (aH (z.i.1,z.2)) (bn D.1.2.1 3 (kK aM z.m z.f.a λz8=>(aH ((bl .i64 ((pc L.f)+1)),z.2.1,z.a,z.b,z.c,z.d,(z.f.1,z.f.2.1,z.f.a,z8,z.f.g),z.p))) (bn D.1.2.1 23 (kK aM z.k z.f.a λz9=>(aH ((bl .i64 ((pc L.f)+1)),z.2.1,z.a,z.b,z.c,z.d,(z.f.1,z.f.2.1,z.f.a,z9,z.f.g),z.p))) (bn D.1.2.1 4 (kK aM z.l z.j.a λz10=>(ck (dO z.f.a (aj z.m)) (aH ((bl .i64 ((pc L.f)+1)),z.2.1,z.a,z.b,z.c,z.d,(z.f.1,z.f.2.1,z.f.a,z10,z.f.g),z.i,z.j,(ch z.m z.f.a z10),z.y)))) (bn D.1.2.1 22 (kK aM z.l z.j.a λz11=>(ck (dO z.f.a (aj z.k)) (aH ((bl .i64 ((pc L.f)+1)),z.2.1,z.a,z.b,z.c,z.d,(z.f.1,z.f.2.1,z.f.a,z11,z.f.g),z.i,z.j,z.m,(ch z.k z.f.a z11),z.v)))) (bn D.1.2.1 5 (kK aM z.l z.j.2.1 λz12=>(bn z12 0 (aH (z.j.a,z.2.1,z.a,z.b,z.c,z.d,(z.f.1,z.f.2.1,z.f.a,0,z.f.g),z.p)) (aH ((bl .i64 ((pc L.f)+1)),z.2.1,z.a,z.b,z.c,z.d,(z.f.1,z.f.2.1,z.f.a,1,z.f.g),z.p)))) (aH ((bl .i64 ((pc L.f)+1)),z.2))))))))) λx6=>(jn (α:=FF×uI×(ν)×Int×HN×ic×(ν)×(η)×(η)×R×(η)×Y η) (jn (bn x6.f.2.1 3 (aH (J,x6.2)) (aH ((decide ((x6.f.2.1:Int)=23)),x6.2))) λA=>(aI A.1 (ck (dO A.j.2.1 (aj A.l)) (ck (dO A.j.2.1 (aj A.B)) (aH (A.2.1,A.a,A.b,A.c,A.d,A.f,A.i,A.m,A.k,A.o,(ch A.l A.j.2.1 A.f.b),(ch A.B A.j.2.1 ([A.i.2])))))) (aH (A.2.1,A.a,A.b,A.c,A.d,A.f,A.i,A.w)))) λx13=>(k x6.1 x13))))) U))))))
def um (x:h?):M (Int×kh×(θ)×(Y eL)×(η)×(η)×(ν)×s?):=
 (aB (iT x.1) λz=>(bR (be (aj ([]:η)+aj x.2.1) 8) (bR (be (aj ([]:η)+aj x.a) 8) (bU 0 (aZ x.e) (bY fB x.e 0 λD=>(aB (cA D) λL=>(bU 1 (aZ x.e) (bY fB x.e 1 λA=>(aB (cA A) λy5=>U)) (Z (z.1,z.2.1,z.a,z.e,(([]:η)++x.2.1),(([]:η)++x.a),L))))) U))))
def gZ (x:x?):M HM:=
 SG 0 um (λz=>z.1) (λz=>z.2) (KG 0 (λz R T=>(z.1,R,T,z.2)) (λw=>((w.1,w.2.1,w.2.2.1,w.2.2.2))) (λv t=>[t])) x
def ul (x:h?):M (Int×kh×(θ)×(Y eL)×(η)×(η)×Ya29×s?):=
 (aB (iT x.1) λA=>(bR (be (aj ([]:η)+aj x.2.1) 8) (bR (be (aj ([]:η)+aj x.a) 8) (bU 0 (aZ x.e) (bY fB x.e 0 λz2=>(aB (cA z2) λD=>(bU 1 (aZ x.e) (bY fB x.e 1 λz4=>(aB (cA z4) λz=>(bU 2 (aZ x.e) (bY fB x.e 2 λL=>(aB (cA L) λy7=>U)) (Z (A.1,A.2.1,A.a,A.e,(([]:η)++x.2.1),(([]:η)++x.a),(D.1.1,D.1.2,z.1.1,z.2.1,z.2.2,z.1.2),D.2))))) U))) U))))
def iE (x:x?):M HM:=
 SG 0 ul (λz=>z.1) (λz=>z.2.1) (KG 0 (λz R T=>(z.1,R,T,z.2.1,z.2.2)) (λw=>((w.1,w.2.1,w.2.2.1,w.2.2.2.1),w.2.2.2.2)) (λv t=>[t,v.2])) x
def uk (x:h?):M (Int×kh×(θ)×(Y eL)×(η)×(η)×(yr×Int×Int)×s?):=
 (aB (iT x.1) λA=>(bR (be (aj ([]:η)+aj x.2.1) 8) (bR (be (aj ([]:η)+aj x.a) 8) (bU 0 (aZ x.e) (bY fB x.e 0 λz2=>(aB (cA z2) λz=>(bU 1 (aZ x.e) (bY fB x.e 1 λz4=>(aB (cA z4) λD=>(bU 2 (aZ x.e) (bY fB x.e 2 λL=>(aB (cA L) λy7=>U)) (Z (A.1,A.2.1,A.a,A.e,(([]:η)++x.2.1),(([]:η)++x.a),((z.1.1,z.2.1,z.2.2,z.1.2),D.1),D.2))))) U))) U))))
def gX (x:x?):M HM:=
 SG 1 uk (λz=>z.2.1) (λz=>z.2.2) (KG 1 (λz R T=>(z.1,z.2.1,R,T,z.2.2)) (λw=>(w.1,(w.2.1,w.2.2.1,w.2.2.2.1,w.2.2.2.2))) (λv t=>[v.1,t])) x
def uj (x:h?):M (Int×kh×(θ)×(Y eL)×(η)×(η)×Ya27×s?):=
 (aB (iT x.1) λD=>(bR (be (aj ([]:η)+aj x.2.1) 8) (bR (be (aj ([]:η)+aj x.a) 8) (bU 0 (aZ x.e) (bY fB x.e 0 λz2=>(aB (cA z2) λL=>(bU 1 (aZ x.e) (bY fB x.e 1 λz4=>(aB (cA z4) λA=>(bU 2 (aZ x.e) (bY fB x.e 2 λz6=>(aB (cA z6) λz=>(bU 3 (aZ x.e) (bY fB x.e 3 λz8=>(aB (cA z8) λy9=>U)) (Z (D.1,D.2.1,D.a,D.e,(([]:η)++x.2.1),(([]:η)++x.a),(L.1.1,L.1.2,(A.1.1,A.2.1,A.2.2,A.1.2),z.1.1,z.2.1,z.2.2,z.1.2),L.2))))) U))) U))) U))))
def lJ (x:x?):M HM:=
 SG 0 uj (λz=>z.1) (λz=>z.2.1) (KG 0 (λz R T=>(z.1,R,T,z.2.1,z.a,z.e)) (λw=>((w.1,w.2.1,w.2.2.1,w.2.2.2.1),w.2.2.2.2.1,w.2.2.2.2.2)) (λv t=>[t,v.2.1,v.2.2])) x
def ui (x:h?):M (Int×kh×(θ)×(Y eL)×(η)×(η)×Ya28×s?):=
 (aB (iT x.1) λD=>(bR (be (aj ([]:η)+aj x.2.1) 8) (bR (be (aj ([]:η)+aj x.a) 8) (bU 0 (aZ x.e) (bY fB x.e 0 λz2=>(aB (cA z2) λA=>(bU 1 (aZ x.e) (bY fB x.e 1 λz4=>(aB (cA z4) λL=>(bU 2 (aZ x.e) (bY fB x.e 2 λz6=>(aB (cA z6) λz=>(bU 3 (aZ x.e) (bY fB x.e 3 λz8=>(aB (cA z8) λy9=>U)) (Z (D.1,D.2.1,D.a,D.e,(([]:η)++x.2.1),(([]:η)++x.a),((A.1.1,A.2.1,A.2.2,A.1.2),L.1.1,L.1.2,z.1.1,z.2.1,z.2.2,z.1.2),L.2))))) U))) U))) U))))
def kC (x:x?):M HM:=
 SG 1 ui (λz=>z.2.1) (λz=>z.a) (KG 1 (λz R T=>(z.1,z.2.1,R,T,z.a,z.e)) (λw=>(w.1,(w.2.1,w.2.2.1,w.2.2.2.1,w.2.2.2.2.1),w.2.2.2.2.2)) (λv t=>[v.1,t,v.2.2])) x
def uh (x:h?):M (Int×kh×(θ)×(Y eL)×(η)×(η)×(yr×yr×Int×Int)×s?):=
 (aB (iT x.1) λD=>(bR (be (aj ([]:η)+aj x.2.1) 8) (bR (be (aj ([]:η)+aj x.a) 8) (bU 0 (aZ x.e) (bY fB x.e 0 λz2=>(aB (cA z2) λA=>(bU 1 (aZ x.e) (bY fB x.e 1 λz4=>(aB (cA z4) λz=>(bU 2 (aZ x.e) (bY fB x.e 2 λz6=>(aB (cA z6) λL=>(bU 3 (aZ x.e) (bY fB x.e 3 λz8=>(aB (cA z8) λy9=>U)) (Z (D.1,D.2.1,D.a,D.e,(([]:η)++x.2.1),(([]:η)++x.a),((A.1.1,A.2.1,A.2.2,A.1.2),(z.1.1,z.2.1,z.2.2,z.1.2),L.1),L.2))))) U))) U))) U))))
def jG (x:x?):M HM:=
 SG 2 uh (λz=>z.a) (λz=>z.e) (KG 2 (λz R T=>(z.1,z.2.1,z.a,R,T,z.e)) (λw=>(w.1,w.2.1,(w.2.2.1,w.2.2.2.1,w.2.2.2.2.1,w.2.2.2.2.2))) (λv t=>[v.1,v.2.1,t])) x
def ug (x:h?):M (Int×kh×(θ)×(Y eL)×(η)×(η)×Ya23×s?):=
 (aB (iT x.1) λL=>(bR (be (aj ([]:η)+aj x.2.1) 8) (bR (be (aj ([]:η)+aj x.a) 8) (bU 0 (aZ x.e) (bY fB x.e 0 λz2=>(aB (cA z2) λy3=>(bU 1 (aZ x.e) (bY fB x.e 1 λz4=>(aB (cA z4) λD=>(bU 2 (aZ x.e) (bY fB x.e 2 λz6=>(aB (cA z6) λA=>(bU 3 (aZ x.e) (bY fB x.e 3 λz8=>(aB (cA z8) λz=>(bU 4 (aZ x.e) (bY fB x.e 4 λz10=>(aB (cA z10) λy11=>U)) (Z (L.1,L.2.1,L.a,L.e,(([]:η)++x.2.1),(([]:η)++x.a),(y3.1.1,y3.1.2,(D.1.1,D.2.1,D.2.2,D.1.2),(A.1.1,A.2.1,A.2.2,A.1.2),z.1.1,z.2.1,z.2.2,z.1.2),y3.2))))) U))) U))) U))) U))))
def qZ (x:x?):M HM:=
 SG 0 ug (λz=>z.1) (λz=>z.2.1) (KG 0 (λz R T=>(z.1,R,T,z.2.1,z.a,z.b,z.g)) (λw=>((w.1,w.2.1,w.2.2.1,w.2.2.2.1),w.2.2.2.2.1,w.2.2.2.2.2.1,w.2.2.2.2.2.2)) (λv t=>[t,v.2.1,v.2.2.1,v.2.2.2])) x
def uf (x:h?):M (Int×kh×(θ)×(Y eL)×(η)×(η)×Ya24×s?):=
 (aB (iT x.1) λL=>(bR (be (aj ([]:η)+aj x.2.1) 8) (bR (be (aj ([]:η)+aj x.a) 8) (bU 0 (aZ x.e) (bY fB x.e 0 λz2=>(aB (cA z2) λD=>(bU 1 (aZ x.e) (bY fB x.e 1 λz4=>(aB (cA z4) λy5=>(bU 2 (aZ x.e) (bY fB x.e 2 λz6=>(aB (cA z6) λA=>(bU 3 (aZ x.e) (bY fB x.e 3 λz8=>(aB (cA z8) λz=>(bU 4 (aZ x.e) (bY fB x.e 4 λz10=>(aB (cA z10) λy11=>U)) (Z (L.1,L.2.1,L.a,L.e,(([]:η)++x.2.1),(([]:η)++x.a),((D.1.1,D.2.1,D.2.2,D.1.2),y5.1.1,y5.1.2,(A.1.1,A.2.1,A.2.2,A.1.2),z.1.1,z.2.1,z.2.2,z.1.2),y5.2))))) U))) U))) U))) U))))
def qY (x:x?):M HM:=
 SG 1 uf (λz=>z.2.1) (λz=>z.a) (KG 1 (λz R T=>(z.1,z.2.1,R,T,z.a,z.b,z.g)) (λw=>(w.1,(w.2.1,w.2.2.1,w.2.2.2.1,w.2.2.2.2.1),w.2.2.2.2.2.1,w.2.2.2.2.2.2)) (λv t=>[v.1,t,v.2.2.1,v.2.2.2])) x
def ue (x:h?):M (Int×kh×(θ)×(Y eL)×(η)×(η)×Ya25×s?):=
 (aB (iT x.1) λL=>(bR (be (aj ([]:η)+aj x.2.1) 8) (bR (be (aj ([]:η)+aj x.a) 8) (bU 0 (aZ x.e) (bY fB x.e 0 λz2=>(aB (cA z2) λD=>(bU 1 (aZ x.e) (bY fB x.e 1 λz4=>(aB (cA z4) λA=>(bU 2 (aZ x.e) (bY fB x.e 2 λz6=>(aB (cA z6) λy7=>(bU 3 (aZ x.e) (bY fB x.e 3 λz8=>(aB (cA z8) λz=>(bU 4 (aZ x.e) (bY fB x.e 4 λz10=>(aB (cA z10) λy11=>U)) (Z (L.1,L.2.1,L.a,L.e,(([]:η)++x.2.1),(([]:η)++x.a),((D.1.1,D.2.1,D.2.2,D.1.2),(A.1.1,A.2.1,A.2.2,A.1.2),y7.1.1,y7.1.2,z.1.1,z.2.1,z.2.2,z.1.2),y7.2))))) U))) U))) U))) U))))
def oH (x:x?):M HM:=
 SG 2 ue (λz=>z.a) (λz=>z.b) (KG 2 (λz R T=>(z.1,z.2.1,z.a,R,T,z.b,z.g)) (λw=>(w.1,w.2.1,(w.2.2.1,w.2.2.2.1,w.2.2.2.2.1,w.2.2.2.2.2.1),w.2.2.2.2.2.2)) (λv t=>[v.1,v.2.1,t,v.2.2.2])) x
def ud (x:h?):M (Int×kh×(θ)×(Y eL)×(η)×(η)×Ya42×s?):=
 (aB (iT x.1) λL=>(bR (be (aj ([]:η)+aj x.2.1) 8) (bR (be (aj ([]:η)+aj x.a) 8) (bU 0 (aZ x.e) (bY fB x.e 0 λz2=>(aB (cA z2) λD=>(bU 1 (aZ x.e) (bY fB x.e 1 λz4=>(aB (cA z4) λA=>(bU 2 (aZ x.e) (bY fB x.e 2 λz6=>(aB (cA z6) λz=>(bU 3 (aZ x.e) (bY fB x.e 3 λz8=>(aB (cA z8) λy9=>(bU 4 (aZ x.e) (bY fB x.e 4 λz10=>(aB (cA z10) λy11=>U)) (Z (L.1,L.2.1,L.a,L.e,(([]:η)++x.2.1),(([]:η)++x.a),((D.1.1,D.2.1,D.2.2,D.1.2),(A.1.1,A.2.1,A.2.2,A.1.2),(z.1.1,z.2.1,z.2.2,z.1.2),y9.1),y9.2))))) U))) U))) U))) U))))
def mM (x:x?):M HM:=
 SG 3 ud (λz=>z.b) (λz=>z.g) (KG 3 (λz R T=>(z.1,z.2.1,z.a,z.b,R,T,z.g)) (λw=>(w.1,w.2.1,w.2.2.1,(w.2.2.2.1,w.2.2.2.2.1,w.2.2.2.2.2.1,w.2.2.2.2.2.2))) (λv t=>[v.1,v.2.1,v.2.2.1,t])) x
def Do (x:x?):M HM:=orE (qZ x) (orE (qY x) (orE (oH x) (orE (mM x) (orE (lJ x) (orE (kC x) (orE (jG x) (orE (iE x) (orE (gX x) (gZ x)))))))))
def yX (x:FF×Bn×Y ν):M ((Y ic)×h?):=
 (iter (σ:=Int×(Y ic)×FF×Bn×Int) (λA=>(jn (bU A.1 (aZ x.2.2) (aH ((gC (aZ A.2.1) 400),A.2)) (aH (af,A.2))) λz=>(aI z.1 (jn (α:=(Y ic)×FF×Bn×Int) (bY eU x.2.2 A.1 λL=>(aB (Do (z.a,z.b,L)) λD=>(aI D.2.2 (bR (be (aj z.2.1+aj ([D.2.1])) 88) (aH ((z.2.1++([D.2.1])),z.a,D.1,z.g))) (aH z.2)))) λx3=>(c7 ((cV A.1),x3))) (aH (z.2.1,z.b))))) (0,([]:Y ic),x.1,x.2.1,0))
def Gl (x:FF×Y ν):M ((fe×Y ic)×h?):=
 (aB (kN x.1) λD=>(aI (!D) (Z (((([]:Y Yb),([]:Y H!),([]:Y ki),([]:Y ζ),([]:Y ζ),([]:Y π)),([]:Y ic)),(([]:Y k!),0,([]:θ),([]:Y eL)),([]:η),([]:η),([]:Y yr))) (aB (wj x.1) λA=>(aB (yX (x.1,A,x.2)) λz=>(Z ((x.1.1,z.1),z.2))))))
abbrev K!:=Int×v!
def bD (x:K!):M K!:=
 (jn (kY (aZ x.2.1) x.2.2 (aH (J,x.2)) (aH ((gC x.1 1),x.2))) λz=>(aI z.1 (Z (0,z.2)) (lt (cV z.2.2) λD=>(bY (.int .u8) z.2.1 (bl .i64 (D-1)) λA=>(bR (!decide ((x.1:Int)=0)) (Z ((Df (bl .i64 A) x.1),z.2.1,(cV z.2.2))))))))
def tu (x:Int):M (Xp):=
 (Z (eP (1,x,[],([]:Y Xp))))
def qQ (x:ζ):M (Xp):=
 (Z (eP (2,0,x,([]:Y Xp))))
def o9 (x:Int×Xp×Xp):M (Xp):=
 (Z (eP (x.1,0,[],[eP ((Xp.op x.2.1),(Xp.n x.2.1),(Xp.name x.2.1),(Xp.l x.2.1)),eP ((Xp.op x.2.2),(Xp.n x.2.2),(Xp.name x.2.2),(Xp.l x.2.2))])))
def kw (x:ζ×Xp):M (Sx):=
 (Z (o_ (1,0,x.1,[],([]:Y Xp),eP ((Xp.op x.2),(Xp.n x.2),(Xp.name x.2),(Xp.l x.2)),([]:Y Sx),([]:Y Sx))))
def ur (x:Unit):M Ad:=
 (Z ([(1,0,[120],0,0,[]),(1,0,[121],0,1,[]),(2,0,[118],0,0,[]),(1,0,[113],2,0,[]),(3,0,[109],0,0,[]),(3,0,[110],0,0,[]),(4,0,[114],0,0,[]),(5,0,[99],0,0,[109]),(6,0,[102],0,0,[])]))
def tS (x:η):M (Y ν):=
 (iter (σ:=Int×Y ν) (λz=>(bU z.1 (aZ x) (bY (.int .u8) x z.1 λD=>(bY (.int .u8) x z.1 λA=>(bR (be (aj z.2+aj ([((Df (bl .i64 D) 4),(bl .i64 ((Df (bl .i64 (Int.tdiv (bl .i64 A) 4)) 5)-1)))])) 16) (c7 ((cV z.1),(z.2++([((Df (bl .i64 D) 4),(bl .i64 ((Df (bl .i64 (Int.tdiv (bl .i64 A) 4)) 5)-1)))]))))))) (aH z.2))) (0,([]:Y ν)))
def zG (rmade_maker_expr:agt->M aq6) (x:Int×k?):M aq6:=
 (aB (bD (10,x.a)) λy1=>(jn (α:=Bool×HL×iJ×Yc×(Int×Int×ζ)×Y ζ) (bU y1.1 2 (aH (J,x.2.1,y1.2,x.e,(0,0,[]),[[97],[98],[120],[121],[118],[120],[121]])) (bn x.1 0 (aH ((dg 7 y1.1),x.2.1,y1.2,x.e,(0,0,[]),[[97],[98],[120],[121],[118],[120],[121]])) (aH (af,x.2.1,y1.2,x.e,(0,0,[]),[[97],[98],[120],[121],[118],[120],[121]])))) λz=>(aI z.1 (aB (bD (4,z.a)) λy3=>(aB (tu y3.1) λy4=>(Z (eP ((Xp.op y4),(Xp.n y4),(Xp.name y4),(Xp.l y4)),z.2.1,y3.2,z.b)))) (bU y1.1 7 (aB (bD ((aZ z.h),z.a)) λy5=>(kK (.str) z.h y5.1 λz6=>(aB (qQ z6) λy7=>(Z (eP ((Xp.op y7),(Xp.n y7),(Xp.name y7),(Xp.l y7)),z.2.1,y5.2,z.b))))) (bn y1.1 7 (aB (rmade_maker_expr (0,z.2.1,z.a,z.b)) λy8=>(bR (((z.b.1==y8.b)&&J)&&ax (aj z.b.2) (aj y8.g)&&J) (Z (eP (3,0,[113],[eP ((Xp.op y8.1),(Xp.n y8.1),(Xp.name y8.1),(Xp.l y8.1))]),y8.2)))) (aB (bD ((aQ (aj ([6,7,8,11,13,17]))),z.a)) λy9=>(kK aM ([6,7,8,11,13,17]) y9.1 λz10=>(aB (rmade_maker_expr ((bl .i64 (x.1-1)),z.2.1,y9.2,z.b)) λA=>(bR (((z.b.1==A.b)&&J)&&ax (aj z.b.2) (aj A.g)&&J) (aB (rmade_maker_expr ((bl .i64 (x.1-1)),A.2)) λL=>(bR (((A.b==L.b)&&J)&&ax (aj A.g) (aj L.g)&&J) (aB (o9 (z10,A.1,L.1)) λD=>(Z (eP ((Xp.op D),(Xp.n D),(Xp.name D),(Xp.l D)),L.2))))))))))))))
def mC:Nat->agt->M aq6
 |0,_=>U
 |n+1,x=>zG (mC n) x
def fJ (x:Int×k?):M aq6:=mC fuel x
def fh (x:ζ×k?):M (Bool×k?):=
 (aB (ku (x.g,x.1)) λz=>(Z ((dg 0 z),x.2)))
def og (rmade_maker_stmts:aq8->M ags) (rmade_maker_stmt:agt->M am1) (rmade_maker_block:aq7->M am2) (x:ν×k?):M ags:=
 (iter (σ:=Int×HL×iJ×(Y Sx)×Bool×Y ζ) (λA=>(jn (bU A.1 x.1.2 (bn A.1 0 (aH (J,A.2)) (aH ((gC 0 A.2.1.2.1),A.2))) (aH (af,A.2))) λz=>(aI z.1 (aB (rmade_maker_stmt (x.1.1,z.2.1,z.a,z.g)) λD=>(bR (((z.c==z.c)&&J)&&ax (aj z.h) (aj z.h)&&J) (bR (be (aj z.b+aj ([eS D.1])) 176) (c7 ((cV A.1),D.2.1,D.a,(z.b++([eS D.1])),D.e))))) (aH (z.2.1,z.a,z.g,z.b))))) (0,x.2.1,x.a,([]:Y Sx),x.e))
abbrev p?:=Bool×HL×iJ×ab2×Bool×Y ζ
def pf (rmade_maker_stmts:aq8->M ags) (rmade_maker_stmt:agt->M am1) (rmade_maker_block:aq7->M am2) (x:Int×k?):M am1:=
 (aB (bD (18,x.a)) λy1=>(jn (α:=p?) (bU 0 x.1 (lt (bl .i64 (x.2.1.2.1-1)) λz3=>(bU 0 z3 (aH ((!x.2.1.b),(x.2.1.1,(bl .i64 (x.2.1.2.1-1)),x.2.1.2.2),y1.2,(0,0,[],[],0,0,[]),x.e)) (aH (af,(x.2.1.1,(bl .i64 (x.2.1.2.1-1)),x.2.1.2.2),y1.2,(0,0,[],[],0,0,[]),x.e)))) (aH (af,(x.2.1.1,(bl .i64 (x.2.1.2.1-1)),x.2.1.2.2),y1.2,(0,0,[],[],0,0,[]),x.e))) λx2=>(bU y1.1 4 (kK (.str) ([[120],[121],[120],[118]]) y1.1 λz4=>(aB (fJ (1,x2.2.1,x2.a,x2.g)) λy5=>(bR (((x2.c==y5.b)&&J)&&ax (aj x2.h) (aj y5.g)&&J) (aB (kw (z4,y5.1)) λy6=>(Z (eS y6,y5.2)))))) (bn y1.1 4 (aB (bD (2,x2.a)) λy7=>(kK (.str) ([[97],[98]]) y7.1 λz8=>(aB (fJ (1,x2.2.1,y7.2,x2.g)) λy9=>(bR (((x2.c==y9.b)&&J)&&ax (aj x2.h) (aj y9.g)&&J) (aB (kw (z8,y9.1)) λy10=>(Z (eS y10,y9.2))))))) (bn y1.1 5 (aB (fJ (0,x2.2.1,x2.a,x2.g)) λy11=>(bR (((x2.c==y11.b)&&J)&&ax (aj x2.h) (aj y11.g)&&J) (aB (fJ (1,y11.2)) λy12=>(bR (((y11.b==y12.b)&&J)&&ax (aj y11.g) (aj y12.g)&&J) (Z (o_ (1,0,[113],[],[eP ((Xp.op y11.1),(Xp.n y11.1),(Xp.name y11.1),(Xp.l y11.1))],eP ((Xp.op y12.1),(Xp.n y12.1),(Xp.name y12.1),(Xp.l y12.1)),([]:Y Sx),([]:Y Sx)),y12.2)))))) (jn (bn y1.1 6 (aH ((gC 0 x.1),x2.2)) (aH (af,x2.2))) λx13=>(aI x13.1 (aB (fJ (1,x13.2.1,x13.a,x13.g)) λL=>(bR (((x13.c==L.b)&&J)&&ax (aj x13.h) (aj L.g)&&J) (aB (rmade_maker_stmts (((bl .i64 (x.1-1)),1),L.2)) λy15=>(bR (((L.b==L.b)&&J)&&ax (aj L.g) (aj L.g)&&J) (jn (α:=HL×iJ×ab2×(Int×Int×(ζ)×(ζ)×Int×Int×(ζ)×Y Xp)×Yc×(Y Sx)×Y Sx) (aB (bD (2,y15.2.1)) λy17=>(bn y17.1 1 (aB (rmade_maker_stmts (((bl .i64 (x.1-1)),1),y15.1,y17.2,y15.a)) λy18=>(bR (((y15.a.1==y15.a.1)&&J)&&ax (aj y15.a.2) (aj y15.a.2)&&J) (aH (y18.1,y18.2.1,x13.b,(2,0,[],[],(Xp.op L.1),(Xp.n L.1),(Xp.name L.1),(Xp.l L.1)),y18.a,y15.e,y18.e)))) (aH (y15.1,y17.2,x13.b,(2,0,[],[],(Xp.op L.1),(Xp.n L.1),(Xp.name L.1),(Xp.l L.1)),y15.a,y15.e,([]:Y Sx))))) λx16=>(Z (o_ (x16.b.1,x16.b.2.1,x16.b.a,x16.b.b,([]:Y Xp),eP x16.b.g,x16.h),x16.1,x16.2.1,x16.c))))))) (jn (bn y1.1 7 (aH ((gC 0 x.1),x13.2)) (aH (af,x13.2))) λz=>(aI z.1 (aB (qQ ([98])) λy20=>(aB (tu 2) λy21=>(aB (o9 (13,y20,y21)) λy22=>(aB (rmade_maker_stmts (((bl .i64 (x.1-1)),1),(z.2.1.1,z.2.1.2.1,z.2.1.a,z.2.1.b,z.2.1.c,J),z.a,z.g)) λy23=>(bR (((z.c==z.c)&&J)&&ax (aj z.h) (aj z.h)&&J) (aB (qQ ([98])) λy24=>(aB (tu 1) λy25=>(aB (o9 (6,y24,y25)) λy26=>(aB (kw ([98],y26)) λy27=>(bR (be (aj y23.e+aj ([eS y27])) 176) (Z (o_ (3,0,[],[],([]:Y Xp),eP ((Xp.op y22),(Xp.n y22),(Xp.name y22),(Xp.l y22)),(y23.e++([eS y27])),([]:Y Sx)),(y23.1.1,y23.1.2.1,y23.1.a,y23.1.b,y23.1.c,z.2.1.h),y23.2.1,y23.a)))))))))))) (jn (α:=p?) (bn y1.1 8 (aI x2.1 (kK (.str) ([[109],[110]]) (bl .i64 (y1.1-8)) λz29=>(aB (fh (z29,z.2.1,z.a,z.g)) λy30=>(bR (((z.c==y30.b)&&J)&&ax (aj z.h) (aj y30.g)&&J) (aH ((!y30.1),y30.2.1,y30.a,z.b,y30.e))))) (aH (af,z.2))) (bn y1.1 9 (aI x2.1 (kK (.str) ([[109],[110]]) (bl .i64 (y1.1-8)) λz31=>(aB (fh (z31,z.2.1,z.a,z.g)) λy32=>(bR (((z.c==y32.b)&&J)&&ax (aj z.h) (aj y32.g)&&J) (aH ((!y32.1),y32.2.1,y32.a,z.b,y32.e))))) (aH (af,z.2))) (aH (af,z.2)))) λA=>(aI A.1 (kK (.str) ([[109],[110]]) (bl .i64 (y1.1-8)) λz33=>(aB (rmade_maker_block ((z33,(bl .i64 (x.1-1))),A.2.1,A.a,A.g)) λy34=>(bR (((A.c==A.c)&&J)&&ax (aj A.h) (aj A.h)&&J) (Z (o_ (4,0,z33,[],([]:Y Xp),eP (0,0,[],([]:Y Xp)),y34.1,([]:Y Sx)),y34.2))))) (jn (α:=p?) (bn y1.1 10 (aI x2.1 (aB (fh ([114],A.2.1,A.a,A.g)) λy36=>(bR (((A.c==y36.b)&&J)&&ax (aj A.h) (aj y36.g)&&J) (aH ((!y36.1),y36.2.1,y36.a,A.b,y36.e)))) (aH (af,A.2))) (bn y1.1 11 (aI x2.1 (aB (fh ([114],A.2.1,A.a,A.g)) λy37=>(bR (((A.c==y37.b)&&J)&&ax (aj A.h) (aj y37.g)&&J) (aH ((!y37.1),y37.2.1,y37.a,A.b,y37.e)))) (aH (af,A.2))) (aH (af,A.2)))) λx35=>(aI x35.1 (aB (rmade_maker_block (([114],(bl .i64 (x.1-1))),x35.2.1,x35.a,x35.g)) λy38=>(bR (((x35.c==x35.c)&&J)&&ax (aj x35.h) (aj x35.h)&&J) (Z (o_ ((bl .i64 ((bl .i64 (y1.1-10))+5)),0,[114],[],([]:Y Xp),eP (0,0,[],([]:Y Xp)),y38.1,([]:Y Sx)),y38.2)))) (jn (bn y1.1 12 (aH (x2.1,x35.2)) (aH (af,x35.2))) λx39=>(aI x39.1 (aB (bD (2,x39.a)) λy40=>(aB (rmade_maker_stmts ((0,(bl .i64 (1+y40.1))),(x39.2.1.1,x39.2.1.2.1,x39.2.1.a,J,x39.2.1.g),y40.2,x39.g)) λy41=>(bR (((x39.c==x39.c)&&J)&&ax (aj x39.h) (aj x39.h)&&J) (Z (o_ (7,0,[],[],([]:Y Xp),eP (0,0,[],([]:Y Xp)),y41.e,([]:Y Sx)),(y41.1.1,y41.1.2.1,y41.1.a,af,y41.1.g),y41.2.1,y41.a))))) (jn (bn y1.1 13 (aI x2.1 (aH ((!x39.2.1.c),x39.2)) (aH (af,x39.2))) (aH (af,x39.2))) λD=>(aI D.1 (aB (rmade_maker_stmts (((bl .i64 (x.1-1)),2),(D.2.1.1,D.2.1.2.1,D.2.1.a,D.2.1.b,J,D.2.1.h),D.a,D.g)) λy43=>(bR (((D.c==D.c)&&J)&&ax (aj D.h) (aj D.h)&&J) (Z (o_ (8,0,[],[],([]:Y Xp),eP (0,0,[],([]:Y Xp)),y43.e,([]:Y Sx)),(y43.1.1,y43.1.2.1,y43.1.a,y43.1.b,af,y43.1.h),y43.2.1,y43.a)))) (jn (α:=p?) (bn y1.1 14 (aI x2.1 (aI (!D.2.1.c) (aB (fh ([109],D.2.1,D.a,D.g)) λy45=>(bR (((D.c==y45.b)&&J)&&ax (aj D.h) (aj y45.g)&&J) (aH ((!y45.1),y45.2.1,y45.a,D.b,y45.e)))) (aH (af,D.2))) (aH (af,D.2))) (aH (af,D.2))) λx44=>(aI x44.1 (aB (qQ ([120])) λy46=>(aB (kw ([97],y46)) λy47=>(Z (o_ (4,0,[109],[],([]:Y Xp),eP (0,0,[],([]:Y Xp)),[o_ (9,0,[99],[],([]:Y Xp),eP (0,0,[],([]:Y Xp)),([]:Y Sx),([]:Y Sx)),eS y47],([]:Y Sx)),x44.2.1,x44.a,x44.g)))) (jn (α:=p?) (bn y1.1 15 (aI x2.1 (aB (fh ([109],x44.2.1,x44.a,x44.g)) λy49=>(bR (((x44.c==y49.b)&&J)&&ax (aj x44.h) (aj y49.g)&&J) (aH ((!y49.1),y49.2.1,y49.a,x44.b,y49.e)))) (aH (af,x44.2))) (aH (af,x44.2))) λx48=>(aI x48.1 (aB (bD (2,x48.a)) λy50=>(Z (o_ (4,0,[109],[],([]:Y Xp),eP (0,0,[],([]:Y Xp)),[o_ ((bl .i64 (10+y50.1)),0,[99],[],([]:Y Xp),eP (0,0,[],([]:Y Xp)),([]:Y Sx),([]:Y Sx))],([]:Y Sx)),x48.2.1,y50.2,x48.g))) (jn (bn y1.1 16 (aI (!x48.2.1.b) (aI (!x48.2.1.h) (aH ((!x48.2.1.a),x48.2)) (aH (af,x48.2))) (aH (af,x48.2))) (aH (af,x48.2))) λx51=>(aI x51.1 (aB (fJ (1,(x51.2.1.1,x51.2.1.2.1,J,x51.2.1.e),x51.a,x51.g)) λy52=>(bR (((x51.c==y52.b)&&J)&&ax (aj x51.h) (aj y52.g)&&J) (Z (o_ (14,0,[102],[],([]:Y Xp),eP ((Xp.op y52.1),(Xp.n y52.1),(Xp.name y52.1),(Xp.l y52.1)),([]:Y Sx),([]:Y Sx)),y52.2)))) (jn (α:=p?) (bn y1.1 17 (aI (!x51.2.1.b) (aB (bD (2,x51.a)) λy54=>(aH ((decide ((y54.1:Int)=1)),x51.2.1,y54.2,x51.e))) (aH (af,x51.2))) (aH (af,x51.2))) λx53=>(aI x53.1 (Z (o_ (15,0,[97],[102],([]:Y Xp),eP (0,0,[],([]:Y Xp)),([]:Y Sx),([]:Y Sx)),x53.2.1,x53.a,x53.g)) (aB (fJ (1,x53.2.1,x53.a,x53.g)) λy55=>(bR (((x53.c==y55.b)&&J)&&ax (aj x53.h) (aj y55.g)&&J) (aB (kw ([120],y55.1)) λy56=>(Z (eS y56,y55.2))))))))))))))))))))))))))))))
def oh (rmade_maker_stmts:aq8->M ags) (rmade_maker_stmt:agt->M am1) (rmade_maker_block:aq7->M am2) (x:ki×k?):M am2:=
 (bR (be (aj x.g+aj ([x.1.1])) 16) (aB (bD (2,x.a)) λA=>(aB (rmade_maker_stmts ((x.1.2,(bl .i64 (1+A.1))),x.2.1,A.2,x.b,(x.g++([x.1.1])))) λz=>(bR (((x.b==x.b)&&J)&&ax (aj (x.g++([x.1.1]))) (aj (x.g++([x.1.1])))&&J) (bR (dg 0 (bl .i64 ((aZ z.a.2)-1))&&gC (bl .i64 ((aZ z.a.2)-1)) (aj z.a.2)) (Z (z.e,z.1,z.2.1,af,(dx (aN (bl .i64 ((aZ z.a.2)-1))) z.a.2))))))))
mutual
def dY:Nat->aq8->M ags
 |0,_=>U
 |n+1,x=>og (dY n) (e9 n) (eJ n) x
def e9:Nat->agt->M am1
 |0,_=>U
 |n+1,x=>pf (dY n) (e9 n) (eJ n) x
def eJ:Nat->aq7->M am2
 |0,_=>U
 |n+1,x=>oh (dY n) (e9 n) (eJ n) x
end
def rX (x:ν×k?):M ags:=dY fuel x
abbrev r?:=HL×Ad×du×ki×iJ×Yc×(Y Ac)×du×Y Sx
def pR (x:η):M B!:=
 (aB (ur ()) λy1=>(aB (bD (3,x,0)) λy2=>(iter (σ:=Int×HL×Ad×du×iJ×Yc×Y Ac) (λD=>(bU D.1 (bl .i64 (2+y2.1)) (kK (.str) D.b D.1 λz4=>(jn (α:=r?) (bn D.1 0 (iter (σ:=Int×r?) (λx6=>(bU x6.1 (bl .i64 (2+y2.1)) (kK (.str) x6.b x6.1 λz7=>(bR (be (aj x6.w+aj ([o_ (12,0,z7,[],([]:Y Xp),eP (0,0,[],([]:Y Xp)),([]:Y Sx),([]:Y Sx))])) 176) (c7 ((cV x6.1),x6.2.1,x6.a,x6.b,x6.c,x6.d,x6.f,x6.i,x6.j,(x6.w++([o_ (12,0,z7,[],([]:Y Xp),eP (0,0,[],([]:Y Xp)),([]:Y Sx),([]:Y Sx))])))))) (aH (b7 x6.2)))) (1,(D.1,D.2.1.2),D.a,D.b,(z4,0),D.c,D.d,D.n,[[97],[98]],([]:Y Sx))) (aH ((D.1,D.2.1.2),D.a,D.b,(z4,0),D.c,D.d,D.n,[[97],[98]],([]:Y Sx)))) λL=>(aB (bD (3,L.c)) λy8=>(aB (rX ((2,(bl .i64 (1+y8.1))),L.1,y8.2,L.d)) λy9=>(bR (((L.d.1==L.d.1)&&J)&&ax (aj L.d.2) (aj L.d.2)&&J) (bR (be (aj L.r+aj y9.e) 176) (jn (α:=r?) (jn (α:=Bool×r?) (bn D.1 0 (aB (bD (3,y9.2.1)) λy12=>(aH ((decide ((y12.1:Int)=2)),y9.1,L.2.1,L.a,L.b,y12.2,y9.a,L.f,L.i,(L.r++y9.e)))) (aH (af,y9.1,L.2.1,L.a,L.b,y9.2.1,y9.a,L.f,L.i,(L.r++y9.e)))) λz=>(aI z.1 (kK (.str) z.b 1 λz13=>(bR (be (aj z.w+aj ([o_ (13,0,z13,[],([]:Y Xp),eP (0,0,[],([]:Y Xp)),([]:Y Sx),([]:Y Sx))])) 176) (aH (z.2.1,z.a,z.b,z.c,z.d,z.f,z.i,z.j,(z.w++([o_ (13,0,z13,[],([]:Y Xp),eP (0,0,[],([]:Y Xp)),([]:Y Sx),([]:Y Sx))])))))) (aH z.2))) λA=>(bR (be (aj A.f+aj ([(A.b.1,A.b.2,A.p)])) 72) (c7 ((cV D.1),A.1,A.2.1,A.a,A.c,A.d,(A.f++([(A.b.1,A.b.2,A.p)])))))))))))) (aB (aB (gm (D.a,D.n)) λy14=>(jQ y14.1 0 (aB (ur ()) λy15=>(aB (tu 1) λy16=>(aB (kw ([120],y16)) λy17=>(Z (y15,[([109,97,105,110],0,[[97],[98]],[eS y17])]))))) (Z (D.a,D.n)))) λr=>Z (b7 r)))) (0,(0,20,af,af,af,af),y1,[[109,97,105,110],[116,49],[116,50],[116,51]],y2.2,(J,([]:Y ζ)),([]:Y Ac)))))
def AE (x:η):M FF:=
 (aB (pR x) λA=>(aB (rV A) λz=>(Z z.1)))
def xE (x:x!):M q?:=
 (aB (AE x.1) λD=>(aB (tS x.2) λA=>(aB (Gl (D,A)) λz=>(Z z.1))))
def oW (x:Unit):M fe:=
 (iter (σ:=F?) (λA=>(bU A.1 (aQ (aj ([[109,97,105,110],[116,49],[116,50],[116,51]]))) (iter (σ:=F?) (λz=>(bU z.1 6 (bR (be (aj z.n+aj ([(A.1,z.1,(bl .i64 ((bl .i64 ((bl .i64 (10*A.1))+z.1))+1)))])) 24) (c7 ((cV z.1),z.2.1,z.a,z.b,z.c,z.d,(z.n++([(A.1,z.1,(bl .i64 ((bl .i64 ((bl .i64 (10*A.1))+z.1))+1)))]))))) (aH (oU ((cV A.1),z.2))))) (0,A.2)) (aH A.2))) (0,[([120],0,0,af,0),([121],0,0,af,1),([118],0,0,J,0),([113],0,2,af,0),([113],1,2,af,0)],[([109],af),([110],af),([114],J)],[([99],0)],[[102]],[[109,97,105,110],[116,49],[116,50],[116,51]],([]:Y π)))
def oF (x:S!):M η:=
 (iter (σ:=k!) (λz=>(bU z.1 (aZ x.1.e) (jn (α:=η) (bY iI x.1.e z.1 λA=>(bn A.1 3 (bR (be (aj z.2+aj ([z.1])) 8) (aH (z.2++([z.1])))) (aH z.2))) λD=>(c7 ((cV z.1),D))) (aH z.2))) (0,([]:η)))
def vz (x:Unit):M η:=
 (Z ([3,3,3,3,3,4,4,4,4,4,5,5,5,6,6,6,7,7,7,8,9,10,11,12,13,14,14,15,16,16,17,17,18,18,19,20,1,1,2,21,22,23,23]))
def pO (x:ν×v!):M K!:=
 (jn (bn x.1.1 3 (aH ((decide ((x.1.1:Int)=3)),x.2)) (aH ((decide ((x.1.1:Int)=4)),x.2))) λL=>(aI L.1 (aB (bD (8,L.2)) λy2=>(kK aM ([0,0,0,1,1,2,3,4]) y2.1 λz3=>(Z (z3,y2.2)))) (jn (bn x.1.1 6 (aH ((decide ((x.1.1:Int)=6)),L.2)) (aH ((decide ((x.1.1:Int)=7)),L.2))) λA=>(aI A.1 (aB (bD (2,A.2)) λy5=>(Z y5)) (jn (bn x.1.1 8 (aH ((decide ((x.1.1:Int)=8)),A.2)) (bn x.1.1 9 (aH ((decide ((x.1.1:Int)=9)),A.2)) (bn x.1.1 10 (aH ((decide ((x.1.1:Int)=10)),A.2)) (aH ((decide ((x.1.1:Int)=11)),A.2))))) λz=>(aI z.1 (Z (2,z.2)) (jn (bn x.1.1 16 (aH ((decide ((x.1.1:Int)=16)),z.2)) (bn x.1.1 17 (aH ((decide ((x.1.1:Int)=17)),z.2)) (bn x.1.1 18 (aH ((decide ((x.1.1:Int)=18)),z.2)) (bn x.1.1 19 (aH ((decide ((x.1.1:Int)=19)),z.2)) (bn x.1.1 22 (aH ((decide ((x.1.1:Int)=22)),z.2)) (aH ((decide ((x.1.1:Int)=23)),z.2))))))) λD=>(aI D.1 (Z (0,D.2)) (jn (bn x.1.1 20 (aH ((decide ((x.1.1:Int)=20)),D.2)) (aH ((decide ((x.1.1:Int)=21)),D.2))) λx8=>(aI x8.1 (aB (bD (3,x8.2)) λy9=>(Z ((Df (bl .i64 ((cV x.1.2)+y9.1)) 4),y9.2))) (Z ((-1),x8.2))))))))))))
def rP (x:(ky×Int×Int)×v!):M K!:=
 (bn x.1.2.1 3 (bY aM x.1.1.2.1 x.1.2.2 λz1=>(Z (z1,x.2))) (bn x.1.2.1 23 (bY aM x.1.1.a 0 λz2=>(Z (z2,x.2))) (jn (bn x.1.2.1 4 (aH ((decide ((x.1.2.1:Int)=4)),x.2,x.1.1)) (aH ((decide ((x.1.2.1:Int)=22)),x.2,x.1.1))) λz=>(aI z.1 (aB (bD (3,z.2.1)) λy4=>(Z y4)) (bn x.1.2.1 5 (aB (bD (2,z.2.1)) λy5=>(Z y5)) (bn x.1.2.1 18 (aB (oF z.2.2) λA=>(bU 0 (aZ A) (aB (bD ((aZ A),z.2.1)) λD=>(bY aM A D.1 λL=>(Z (L,D.2)))) (Z ((-1),z.2.1)))) (bn x.1.2.1 19 (aB (oF z.2.2) λy9=>(Z ((aZ y9),z.2.1))) (Z (0,z.2.1)))))))))
def iD (x:iJ×η):M (η×iJ×η):=
 (iter (σ:=Int×iJ×J?) (λz=>(bU z.1 (aZ x.2) (jn (α:=iJ×J?) (kK aM z.a z.1 λD=>(jn (α:=Bool×iJ×J?) (kY (aZ z.a) (bl .i64 (z.1+3)) (aB (bD (2,z.2.1)) λL=>(aH ((decide ((L.1:Int)=1)),L.2,z.2.2))) (aH (af,z.2))) λA=>(aI A.1 (bR (be (aj A.e+aj ([D])) 8) (aH (A.2.1,A.a,(A.e++([D]))))) (aH A.2)))) λx2=>(c7 ((cV z.1),x2))) (aH (z.e,z.2.1,z.a)))) (0,x.1,x.2,([]:η)))
abbrev G!:=iJ×(η)×(η)×(η)×(η)×ky×fe×HN×Int×u?
def rQ (x:(ky×nX×nu×(Y ki)×du×du×Y π)×iJ×(η)×f?):M (ic×iJ×(η)×f?):=
 (aB (bD (4,x.2.1)) λL=>(aB (vz ()) λy2=>(aB (bD ((aZ y2),L.2)) λy3=>(bY aM y2 y3.1 λz4=>(aB (bD (6,y3.2)) λy5=>(jn (α:=G!) (jn (α:=Bool×G!) (bn z4 1 (aH (J,y5.2,x.a,x.b,x.c,x.h,x.1.1,x.1.2,(0,0,0,0,0),L.1,z4,0,0,(bl .i64 ((bl .i64 (L.1*6))+y5.1)))) (aH ((decide ((z4:Int)=2)),y5.2,x.a,x.b,x.c,x.h,x.1.1,x.1.2,(0,0,0,0,0),L.1,z4,0,0,(bl .i64 ((bl .i64 (L.1*6))+y5.1))))) λx7=>(aI x7.1 (aH (x7.2.1,x7.a,x7.b,x7.c,x7.d,x7.f,x7.i,x7.j,x7.m,x7.k,x7.o,x7.l,(-1))) (aH x7.2))) λD=>(aB (pO ((D.m,L.1),D.1)) λy8=>(aB (rP ((D.d,D.m,y8.1),y8.2)) λy9=>(jn (α:=iJ×(η)×(η)×(η)×(η)×HN×Int×Int×Int×Int×k!) (jn (bn D.m 5 (aH (J,y9.2,D.2.1,D.a,D.b,D.c,D.i,D.j,D.m,y8.1,y9.1,D.z)) (bn D.m 3 (bY lZ D.f.1 y8.1 λz12=>(aH ((gC 0 z12.2.2.1),y9.2,D.2.1,D.a,D.b,D.c,D.i,D.j,D.m,y8.1,y9.1,D.z))) (bn D.m 4 (bY lZ D.f.1 y8.1 λz13=>(aH ((gC 0 z13.2.2.1),y9.2,D.2.1,D.a,D.b,D.c,D.i,D.j,D.m,y8.1,y9.1,D.z))) (aH (af,y9.2,D.2.1,D.a,D.b,D.c,D.i,D.j,D.m,y8.1,y9.1,D.z))))) λA=>(aI A.1 (bn L.1 0 (aB (iD (A.2.1,A.a)) λy14=>(bR (ax (aj A.a) (aj y14.2.2)&&J) (aH (y14.2.1,y14.2.2,A.b,A.c,A.d,A.f,A.i,A.j,A.m,A.k,A.v,y14.1)))) (bn L.1 1 (aB (iD (A.2.1,A.b)) λy15=>(bR (ax (aj A.b) (aj y15.2.2)&&J) (aH (y15.2.1,A.a,y15.2.2,A.c,A.d,A.f,A.i,A.j,A.m,A.k,A.v,y15.1)))) (bn L.1 2 (aB (iD (A.2.1,A.c)) λy16=>(bR (ax (aj A.c) (aj y16.2.2)&&J) (aH (y16.2.1,A.a,A.b,y16.2.2,A.d,A.f,A.i,A.j,A.m,A.k,A.v,y16.1)))) (bn L.1 3 (aB (iD (A.2.1,A.d)) λy17=>(bR (ax (aj A.d) (aj y17.2.2)&&J) (aH (y17.2.1,A.a,A.b,A.c,y17.2.2,A.f,A.i,A.j,A.m,A.k,A.v,y17.1)))) U)))) (aH (A.2.1,A.a,A.b,A.c,A.d,A.f,A.i,A.j,A.m,A.k,A.v,([]:η))))) λx10=>(jn (α:=iJ×(η)×(η)×(η)×(η)×HN×c!) (jn (bn x10.i 4 (aH (J,x10)) (aH ((decide ((x10.i:Int)=22)),x10))) λz=>(aI z.1 (bn L.1 0 (aB (iD (z.2.1,z.a)) λy20=>(bR (ax (aj z.a) (aj y20.2.2)&&J) (aH (y20.2.1,y20.2.2,z.b,z.c,z.d,z.f,z.i,z.j,z.m,z.k,z.o,z.z,y20.1)))) (bn L.1 1 (aB (iD (z.2.1,z.b)) λy21=>(bR (ax (aj z.b) (aj y21.2.2)&&J) (aH (y21.2.1,z.a,y21.2.2,z.c,z.d,z.f,z.i,z.j,z.m,z.k,z.o,z.z,y21.1)))) (bn L.1 2 (aB (iD (z.2.1,z.c)) λy22=>(bR (ax (aj z.c) (aj y22.2.2)&&J) (aH (y22.2.1,z.a,z.b,y22.2.2,z.d,z.f,z.i,z.j,z.m,z.k,z.o,z.z,y22.1)))) (bn L.1 3 (aB (iD (z.2.1,z.d)) λy23=>(bR (ax (aj z.d) (aj y23.2.2)&&J) (aH (y23.2.1,z.a,z.b,z.c,y23.2.2,z.f,z.i,z.j,z.m,z.k,z.o,z.z,y23.1)))) U)))) (aH (z.2.1,z.a,z.b,z.c,z.d,z.f,z.i,z.j,z.m,z.k,z.o,z.z,([]:η))))) λx18=>(Z (x18.n,x18.1,x18.2.1,x18.a,x18.b,x18.c))))))))))))
abbrev m?:=iJ×ky×fe×(η)×f?
abbrev Q!:=iJ×ky×fe×(Y ic)×(η)×f?
abbrev T?:=Bool×m?
def uc (x:(ky×fe×Int×Bool)×v!):M ((Y ic)×v!):=
 (bR (dg 0 (aZ x.1.2.1.c)&&dg (aZ x.1.2.1.c) (aZ x.1.2.1.c)&&be (aN (aZ x.1.2.1.c)) 24&&decide (((aZ x.1.2.1.c):Int)=4)) (jn (α:=m?) (bU 0 (aQ 4) (jn (α:=m?) (jn (α:=T?) (aI x.1.e (bY aM x.1.1.e 0 λz4=>(bU 1 z4 (aB (bD (3,x.2)) λy5=>(aH ((decide ((y5.1:Int)=2)),y5.2,x.1.1,x.1.2.1,([]:η),([]:η),([]:η),([]:η)))) (aH (af,x.2,x.1.1,x.1.2.1,([]:η),([]:η),([]:η),([]:η))))) (aH (af,x.2,x.1.1,x.1.2.1,([]:η),([]:η),([]:η),([]:η)))) λx3=>(aI x3.1 (bR (be (aj x3.c+aj ([1])) 8) (aH (x3.2.1,x3.a,x3.b,(x3.c++([1])),x3.h))) (aH x3.2))) λx2=>(bU 1 (aQ 4) (jn (α:=m?) (jn (α:=T?) (aI x.1.e (bY aM x2.2.1.e 1 λz8=>(bU 1 z8 (aB (bD (3,x2.1)) λy9=>(aH ((decide ((y9.1:Int)=2)),y9.2,x2.2))) (aH (af,x2)))) (aH (af,x2))) λx7=>(aI x7.1 (bR (be (aj x7.d+aj ([1])) 8) (aH (x7.2.1,x7.a,x7.b,x7.c,(x7.d++([1])),x7.n))) (aH x7.2))) λx6=>(bU 2 (aQ 4) (jn (α:=m?) (jn (α:=T?) (aI x.1.e (bY aM x6.2.1.e 2 λz12=>(bU 1 z12 (aB (bD (3,x6.1)) λy13=>(aH ((decide ((y13.1:Int)=2)),y13.2,x6.2))) (aH (af,x6)))) (aH (af,x6))) λx11=>(aI x11.1 (bR (be (aj x11.f+aj ([1])) 8) (aH (x11.2.1,x11.a,x11.b,x11.c,x11.d,(x11.f++([1])),x11.p))) (aH x11.2))) λx10=>(bU 3 (aQ 4) (jn (α:=m?) (jn (α:=T?) (aI x.1.e (bY aM x10.2.1.e 3 λz16=>(bU 1 z16 (aB (bD (3,x10.1)) λy17=>(aH ((decide ((y17.1:Int)=2)),y17.2,x10.2))) (aH (af,x10)))) (aH (af,x10))) λL=>(aI L.1 (bR (be (aj L.p+aj ([1])) 8) (aH (L.2.1,L.a,L.b,L.c,L.d,L.f,(L.p++([1]))))) (aH L.2))) λx14=>(bU 4 (aQ 4) (jn (α:=m?) (jn (α:=T?) (aI x.1.e (bY aM x14.2.1.e 4 λz20=>(bU 1 z20 (aB (bD (3,x14.1)) λy21=>(aH ((decide ((y21.1:Int)=2)),y21.2,x14.2))) (aH (af,x14)))) (aH (af,x14))) λx19=>(aI x19.1 U (aH x19.2))) λx18=>U) (aH x14))) (aH x10))) (aH x6))) (aH x2))) (aH (x.2,x.1.1,x.1.2.1,([]:η),([]:η),([]:η),([]:η)))) λx1=>(iter (σ:=Q!) (λx22=>(jn (bU (aZ x22.b) x.1.a (aH ((gC x22.1.2 (aZ x22.1.1)),x22)) (aH (af,x22))) λA=>(aI A.1 (jn (α:=Q!) (aB (rQ ((A.a,A.b),A.2.1,A.h)) λD=>(bR (ax (aj A.r) (aj D.h)&&(ax (aj A.i) (aj D.c)&&(ax (aj A.f) (aj D.b)&&(ax (aj A.d) (aj D.a)&&J)))) (aB (s6 (A.b,A.a,D.1)) λy26=>(aI (!y26.2) (aH (D.2.1,A.a,A.b,A.c,D.2.2)) (jn (α:=iJ×ky×fe×(Y ic)×ic×ky×(η)×f?) (jn (bn D.1.2.1 3 (aH (J,D.2.1,A.a,A.b,A.c,D.1,y26.1,D.2.2)) (aH ((decide ((D.1.2.1:Int)=23)),D.2.1,A.a,A.b,A.c,D.1,y26.1,D.2.2))) λz=>(aI z.1 (bn z.d.1 0 (bY aM z.a.e 0 λz29=>(bR (be (aj z.i+aj ([z29])) 8) (aH (z.2.1,z.a,z.b,z.c,(0,z.d.2),z.f,(z.i++([z29])),z.r)))) (bn z.d.1 1 (bY aM z.a.e 1 λz30=>(bR (be (aj z.j+aj ([z30])) 8) (aH (z.2.1,z.a,z.b,z.c,(1,z.d.2),z.f,z.i,(z.j++([z30])),z.w)))) (bn z.d.1 2 (bY aM z.a.e 2 λz31=>(bR (be (aj z.m+aj ([z31])) 8) (aH (z.2.1,z.a,z.b,z.c,(2,z.d.2),z.f,z.i,z.j,(z.m++([z31])),z.y)))) (bn z.d.1 3 (bY aM z.a.e 3 λz32=>(bR (be (aj z.y+aj ([z32])) 8) (aH (z.2.1,z.a,z.b,z.c,(3,z.d.2),z.f,z.i,z.j,z.m,(z.y++([z32])))))) U)))) (aH z.2))) λx27=>(bR (be (aj x27.b+aj ([x27.c])) 88) (aH (x27.1,x27.d,x27.a,(x27.b++([x27.c])),x27.n)))))))) λx24=>(c7 x24)) (aH (A.c,A.2.1))))) (x1.1,x1.2.1,x1.a,([]:Y ic),x1.e))))
abbrev V?:=iJ×fe×ky×(Y ic)×Y ic
def rR (x:o!):M q?:=
 (jn (bU 600 (aZ x.1) (bR (dg 0 600&&dg 600 (aj x.1)) (aH (dx (aN 600) x.1))) (aH x.1)) λx1=>(aB (oW ()) λy2=>(aB (oG y2) λy3=>(aB (bD (3,x1,0)) λy4=>(iter (σ:=Int×iJ×fe×ky×Y ic) (λA=>(kY A.1 (bl .i64 (1+y4.1)) (bR (be (aj A.g+aj ([(0,20,A.1,0,0,([]:η),([]:η)),(A.1,1,(-1),0,(-1),([]:η),([]:η))])) 88) (c7 ((cV A.1),A.2.1,A.a,A.b,(A.g++([(0,20,A.1,0,0,([]:η),([]:η)),(A.1,1,(-1),0,(-1),([]:η),([]:η))]))))) (aB (iter (σ:=Int×V?) (λz=>(bU z.1 (aZ A.g) (jn (α:=V?) (kK iZ z.c z.1 λL=>(aB (s6 (z.a,z.b,L)) λy9=>(aI y9.2 (bR (be (aj z.h+aj ([L])) 88) (aH (z.2.1,z.a,y9.1,z.c,(z.h++([L]))))) (aH z.2)))) λx7=>(c7 ((cV z.1),x7))) (aB (aB (uc ((z.b,z.a,(KY (j6 x.2 0) 60),af),z.2.1)) λD=>(bR (be (aj z.h+aj D.1) 88) (aB (wh (z.a,(z.h++D.1))) λy11=>(jQ y11.2 0 (aB (oW ()) λy12=>(Z (y12,([]:Y ic)))) (Z (z.a,(z.h++D.1))))))) λr=>Z (b7 r)))) (0,A.2.1,A.a,A.b,A.g,([]:Y ic))) λr=>Z (b7 r)))) (1,y4.2,y2,y3,[(0,1,(-1),0,(-1),([]:η),([]:η))]))))))
def oX (x:(η×(η)×η)×Int):M q?:=
 (bU 0 (aZ x.1.2.2) (aB (rR (x.1.2.2,x.2)) λA=>(Z A)) (bR (dg 0 (KY (aZ x.1.2.1) x.2)&&dg (KY (aZ x.1.2.1) x.2) (aj x.1.2.1)) (aB (xE (x.1.1,(dx (aN (KY (aZ x.1.2.1) x.2)) x.1.2.1))) λz=>(Z z))))
def Ok (o:M R) (Q:R->Prop):Prop:=∃y,o=Z y/\Q y
def Ok.mono {o:M R} {Q Q':R->Prop} (h:Ok o Q) (z:∀y,Q y->Q' y):Ok o Q':=by let⟨y,h1,A⟩:=h;exact⟨y,h1,z y A⟩
def ak {y:R} {Q:R->Prop} (h:Q y):Ok (Z y) Q:=⟨y,rfl,h⟩
def ax8 {o:M R} {y:R} {Q:R->Prop} (e:o=Z y) (h:Q y):Ok o Q:=⟨y,e,h⟩
def bt {k:M R} {Q:R->Prop} (h:b=J) (z:Ok k Q):Ok (chk b λ_=>k) Q:=by subst h;exact z
def aP {t f:M R} {Q:R->Prop} (ht:b=J->Ok t Q) (hf:b=af->Ok f Q):Ok (aI b t f) Q:=by
 cases b with
 |true=>exact ht rfl
 |false=>exact hf rfl
def qV {t f:M R} {Q:R->Prop} (h:b=J) (ht:Ok t Q):Ok (aI b t f) Q:=by subst h;exact ht
def j7 {t f:M R} {Q:R->Prop} (h:b=af) (hf:Ok f Q):Ok (aI b t f) Q:=by subst h;exact hf
def aA {α:Type} {o:M α} {k:α->M R} {P:α->Prop} {Q:R->Prop} (h:Ok o P) (A:∀x,P x->Ok (k x) Q):Ok (aB o k) Q:=by
 obtain⟨x,rfl,z⟩:=h;exact A x z
def bc {α:Type} {o:M α} {k:α->M R} {x:α} {Q:R->Prop} (h:o=Z x) (z:Ok (k x) Q):Ok (aB o k) Q:=by subst h;exact z
def aT {α:Type} {x:α} {k:α->M R} {Q:R->Prop} (h:Ok (k x) Q):Ok (lt x k) Q:=h
def aX {α:Type} {o:M (R⊕α)} {k:α->M R} {Q:R->Prop} (P:α->Prop) (h:Ok o λr=>match r with|.inl r=>Q r|.inr x=>P x) (A:∀x,P x->Ok (k x) Q):Ok (jn o k) Q:=by
 obtain⟨r,rfl,z⟩:=h;cases r with
 |inl r=>exact⟨r,rfl,z⟩
 |inr x=>exact A x z
def ij {α:Type} {o:M (R⊕α)} {k:α->M R} {Q:R->Prop} (h:Ok o λr=>match r with|.inl r=>Q r|.inr x=>Ok (k x) Q):Ok (jn o k) Q:=aX (λx=>Ok (k x) Q) h λ_ h=>h
def ao3 {α:Type} {a b:α} {r:M R} {Q:R->Prop} (e:a=b) (h:Ok r Q):Ok (same a b r) Q:=by unfold same;rw[aD e];exact h
def rI {σ:Type} {f:σ->M (σ⊕R)} {Q:R->Prop} (μ:σ->Nat) (I:σ->Prop) (h:∀x,I x->Ok (f x) λr=>match r with|.inl y=>I y/\μ y<μ x|.inr r=>Q r) {x:σ} (A:I x):Ok (iter f x) Q:=by
 have key:∀n x,μ x<n->I x->∃m r,iterN f m x=Z r/\Q r:=by
  intro n;induction n with
  |zero=>intro x hm;omega
  |succ n D=>
   intro x hm A;let⟨r,h1,z⟩:=h x A;cases r with
   |inl y=>
    let⟨m,r,h3,L⟩:=D y (by omega) z.1;exact⟨m+1,r,by rw[iterN,h1];exact h3,L⟩
   |inr r=>exact⟨1,r,by rw[iterN,h1],z⟩
 let⟨m,r,h1,z⟩:=key (μ x+1) x (xo _) A;exact⟨r,Co h1,z⟩
def cD {σ:Type} {f:σ->M (σ⊕R)} {Q:R->Prop} (n:Nat) (I:Nat->σ->Prop) (h0:∀i x,i<n->I i x->Ok (f x) λr=>match r with|.inl y=>I (i+1) y|.inr r=>Q r) (h1:∀x,I n x->Ok (f x) λr=>match r with|.inl _=>False|.inr r=>Q r) {x:σ} (D:I 0 x):Ok (iter f x) Q:=by
 have key:∀m i x,i+m=n->I i x->∃k r,iterN f k x=Z r/\Q r:=by
  intro m;induction m with
  |zero=>
   intro i x hi D;have:i=n:=by omega
   subst this;let⟨r,A,z⟩:=h1 x D;cases r with
   |inl y=>exact z.elim
   |inr r=>exact⟨1,r,by rw[iterN,A],z⟩
  |succ m L=>
   intro i x hi D;let⟨r,A,z⟩:=h0 i x (by omega) D;cases r with
   |inl y=>
    let⟨k,r,g3,g4⟩:=L (i+1) y (by omega) z;exact⟨k+1,r,by rw[iterN,A];exact g3,g4⟩
   |inr r=>exact⟨1,r,by rw[iterN,A],z⟩
 let⟨m,r,A,z⟩:=key n 0 x (by omega) D;exact⟨r,Co A,z⟩
def itQ {σ:Type} (f:σ->M (σ⊕R)) (Q:R->Prop):σ⊕R->Prop
 |.inl y=>Ok (iter f y) Q
 |.inr r=>Q r
def jnQ {α:Type} (k:α->M R) (Q:R->Prop):R⊕α->Prop
 |.inl r=>Q r
 |.inr x=>Ok (k x) Q
def ao2 {σ:Type} {f:σ->M (σ⊕R)} {x:σ} {Q:R->Prop} (h:Ok (f x) (itQ f Q)):Ok (iter f x) Q:=by
 let⟨r,h1,D⟩:=h;cases r with
 |inr r=>exact⟨r,Co (n:=1) (by rw[iterN,h1]),D⟩
 |inl y=>
  let⟨z,A,L⟩:=D;unfold iter at A;split at A
  .exact⟨z,Co (n:=_+1) (by rw[iterN,h1];exact A),L⟩
  .cases A
def ace {σ:Type} {f:σ->M (σ⊕R)} {y:σ} {Q:R->Prop} (h:Ok (iter f y) Q):Ok (Z (.inl y)) (itQ f Q):=⟨_,rfl,h⟩
def acd {σ:Type} {f:σ->M (σ⊕R)} {r:R} {Q:R->Prop} (h:Ok (Z r) Q):Ok (Z (.inr r)) (itQ f Q):=by
 let⟨_,h1,z⟩:=h;cases h1;exact⟨_,rfl,z⟩
def aca {α:Type} {o:M (R⊕α)} {k:α->M R} {Q:R->Prop} (h:Ok o (jnQ k Q)):Ok (jn o k) Q:=by
 obtain⟨r,rfl,z⟩:=h;cases r with
 |inl r=>exact⟨r,rfl,z⟩
 |inr x=>exact z
def acb {α:Type} {r:R} {k:α->M R} {Q:R->Prop} (h:Ok (Z r) Q):Ok (Z (.inl r)) (jnQ k Q):=by
 let⟨_,h1,z⟩:=h;cases h1;exact⟨_,rfl,z⟩
def ac9 {α:Type} {x:α} {k:α->M R} {Q:R->Prop} (h:Ok (k x) Q):Ok (Z (.inr x)) (jnQ k Q):=⟨_,rfl,h⟩
def oQ {α:Type} (k:α->M R) (Q:R->Prop) (x:α):Prop:=Ok (k x) Q
def VH {α:Type} {o:M α} {k:α->M R} {Q:R->Prop} (h:Ok o (oQ k Q)):Ok (aB o k) Q:=aA h λ_ h=>h
def VG {α:Type} {x:α} {k:α->M R} {Q:R->Prop} (h:Ok (k x) Q):Ok (Z x) (oQ k Q):=⟨_,rfl,h⟩
variable {a:Int}
def Tl :dO a i=J↔0<=a/\a<i:=by simp[dO,dg,gC]
def To {b:Int}:dg a b=J↔a<=b:=by simp[dg]
def r8 {b:Int}:gC a b=J↔a<b:=by simp[gC]
def kg {b:Int}:gC a b=af↔b<=a:=by simp[gC]
def nH {b:Int}:dg a b=af↔b<a:=by simp[dg]
def aep :be i j=J↔i<=1099511627776/\i*j<=1099511627776:=by simp[be]
def cW {o:M R} {v:R} (h:Ok o (·=v)):o=Z v:=by let⟨y,h1,z⟩:=h;rw[h1,z]
section steps
variable {R:Type} {k t f:M R} {Q:R->Prop}
def aO (h0:0<=a) (h1:a<i) (z:Ok k Q):Ok (chk (dO a i) λ_=>k) Q:=bt (Tl.2 ⟨h0,h1⟩) z
def bN (h0:i<=1073741824) (h1:j<=1024) (z:Ok k Q):Ok (chk (be i j) λ_=>k) Q:=
 bt (aep.2 ⟨by omega,c9 (Nat.mul_le_mul h0 h1) (by omega)⟩) z
def a! {i j:Nat} (d:Ok k Q) (h:i<=1073741824:=by first|omega|(simp;omega)|(dsimp only;omega)) (g:j<=1024:=by omega):Ok (chk (be i j) λ_=>k) Q:=bN h g d
def cR {a:Bool} (h:Ok (chk a λ_=>chk b λ_=>k) Q):Ok (chk (a&&b) λ_=>k) Q:=by
 cases a with
 |true=>exact h
 |false=>let⟨y,h,_⟩:=h;cases h
def dm {b:Int} (h:a<=b) (z:Ok k Q):Ok (chk (dg a b) λ_=>k) Q:=bt (To.2 h) z
def a? {a b:Int} (d:Ok k Q) (h:a<=b:=by first|omega|(simp;omega)|(dsimp only;omega)):Ok (chk (dg a b) λ_=>k) Q:=dm h d
def Dl {b:Int} (h:a<b) (z:Ok k Q):Ok (chk (gC a b) λ_=>k) Q:=bt (r8.2 h) z
def acf {p:Prop} {i:Decidable p} (h:p) (z:Ok k Q):Ok (chk (decide p) λ_=>k) Q:=bt (aS h) z
def Cg {p:Prop} {i:Decidable p} (h:¬p) (z:Ok k Q):Ok (chk (!decide p) λ_=>k) Q:=bt (by simp[h]) z
def mQ (h:i=j) (z:Ok k Q):Ok (chk (ax i j) λ_=>k) Q:=bt (by subst h;exact fU i) z
def Ed (z:Ok k Q):Ok (chk J λ_=>k) Q:=z
def bQ {b:Int} (ht:a<b->Ok t Q) (hf:b<=a->Ok f Q):Ok (aI (gC a b) t f) Q:=aP (λh=>ht (r8.1 h)) (λh=>hf (kg.1 h))
def fO {b:Int} (ht:a<=b->Ok t Q) (hf:b<a->Ok f Q):Ok (aI (dg a b) t f) Q:=aP (λh=>ht (To.1 h)) (λh=>hf (nH.1 h))
def aK {p:Prop} {i:Decidable p} (ht:p->Ok t Q) (hf:¬p->Ok f Q):Ok (aI (decide p) t f) Q:=aP (λh=>ht (bF h)) (λh=>hf (qE h))
def cf {p:Prop} {i:Decidable p} (ht:¬p->Ok t Q) (hf:p->Ok f Q):Ok (aI (!decide p) t f) Q:=aP (λh=>ht (by simpa using h)) (λh=>hf (by simpa using h))
def dM (ht:b=af->Ok t Q) (hf:b=J->Ok f Q):Ok (aI (!b) t f) Q:=aP (λh=>ht (by simpa using h)) (λh=>hf (by simpa using h))
def aj4 (ht:Ok t Q):Ok (aI J t f) Q:=ht
def kB (hf:Ok f Q):Ok (aI af t f) Q:=hf
def cH (z:Ok k Q) (h0:0<=a:=by first|omega|(dsimp only;omega)) (h1:a<i:=by first|omega|(dsimp only;omega)):Ok (chk (dO a i) λ_=>k) Q:=aO h0 h1 z
def dB {b:Int} (ht:Ok t Q) (h:a<b:=by first|omega|(dsimp only[ay];omega)):Ok (aI (gC a b) t f) Q:=bQ (λ_=>ht) λg=>cu h (Bs.2 g)
def dw {b:Int} (hf:Ok f Q) (h:b<=a:=by first|omega|(dsimp only[ay];omega)):Ok (aI (gC a b) t f) Q:=bQ (λg=>cu g (Bs.2 h)) λ_=>hf
end steps
def ua:(∀(p:Prop) [Decidable p],(decide p=J)=p)/\(∀p:Prop,(True\/p)=True)/\(∀p:Prop,(p\/True)=True)/\(∀p:Prop,(True->p)=p)/\(∀p:Prop,(True/\p)=p)/\∀p:Prop,(p/\True)=p:=⟨λ_=>bG,true_or,or_true,λ_=>true_implies _,EO,and_true⟩
def Rb:(∀i:Decidable True,@decide True i=J)/\(∀i:Decidable False,@decide False i=af)/\(∀{R:Type} (t f:M R),aI J t f=t)/\(∀{R:Type} (t f:M R),aI af t f=f)/\(∀{α R:Type} (x:α) (k:α->M R),jn (Z (.inr x)) k=k x)/\(∀{α R:Type} (r:R) (k:α->M R),jn (Z (.inl r)) k=Z r)/\(∀{α R:Type} (x:α) (k:α->M R),aB (Z x) k=k x)/\(∀{α R:Type} (x:α) (k:α->M R),lt x k=k x)/\(!J)=af/\(!af)=J:=⟨eT,dL,λ_ _=>rfl,λ_ _=>rfl,λ_ _=>rfl,λ_ _=>rfl,λ_ _=>rfl,λ_ _=>rfl,rfl,rfl⟩
structure IM (p q:Prop):Prop where
 h:p->q
inductive OS {R:Type}:Option R->(R->Prop)->Prop where
 |cand {a b:Bool} {k:Option R} {Q:R->Prop} (h:Ok (chk a λ_=>chk b λ_=>k) Q):OS (chk (a&&b) λ_=>k) Q
 |dO {j:Int} {n:Nat} {k:Option R} {Q:R->Prop} (h0:0<=j) (h1:j<n) (hk:Ok k Q):OS (chk (dO j n) λ_=>k) Q
 |room {n b:Nat} {k:Option R} {Q:R->Prop} (h0:n<=1073741824) (h1:b<=1024) (hk:Ok k Q):OS (chk (be n b) λ_=>k) Q
 |cile {a b:Int} {k:Option R} {Q:R->Prop} (h:a<=b) (hk:Ok k Q):OS (chk (dg a b) λ_=>k) Q
 |cilt {a b:Int} {k:Option R} {Q:R->Prop} (h:a<b) (hk:Ok k Q):OS (chk (gC a b) λ_=>k) Q
 |cdec {p:Prop} {i:Decidable p} {k:Option R} {Q:R->Prop} (h:p) (hk:Ok k Q):OS (chk (decide p) λ_=>k) Q
 |cndec {p:Prop} {i:Decidable p} {k:Option R} {Q:R->Prop} (h:¬p) (hk:Ok k Q):OS (chk (!decide p) λ_=>k) Q
 |cbeq {a b:Nat} {k:Option R} {Q:R->Prop} (h:a=b) (hk:Ok k Q):OS (chk (ax a b) λ_=>k) Q
 |cT {k:Option R} {Q:R->Prop} (hk:Ok k Q):OS (chk J λ_=>k) Q
 |lt {α:Type} {x:α} {k:α->Option R} {Q:R->Prop} (h:Ok (k x) Q):OS (lt x k) Q
 |b1 {t f:Option R} {Q:R->Prop} (h:Ok t Q):OS (aI J t f) Q
 |b0 {t f:Option R} {Q:R->Prop} (h:Ok f Q):OS (aI af t f) Q
 |gC {a b:Int} {t f:Option R} {Q:R->Prop} (ht:IM (a<b) (Ok t Q)) (hf:IM (b<=a) (Ok f Q)):OS (aI (gC a b) t f) Q
 |dg {a b:Int} {t f:Option R} {Q:R->Prop} (ht:IM (a<=b) (Ok t Q)) (hf:IM (b<a) (Ok f Q)):OS (aI (dg a b) t f) Q
 |dec {p:Prop} {i:Decidable p} {t f:Option R} {Q:R->Prop} (ht:IM p (Ok t Q)) (hf:IM (¬p) (Ok f Q)):OS (aI (decide p) t f) Q
 |ndec {p:Prop} {i:Decidable p} {t f:Option R} {Q:R->Prop} (ht:IM (¬p) (Ok t Q)) (hf:IM p (Ok f Q)):OS (aI (!decide p) t f) Q
 |not {b:Bool} {t f:Option R} {Q:R->Prop} (ht:IM (b=af) (Ok t Q)) (hf:IM (b=J) (Ok f Q)):OS (aI (!b) t f) Q
 |aI {b:Bool} {t f:Option R} {Q:R->Prop} (ht:IM (b=J) (Ok t Q)) (hf:IM (b=af) (Ok f Q)):OS (aI b t f) Q
 |jc {α:Type} {o:Option (R⊕α)} {k:α->Option R} {Q:R->Prop} (h:Ok o λr=>match r with|.inl r=>Q r|.inr x=>Ok (k x) Q):OS (jn o k) Q
 |some {y:R} {Q:R->Prop} (h:Q y):OS (Z y) Q
def OS.ok {o:M R} {Q:R->Prop} (h:OS o Q):Ok o Q:=by
 cases h with
 |cand h=>exact cR h
 |dO a b h=>exact aO a b h
 |room a b h=>exact bN a b h
 |cile a h=>exact dm a h
 |cilt a h=>exact Dl a h
 |cdec a h=>exact acf a h
 |cndec a h=>exact Cg a h
 |cbeq a h=>exact mQ a h
 |cT h|lt h|b1 h|b0 h=>exact h
 |gC a b=>exact bQ a.h b.h
 |dg a b=>exact fO a.h b.h
 |dec a b=>exact aK a.h b.h
 |ndec a b=>exact cf a.h b.h
 |not a b=>exact dM a.h b.h
 |aI a b=>exact aP a.h b.h
 |jc h=>
  let⟨r,e,h⟩:=h;exact ij ⟨r,e,by cases r<;>exact h⟩
 |some h=>exact ak h
def bcT (t f:M R):aI J t f=t:=rfl
def bcF (t f:M R):aI af t f=f:=rfl
def jnr {α:Type} (x:α) (k:α->M R):jn (Z (.inr x)) k=k x:=rfl
def obs {α:Type} (x:α) (k:α->M R):aB (Z x) k=k x:=rfl
inductive Lx:Int->Prop where
 |k1:Lx 1
 |k2:Lx 2
 |k3:Lx 3
 |k4:Lx 4
 |k5:Lx 5
 |k6:Lx 6
 |k7:Lx 7
 |k8:Lx 8
 |k9:Lx 9
 |k10:Lx 10
 |k11:Lx 11
 |k12:Lx 12
 |k13:Lx 13
 |k14:Lx 14
 |k15:Lx 15
 |k16:Lx 16
 |k17:Lx 17
 |k18:Lx 18
 |k19:Lx 19
 |k20:Lx 20
 |k21:Lx 21
 |k22:Lx 22
 |k23:Lx 23
 |no {k:Int} (h:¬k=1/\¬k=2/\¬k=3/\¬k=4/\¬k=5/\¬k=6/\¬k=7/\¬k=8/\¬k=9/\¬k=10/\¬k=11/\¬k=12/\¬k=13/\¬k=14/\¬k=15/\¬k=16/\¬k=17/\¬k=18/\¬k=19/\¬k=20/\¬k=21/\¬k=22/\¬k=23) (h2:k<1\/23<k):Lx k
def kdI (k:Int):Lx k:=by
 by_cases h:k<1\/23<k
 .exact .no (by omega) h
 .have:k=1\/k=2\/k=3\/k=4\/k=5\/k=6\/k=7\/k=8\/k=9\/k=10\/k=11\/k=12\/k=13\/k=14\/k=15\/k=16\/k=17\/k=18\/k=19\/k=20\/k=21\/k=22\/k=23:=by omega
  repeat' (rcases this with rfl|this)
  all_goals first|(subst this;constructor)|constructor
def jA {n:Int} (h0: -9223372036854775808<=n:=by omega) (h1:n<=9223372036854775807:=by omega):bl .i64 n=n:=by
 rw[LD];unfold Q2;simp[dg,h0,h1]
def ig (h:i<9223372036854775807:=by omega):bl .i64 ((i:Int)+1)=((i+1:Nat):Int):=by rw[jA];omega
def tI {T:Ty} (xs:Y T.den) (i:Nat):geti _ xs (i:Int)=xs.getD i T.zero:=by unfold geti;simp
def Fm (xs:η) (i:Nat):geti aM xs (i:Int)=xs.getD i 0:=tI (T:=aM) xs i
def bP {T:Ty} {xs:Y T.den} {j:Int} (h0:0<=j) (h1:j<l! xs):geti _ xs j∈xs:=by
 unfold geti;rw[aw,aG (by omega)];exact FB _
def bT (xs:Y R) (j:Int) (x:R):l! (ch xs j x)=l! xs:=by unfold ch;simp
def FY {xs:Y R} {x y:R} (h:y∈ch xs a x):y∈xs\/y=x:=List.mem_or_eq_of_mem_set h
def gi {σ:Type} {f:σ->M (σ⊕R)} {Q:R->Prop} (n:Nat) (hn:n<=1000000) (I:Nat->σ->Prop) (h0:∀i x,i<n->I i x->Ok (f x) λr=>match r with|.inl y=>I (i+1) y|.inr r=>Q r) (h1:∀x,I n x->Ok (f x) λr=>match r with|.inl _=>False|.inr r=>Q r) {x:σ} (D:I 0 x):Ok (f_ f x) Q:=by
 have key:∀m i x,i+m=n->I i x->∃r,iterN f (m+1) x=Z r/\Q r:=by
  intro m;induction m with
  |zero=>
   intro i x hi D;have:i=n:=by omega
   subst this;let⟨r,A,z⟩:=h1 x D;cases r with
   |inl y=>exact z.elim
   |inr r=>exact⟨r,by rw[iterN,A],z⟩
  |succ m L=>
   intro i x hi D;let⟨r,A,z⟩:=h0 i x (by omega) D;cases r with
   |inl y=>
    let⟨r,g3,g4⟩:=L (i+1) y (by omega) z;exact⟨r,by rw[iterN,A];exact g3,g4⟩
   |inr r=>exact⟨r,zC (n:=1) (by rw[iterN,A]) (by omega),z⟩
 let⟨r,A,z⟩:=key n 0 x (by omega) D;exact⟨r,zC A (by omega),z⟩
def aj3 {σ:Type} {f:σ->M (σ⊕R)} {Q:R->Prop} (n:Nat) (μ:σ->Nat) (I:σ->Prop) (h:∀x,I x->Ok (f x) λr=>match r with|.inl y=>I y/\μ y<μ x|.inr r=>Q r) {x:σ} (L:μ x<=n/\n<=1000000) (A:I x):Ok (f_ f x) Q:=by
 have key:∀n x,μ x<n->I x->∃r,iterN f n x=Z r/\Q r:=by
  intro n;induction n with
  |zero=>intro x hm;omega
  |succ n D=>
   intro x hm A;let⟨r,h1,z⟩:=h x A;cases r with
   |inl y=>
    let⟨r,h3,h4⟩:=D y (by omega) z.1;exact⟨r,by rw[iterN,h1];exact h3,h4⟩
   |inr r=>exact⟨r,by rw[iterN,h1],z⟩
 let⟨r,h1,z⟩:=key (n+1) x (Nat.lt_succ_of_le L.1) A;exact⟨r,zC h1 (by omega),z⟩
abbrev z?:=Y (ζ×Int×Int×Bool×Int)×Y (ζ×Bool)×Y (ζ×Int)×Y ζ×Y ζ×Y π
abbrev WT:Type:=z?
abbrev SY:Type:=Y (Int×η)×Int×θ×Y (Int×Int×Bool)
def ak0 (a b:Int):rU (a,b)=Z (decide (0<=a/\a<b)):=by
 refine cW ?_;unfold rU kY aH;with_reducible repeat' first|apply OS.ok;constructor|refine IM.mk λ_=>?_
 .by_cases h:a<b<;>simp[*,gC]
 .simp;omega
def abc (l:η) (n:Int) (L:l! l<=1000000):uo (l,n)=Z (l.contains n):=by
 refine cW ?_;refine cD (l! l) (λi x=>x=(i:Int)/\∀k,k<i->l.getD k 0≠n) ?_ ?_ ⟨rfl,λk z=>by omega⟩
 .rintro i x hi ⟨rfl,D⟩;with_reducible repeat' first|apply OS.ok;constructor|refine IM.mk λ_=>?_
  all_goals try simp only[ay,ua] at*
  .omega
  .omega
  .rename_i h;rw[Fm]at h
   grind
  .rename_i h;rw[Fm]at h;refine ⟨ig,λk z=>?_⟩
   grind
  .omega
 .rintro x ⟨rfl,D⟩;with_reducible repeat' first|apply OS.ok;constructor|refine IM.mk λ_=>?_
  all_goals try simp only[ay,ua] at*
  .omega
  .omega
  .omega
  .omega
  .symm
   rw[So];intro A;rw[EM]at A;let⟨k,z,he⟩:=List.getElem_of_mem A
   grind
def iY {T:Ty} {xs:Y T.den} {p:T.den->Prop} (h:∀k:Nat,k<aj xs->p (geti _ xs (k:Int))):∀c∈xs,p c:=λc A=>by
 let⟨k,z,he⟩:=List.getElem_of_mem A;have:=h k z;rw[tI,aw,aG z,sH,he]at this;exact this
def UQ (w:WT) (s:SY) (hw:l! w.2.2.1<=1000000):Ok (s8 (w,s)) λb=>b=J->(∀c∈w.2.2.1,0<=c.2/\c.2<l! w.2.1)/\l! s.1=l! w.2.1/\l! s.2.2.1=l! w.2.2.2.1/\l! s.2.2.2=l! w.2.2.2.2.1:=by
 unfold s8 bf bw bH dQ bn bU bY aZ c7 aH cV;refine cD (l! w.2.2.1) (λi x=>x.1=(i:Int)/\x.2=(w,s)/\∀k:Nat,k<i->0<=(geti itK w.2.2.1 (k:Int)).2/\(geti itK w.2.2.1 (k:Int)).2<l! w.2.1) ?_ ?_ ⟨rfl,rfl,λk hk=>by omega⟩
 .rintro i ⟨x1,L⟩ hi ⟨A,z,D⟩;subst A z;with_reducible repeat' first|apply OS.ok;constructor|refine IM.mk λ_=>?_
  all_goals try simp only[ay,ua] at*
  all_goals first|omega|skip
  .intro h;cases h
  .intro h;cases h
  .refine ⟨ig,λk hk=>?_⟩
   grind
 .rintro⟨x1,L⟩ ⟨A,z,D⟩;subst A z;with_reducible repeat' first|apply OS.ok;constructor|refine IM.mk λ_=>?_
  all_goals try simp only[ay,ua] at*
  all_goals first|omega|skip
  refine aA (P:=λb=>b=J->l! s.1=l! w.2.1/\l! s.2.2.1=l! w.2.2.2.1/\l! s.2.2.2=l! w.2.2.2.2.1) ?_ ?_
  .with_reducible repeat' first|apply OS.ok;constructor|refine IM.mk λ_=>?_
   all_goals try simp only[ay,ua] at*
   .omega
   .intro h;cases h
   .intro h;cases h
  .intro b hb;with_reducible repeat' first|apply OS.ok;constructor|refine IM.mk λ_=>?_
   exact λh=>⟨iY (T:=itK) D,hb h⟩
structure NM (w:WT) (k o:Int):Prop where
 k1:1<=k
 k2:k<=23
 ce:k=3\/k=4->0<=o/\o<l! w.1
 lk:6<=k/\k<=11->0<=o/\o<l! w.2.1
 cd:16<=k/\k<=19->0<=o/\o<l! w.2.2.1
 th:k=20\/k=21->0<=o/\o<l! w.2.2.2.2.1
 fu:k=22\/k=23->0<=o/\o<l! w.2.2.2.1
 no:k=1\/k=2\/k=5\/(12<=k/\k<=15)->o= -1
 mu:k=6\/k=7->(geti tM w.2.1 o).2=af
 rw:8<=k/\k<=11->(geti tM w.2.1 o).2=J
def aja (w:WT) (k o:Int):Ok (wn (w,k,o)) λb=>b=J->NM w k o:=by
 unfold wn bf bw bH cE bn bY aZ aH;cases kdI k
 case no z _=>
  simp[z,bI,ey,Rb];exact ak nofun
 all_goals simp only[bI,ey,Rb,ak0]
 all_goals with_reducible repeat' first|apply OS.ok;constructor|refine IM.mk λ_=>?_
 all_goals try simp only[ay,ua] at*
 all_goals first|omega|(intro h;cases h;done)|(intro h;constructor<;>first|omega|(intro A;first|omega|(simpa using h)))
structure SB (n:Nat) (s:SY):Prop where
 n1:n<=100000
 lk:l! s.1<=1000
 rd:∀l∈s.1,l! l.2<=n
 dn:l! s.2.2.1<=1000
 th:l! s.2.2.2<=1000
structure EN (w:WT) (s:SY) (t k o:Int):Prop where
 nm:NM w k o
 t0:0<=t
 t1:t<l! w.2.2.2.2.1
 cd:∀c∈w.2.2.1,0<=c.2/\c.2<l! w.2.1
 e1:l! s.1=l! w.2.1
 e2:l! s.2.2.1=l! w.2.2.2.1
 e3:l! s.2.2.2=l! w.2.2.2.2.1
structure Yh (w:WT) (s:SY) (t k o:Int):Prop where
 b:k=1->(geti iI s.2.2.2 t).1=1
 wk:k=17->(geti iI s.2.2.2 t).1=4/\(geti iI s.2.2.2 t).2.1=o/\(geti eM s.1 (geti itK w.2.2.1 o).2).1= -1
 r:k≠1->k≠17->(geti iI s.2.2.2 t).1=2
 aq:k=6\/k=8\/k=10->(geti eM s.1 o).1= -1
 wr:k=10->(geti eM s.1 o).2.length=0
 ra:k=8->(geti eM s.1 o).2.contains t=af
 rl:k=7\/k=11->(geti eM s.1 o).1=t
 rr:k=9->(geti eM s.1 o).2.contains t=J
 xb:k=12->s.2.1= -1
 xe:k=13->s.2.1=t
 ab:k=14->(geti iI s.2.2.2 t).2.2=af
 ae:k=15->(geti iI s.2.2.2 t).2.2=J
 nt:k=16\/k=18\/k=19->(geti eM s.1 (geti itK w.2.2.1 o).2).1=t
 sp:k=20->¬o=t/\(geti iI s.2.2.2 o).1=0
 jo:k=21->¬o=t/\(geti iI s.2.2.2 o).1=5
 se:k=22->geti (.bool) s.2.2.1 o=af
 ge:k=23->geti (.bool) s.2.2.1 o=J
def Pt (w:WT) (s:SY) (D:SB i s) (hw:l! w.2.2.1<=1000) (t k o:Int):Ok (lK (w,s,t,k,o)) λb=>b=J->EN w s t k o/\Yh w s t k o:=by
 unfold lK bf bw bH c8 eD dQ bn jQ bY aZ aH;refine aX (λx=>x.2=(w,s)/\(x.1=af->EN w s t k o)) ?_ ?_
 .refine aA (UQ w s (by omega)) λb hb=>?_
  with_reducible repeat' first|apply OS.ok;constructor|refine IM.mk λ_=>?_
  .exact⟨rfl,nofun⟩
  .simp only[ak0,obs];with_reducible repeat' first|apply OS.ok;constructor|refine IM.mk λ_=>?_
   .exact⟨rfl,nofun⟩
   .refine aA (aja w k o) λc L=>?_
    with_reducible repeat' first|apply OS.ok;constructor|refine IM.mk λ_=>?_
    all_goals try simp only[ay,ua] at*
    rename_i h1 h2;obtain⟨f1,f2,f3,f4⟩:=hb h1;exact λh=>⟨L (by simpa using h),by omega,by omega,f1,f2,f3,f4⟩
 .rintro⟨x1,x2⟩ ⟨z,A⟩;dsimp only at z A;subst z;refine aP (λh=>ak λh=>by cases h) (λh=>?_);have he:=A h;obtain⟨nm,t0,t1,cd,e1,e2,e3⟩:=id he;obtain⟨_,_,ce,lk,cn,th,fu⟩:=nm;have hm:16<=k/\k<=19->0<=(geti itK w.2.2.1 o).2/\(geti itK w.2.2.1 o).2<l! w.2.1:=λh=>cd _ (bP (cn h).1 (cn h).2)
  have hH:6<=k/\k<=11->uo ((geti eM s.1 o).2,t)=Z ((geti eM s.1 o).2.contains t):=λh=>abc _ _ (by
   have:=D.rd _ (bP (T:=eM) (lk h).1 (by have:=(lk h).2;omega));have:=D.n1;omega)
  cases kdI k
  case no hk _=>omega
  all_goals simp only[bI,ey,Rb]
  all_goals with_reducible repeat' first|apply OS.ok;constructor|refine IM.mk λ_=>?_
  all_goals try simp only[hH (by omega),obs]
  all_goals with_reducible repeat' first|apply OS.ok;constructor|refine IM.mk λ_=>?_
  all_goals try simp only[ay,ua] at*
  all_goals first|omega|(intro h;cases h;done)|exact (hm ⟨by decide,by decide⟩).1|(rw [e1];exact (hm ⟨by decide,by decide⟩).2)|(intro h;refine ⟨he,?_⟩;constructor<;>first|omega|(intros;first|omega|assumption|(simpa using h)|exact⟨by assumption,by first|assumption|exact⟨by assumption,by assumption⟩⟩))|(refine ⟨he,?_⟩;constructor<;>first|omega|(intros;first|omega|assumption))
def nB:η->Int->η
 |[],n=>[n]
 |x::r,n=>if x<n then x::nB r n else if x=n then x::r else n::x::r
def If (n:Int):∀(i:Nat) (l:η),i<=l! l->(∀k,k<i->l.getD k 0<n)->nB l n=l.take i++nB (l.drop i) n
 |0,l,_,_=>by simp
 |i+1,[],h,_=>by simp at h
 |i+1,x::r,h,z=>by
  have h0:=z 0 (by omega);simp at h0;have:=If n i r (by grind) (λk A=>by have:=z (k+1) (by omega);simpa using this);rw[nB,aD h0,this,yD,KJ,gR]
def Jy (n:Int):∀l:η,l! (nB l n)<=l! l+1
 |[]=>by simp[nB]
 |x::r=>by
  have:=Jy n r;rw[nB];split
  .simp;omega
  .split<;>simp
def Mq {n y:Int}:∀{l:η},y∈nB l n↔y=n\/y∈l
 |[]=>by simp[nB]
 |x::r=>by
  have:=Mq (n:=n) (y:=y) (l:=r);rw[nB];split
  .grind
  .grind
def Ly:η->Prop
 |[]=>True
 |x::r=>(∀y∈r,x<y)/\Ly r
def Vz :∀{l:η},Ly l->Ly (nB l a)
 |[],_=>by simp[nB,Ly]
 |x::r,h=>by
  rw[nB];split
  .rename_i A;refine ⟨λy z=>?_,Vz h.2⟩;rcases Mq.1 z with rfl|z
   .exact A
   .exact h.1 y z
  .split
   .exact h
   .rename_i h1 D;refine ⟨λy z=>?_,h⟩;rcases aV.1 z with rfl|z
    .omega
    .have:=h.1 y z;omega
def amc (l:η) (n:Int) (hl:l! l<=1000000):y_ (l,n)=Z (nB l n):=by
 refine cW ?_;unfold y_ bU bR bY aZ c7 aH cV;have fin:∀i:Nat,i<=l! l->(∀k,k<i->l.getD k 0<n)->(i<l! l->¬l.getD i 0<n/\l.getD i 0≠n)->l.take i++[n]++l.drop i=nB l n:=λi hi L hn=>by
  rw[If n i l hi L];cases hd:l.drop i with
  |nil=>simp[nB]
  |cons y r=>
   have hlt:i<l! l:=by grind
   have A:l.getD i 0=y:=by
    rw[aw,<-List.head?_drop,hd];rfl
   let⟨h1,h2⟩:=hn hlt;rw[A]at h1 h2;rw[nB,av h1,av h2];simp
 refine cD (l! l) (λi x=>x=(i:Int)/\∀k,k<i->l.getD k 0<n) ?_ ?_ ⟨rfl,λk L=>by omega⟩
 .rintro i x hi ⟨rfl,z⟩;by_cases hlt:l.getD i 0<n
  .with_reducible repeat' first|apply OS.ok;constructor|refine IM.mk λ_=>?_
   all_goals try simp only[ay,ua] at*
   all_goals first|omega|skip
   .refine ⟨ig,λk L=>?_⟩
    grind
   next h=>exact cu hlt (Bs.2 h)
  .have key:l.getD i 0=n->nB l n=l:=λhe=>by
    rw[If n i l (by omega) z];cases hd:l.drop i with
    |nil=>have:=eR aj hd;simp at this;omega
    |cons y r=>
     have A:l.getD i 0=y:=by rw[aw,<-List.head?_drop,hd];rfl
     rw[A]at he;rw[nB,av (by omega),aD he,<-hd,EK]
   with_reducible repeat' first|apply OS.ok;constructor|refine IM.mk λ_=>?_
   all_goals try simp only[ay,ua] at*
   all_goals first|omega|skip
   next h=>exact cu h hlt
   .refine aA (P:=λr=>r=nB l n) ?_ λr D=>ak D
    with_reducible repeat' first|apply OS.ok;constructor|refine IM.mk λ_=>?_
    all_goals try simp only[ay,ua] at*
    all_goals first|omega|skip
    next h=>exact (key h).symm
    .simp;omega
    .simp;omega
    .simp;omega
    next h=>simpa using fin i (by omega) z (λ_=>⟨hlt,h⟩)
 .rintro x ⟨rfl,z⟩;with_reducible repeat' first|apply OS.ok;constructor|refine IM.mk λ_=>?_
  all_goals try simp only[ay,ua] at*
  all_goals first|omega|skip
  refine aA (P:=λr=>r=nB l n) ?_ λr D=>ak D
  with_reducible repeat' first|apply OS.ok;constructor|refine IM.mk λ_=>?_
  all_goals try simp only[ay,ua] at*
  all_goals first|omega|skip
  .simp;omega
  .simp;omega
  .simp;omega
  .simpa using fin (l! l) (by omega) z (λh=>by omega)
def yJ (a b:η):η:=b.foldl nB (a.foldl nB [])
def zI:∀(b acc:η),l! (b.foldl nB acc)<=l! acc+l! b
 |[],acc=>by simp
 |x::r,acc=>by
  have:=zI r (nB acc x);have:=Jy x acc;rw[Aq,kn];omega
def Ny:∀{b acc:η},Ly acc->Ly (b.foldl nB acc)
 |[],_,h=>h
 |x::r,acc,h=>by rw[Aq];exact Ny (Vz h)
def Nx :∀{b acc:η},a∈b.foldl nB acc↔a∈acc\/a∈b
 |[],acc=>by simp
 |x::r,acc=>by
  rw[Aq,Nx,Mq]
  grind
def U0 (a b:η):Ly (yJ a b):=Ny (Ny trivial)
variable {A:η}
def FO {b:η} {y:Int}:y∈yJ A b↔y∈A\/y∈b:=by unfold yJ;rw[Nx,Nx];simp
def ahw (a b:η):l! (yJ a b)<=l! a+l! b:=by
 have:=zI b (a.foldl nB []);have:=zI a [];unfold yJ;simp at *;omega
def RA {acc:η} (hi:i<l! A):(A.take (i+1)).foldl nB acc=nB ((A.take i).foldl nB acc) (A.getD i 0):=by
 rw[pY hi,dT,aw,aG hi];rfl
def Yg (a b:η) (ha:l! a<=400000) (hb:l! b<=400000):wq (a,b)=Z (yJ a b):=by
 refine cW ?_;refine cD (l! a) (λi x=>x.2=(i:Int)/\x.1=(a.take i).foldl nB []) ?_ ?_ ⟨rfl,rfl⟩
 .rintro i ⟨D,A⟩ hi ⟨h1,z⟩;subst h1 z;have L:l! ((a.take i).foldl nB [])<=1000000:=by have:=zI (a.take i) [];simp at *;omega
  with_reducible repeat' first|apply OS.ok;constructor|refine IM.mk λ_=>?_
  all_goals try simp[ay,ua] at*
  all_goals first|omega|skip
  refine bc (amc _ _ L) (ak ?_);refine ⟨ig,?_⟩;rw[Fm,RA hi]
 .rintro⟨D,A⟩ ⟨h1,z⟩;subst h1 z;rw[cQ];have hla:=zI a [];with_reducible repeat' first|apply OS.ok;constructor|refine IM.mk λ_=>?_
  all_goals try simp[ay,ua] at*
  all_goals first|omega|skip
  refine aA (P:=λr=>r=yJ a b) ?_ λr hr=>ak hr
  refine cD (l! b) (λi x=>x.2=(i:Int)/\x.1=(b.take i).foldl nB (a.foldl nB [])) ?_ ?_ ⟨rfl,rfl⟩
  .rintro i ⟨D,A⟩ hi ⟨h1,z⟩;subst h1 z;have L:l! ((b.take i).foldl nB (a.foldl nB []))<=1000000:=by have:=zI (b.take i) (a.foldl nB []);simp at *;omega
   with_reducible repeat' first|apply OS.ok;constructor|refine IM.mk λ_=>?_
   all_goals first|omega|skip
   refine bc (amc _ _ L) (ak ?_);refine ⟨ig,?_⟩;rw[Fm,RA hi]
  .rintro⟨D,A⟩ ⟨h1,z⟩;subst h1 z;rw[cQ];with_reducible repeat' first|apply OS.ok;constructor|refine IM.mk λ_=>?_
   all_goals first|omega|rfl
def PK (c:Int) (x:d?):Bool:=decide (x.1=3)&&decide (x.2.1=c)
def wl (th:Y d?) (c:Int):Nat->η
 |0=>[]
 |i+1=>if PK c (geti iI th (i:Int)) then wl th c i++[(i:Int)] else wl th c i
def yc (th:Y d?) (c:Int):∀i,l! (wl th c i)<=i
 |0=>bK _
 |i+1=>by have:=yc th c i;rw[wl];split<;>simp<;>omega
def sY {th:Y d?} {c u:Int}:∀{i:Nat},u∈wl th c i↔0<=u/\u<i/\PK c (geti iI th u)=J
 |0=>by simp[wl];omega
 |i+1=>by
  have z:= @sY th c u i;rw[wl]
  grind
variable {F:Y (Int×Int×Bool)}
def awx (h1:(geti iI F (i:Int)).1=3) (z:(geti iI F (i:Int)).2.1=a):wl F a (i+1)=wl F a i++[(i:Int)]:=by
 rw[wl,aD];unfold PK;rw[h1,z];simp
def ara (h1:¬(geti iI F (i:Int)).1=3):wl F a (i+1)=wl F a i:=by
 rw[wl,av];unfold PK;rw[cK h1];simp
def ar9 (h1:¬(geti iI F (i:Int)).2.1=a):wl F a (i+1)=wl F a i:=by
 rw[wl,av];unfold PK;rw[cK h1];simp
def ab4 (s:SY) (c:Int) (A:l! s.2.2.2<=1000):oZ (s,c)=Z (wl s.2.2.2 c (l! s.2.2.2)):=by
 refine cW ?_;unfold oZ c8 bn bU bR bY aZ c7 aH cV;refine cD (l! s.2.2.2) (λi x=>x=((i:Int),s,wl s.2.2.2 c i)) ?_ ?_ rfl
 .rintro i x hi rfl;have D:=yc s.2.2.2 c i;with_reducible repeat' first|apply OS.ok;constructor|refine IM.mk λ_=>?_
  all_goals try simp only[ay,ua] at*
  all_goals first|omega|skip
  all_goals first|(simp;omega)|skip
  next h1 z=>rw[awx h1 z,ig]
  next h1 z=>rw[ar9 z,ig]
  next h1=>rw[ara h1,ig]
 .rintro x rfl;with_reducible repeat' first|apply OS.ok;constructor|refine IM.mk λ_=>?_
  all_goals try simp[ay,ua] at*
  all_goals first|omega|rfl
def wo (l:η) (n:Int):η:=l.filter λx=> !decide (x=n)
def YC (l:η) (n:Int) (A:l! l<=1000000):rT (l,n)=Z (wo l n):=by
 refine cW ?_;unfold rT bU jQ bR bY aZ c7 aH cV;refine cD (l! l) (λi x=>x=((i:Int),wo (l.take i) n)) ?_ ?_ rfl
 .rintro i x hi rfl;have z:l! (wo (l.take i) n)<=i:=c9 (EL ..) (yF ..);have ht:wo (l.take (i+1)) n=if geti aM l (i:Int)=n then wo (l.take i) n else wo (l.take i) n++[geti aM l (i:Int)]:=by
   unfold wo;rw[pY hi,List.filter_append,Fm,aw,aG hi]
   grind
  with_reducible repeat' first|apply OS.ok;constructor|refine IM.mk λ_=>?_
  all_goals try simp only[ay,ua] at*
  all_goals first|omega|skip
  .simp;omega
  next h=>rw[ht,av h,ig]
  next h=>rw[ht,aD h,ig]
 .rintro x rfl;with_reducible repeat' first|apply OS.ok;constructor|refine IM.mk λ_=>?_
  all_goals try simp[ay,ua] at*
  all_goals first|omega|(rw [cQ])
def pl {T:Ty} {xs:Y T.den} (hi:i<aj xs):dx (i+1) xs=dx i xs++[geti _ xs (i:Int)]:=by
 rw[pY hi,tI,aw,aG hi];rfl
def aec (s:SY) (z:SB i s):iT s=Z (s.2.1,s.1,s.2.2.1,s.2.2.2):=by
 refine cW ?_;let⟨A,s2,L,D⟩:=s;have hn:=z.n1;have g1:=z.lk;have g2:=z.dn;have g3:=z.th;dsimp only at g1 g2 g3;unfold iT bf bw bH c8 dQ bU bR bY aZ c7 aH cV;with_reducible repeat' first|apply OS.ok;constructor|refine IM.mk λ_=>?_
 .simp;omega
 .omega
 .simp;omega
 .omega
 refine cD (l! A) (λn x=>x=((n:Int),(A,s2,L,D),0,s2,A.take n,L,D)) ?_ ?_ ?_
 .rintro n x hi rfl;have hg:=z.rd _ (bP (T:=eM) (xs:=A) (j:=(n:Int)) (by omega) (by omega));with_reducible repeat' first|apply OS.ok;constructor|refine IM.mk λ_=>?_
  all_goals try simp only[ay,ua] at*
  all_goals first|omega|skip
  .simp;omega
  .simp;omega
  .rw[ig,pl (T:=eM) hi];rfl
 .rintro x rfl;with_reducible repeat' first|apply OS.ok;constructor|refine IM.mk λ_=>?_
  all_goals try simp only[ay,ua] at*
  all_goals first|omega|skip
  simp
 .simp
def KE (s:SY) (c:Int) (D:l! s.2.2.2<=1000):mo ((s.2.1,c),s.1,s.2.2.1,s.2.2.2)=Z (wl s.2.2.2 c (l! s.2.2.2)):=by
 refine cW ?_;refine aA (P:=λy=>y=(wl s.2.2.2 c (l! s.2.2.2),s.1,s.2.2.1,s.2.2.2)) ?_ λy A=>by subst A;exact ao3 rfl (ak rfl)
 unfold nL bf bw bH c8 dQ bn bU bR kK aZ c7 aH cV;refine cD (l! s.2.2.2) (λi x=>x=((i:Int),s.1,s.2.2.1,s.2.2.2,s.2.1,wl s.2.2.2 c i)) ?_ ?_ rfl
 .rintro i x hi rfl;have L:=yc s.2.2.2 c i;with_reducible repeat' first|apply OS.ok;constructor|refine IM.mk λ_=>?_
  all_goals try simp only[ay,ua] at*
  all_goals first|omega|skip
  all_goals first|(simp;omega)|skip
  next h1 z=>rw[awx h1 z,ig]
  next h1 z=>rw[ar9 z,ig]
  next h1=>rw[ara h1,ig]
 .rintro x rfl;with_reducible repeat' first|apply OS.ok;constructor|refine IM.mk λ_=>?_
  all_goals try simp[ay,ua] at*
  all_goals first|omega|rfl
structure AP (n:Nat) (s y:SY):Prop where
 a1:l! y.1=l! s.1
 a2:l! y.2.2.1=l! s.2.2.1
 a3:l! y.2.2.2=l! s.2.2.2
 rd:∀l∈y.1,l! l.2<=n+1
def AP.toSB {s y:SY} (h:AP i s y) (z:SB i s) (A:i+1<=100000):SB (i+1) y:=
 ⟨A,by rw[h.a1];exact z.lk,h.rd,by rw[h.a2];exact z.dn,by rw[h.a3];exact z.th⟩
def AP.same {s:SY} (z:SB i s) (x:Int) (d:θ) (t:Y d?) (hd:l! d=l! s.2.2.1) (ht:l! t=l! s.2.2.2):AP i s (s.1,x,d,t):=
 ⟨rfl,hd,ht,λl A=>gg (z.rd l A)⟩
def AP.set {s:SY} (z:SB i s) (j a:Int) (r:η) (A:l! r<=i+1) (x:Int) (d:θ) (t:Y d?) (hd:l! d=l! s.2.2.1) (ht:l! t=l! s.2.2.2):AP i s (ch s.1 j (a,r),x,d,t):=
 ⟨bT _ _ _,hd,ht,λl D=>by
   rcases FY D with h|rfl
   .exact gg (z.rd l h)
   .exact A⟩
def Bv (th:Y d?) (t st:Int):Y d?:=ch th t (st,(geti iI th t).2)
def VF (lk:Y k!) (o t:Int):Y k!:=ch lk o (t,(geti eM lk o).2)
def rdP (lk:Y k!) (o:Int) (l:η):Y k!:=ch lk o ((geti eM lk o).1,l)
def cdP (th:Y d?) (t c:Int):Y d?:=ch th t ((geti iI th t).1,c,(geti iI th t).2.2)
def atP (th:Y d?) (t:Int) (b:Bool):Y d?:=ch th t ((geti iI th t).1,(geti iI th t).2.1,b)
def Gj (th:Y d?) (l:η):Y d?:=l.foldl (λx u=>Bv x u 4) th
def EC (l:η) (u:Int):Int:=if (l! l)=0 then -1 else if l.contains u then u else geti aM l 0
def muP (w:WT) (o:Int):Int:=(geti itK w.2.2.1 o).2
def pV (w:WT) (s:SY) (t k o u:Int):SY×Int:=
 if k=1 then ((s.1,s.2.1,s.2.2.1,Bv s.2.2.2 t 2),0)
 else if k=2 then ((s.1,s.2.1,s.2.2.1,Bv s.2.2.2 t 5),0)
 else if k=6\/k=10 then ((VF s.1 o t,s.2),0)
 else if k=7\/k=11 then ((VF s.1 o (-1),s.2),0)
 else if k=8 then ((rdP s.1 o (yJ (geti eM s.1 o).2 [t]),s.2),0)
 else if k=9 then ((rdP s.1 o (wo (geti eM s.1 o).2 t),s.2),0)
 else if k=12 then ((s.1,t,s.2.2),0)
 else if k=13 then ((s.1,-1,s.2.2),0)
 else if k=14 then ((s.1,s.2.1,s.2.2.1,atP s.2.2.2 t J),0)
 else if k=15 then ((s.1,s.2.1,s.2.2.1,atP s.2.2.2 t af),0)
 else if k=16 then ((VF s.1 (muP w o) (-1),s.2.1,s.2.2.1,cdP (Bv s.2.2.2 t 3) t o),0)
 else if k=17 then ((VF s.1 (muP w o) t,s.2.1,s.2.2.1,cdP (Bv s.2.2.2 t 2) t 0),0)
 else if k=18 then (if (l! (wl s.2.2.2 o (l! s.2.2.2)))=0 then (s,-1) else ((s.1,s.2.1,s.2.2.1,Bv s.2.2.2 (EC (wl s.2.2.2 o (l! s.2.2.2)) u) 4),EC (wl s.2.2.2 o (l! s.2.2.2)) u))
 else if k=19 then ((s.1,s.2.1,s.2.2.1,Gj s.2.2.2 (wl s.2.2.2 o (l! s.2.2.2))),(l! (wl s.2.2.2 o (l! s.2.2.2)):Int))
 else if k=20 then ((s.1,s.2.1,s.2.2.1,Bv s.2.2.2 o 1),0)
 else if k=22 then ((s.1,s.2.1,ch s.2.2.1 o J,s.2.2.2),0)
 else (s,0)
def LR (l:η):∀th,l! (Gj th l)=l! th:=by
 induction l with
 |nil=>intro th;rfl
 |cons x r z=>intro th;unfold Gj;rw[Aq];exact (z _).trans (bT ..)
def ajb (hi:i<l! A):Gj F (A.take (i+1))=Bv (Gj F (A.take i)) (geti aM A (i:Int)) 4:=by
 unfold Gj;rw[pY hi,dT,Fm,aw,aG hi];rfl
def L2 (u:Int) (z:¬l! A=0):EC A u∈A:=by
 unfold EC;rw[av z];split
 next h=>exact EM.1 h
 .exact bP (T:=aM) (by omega) (by omega)
def Yw (w:WT) (s:SY) (z:SB i s) (hw:l! w.2.2.1<=1000) (t k o u:Int):Ok (qK (w,s,t,k,o,u)) λy=>(y.2.2=J->EN w s t k o/\Yh w s t k o/\AP i s y.1/\(y.1,y.2.1)=pV w s t k o u)/\(y.2.2=af->y.1=([],0,[],[]))/\(lK (w,s,t,k,o)=Z J->y.2.2=J):=by
 unfold qK bf bw bH cE c8 eD dQ hY ck bn bU bY kK aZ c7 aH cV;obtain⟨b,hb0,hb⟩:=Pt w s z hw t k o;refine bc hb0 ?_;refine dM (λh=>ak ⟨nofun,λ_=>rfl,λh2=>(by rw[hb0,h]at h2;cases h2)⟩) (λh=>?_);obtain⟨he,hry⟩:=hb h;refine bc (aec s z) ?_;suffices hmain:Ok _ _ from aX (λx=>AP i s (x.2.2.2.1,x.2.1,x.2.2.2.2)/\((x.2.2.2.1,x.2.1,x.2.2.2.2),x.1)=pV w s t k o u) hmain λx hx=>ak ⟨λ_=>⟨he,hry,hx⟩,nofun,λ_=>rfl⟩
 obtain⟨nm,t0,t1,cd,e1,e2,e3⟩:=id he;obtain⟨_,_,ce,lk,cn,th,fu⟩:=nm;have hn:=z.n1;have hlk:=z.lk;have hm:16<=k/\k<=19->0<=(geti itK w.2.2.1 o).2/\(geti itK w.2.2.1 o).2<l! w.2.1:=λh=>cd _ (bP (cn h).1 (cn h).2)
 have L:∀j:Int,0<=j->j<l! s.1->(geti eM s.1 j).2.length<=i:=λj h0 h1=>z.rd _ (bP (T:=eM) h0 h1)
 cases kdI k
 case no hk _=>omega
 all_goals simp only[bI,ey,Rb]
 all_goals with_reducible repeat' first|apply OS.ok;constructor|refine IM.mk λ_=>?_
 all_goals try simp only[ay,ua] at*
 all_goals try rw[bT]
 all_goals first|omega|exact (hm ⟨by decide,by decide⟩).1|exact e1▸(hm ⟨by decide,by decide⟩).2|exact⟨AP.same z _ _ _ rfl rfl,rfl⟩|exact⟨AP.same z _ _ _ rfl (bT _ _ _),rfl⟩|exact⟨AP.same z _ _ _ (bT _ _ _) rfl,rfl⟩|skip
 all_goals try exact⟨AP.set z _ _ _ (gg (L o (by omega) (by omega))) _ _ _ rfl rfl,rfl⟩
 .have:=L o (by omega) (by omega);refine bc (Yg _ _ (c9 this (by have:=z.n1;omega)) (by simp)) ?_;with_reducible repeat' first|apply OS.ok;constructor|refine IM.mk λ_=>?_
  all_goals try simp only[ay,ua] at*
  all_goals first|omega|skip
  exact⟨AP.set z _ _ _ (by have:=ahw (geti eM s.1 o).2 [t];simp at this;omega) _ _ _ rfl rfl,rfl⟩
 .have:=L o (by omega) (by omega);have hl:l! (wo (geti eM s.1 o).2 t)<=(geti eM s.1 o).2.length:=EL ..;refine bc (YC _ _ (by omega)) ?_;with_reducible repeat' first|apply OS.ok;constructor|refine IM.mk λ_=>?_
  all_goals try simp only[ay,ua] at*
  all_goals first|omega|skip
  exact⟨AP.set z _ _ _ (c9 hl (by omega)) _ _ _ rfl rfl,rfl⟩
 .exact⟨AP.set z _ _ _ (gg (L _ (hm ⟨by decide,by decide⟩).1 (by rw[e1];exact (hm ⟨by decide,by decide⟩).2))) _ _ _ rfl (by rw[bT,bT]),rfl⟩
 .exact⟨AP.set z _ _ _ (gg (L _ (hm ⟨by decide,by decide⟩).1 (by rw[e1];exact (hm ⟨by decide,by decide⟩).2))) _ _ _ rfl (by rw[bT,bT]),rfl⟩
 .refine bc (KE s o z.th) ?_;have hth:=z.th;have hll:=yc s.2.2.2 o (l! s.2.2.2);have hml:∀u∈wl s.2.2.2 o (l! s.2.2.2),0<=u/\u<l! s.2.2.2:=λu D=>⟨(sY.1 D).1,(sY.1 D).2.1⟩
  have hap:pV w s t 18 o u=if (l! (wl s.2.2.2 o (l! s.2.2.2)))=0 then (s,-1) else ((s.1,s.2.1,s.2.2.1,Bv s.2.2.2 (EC (wl s.2.2.2 o (l! s.2.2.2)) u) 4),EC (wl s.2.2.2 o (l! s.2.2.2)) u):=rfl
  unfold EC at hap;revert hll hml hap;generalize wl s.2.2.2 o (l! s.2.2.2)=l;intro hll hml hap;with_reducible repeat' first|apply OS.ok;constructor|refine IM.mk λ_=>?_
  all_goals try simp only[ay,ua] at*
  all_goals first|omega|skip
  .have A:=hml _ (bP (T:=aM) (xs:=l) (j:=0) (by omega) (by omega));rw[av (by omega),av (by omega)]at hap;simp only[abc l u (by omega),obs];refine aP (λhc=>?_) λhc=>?_
   .have D:=hml u (EM.1 hc);rw[hc,aD rfl]at hap;refine ak (aO D.1 D.2 (aO D.1 D.2 (ak ⟨AP.same z _ _ _ rfl (bT ..),?_⟩)));rw[hap];rfl
   .rw[hc,av (by decide)]at hap;refine ak (aO A.1 A.2 (aO A.1 A.2 (ak ⟨AP.same z _ _ _ rfl (bT ..),?_⟩)));rw[hap];rfl
  .rw[aD (by omega)]at hap;exact⟨AP.same z _ _ _ rfl rfl,hap.symm⟩
 .refine bc (KE s o z.th) ?_;have hth:=z.th;have hll:=yc s.2.2.2 o (l! s.2.2.2);have hml:∀u∈wl s.2.2.2 o (l! s.2.2.2),0<=u/\u<l! s.2.2.2:=λu D=>⟨(sY.1 D).1,(sY.1 D).2.1⟩
  have hap:pV w s t 19 o u=((s.1,s.2.1,s.2.2.1,Gj s.2.2.2 (wl s.2.2.2 o (l! s.2.2.2))),(l! (wl s.2.2.2 o (l! s.2.2.2)):Int)):=rfl;rw[hap];clear hap;generalize wl s.2.2.2 o (l! s.2.2.2)=l at hll hml ⊢;refine cD (l! l) (λn x=>x=((n:Int),s.2.1,0,s.1,s.2.2.1,Gj s.2.2.2 (l.take n))) ?_ ?_ rfl
  .rintro n x hi rfl;have A:=hml _ (bP (T:=aM) (xs:=l) (j:=(n:Int)) (by omega) (by omega));have hq:=LR (l.take n) s.2.2.2;with_reducible repeat' first|apply OS.ok;constructor|refine IM.mk λ_=>?_
   all_goals try simp only[ay,ua] at*
   all_goals first|omega|skip
   rw[ig,ajb hi];rfl
  .rintro x rfl;rw[cQ];with_reducible repeat' first|apply OS.ok;constructor|refine IM.mk λ_=>?_
   all_goals try simp only[ay,ua] at*
   all_goals first|omega|skip
   exact AP.same z _ _ _ rfl (LR ..)
abbrev SN:Type:=SY×η×x!
abbrev R!:=Int×Int×Int×Int×Int×x!
abbrev ET:Type:=R!
def axi (a b:Int):Gk (a,b)=Z (decide (0<=a/\a<b)):=ak0 a b
structure NB (n:Nat) (s:SN):Prop where
 sb:SB n s.1
 c:l! s.2.1<=1000
 f:l! s.2.2.1<=1000
 k:l! s.2.2.2<=1000
structure SP (n:Nat) (s y:SN):Prop where
 ap:AP n s.1 y.1
 c:l! y.2.1=l! s.2.1
 f:l! y.2.2.1=l! s.2.2.1
 k:l! y.2.2.2=l! s.2.2.2
def SP.NB {s y:SN} (h:SP i s y) (z:NB i s) (A:i+1<=100000):NB (i+1) y:=
 ⟨h.ap.toSB z.sb A,by rw[h.c];exact z.c,by rw[h.f];exact z.f,by rw[h.k];exact z.k⟩
def sn0:SN:=(([],0,[],[]),[],[],[])
structure F16 (w:WT) (s:SN):Prop where
 c:l! s.2.1=l! w.1
 f:l! s.2.2.1=l! w.2.2.2.1
 k:l! s.2.2.2=l! w.2.2.2.2.1
def ah9 (w:WT) (s:SN) (z:l! w.2.2.1<=1000):Ok (yW (w,s)) λb=>b=J->F16 w s:=by
 unfold yW bf bw bH eD bn aZ aH;refine ij (aA (UQ w s.1 (by omega)) λb A=>?_);with_reducible repeat' first|apply OS.ok;constructor|refine IM.mk λ_=>?_
 all_goals try simp[ay,ua] at*
 all_goals first|(intro h;constructor<;>omega)|(intro h;cases h;done)
def adw:∀(l:η),(∀k:Nat,k+1<l! l->l.getD k 0<l.getD (k+1) 0)->Ly l
 |[],_=>trivial
 |[x],_=>⟨λy L=>(by cases L),trivial⟩
 |x::y::r,h=>by
  have D:=adw (y::r) λk hk=>by have:=h (k+1) (by grind);simpa using this
  have h0:=h 0 (by simp);simp at h0;refine ⟨λz A=>?_,D⟩;rcases aV.1 A with rfl|A
  .exact h0
  .have:=D.1 z A;omega
structure AN (c:Int) (l:η):Prop where
 a:Ly l
 m:∀x:Int,x∈l->1<=x/\x<c
def L4:∀(l:η) (z hi:Int),Ly l->(∀y∈l,z<=y/\y<hi)->(l! l:Int)<=max 0 (hi-z)
 |[],z,hi,_,_=>by simp;omega
 |x::r,z,hi,h,hm=>by
  have h1:=hm x (cX ..);have D:=L4 r (x+1) hi h.2 λy A=>⟨by have:=h.1 y A;omega,(hm y (bS _ A)).2⟩
  grind
def AN.len (h:AN a A):(l! A:Int)<=max 0 a:=by
 have:=L4 A 1 a h.a h.m;omega
def atv (l:∀k:Nat,k<i->1<=geti aM A (k:Int)/\geti aM A (k:Int)<a) (ha:∀k:Nat,k+1<i->A.getD k 0<A.getD (k+1) 0):(i:Int)<=max 0 a:=by
 have key:∀k:Nat,k<i->(k:Int)+1<=A.getD k 0:=by
  intro k;induction k with
  |zero=>intro D;have:=(l 0 D).1;exact this
  |succ k ih=>grind
 rcases Nat.eq_zero_or_pos i with z|z
 .omega
 .have h1:=key (i-1) (by omega);have L:=(l (i-1) (by omega)).2;rw[Fm]at L
  grind
def MI (l:η) (c:Int) (hl:l! l<=1000000000\/c<=1000000000):Ok (rS (l,c)) λb=>b=J->AN c l:=by
 refine cD (l! l) (λi x=>x=(i:Int)/\(∀k:Nat,k<i->1<=geti aM l (k:Int)/\geti aM l (k:Int)<c)/\∀k:Nat,k+1<i->l.getD k 0<l.getD (k+1) 0) ?_ ?_ ⟨rfl,λk z=>by omega,λk z=>by omega⟩
 .rintro i x hi ⟨rfl,A,D⟩;have hbd:i<=1000000000:=by
   have:=atv A D;omega
  have L:0<(i:Int)->bl .i64 ((i:Int)-1)=((i-1:Nat):Int):=λh=>by rw[jA];omega
  have hq:(0<i->l.getD (i-1) 0<l.getD i 0)->1<=geti aM l (i:Int)/\geti aM l (i:Int)<c->bl .i64 ((i:Int)+1)=((i+1:Nat):Int)/\(∀k:Nat,k<i+1->1<=geti aM l (k:Int)/\geti aM l (k:Int)<c)/\∀k:Nat,k+1<i+1->l.getD k 0<l.getD (k+1) 0:=λg1 g2=>by
   refine ⟨ig,λk z=>?_,λk z=>?_⟩
   .grind
   .grind
  with_reducible repeat' first|apply OS.ok;constructor|refine IM.mk λ_=>?_
  all_goals try simp only[ay,ua] at*
  all_goals first|omega|(intro h;cases h;done)|(rw [L (by omega)];omega)|skip
  .rename_i h1 h2 h3 h4;rw[L h3,Fm,Fm]at h4
   grind
  .grind
 .rintro x ⟨rfl,A,D⟩;with_reducible repeat' first|apply OS.ok;constructor|refine IM.mk λ_=>?_
  all_goals try simp only[ay,ua] at*
  all_goals first|omega|skip
  exact⟨adw l λk z=>D k z,iY (T:=aM) A⟩
structure VA (w:WT) (sy:SY) (ce fu:η) (t k o v:Int):Prop where
 ld:k=3->v=geti aM ce o
 gt:k=23->v=geti aM fu o
 br:k=5->v=0\/v=1
 el:¬k=3->¬k=23->¬k=5->¬k=4->¬k=22->v=(pV w sy t k o v).2
def ite2 {c:Prop} [Decidable c] {a b:SY×Int} (A:a.2=0) (z:b.2=0):(if c then a else b).2=0:=by by_cases h:c<;>simp[h,A,z]
def ase (w:WT) (z:SY) (t k o u:Int) (h1:¬k=18) (A:¬k=19):(pV w z t k o u).2=0:=by
 unfold pV;rw[av h1,av A];repeat (first|exact rfl|refine ite2 rfl ?_)
def ae0 (w:WT) (z:SY) (t k o u A:Int) (h1:¬k=18):pV w z t k o u=pV w z t k o A:=by
 unfold pV;rw[av h1,av h1]
def Fv (w:WT) (z:SY) (t o u:Int):pV w z t 18 o u=if (l! (wl z.2.2.2 o (l! z.2.2.2)))=0 then (z,-1) else ((z.1,z.2.1,z.2.2.1,Bv z.2.2.2 (EC (wl z.2.2.2 o (l! z.2.2.2)) u) 4),EC (wl z.2.2.2 o (l! z.2.2.2)) u):=rfl
def aug (w:WT) (z:SY) (t o u:Int):(pV w z t 19 o u).2=(l! (wl z.2.2.2 o (l! z.2.2.2)):Int):=rfl
def ahv (w:WT) (s:SN) (hs:NB i s) (hf:F16 w s) (e:ET) (he:EN w s.1 e.1 e.2.1 e.2.2.1):Ok (AD (s,e)) λb=>b=J->VA w s.1 s.2.1 s.2.2.1 e.1 e.2.1 e.2.2.1 e.2.2.2.1:=by
 let⟨t,k,o,v,si,de,fr⟩:=e;let⟨D,s2,s3,s4⟩:=s;let⟨nm,t0,t1,cd,e1,e2,e3⟩:=he;let⟨_,_,ce,lk,cn,th,fu,_,_,_⟩:=nm;let⟨f1,f2,f3⟩:=hf;have hth:=hs.sb.th;dsimp only at*
 have hW:=ab4 D o hth;have hWl:=yc D.2.2.2 o (l! D.2.2.2);refine aK (λh=>?_) λn3=>?_
 .have h:k=3:=h;let⟨c0,c1⟩:=ce (.inl h);exact aO c0 (by grind) (aT (ak λA=>⟨λ_=>bF A,λz=>by omega,λz=>by omega,λz=>(z h).elim⟩))
 refine aK (λh=>?_) λL=>?_
 .have h:k=23:=h;let⟨c0,c1⟩:=fu (.inr h);exact aO c0 (by grind) (aT (ak λA=>⟨λz=>by omega,λ_=>bF A,λz=>by omega,λ_ z=>(z h).elim⟩))
 refine aK (λh=>?_) λn5=>?_
 .have h:k=5:=h;exact ij (aK (λA=>ak (ak λ_=>⟨λz=>by omega,λz=>by omega,λ_=>.inl A,λ_ _ z=>(z h).elim⟩)) λ_=>ak (ak λA=>⟨λz=>by omega,λz=>by omega,λ_=>.inr (bF A),λ_ _ z=>(z h).elim⟩))
 refine aX (λx=>x.2=((D,s2,s3,s4),t,k,o,v,si,de,fr)/\(x.1=J->k=4\/k=22)) (aK (λh=>ak ⟨rfl,λ_=>.inl h⟩) λ_=>ak ⟨rfl,λh=>.inr (bF h)⟩) ?_;rintro⟨b,x⟩ ⟨e,hb⟩;subst e;refine aP (λh=>ak λ_=>⟨λz=>(n3 z).elim,λz=>(L z).elim,λz=>(n5 z).elim,λ_ _ _ h4 h5=>(hb h).elim (λh=>(h4 h).elim) λh=>(h5 h).elim⟩) λ_=>?_
 have fin:v=(pV w D t k o v).2->VA w D s2 s3 t k o v:=λh=>⟨λz=>(n3 z).elim,λz=>(L z).elim,λz=>(n5 z).elim,λ_ _ _ _ _=>h⟩
 refine aK (λh=>?_) λn18=>?_
 .have h:k=18:=h;subst h;rw[Fv]at fin;refine bc hW ?_;revert fin hWl;generalize wl D.2.2.2 o (l! D.2.2.2)=l;intro hWl fin;refine aK (λh=>ak λA=>fin ?_) λh=>?_
  .grind
  .dsimp [ay]at h;have hne:¬l! l=0:=by omega
   refine ij (fO (λ_=>bQ (λ_=>?_) λ_=>ak (ak nofun)) λ_=>ak (ak nofun));refine bc (abc _ _ (by omega)) (ak (ak λA=>fin ?_));rw[av hne];unfold EC;rw[av hne,aD A]
 refine aK (λh=>?_) λn19=>?_
 .have h:k=19:=h;subst h;exact bc hW (ak λA=>fin (bF A))
 exact ak λA=>fin (by rw[ase _ _ _ _ _ _ n18 n19];exact bF A)
structure S16 (w:WT) (s:SN) (e:ET):Prop where
 rd:Yh w s.1 e.1 e.2.1 e.2.2.1
 s1:e.2.1=1\/e.2.1=2->e.2.2.2.2.1= -1
 s2:¬(e.2.1=1\/e.2.1=2)->0<=e.2.2.2.2.1/\e.2.2.2.2.1<l! w.2.2.2.2.2/\(geti pW w.2.2.2.2.2 e.2.2.2.2.1).1=e.1
 de:0<l! e.2.2.2.2.2.1->e.2.1=5\/(e.2.1=3\/e.2.1=4)/\¬(geti lZ w.1 e.2.2.1).2.2.1=0
 fr:0<l! e.2.2.2.2.2.2->e.2.1=4\/e.2.1=22
 nd:AN (geti aM s.2.2.2 e.1) e.2.2.2.2.2.1
 nf:AN (geti aM s.2.2.2 e.1) e.2.2.2.2.2.2
 va:VA w s.1 s.2.1 s.2.2.1 e.1 e.2.1 e.2.2.1 e.2.2.2.1
def ceP (z:η) (e:ET):η:=if e.2.1=4 then ch z e.2.2.1 e.2.2.2.1 else z
def fuP (z:η) (e:ET):η:=if e.2.1=22 then ch z e.2.2.1 e.2.2.2.1 else z
def nxP (w:WT) (s:SN) (e:ET):SN:=((pV w s.1 e.1 e.2.1 e.2.2.1 e.2.2.2.1).1,ceP s.2.1 e,fuP s.2.2.1 e,ch s.2.2.2 e.1 (bl .i64 (geti aM s.2.2.2 e.1+1)))
def Jg (w:WT) (s:SN) (hs:NB i s) (hw:l! w.2.2.1<=1000) (e:ET) (hd:l! e.2.2.2.2.2.1<=1000000000\/(geti aM s.2.2.2 e.1:Int)<=1000000000) (hf:l! e.2.2.2.2.2.2<=1000000000\/(geti aM s.2.2.2 e.1:Int)<=1000000000):Ok (s6 (w,s,e)) λy=>(y.2=J->EN w s.1 e.1 e.2.1 e.2.2.1/\SP i s y.1/\S16 w s e/\y.1=nxP w s e)/\(y.2=af->y.1=sn0):=by
 have hz:∀{Q:SN×Bool->Prop},Q (sn0,af)->Ok (Z (sn0,af)) Q:=λh=>ak h
 have z0:((sn0,af).2=J->EN w s.1 e.1 e.2.1 e.2.2.1/\SP i s (sn0,af).1/\S16 w s e/\(sn0,af).1=nxP w s e)/\((sn0,af).2=af->(sn0,af).1=sn0):=⟨nofun,λ_=>rfl⟩
 unfold s6 bf bw bH cE dJ c8 eD dQ hY xm ck bn bU jQ bR bY kK aZ c7 aH cV;refine aX (λx=>x.2=(w,s,e,0)/\(x.1=af->F16 w s/\(EN w s.1 e.1 e.2.1 e.2.2.1/\Yh w s.1 e.1 e.2.1 e.2.2.1)/\lK (w,s.1,e.1,e.2.1,e.2.2.1)=Z J)) ?_ ?_
 .refine aA (ah9 w s hw) λb hb=>?_
  with_reducible repeat' first|apply OS.ok;constructor|refine IM.mk λ_=>?_
  .exact⟨rfl,nofun⟩
  simp only[axi,obs];with_reducible repeat' first|apply OS.ok;constructor|refine IM.mk λ_=>?_
  .exact⟨rfl,nofun⟩
  .exact⟨rfl,nofun⟩
  .exact⟨rfl,nofun⟩
  let⟨c,hc0,hc⟩:=Pt w s.1 hs.sb hw e.1 e.2.1 e.2.2.1;refine bc hc0 (ak ⟨rfl,λh=>?_⟩);have h:c=J:=by simpa using h
  exact⟨hb (by assumption),hc h,h▸hc0⟩
 rintro⟨A,L⟩ ⟨z,hx⟩;dsimp only at z hx;subst z;refine aP (λ_=>hz z0) λh1=>?_
 let⟨hF,⟨hE,hR⟩,hEn⟩:=hx h1;clear hx h1;refine aX (λx=>x=(w,s,e,0)/\(e.2.1=1\/e.2.1=2->e.2.2.2.2.1= -1)/\(¬(e.2.1=1\/e.2.1=2)->0<=e.2.2.2.2.1/\e.2.2.2.2.1<l! w.2.2.2.2.2/\(geti pW w.2.2.2.2.2 e.2.2.2.2.1).1=e.1)) ?_ ?_
 .refine aX (λx=>x.2=(w,s,e,0)/\(x.1=J->e.2.1=1\/e.2.1=2)/\(x.1=af->¬(e.2.1=1\/e.2.1=2))) ?_ ?_
  .refine aK (λh=>ak ⟨rfl,λ_=>.inl h,nofun⟩) λh=>ak ⟨rfl,λD=>.inr (bF D),λD=>?_⟩
   have:=qE D;exact λh3=>h3.elim h this
  rintro⟨A,L⟩ ⟨z,hy1,hy2⟩;dsimp only at z hy1 hy2;subst z;refine aP (λhk=>?_) λhk=>?_
  .exact cf (λ_=>ak z0) λh=>ak ⟨rfl,λ_=>h,λh3=>(h3 (hy1 hk)).elim⟩
  .refine aX (λx=>x.2=(w,s,e,0)/\(x.1=af->0<=e.2.2.2.2.1/\e.2.2.2.2.1<l! w.2.2.2.2.2/\(geti pW w.2.2.2.2.2 e.2.2.2.2.1).1=e.1)) ?_ ?_
   .simp only[axi,obs];refine cf (λ_=>ak ⟨rfl,nofun⟩) λh=>aO h.1 h.2 (aT (ak ⟨rfl,λD=>⟨h.1,h.2,?_⟩⟩))
    simpa using D
   rintro⟨A,L⟩ ⟨z,hz⟩;dsimp only at z hz;subst z;exact aP (λ_=>ak z0) λh=>ak ⟨rfl,λh3=>((hy2 hk) h3).elim,λ_=>hz h⟩
 rintro x ⟨rfl,hS1,hS2⟩;let⟨nm,t0,t1,cd,e1,e2,e3⟩:=id hE;let⟨_,_,ce,lk,cn,th,fu,_,_,_⟩:=nm;let⟨f1,f2,f3⟩:=id hF;refine aX (λx=>x.2=(w,s,e,0)/\(x.1=J->e.2.1=3\/e.2.1=4)) ?_ ?_
 .with_reducible repeat' first|apply OS.ok;constructor|refine IM.mk λ_=>?_
  .exact⟨rfl,λ_=>.inl (by assumption)⟩
  .exact⟨rfl,λh=>.inr (bF h)⟩
 rintro⟨A,L⟩ ⟨z,hx1⟩;dsimp only at z hx1;subst z;refine aX (λx=>x.2=(w,s,e,0)/\(x.1=af->0<l! e.2.2.2.2.2.1->e.2.1=5\/(e.2.1=3\/e.2.1=4)/\¬(geti lZ w.1 e.2.2.1).2.2.1=0)) ?_ ?_
 .refine bQ (λ_=>cf (λ_=>aP (λh=>?_) λ_=>ak ⟨rfl,nofun⟩) λh5=>ak ⟨rfl,λ_ _=>.inl h5⟩) λh=>ak ⟨rfl,λ_ D=>?_⟩
  .refine aO (ce (hx1 h)).1 (ce (hx1 h)).2 (aT (ak ⟨rfl,λD _=>.inr ⟨hx1 h,?_⟩⟩));simpa using D
  .dsimp only[ay]at h;omega
 rintro⟨A,L⟩ ⟨z,hDe⟩;dsimp only at z hDe;subst z;refine aP (λ_=>hz z0) λhde=>?_
 refine aX (λx=>x.2=(w,s,e,0)/\(x.1=af->0<l! e.2.2.2.2.2.2->e.2.1=4\/e.2.1=22)) ?_ ?_
 .refine bQ (λ_=>cf (λ_=>ak ⟨rfl,λh _=>.inr (by simpa using h)⟩) λh4=>ak ⟨rfl,λ_ _=>.inl h4⟩) λh=>ak ⟨rfl,λ_ D=>?_⟩
  dsimp only[ay]at h;omega
 rintro⟨A,L⟩ ⟨z,hFr⟩;dsimp only at z hFr;subst z;refine aP (λ_=>hz z0) λhfr=>?_
 have hk:=hs.k;have hc:=hs.c;have hfu:=hs.f;refine aX (λx=>x.2=(w,s,e,0)/\(x.1=af->AN (geti aM s.2.2.2 e.1) e.2.2.2.2.2.1/\AN (geti aM s.2.2.2 e.1) e.2.2.2.2.2.2/\VA w s.1 s.2.1 s.2.2.1 e.1 e.2.1 e.2.2.1 e.2.2.2.1)) ?_ ?_
 .have hv:=ahv w s hs hF e hE;refine aO t0 (by rw[f3];exact t1) (aT (aA (MI _ _ hd) λb hb=>?_));refine dM (λ_=>ak ⟨rfl,nofun⟩) λb1=>?_
  refine aO t0 (by rw[f3];exact t1) (aT (aA (MI _ _ hf) λb hb2=>?_));refine dM (λ_=>ak ⟨rfl,nofun⟩) λb2=>?_
  exact aA hv λb hb3=>ak ⟨rfl,λh=>⟨hb b1,hb2 b2,hb3 (by simpa using h)⟩⟩
 rintro⟨A,L⟩ ⟨z,hNum⟩;dsimp only at z hNum;subst z;refine aP (λ_=>hz z0) λhnu=>?_
 let⟨hN1,hN2,hVA⟩:=hNum hnu;have hS:S16 w s e:=⟨hR,hS1,hS2,hDe hde,hFr hfr,hN1,hN2,hVA⟩
 refine a! (a! (a! ?_));refine aX (λx=>x.2=(w,s,e,0,0,s.2.1,s.2.2.1,s.2.2.2)/\pV w s.1 e.1 e.2.1 e.2.2.1 x.1=pV w s.1 e.1 e.2.1 e.2.2.1 e.2.2.2.1) ?_ ?_
 .exact aK (λ_=>ak ⟨rfl,rfl⟩) λh=>ak ⟨rfl,ae0 _ _ _ _ _ _ _ h⟩
 rintro⟨A,L⟩ ⟨z,hxu⟩;dsimp only at z hxu;subst z;refine aA (Yw w s.1 hs.sb hw e.1 e.2.1 e.2.2.1 A) λy hy=>?_
 let⟨_,_,hap,hyq⟩:=hy.1 (hy.2.2 hEn);rw[hxu]at hyq;refine aX (λx=>x.1=e/\x.2.2.1=y.1/\x.2.2.2.1=ceP s.2.1 e/\x.2.2.2.2=(s.2.2.1,s.2.2.2)) ?_ ?_
 .unfold ceP;refine aK (λh=>?_) λh=>ak ⟨rfl,rfl,(av h).symm,rfl⟩
  have hc4:=ce (.inr h);with_reducible repeat' first|apply OS.ok;constructor|refine IM.mk λ_=>?_
  all_goals try simp only[ay,ua] at*
  all_goals first|omega|exact (aD h).symm
 rintro⟨A,L,x3,x4,x5,x6⟩ ⟨h1,D,h3,h4⟩;simp only[aR]at h1 D h3 h4;obtain⟨rfl,rfl⟩:=h4;subst h1 D h3;refine aX (λx=>x.1=A/\x.2.2.1=y.1/\x.2.2.2.1=ceP s.2.1 A/\x.2.2.2.2.1=fuP s.2.2.1 A/\x.2.2.2.2.2=s.2.2.2) ?_ ?_
 .unfold fuP;refine aK (λh=>?_) λh=>ak ⟨rfl,rfl,rfl,(av h).symm,rfl⟩
  have hc4:=fu (.inl h);with_reducible repeat' first|apply OS.ok;constructor|refine IM.mk λ_=>?_
  all_goals try simp only[ay,ua] at*
  all_goals first|omega|exact (aD h).symm
 rintro⟨A,L,x3,x4,x5,x6⟩ ⟨h1,D,h4,h5,h6⟩;simp only at h1 D h4 h5 h6;subst h1 D h4 h5 h6;have l1:l! (ceP s.2.1 A)=l! s.2.1:=by unfold ceP;split<;>simp[bT]
 have l2:l! (fuP s.2.2.1 A)=l! s.2.2.1:=by unfold fuP;split<;>simp[bT]
 with_reducible repeat' first|apply OS.ok;constructor|refine IM.mk λ_=>?_
 all_goals try simp only[ay,ua] at*
 all_goals first|omega|skip
 exact⟨⟨hE,⟨hap,l1,l2,by rw[bT]⟩,hS,by unfold nxP;rw[<- hyq]⟩,nofun⟩
end
end Go.Proofs.YtpjhicegjenpeaaGreatDoor.AI
