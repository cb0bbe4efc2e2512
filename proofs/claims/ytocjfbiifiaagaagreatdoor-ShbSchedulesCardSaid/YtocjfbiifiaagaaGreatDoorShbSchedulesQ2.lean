/-
  Texts of the proof, part 3 of 6: what is used to prove the statement. No condition.
-/
import Derived.Test.YtocjfbiifiaagaaGreatDoorShbSchedulesQ1
import Derived.Test.YtocjfbiifiaagaaGreatDoorProg
import Derived.KernelRfl
import Derived.Recover
namespace Go.Proofs.YtocjfbiifiaagaaGreatDoor.AI
open Go.RowKit
set_option maxRecDepth 100000
set_option maxHeartbeats 4000000
set_option linter.unusedVariables false
set_option linter.unusedSimpArgs false
set_option linter.defProp false
open Act renaming put→So
open _root_.Array renaming replicate→uN
open _root_.Bool renaming true→J,false→af
open _root_.Int renaming ofNat_eq_natCast→aw,toNat→aO,ofNat→aS,toNat_natCast→cR,tmod→lw,tdiv→Pn
open _root_.List renaming length→l!,length→aj,replicate→aE,take→dy,range→dA,length_singleton→dI,cons_append→gG,getElem?_cons_zero→h_,map→im,nil_append→jH,length_nil→qi,take_succ_cons→yn,set→zX,getElem?_cons_succ→BE,map_nil→C6
open _root_.Nat renaming beq→aA,testBit→aM,ble→dY,blt→eK,mod_eq_of_lt→xh,le_succ→Sk
open Oper renaming wp→Lv
open _root_.Option renaming some→Z,none→U,bind_some→aB,map_some→bw,map→ik
open _root_.Prod renaming a→be,b→bA,c→bM,e→cE,f→fe,i→kZ,o→rY
open Region renaming wanted→ju
open Result renaming andThen_ok→cQ
open Sem renaming run_bind→fB,run_pure→xg
open _root_.Sum renaming inr→bL,inl→lP
noncomputable section
def fP (am:Nat) (e e':ia):Prop:=∀k,aM am k=af->∀z,e'.get k=Z z->∃v,e.get k=Z v/\(wA v=J->z=v)
def fP.refl (am:Nat) (e:ia):fP am e e:=λ_ _ z h=>⟨z,h,λ_=>rfl⟩
variable {i:Nat}
def fP.trans {a b c:ia} (h1:fP i a b) (L:fP i b c):fP i a c:=λk z A I=>by
 let⟨v1,g1,g2⟩:=L k z A I;let⟨v,g3,g4⟩:=h1 k z v1 g1
 grind
variable {m:Nat}
def fP.mono {a b:ia} (h:fP i a b) (hm:∀k,aM i k=J->aM m k=J):fP m a b:=λk z=>h k (by
 cases A:aM i k with
 |false=>rfl
 |true=>rw[hm k A]at z;cases z)
structure amr (P:Program) (ops:Array Oper) (rest:List Oper) (sl:List uJ) (am:Nat) (s s':TS) (fs:List FPm) (l:List (Oper×EL)):Prop where
 ops_:l.map (·.1)=rest
 chain:C2 P ops l (fQ s.e s.h) (erHF s.h) (fQ s'.e s'.h) (erHF s'.h)
 fsl:l! fs=l! l
 sll:l! sl=l! l
 fp:∀(j:Nat) o f q,l[j]? =Z (o,f)->fs[j]? =Z q->(∀n∈f.rd,aM q.rd (ow n)=J)/\∀n∈f.wr,aM q.wr (ow n)=J
 still:∀(j:Nat) o f so,l[j]? =Z (o,f)->sl[j]? =Z so->so.op.still=J->f.rd=[]/\f.wr=[]
 names:∀(j:Nat) o f,l[j]? =Z (o,f)->∀n∈f.N,s.nx<=ow n/\ow n<s'.nx
 xj:∀(i j:Nat) oi fi oj fj,i<j->l[i]? =Z (oi,fi)->l[j]? =Z (oj,fj)->∀n∈fi.N,n∉fj.N
 jd:s.nx<=s'.nx
 qz:gY s'.h s'.nx
 qc:s7 s'.e s'.h
 keeps:fP am s.e s'.e
variable {h:a8} {y:AV} {u:TV}
def aok {e:ia} {h':a8} (hi:s7 e h) (I:bW h h') (d:M Nat) (L:bX h' u=Z y):PA (fQ e h) d y=fQ (H7 e d u) h':=by
 funext t;have old:(e.get t).bind (bX h)=(e.get t).bind (bX h'):=by
  cases ht:e.get t with
  |none=>rfl
  |some x=>
   let⟨z,A⟩:=pG h x (hi t x ht);simp[aB,A,fZ I x z A]
 cases d with
 |none=>simp[PA,H7,fQ];exact old
 |some d=>
  simp[PA,H7,fQ,PT.get_set,ah]
  grind
def s7.put {e:ia} {h':a8} (hi:s7 e h) (A:bW h h') (d:M Nat) (I:PI h' u=J):s7 (H7 e d u) h':=λt x z=>by
 cases d with
 |none=>exact m7 A x (hi t x z)
 |some d=>
  simp[H7,PT.get_set]at z;split at z
  .cases z;exact I
  .exact m7 A x (hi t x z)
def WU {e:ia} (ht:e.get i=Z u):fQ (e.set i (Z u)) h=fQ e h:=by
 funext k;simp[fQ,PT.get_set]
 grind
def s7.set {e:ia} (hi:s7 e h) (ht:e.get i=Z u):s7 (e.set i (Z u)) h:=λk x z=>by
 rw[PT.get_set]at z;split at z
 next A=>cases z;exact hi _ _ ht
 .exact hi k x z
variable {R:Type}
def YR {e:ia} {g:M (Nat×Bool)} {K:Bool->ia->M R} {r:R} (h:aim e g K=Z r):
 (g=U/\K J e=Z r)\/(∃t want b,g=Z (t,want)/\e.get t=Z (.f .bool b)/\K (b==want) (e.set t (Z (.f .bool b)))=Z r)\/∃t want,g=Z (t,want)/\e.get t=Z .undef/\K af e=Z r:=by
 unfold aim at h;split at h
 .exact .inl ⟨rfl,h⟩
 .rename_i t want;split at h
  .rename_i b z;refine .inr (.inl ⟨t,want,b,rfl,z,?_⟩);cases want with
   |_=>rcases mS h with ⟨rfl,h⟩|⟨rfl,h⟩<;>exact h
  .grind
  .cases h
variable {P:Program} {X:FuncId->M ci} {V:TypeId->M Ty} {k:Array Oper}
def Ms (hcon:HJ P X) (ham:∀(j:Nat) (o:Oper) (d:Nat),k[j]? =Z o->o.dst=Z d->aM i d=J):
 ∀(rest:Y Oper) (sl:Y uJ) (s:TS) (fs:Y FPm) (K:TS->Y FPm->M R) (r:R),(∀o∈rest,∃j:Nat,k[j]? =Z o)->ud P k rest=Z sl->PD X V sl s fs K=Z r->gY s.h s.nx->s7 s.e s.h->∃s' fs' l,K s' (fs.reverse++fs')=Z r/\amr P k rest sl i s s' fs' l
 |[],sl,s,fs,K,r,hin,hc,z,hH,hE=>by
  simp only[ud,ah]at hc;subst hc;simp only[PD]at z;exact⟨s,[],[],by simpa using z,rfl,.nil _ _,rfl,rfl,by simp,by simp,by simp,by simp,bK _,hH,hE,fP.refl _ _⟩
 |o::rest,sl,s,fs,K,r,hin,hc,z,hH,hE=>by
  simp only[ud]at hc;split at hc
  .rename_i sl' hsl';have hso:∃g,sl=⟨o.dst,xM P o.op,g⟩::sl'/\((g=U/\o.guard=U)\/∃j want t,g=Z (t,want)/\o.guard=Z (j,want)/\(k[j]?).bind (·.dst)=Z t):=by grind
   obtain⟨g,rfl,hg⟩:=hso;simp only[PD]at z;have hdst:∀d,o.dst=Z d->aM i d=J:=λd hd=>by
    let⟨j,hj⟩:=hin o (dK ..);exact ham j o d hj hd
   have hgs:∀t want,g=Z (t,want)->aM i t=J:=λt want hgt=>by grind
   have kput:∀(e:ia) (v:TV),fP i s.e e->fP i s.e (H7 e o.dst v):=λe v hke ops z v' I=>by
    cases hd:o.dst with
    |none=>rw[hd]at I;exact hke ops z v' I
    |some d=>
     rw[hd]at I;simp only[H7,PT.get_set]at I;split at I
     next e2=>rw[e2,hdst d hd]at z;cases z
     .exact hke ops z v' I
   have done:∀(f:EL) (v:TV) (h':a8) (nx' rd wr:Nat) (e:ia),fQ e s.h=fQ s.e s.h->s7 e s.h->fP i s.e e->O5 P k o f (fQ s.e s.h) (erHF s.h)->(∃y,bX h' v=Z y/\f.val=y)->fm (erHF s.h) f.wr f.nw=erHF h'->(∀n∈f.rd,aM rd (ow n)=J)->(∀n∈f.wr,aM wr (ow n)=J)->(∀n∈f.N,s.nx<=ow n/\ow n<nx')->bW s.h h'->gY h' nx'->s.nx<=nx'->((xM P o.op).still=J->f.rd=[]/\f.wr=[])->
    PD X V sl' ⟨H7 e o.dst v,h',nx'⟩ (⟨rd,wr⟩::fs) K=Z r->∃s' fs' l,K s' (fs.reverse++fs')=Z r/\amr P k (o::rest) (⟨o.dst,xM P o.op,g⟩::sl') i s s' fs' l:=by
    intro f v h' nx' rd wr e hee hiE hke hst hval hheap hrd hwr hN hrows hinv' hgr hstill hrun;let⟨y,hy1,hy2⟩:=hval;let⟨s',fs',l,hK,L⟩:=Ms hcon ham rest sl' _ _ K r (λo' ho'=>hin o' (cY _ ho')) hsl' hrun hinv' (hiE.put hrows o.dst (IL _ _ _ hy1));have hg2:nx'<=s'.nx:=L.jd;refine ⟨s',⟨rd,wr⟩::fs',(o,f)::l,by simpa using hK,by simp[L.ops_],.cons hst ?_,by simp[L.fsl],by simp[L.sll],?_,?_,?_,?_,c7 hgr hg2,L.qz,L.qc,(kput e v hke).trans L.keeps⟩
    .have e1:PA (fQ s.e s.h) o.dst f.val=fQ (H7 e o.dst v) h':=by rw[<- hee,hy2];exact aok hiE hrows o.dst hy1
     rw[e1,hheap];exact L.chain
    .intro j o' f' q' h1 A;cases j with
     |zero=>simp at h1 A;obtain⟨rfl,rfl⟩:=h1;subst A;exact⟨hrd,hwr⟩
     |succ j=>exact L.fp j o' f' q' (by simpa using h1) (by simpa using A)
    .intro j o' f' so h1 A h3;cases j with
     |zero=>simp at h1 A;obtain⟨rfl,rfl⟩:=h1;subst A;exact hstill h3
     |succ j=>exact L.still j o' f' so (by simpa using h1) (by simpa using A) h3
    .intro j o' f' h1 n hn;cases j with
     |zero=>
      simp at h1;obtain⟨rfl,rfl⟩:=h1;have:=hN n hn;exact⟨this.1,by omega⟩
     |succ j=>
      have:=L.names j o' f' (by simpa using h1) n hn;exact⟨c7 hgr this.1,this.2⟩
    .intro am j oi fi oj fj hij h1 A n hn hn';cases j with
     |zero=>omega
     |succ j=>
      have hj:=L.names j oj fj (by simpa using A) n hn';cases am with
      |zero=>
       simp at h1;obtain⟨rfl,rfl⟩:=h1;have h3:=(hN n hn).2;have h4:nx'<=ow n:=hj.1;omega
      |succ am=>exact L.xj am j oi fi oj fj (by omega) (by simpa using h1) (by simpa using A) n hn hn'
   have runs:∀(e:ia),fQ e s.h=fQ s.e s.h->s7 e s.h->fP i s.e e->(∀f,gC P o (fQ s.e s.h) (erHF s.h) f->O5 P k o f (fQ s.e s.h) (erHF s.h))->opK X V (xM P o.op) e s.h s.nx (λv rd wr h nx=>if PI h v then PD X V sl' ⟨H7 e o.dst v,h,nx⟩ (⟨rd,wr⟩::fs) K else U)=Z r->∃s' fs' l,K s' (fs.reverse++fs')=Z r/\amr P k (o::rest) (⟨o.dst,xM P o.op,g⟩::sl') i s s' fs' l:=by
    intro e hee hiE hke hstep z;let⟨v,rd,wr,h',nx',hK,T⟩:=ay8 hcon hH hiE rfl z;simp only[]at hK;split at hK
    .rename_i hok;let⟨f,t1,t2,t3,t4,t5,t6⟩:=T.ex;rw[hee]at t1;let⟨y,hy⟩:=pG h' v hok;refine done f v h' nx' rd wr e hee hiE hke (hstep f t1) ⟨y,hy,t2 y hy⟩ t3 t4 t5 t6 T.H T.inv T.jd (λhs=>?_) hK;let⟨r0,w0⟩:=T.st hs;subst r0 w0;constructor
     .cases hl:f.rd with
      |nil=>rfl
      |cons n q=>have:=t4 n (by rw[hl];simp);simp at this
     .cases hl:f.wr with
      |nil=>rfl
      |cons n q=>have:=t5 n (by rw[hl];simp);simp at this
    .cases hK
   have skips:∀(e:ia),fQ e s.h=fQ s.e s.h->s7 e s.h->fP i s.e e->O5 P k o tX (fQ s.e s.h) (erHF s.h)->PD X V sl' ⟨H7 e o.dst .undef,s.h,s.nx⟩ (⟨0,0⟩::fs) K=Z r->∃s' fs' l,K s' (fs.reverse++fs')=Z r/\amr P k (o::rest) (⟨o.dst,xM P o.op,g⟩::sl') i s s' fs' l:=by
    intro e hee hiE hke hstep z;exact done tX .undef s.h s.nx 0 0 e hee hiE hke hstep ⟨_,rfl,rfl⟩ (by funext am;simp[fm,tX]) (by simp[tX]) (by simp[tX]) (by simp[tX]) (bW.refl _) hH (bK _) (λ_=>⟨rfl,rfl⟩) z
   rcases YR z with ⟨h1,z⟩|⟨t,want,b,h1,hb,z⟩|⟨t,want,h1,hb,z⟩
   .refine runs s.e rfl hE (fP.refl _ _) (λf hf=>?_) z;rcases hg with ⟨_,hg⟩|⟨j,want,t,A,_,_⟩
    .exact .run hg hf
    .rw[h1]at A;cases A
   .rcases hg with ⟨A,_⟩|⟨j,want',t',A,h3,h4⟩
    .rw[h1]at A;cases A
    .rw[h1]at A;cases A;have hgt:=hgs t want h1;have heb:fQ s.e s.h t=Z (.f (.raw (.bool b))):=by simp only[fQ,hb,aB,bX];rfl
     have hke:fP i s.e (s.e.set t (Z (.f .bool b))):=λops z v' I=>by
      rw[PT.get_set]at I;split at I
      next ek=>rw[ek,hgt]at z;cases z
      .exact⟨v',I,λ_=>rfl⟩
     cases hbw:(b==want) with
     |true=>
      rw[hbw]at z;have:b=want:=by simpa using hbw
      subst this;exact runs _ (WU hb) (hE.set hb) hke (λf hf=>.runG j t b h3 h4 heb hf) z
     |false=>
      rw[hbw]at z;refine skips _ (WU hb) (hE.set hb) hke (.skip j t want h3 h4 (.bool b) heb ?_ rfl) z;intro I;cases I;simp at hbw
   .rcases hg with ⟨A,_⟩|⟨j,want',t',A,h3,h4⟩
    .rw[h1]at A;cases A
    .rw[h1]at A;cases A;exact skips _ rfl hE (fP.refl _ _) (.skip j t want h3 h4 undef (by simp only[fQ,hb,aB,bX]) (by unfold undef;simp) rfl) z
  .cases hc
def aoz {sl:Y uJ} {s s':TS} {fs:Y FPm} {l:Y v!} {prs:Y p?} (A:amr P k k.toList sl i s s' fs l) (hp:Q_ k sl=Z prs) (hok:Jr fs prs=J):NIP k l:=by
 unfold Q_ at hp;simp only[]at hp;split at hp
 .rename_i hall;simp only[iF,oX,al]at hall;simp only[ah]at hp;have hop:∀(j:Nat) o f,l[j]? =Z (o,f)->k[j]? =Z o:=λj o f I=>by
   have h1:(l.map (·.1))[j]? =Z o:=by rw[bE,I];rfl
   rw[A.ops_]at h1;simpa using h1
  have hsize:∀(j:Nat) o,k[j]? =Z o->j<k.size:=λj o h=>(dw.1 h).1
  have hprs:∀am j,(am,j)∈prs->∃a b,fs[am]? =Z a/\fs[j]? =Z b/\Kp a.wr b.rd=J/\Kp a.wr b.wr=J/\Kp b.wr a.rd=J:=by
   clear hp hall;induction prs with
   |nil=>intro am j h;cases h
   |cons p prs ih=>
    let⟨i0,j0⟩:=p;simp only[Jr,al,adx]at hok
    grind
  refine ⟨λj o ho e he hb=>?_,λam j oi fi oj fj hij hi I=>?_,A.xj⟩
  .grind
  .have h1:=hop am oi fi hi;have h2:=hop j oj fj I;have hcase:=(hall j (hsize j oj h2)).2 am hij;rw[h1,h2]at hcase;simp only[mZ]at hcase;by_cases hB:aM ((OV k.toList []).getD j 0) am=J
   .left;rw[aD]at hB;cases L:(OV k.toList [])[j]? with
    |none=>rw[L]at hB;simp at hB
    |some B=>
     rw[L]at hB;exact R8 (ops:=k) k.toList [] (λj o I=>by simpa using I) (λj B I=>by simp at I) j B L am (by simpa using hB)
   .right;have hap:=hcase.resolve_left hB;refine ⟨hap,?_⟩;have hil:am<l! l:=(bz.1 hi).1;have hjl:j<l! l:=(bz.1 I).1;have hsi:=aF (show am<l! sl by rw[A.sll];exact hil);have hsj:=aF (show j<l! sl by rw[A.sll];exact hjl);by_cases hst:(sl[am]'(by rw[A.sll];exact hil)).op.still=J
    .obtain⟨q1,q2⟩:=A.still am oi fi _ hi hsi hst
     grind
    .by_cases hst2:(sl[j]'(by rw[A.sll];exact hjl)).op.still=J
     .obtain⟨q1,q2⟩:=A.still j oj fj _ I hsj hst2
      grind
     .have hmem:(am,j)∈prs:=by
       rw[<- hp,xi];refine ⟨j,oX.2 (hsize j oj h2),?_⟩
       grind
      let⟨a,b,ha,hb,d1,d2,d3⟩:=hprs am j hmem;let⟨f1,f2⟩:=A.fp am oi fi a hi ha;let⟨g1,g2⟩:=A.fp j oj fj b I hb;refine ⟨λx L=>⟨λz=>?_,λz=>?_⟩,λx L z=>?_⟩
      .have:=AS d1 (ow x) (f2 x L);rw[g1 x z]at this;cases this
      .have:=AS d2 (ow x) (f2 x L);rw[g2 x z]at this;cases this
      .have:=AS d3 (ow x) (g2 x L);rw[f1 x z]at this;cases this
 .cases hp
structure ji (P:Program) (E:Nat->Prop) (nt np:Nat) (φ:PM) (s:TS) (a:Act) (w:World):Prop where
 ql:sV φ E (erHF s.h) w
 env:Sf φ (tot E φ (erHF s.h)) w (fQ s.e s.h) a
 dom:∀n k,φ n=Z k->ow n<s.nx
 low:np<=s.nx
 qz:gY s.h s.nx
 qc:s7 s.e s.h
 inert:∀d∈a.defers,YF P d
 size:a.tmps.size=nt
structure xS (np:Nat) (φ φ':PM) (H H':HF) (w w':World):Prop where
 ext:Jd (own φ H) w w'
 qr:∀k,k<w.heap.size->own φ' H' k->own φ H k
 par:∀n,ow n<np->φ' n=φ n
def xS.refl (np:Nat) (φ:PM) (H:HF) (w:World):xS np φ φ H H w w:=⟨Jd.refl _ _,λ_ _ h=>h,λ_ _=>rfl⟩
variable {T:PM} {A:HF} {W:World}
def xS.trans {φ' φ'':PM} {H' H'':HF} {w' w'':World} (a:xS i T φ' A H' W w') (b:xS i φ' φ'' H' H'' w' w''):xS i T φ'' A H'' W w'' where
 ext:=⟨b.ext.os.trans a.ext.os,b.ext.tape.trans a.ext.tape,b.ext.output.trans a.ext.output,c7 a.ext.size b.ext.size,
  λk z H=>(b.ext.jm k (dv z a.ext.size) (λh=>H (a.qr k z h))).trans (a.ext.jm k z H),
  λk z=>(b.ext.jr k (dv z a.ext.size)).trans (a.ext.jr k z)⟩
 qr:=λk z h=>a.qr k z (b.qr k (dv z a.ext.size) h)
 par:=λnp hi=>(b.par np hi).trans (a.par np hi)
variable {O:Nat->Prop} {N:Act} {b:Bool}
def ajh {s:TS} (hm:P.follows .mixedOrders=J) (hcon:HJ P X) (c:ji P O i m T s N W) {id:Nat} {sl:Y uJ} {prs:Y p?} {am:Nat} (ham:∀(j:Nat) (o:Oper) (d:Nat),k[j]? =Z o->o.dst=Z d->aM am d=J)
 (hd:(k.toList.all λo=>match o.dst with|some d=>decide (d<i)|none=>J)=J) (hc:ud P k k.toList=Z sl) (hp:Q_ k sl=Z prs) {K:TS->M R} {r:R} (hr:PD X V sl s [] (λs' fs=>if Jr fs prs then K s' else U)=Z r) {Q:Exit->Act->World->Prop}
 (hQ:∀a' w' s' φ',K s'=Z r->ji P O i m φ' s' a' w'->xS m T φ' (erHF s.h) (erHF s'.h) W w'->fP am s.e s'.e->Q .normal a' w'):(Code.region id k b).wp P Q N W:=by
 let⟨s',fs',l,hK,L⟩:=Ms hcon ham k.toList sl s [] _ r (λo ho=>by
  let⟨j,I⟩:=fG ho;exact⟨j,by simpa using I⟩) hc hr c.qz c.qc
 have hK:(if Jr fs' prs then K s' else U)=Z r:=hK;by_cases hok:Jr fs' prs=J
 .rw[aC hok]at hK;refine Vv (φ0:=T) (E:=O) hm L.ops_ L.chain (aoz L hp hok) ?_ ?_ c.ql c.env ?_
  .intro n A;let⟨p,z,A⟩:=xi.1 A;let⟨j,I⟩:=fG z;have:=L.names j p.1 p.2 I n A;cases hx:T n with
   |none=>rfl
   |some ops=>have:=c.dom n ops hx;omega
  .intro j o ho d hd';have:=iF.1 hd o (by grind);rw[hd']at this;rw[c.size];simpa using this
  .rintro a' w' ⟨φ',m',d',r',en',df',sz'⟩;have hnm:∀n ops,φ' n=Z ops->T n=Z ops\/(s.nx<=ow n/\ow n<s'.nx):=λn ops hik=>by
    rcases d' n ops hik with h|h
    .exact .inl h
    .obtain⟨p,z,A⟩:=xi.1 h;let⟨j,I⟩:=fG z;exact .inr (L.names j p.1 p.2 I n A)
   have hg:=L.jd;have hlow:=c.low;refine hQ a' w' s' φ' hK ⟨r',en',λn ops hik=>?_,by omega,L.qz,L.qc,by rw[df'];exact c.inert,by rw[sz'];exact c.size⟩ ⟨m'.ext,m'.qr,λnt hi=>?_⟩ L.keeps
   .rcases hnm n ops hik with h|h
    .have:=c.dom n ops h;omega
    .exact h.2
   .cases hx:T nt with
    |some ops=>exact m'.sub _ _ hx
    |none=>
     cases hy:φ' nt with
     |none=>rfl
     |some ops=>grind
 .grind
section ren
variable {P:Program} {E:Nat->Prop} {nt np:Nat}
def LF {s:TS} (c:ji P E nt np T s N W) (src:Nat->Nat) (hsrc:∀n,ow n≠s.nx->src n=n) (hr:bW s.h h) (hinv:gY h (s.nx+1))
 (L:∀n b',erHF h n=Z b'->∃b,erHF s.h (src n)=Z b/\∀(φ':PM) (O':Nat->Prop),(∀n,φ' n=T (src n))->(∀x v,ch T (tot E T (erHF s.h)) W x v->ch φ' O' W x v)->∀o,ii T (tot E T (erHF s.h)) W b o->ii φ' O' W b' o)
 (inj:∀n m b b',erHF h n=Z b->erHF h m=Z b'->src n=src m->n=m):∃φ',ji P E nt np φ' ⟨s.e,h,s.nx+1⟩ N W/\xS np T φ' (erHF s.h) (erHF h) W W:=by
 have sub:∀n k,T n=Z k->T (src n)=Z k:=λn k A=>by
  have:=c.dom n k A
  grind
 have own_:∀k,own (λn=>T (src n)) (erHF h) k->own T (erHF s.h) k:=by
  rintro k ⟨i,b,h1,h2⟩;let⟨b0,h3,_⟩:=L i b h1;exact⟨src i,b0,h3,h2⟩
 have tot_:∀k,tot E (λn=>T (src n)) (erHF h) k->tot E T (erHF s.h) k:=λk A=>A.imp id (own_ k)
 have keep:∀x v,ch T (tot E T (erHF s.h)) W x v->ch (λn=>T (src n)) (tot E (λn=>T (src n)) (erHF h)) W x v:=λx v h'=>h'.ext sub (Jd.refl _ W) λk _ A=>tot_ k A
 refine ⟨λn=>T (src n),⟨⟨λi j b b' k h1 h2 h3 h4=>?_,λn b' hb=>?_,c.ql.el,λg cells hg=>(c.ql.gl g cells hg).ext (Jd.refl _ W) λk _ A=>tot_ k A⟩,λt x I=>?_,λn k A=>?_,fD c.low,hinv,λt x I=>m7 hr x (c.qc t x I),c.inert,c.size⟩,⟨Jd.refl _ _,λk _ A=>own_ k A,λn hn=>?_⟩⟩
 .obtain⟨b0,q1,_⟩:=L i b h1;let⟨b1,q2,_⟩:=L j b' h2;exact inj i j b b' h1 h2 (c.ql.inj _ _ b0 b1 k q1 q2 h3 h4)
 .obtain⟨b,q1,q2⟩:=L n b' hb;let⟨k,p1,p2,o,p3,p4⟩:=c.ql.at_ _ b q1;exact⟨k,p1,p2,o,p3,q2 _ _ (λ_=>rfl) keep o p4⟩
 .simp[fQ]at I;cases he:s.e.get t with
  |none=>rw[he]at I;cases I
  |some q=>
   rw[he]at I;let⟨z,hz⟩:=pG s.h q (c.qc t q he);simp[aB,fZ hr q z hz,ah]at I;subst I;exact keep _ _ (c.env t _ (by simp[fQ,he,aB,hz]))
 .have A:T (src n)=Z k:=A;by_cases e:ow n=s.nx
  .grind
  .rw[hsrc n e]at A;have:=c.dom n k A
   grind
 .have:=c.low
  grind
variable {s:TypeId} {r:Y AV}
def yD {φ':PM} {O':Nat->Prop} {l':Y AV} {o:Obj} (hlen:l! l'=l! r) (I:∀(j:Nat) z,l'[j]? =Z z->z.isCell=J/\∃x,r[j]? =Z x/\∀v,ch T O W x v->ch φ' O' W z v) (h:ii T O W ⟨s,.mx r⟩ o):ii φ' O' W ⟨s,.mx l'⟩ o:=by
 let⟨arr,h1,h2,L⟩:=h;refine ⟨arr,h1,by simp[BC.len]at h2 ⊢;omega,λj z A=>?_⟩;let⟨p1,x,p2,p3⟩:=I j z A;let⟨_,v,p4,p5⟩:=L j x p2;exact⟨p1,v,p4,p3 v p5⟩
def Mx {φ':PM} {O':Nat->Prop} {l l':Y k?} {o:Obj} (I:l'.map (·.1)=l.map (·.1)) (hl:∀(j:Nat) z,l'[j]? =Z z->∃x,l[j]? =Z x/\x.1=z.1/\∀v,ch T O W x.2 v->ch φ' O' W z.2 v) (h:ii T O W ⟨0,.mp l⟩ o):ii φ' O' W ⟨0,.mp l'⟩ o:=by
 let⟨ents,clock,h1,A,h3⟩:=h;refine ⟨ents,clock,h1,?_,λj z L=>?_⟩
 .unfold MpK at A ⊢;rw[I];exact A
 .grind
def afc (n:Nat) (j:Int):(shf n j).toNat=if j.toNat<n then j.toNat else j.toNat+1:=by
 unfold shf;by_cases h:j.toNat<n
 .simp_all
 .rw[av h,av (λe=>h (UB e))];rfl
def uO (nx a p m1 m2 len n:Nat):Nat:=if ow n=nx then (match ix n with
 |0=>n
 |k+1=>if k/3<len then jD a (k+1) else if k/3=len then (if k%3=0 then nm p else if k%3=1 then nm m1 else nm m2) else jD a (k+1-3)) else n
def yz (nx a p m1 m2 len k:Nat):uO nx a p m1 m2 len (jD nx (k+1))=if k/3<len then jD a (k+1) else if k/3=len then (if k%3=0 then nm p else if k%3=1 then nm m1 else nm m2) else jD a (k+1-3):=by
 unfold uO;rw[iI,wy,aC rfl]
def acj {p m1 m2 len k:Nat} (h:k/3<len):uO i m p m1 m2 len (jD i (k+1))=jD m (k+1):=by rw[yz,aC h]
def Mc (nx a p m1 m2 len:Nat) (j:Int):uO nx a p m1 m2 len (qA nx (shf len j))=qA a j:=by
 unfold qA;rw[yz,afc]
 grind
def adf {e:Y j!} (hm:ap7 (h.get i)=Z e):erHF h (nm i)=Z ⟨0,.mp (Ij e)⟩/\∃K V es,h.get i=Z (.mp K V es):=by
 unfold ap7 at hm;split at hm
 next es z=>simp[ah]at hm;subst hm;exact⟨by rw[bG,z];rfl,_,_,_,z⟩
 next z=>simp[ah]at hm;subst hm;exact⟨by rw[bG,z];rfl,_,_,_,z⟩
 .cases hm
def EnR (R:AV->AV->Prop):Y k?->Y k?->Prop
 |[],[]=>True
 |x::l,y::l'=>x.1=y.1/\R x.2 y.2/\EnR R l l'
 |_,_=>False
def EnR.get {R:AV->AV->Prop}:∀{l l':Y k?},EnR R l l'->l'.map (·.1)=l.map (·.1)/\∀(j:Nat) z,l'[j]? =Z z->∃x,l[j]? =Z x/\x.1=z.1/\R x.2 z.2
 |[],[],_=>⟨rfl,λj z A=>by simp at A⟩
 |[],_::_,h|_::_,[],h=>h.elim
 |x::l,y::l',h=>by
  let⟨q1,I⟩:=EnR.get h.2.2;refine ⟨by simp[cD,q1,h.1],λj z A=>?_⟩;cases j with
  |zero=>simp[h_,ah]at A;subst A;exact⟨x,rfl,h.1,h.2.1⟩
  |succ j=>exact I j z A
def NF {R:AV->AV->Prop} {a nx len:Nat} (z:∀j,R (.K (qA a j) 0) (.K (qA nx (shf len j)) 0)):∀es:Y s?,EnR R (w7 a es) (w7 nx (afd len es))
 |[]=>trivial
 |e::r=>⟨rfl,z e.2,NF z r⟩
def W9 {R:AV->AV->Prop} {a nx len:Nat} (I:∀j,R (.K (qA a j) 0) (.K (qA nx (shf len j)) 0)) {v:AV} (A:R v (.K (qA nx (aS len)) 0)) (k:ν):∀es:Y s?,EnR R (ND a k v es) (w7 nx (afn k (aS len) (afd len es)))
 |[]=>⟨rfl,A,trivial⟩
 |e::r=>by
  have L:=W9 I A k r;show EnR R (ND a k v (e::r)) (w7 nx (afn k (aS len) ((e.1,shf len e.2)::afd len r)));simp[ND,afn];by_cases z:k=e.1
  .rw[aC z,LM.2 z];exact⟨rfl,A,NF I r⟩
  .rw[av z];cases hq:keq k e.1 with
   |true=>exact bT (LM.1 hq) z
   |false=>exact⟨rfl,I e.2,L⟩
variable {v:Value}
def Dc {φ':PM} {O':Nat->Prop} {off:Nat} (h:φ' m=T i) (A:ch T O W (.K i off) v):ch φ' O' W (.K m off) v:=by
 cases A with
 |K I=>exact .K (h.trans I)
def Td {φ':PM} {O':Nat->Prop} (h:φ' m=T i) (A:ch T O W (.mp i) v):ch φ' O' W (.mp m) v:=by
 cases A with
 |mp I=>exact .mp (h.trans I)
def LC {φ':PM} {O':Nat->Prop} {z sz:Nat} (h:φ' z=T i) (A:ch T O W (.I i sz m) v):ch φ' O' W (.I z sz m) v:=by
 cases A with
 |I L h1 h2 h3=>exact .I (h.trans L) h1 h2 h3
def ajc (a n len:Nat) (B:fc):iH (rnF a n len B)=iH B:=by
 cases B with
 |qx F b x=>
  simp[rnF];split
  .cases F with
   |zm ty=>
    show Z (J,1,aj (im (shf len) (x:η)))=Z (J,1,aj (α:=Int) x)
    grind
   |_=>rfl
  .rfl
 |_=>rfl
def yi (φ:PM) (O:Nat->Prop) (w:World) (src:Nat->Nat) (b b':ko):Prop:=∀(φ':PM) (O':Nat->Prop),(∀n,φ' n=φ (src n))->(∀x v,ch φ O w x v->ch φ' O' w x v)->∀o,ii φ O w b o->ii φ' O' w b' o
variable {g:Nat->Nat}
def yi.refl (b:ko):yi T O W g b b:=λ_ _ _ keep _ h=>h.mono keep
variable {S:Ty}
def WN {k:Nat} {ob:CZ S} (h1:k%3=0->g (jD i (k+2))=jD m (k+2)) (h2:k%3=0->g (jD i (k+3))=jD m (k+3)):yi T O W g (wK m k s S ob) (wK i k s S ob):=by
 intro φ' O' hφ keep oo hoo;unfold wK at hoo ⊢;by_cases I:k%3=0
 .rw[aC I]at hoo ⊢;refine yD (by simp) (λj L z=>?_) hoo;by_cases hj:j<l! (bI S ob.1)
  .rw[b8 (by grind)]at z ⊢;refine ⟨?_,L,z,λv A=>keep _ _ A⟩;obtain⟨y,hy,rfl⟩:=cC.1 (ba z);exact ml S [ob.1] y (by grind)
  .rw[bS (by grind)]at z ⊢;generalize j-l! (im AV.f (bI S ob.1))=q at z ⊢
   match q with
   |0=>
    simp only[h_,ah]at z ⊢;subst z;exact⟨rfl,_,rfl,λv A=>Td (by grind) A⟩
   |1=>
    simp only[BE,h_,ah]at z ⊢;subst z;exact⟨rfl,_,rfl,λv A=>Td (by grind) A⟩
   |q+2=>simp at z
 .rw[av I]at hoo ⊢;exact hoo.mono keep
def alb {E:Nat->Prop} (rep:sV T E A W) {m1 m2:Nat} {ob:CZ S} (k0:m%3=0) (hle:gX A A r ((bI S ob.1).map .f)) (h1:g (jD i (m+2))=nm m1) (h2:g (jD i (m+3))=nm m2):yi T (tot E T A) W g ⟨s,.mx (r++[.mp (nm m1),.mp (nm m2)])⟩ (wK i m s S ob):=by
 intro φ' O' hφ keep oo hoo;unfold wK;rw[aC k0];have hll:=hle.length;refine yD (by grind) (λj x' z=>?_) hoo;by_cases hj:j<(bI S ob.1).length
 .rw[b8 (by grind)]at z;rw[b8 (by grind)];let⟨x,L,I⟩:=hle.get j x' z;refine ⟨?_,x,L,λv H=>keep _ _ (I T E W v rep H)⟩;obtain⟨y,hy,rfl⟩:=cC.1 (ba z);exact ml S [ob.1] y (by grind)
 .rw[bS (by grind)]at z;rw[bS (by grind),<-hll];generalize j-(im AV.f (bI S ob.1)).length=q at z ⊢
  match q with
  |0=>
   simp only[h_,ah]at z ⊢;subst z;exact⟨rfl,_,rfl,λv H=>Td (by grind) H⟩
  |1=>
   simp only[BE,h_,ah]at z ⊢;subst z;exact⟨rfl,_,rfl,λv H=>Td (by grind) H⟩
  |q+2=>simp at z
variable {z:η} {F:ko}
def aoq {p m1 m2 len:Nat} (I:uF i (.zm s) (rnX len (.zm s) z)=Z F):∃b,uF m (.zm s) z=Z b/\yi T O W (uO i m p m1 m2 len) b F:=by
 have I:(if aj (im (shf len) z)==0 then U else Z (ko.mk s (.mx (im (λj=>AV.K (qA i j) 0) (im (shf len) z)))))=Z F:=I;rw[bx]at I;show ∃b,(if aj z==0 then U else Z (ko.mk s (.mx (im (λj=>AV.K (qA m j) 0) z))))=Z b/\_;split at I
 .cases I
 .rename_i L;rw[av L];cases I;refine ⟨_,rfl,λφ' O' hφ keep oo hoo=>yD (by simp) (λj x' A=>?_) hoo⟩;rw[kH,bE]at A;rw[bE];cases hjx:z[j]? with
  |none=>rw[hjx]at A;cases A
  |some nx=>
   rw[hjx]at A;simp[bw,Function.comp,ah]at A;subst A;exact⟨rfl,_,rfl,λv hv=>Dc (by rw[hφ,Mc]) hv⟩
def aor {p m1 m2 len:Nat} {es:Y s?} (I:uF i .zd (rnX len .zd es)=Z F):∃b,uF m .zd es=Z b/\yi T O W (uO i m p m1 m2 len) b F:=by
 cases I;refine ⟨_,rfl,λφ' O' hφ keep L hoo=>?_⟩;let⟨w1,z⟩:=EnR.get (NF (R:=λx y=>∀v,ch T O W x v->ch φ' O' W y v) (a:=m) (nx:=i) (len:=len) (λj v A=>Dc (by rw[hφ,Mc]) A) es);exact Mx w1 z hoo
def Ag {nx a p m1 m2:Nat} (z:m/3<=i):(m/3<i/\uO nx a p m1 m2 i (jD nx (m+1))=jD a (m+1))\/(m/3=i/\m%3=0/\uO nx a p m1 m2 i (jD nx (m+1))=nm p)\/(m/3=i/\m%3=1/\uO nx a p m1 m2 i (jD nx (m+1))=nm m1)\/(m/3=i/\m%3=2/\uO nx a p m1 m2 i (jD nx (m+1))=nm m2):=by
 rw[yz]
 grind
structure zO (s:TS) (h':a8) (o ai p m1 m2 len:Nat) (ty:TypeId) (S:Ty) (xs:List (CZ S)) (new:CZ S) (kk:ν) (es:List (ν×Int)):Prop where
 ho:s.h.get o=Z (.qh .zd ai es kk (Z (p,af,0)))
 ha:∃a0,s.h.get ai=Z (.qx (.ar ty S) a0 xs)
 hp:∃l,s.h.get p=Z (.G (Z ty) l)
 g1:∃K V es,s.h.get m1=Z (.mp K V es)
 g2:∃K V es,s.h.get m2=Z (.mp K V es)
 hmm:m1≠m2
 hlen:l! xs=len
 hg:∀i,h'.get i=if i=s.nx then Z (.qx (.ar ty S) 0 (xs++[new]:List (CZ S))) else if i=m2\/i=m1\/i=p\/i=ai then Z (.qj J 0 0) else if i=o then Z (.qx .zd s.nx (afn kk (aS len) (afd len es))) else (s.h.get i).map (rnF ai s.nx len)
section aiw
variable {s:TS} {h':a8} {o ai p m1 m2 len:Nat} {ty:TypeId} {S:Ty} {xs:Y (CZ S)} {new:CZ S} {kk:ν} {es:Y s?} (t:zO s h' o ai p m1 m2 len ty S xs new kk es)
include t
def zO.ne:o≠ai/\o≠p/\o≠m1/\o≠m2/\p≠m1/\p≠m2:=by
 let⟨z,ha⟩:=t.ha;let⟨l,hp⟩:=t.hp;let⟨_,_,_,g1⟩:=t.g1;let⟨_,_,_,g2⟩:=t.g2;have ho:=t.ho
 grind
def zO.H (hi:gY s.h s.nx):bW s.h h':=λi r z=>by
 let⟨a0,ha⟩:=t.ha;let⟨l,hp⟩:=t.hp;let⟨_,_,_,g1⟩:=t.g1;let⟨_,_,_,g2⟩:=t.g2;have hfr:=hi.fresh;rw[bB]at z ⊢;rw[t.hg];by_cases f0:i=s.nx
 .grind
 .rw[av f0];by_cases L:i=m2\/i=m1\/i=p\/i=ai
  .rcases L with rfl|rfl|rfl|rfl
   .rw[g2]at z;cases z
   .rw[g1]at z;cases z
   .rw[hp]at z;cases z
   .rw[ha]at z;cases z
  .rw[av L];by_cases I:i=o
   .rw[I,t.ho]at z;cases z
   .rw[av I];cases A:s.h.get i with
    |none=>rw[A]at z;cases z
    |some B=>rw[A]at z;simp[bw,aB]at z ⊢;rw[ajc];exact z
def zO.lows (hi:gY s.h s.nx):o<s.nx/\ai<s.nx/\p<s.nx/\m1<s.nx/\m2<s.nx:=by
 let⟨z,ha⟩:=t.ha;let⟨l,hp⟩:=t.hp;let⟨_,_,_,g1⟩:=t.g1;let⟨_,_,_,g2⟩:=t.g2;exact⟨hi.low o _ t.ho,hi.low ai _ ha,hi.low p _ hp,hi.low m1 _ g1,hi.low m2 _ g2⟩
def zO.inv (hi:gY s.h s.nx):gY h' (s.nx+1):=by
 have I:=t.H hi;let⟨lo,la,L,l1,l2⟩:=t.lows hi;refine ⟨λi ty l hil=>?_,λi c' hic=>?_⟩
 .rw[t.hg]at hil;split at hil
  .cases hil
  .split at hil
   .cases hil
   .split at hil
    .cases hil
    .cases z:s.h.get i with
     |none=>rw[z]at hil;cases hil
     |some B=>
      rw[z]at hil;simp[bw,ah]at hil;cases B with
      |G ty2 A=>
       simp[rnF,fc.G.injEq]at hil;obtain⟨_,rfl⟩:=hil;exact fo I A (hi.G i _ A z)
      |qx F b x=>simp[rnF]at hil;split at hil<;>cases hil
      |_=>cases hil
 .rw[t.hg]at hic;split at hic
  .omega
  .split at hic
   .omega
   .split at hic
    .omega
    .cases z:s.h.get i with
     |none=>rw[z]at hic;cases hic
     |some B=>have:=hi.low i B z;omega
def zO.qj (hi:gY s.h s.nx) (z:ow i=m2\/ow i=m1\/ow i=p\/ow i=ai):erHF h' i=U:=by
 let⟨I,L,A,l1,l2⟩:=t.lows hi;unfold erHF;rw[t.hg,av (by omega),aC z];cases ix i<;>rfl
def zO.new0:erHF h' (nm s.nx)=U:=by rw[bG,t.hg,aC rfl];rfl
def zO.newN (k:Nat):erHF h' (jD s.nx (k+1))=rM s.nx k ty S (xs++[new]):=by rw[kC,t.hg,aC rfl];rfl
def zO.oldN (k:Nat):erHF s.h (jD ai (k+1))=rM ai k ty S xs:=by
 let⟨z,ha⟩:=t.ha;rw[kC,ha];rfl
def zO.gt (z:len<i/3):erHF h' (jD s.nx (i+1))=U:=by
 rw[t.newN];unfold rM;rw[eA (by rw[bH,t.hlen];exact z)];rfl
def zO.lt (L:i/3<len) (z:erHF h' (jD s.nx (i+1))=Z F):∃b,erHF s.h (jD ai (i+1))=Z b/\yi T O W (uO s.nx ai p m1 m2 len) b F:=by
 rw[t.newN]at z;rw[t.oldN];unfold rM at z ⊢;rw[b8 (by rw[t.hlen];exact L)]at z;cases A:xs[i/3]? with
 |none=>rw[A]at z;cases z
 |some ob=>
  rw[A]at z;simp[bw,ah]at z;subst z;exact⟨_,rfl,WN (λI=>acj (k:=i+1) (by omega)) (λI=>acj (k:=i+2) (by omega))⟩
def zO.eqB (z:i/3=len):erHF h' (jD s.nx (i+1))=Z (wK s.nx i ty S new):=by
 rw[t.newN];unfold rM;rw[z,<-t.hlen,List.getElem?_concat_length];rfl
def zO.mapB (hi:gY s.h s.nx) (z:erHF h' (nm o)=Z F):∃b,erHF s.h (nm o)=Z b/\yi T O W (uO s.nx ai p m1 m2 len) b F:=by
 let⟨lo,_⟩:=t.lows hi;let⟨n1,n2,n3,n4,_⟩:=t.ne;rw[bG,t.hg,av (by omega),av (by omega),aC rfl]at z;cases z;rw[bG,t.ho];refine ⟨_,rfl,λφ' O' hφ keep L hoo=>?_⟩;let⟨w1,I⟩:=EnR.get (W9 (R:=λx y=>∀v,ch T O W x v->ch φ' O' W y v) (a:=ai) (nx:=s.nx) (len:=len) (λj v A=>Dc (by rw[hφ,Mc]) A) (v:=.K (nm p) 0) (λv A=>Dc (by
  rw[hφ];show T (uO s.nx ai p m1 m2 len (jD s.nx (3*len+1)))=_;rw[yz,av (by omega),aC (by omega),aC (by omega)]) A) kk es)
 exact Mx w1 I hoo
def zO.oth (hi:gY s.h s.nx) (f0:ow i≠s.nx) (f1:¬(ow i=m2\/ow i=m1\/ow i=p\/ow i=ai)) (f2:ow i≠o) (A:erHF h' i=Z F):∃b,erHF s.h i=Z b/\yi T O W (uO s.nx ai p m1 m2 len) b F:=by
 have hr:=t.H hi;cases L:s.h.get (ow i) with
 |none=>
  unfold erHF at A;rw[t.hg,av f0,av f1,av f2,L]at A;cases A
 |some B=>
  have z:Pu h' (ow i) (ix i) (rnF ai s.nx len B)=Z F:=by
   unfold erHF at A;rw[t.hg,av f0,av f1,av f2,L]at A;exact A
  have same:rnF ai s.nx len B=B->∃b,erHF s.h i=Z b/\yi T O W (uO s.nx ai p m1 m2 len) b F:=λe=>by
   rw[e,mo hr (λty l e=>hi.G _ _ l (by rw[L,e]))]at z;exact⟨F,by unfold erHF;rw[L];exact z,yi.refl F⟩
  cases B with
  |qx b' b x=>
   by_cases I:(ayg b'&&aA b ai)=J
   .have e0:rnF ai s.nx len (.qx b' b x)= .qx b' s.nx (rnX len b' x):=by simp only[rnF];rw[aC I]
    rw[e0]at z;simp only[al]at I;have hba:=au I.2;subst hba;cases hix:ix i with
    |succ k=>rw[hix]at z;cases b'<;>first|cases z|cases I.1
    |zero=>
     rw[hix]at z;have hsrc:erHF s.h i=uF b b' x:=by unfold erHF;rw[L,hix];rfl
     rw[hsrc];cases b' with
     |zm tyo=>exact aoq z
     |zd=>exact aor z
     |_=>cases I.1
   .exact same (by simp only[rnF];rw[av I])
  |_=>exact same rfl
def zO.key (z:erHF h' i=Z F) (I:ow i=s.nx):∃k,i=jD s.nx (k+1)/\k/3<=len:=by
 cases hix:ix i with
 |zero=>rw[pI hix,I,t.new0]at z;cases z
 |succ k=>
  have L:i=jD s.nx (k+1):=by rw[<- I,<-hix,kK]
  refine ⟨k,L,?_⟩;subst L;rcases cN len (k/3) with A|A
  .rw[t.gt A]at z;cases z
  .exact A
def zO.dS (hi:gY s.h s.nx) (z:i/3<=len):erHF h' (uO s.nx ai p m1 m2 len (jD s.nx (i+1)))=U:=by
 refine t.qj hi ?_;rcases Ag (nx:=s.nx) (a:=ai) (p:=p) (m1:=m1) (m2:=m2) z with ⟨_,e⟩|⟨_,_,e⟩|⟨_,_,e⟩|⟨_,_,e⟩<;>rw[e]
 .rw[iI];exact .inr (.inr (.inr rfl))
 .rw[dj];exact .inr (.inr (.inl rfl))
 .rw[dj];exact .inr (.inl rfl)
 .rw[dj];exact .inl rfl
def zO.inj1 (A:i/3<=len) (z:m/3<=len) (he:uO s.nx ai p m1 m2 len (jD s.nx (i+1))=uO s.nx ai p m1 m2 len (jD s.nx (m+1))):i=m:=by
 let⟨_,_,_,_,n5,L⟩:=t.ne;have I:=t.hmm;rcases Ag (nx:=s.nx) (a:=ai) (p:=p) (m1:=m1) (m2:=m2) A with ⟨_,e⟩|⟨_,_,e⟩|⟨_,_,e⟩|⟨_,_,e⟩<;>rcases Ag (nx:=s.nx) (a:=ai) (p:=p) (m1:=m1) (m2:=m2) z with ⟨_,e'⟩|⟨_,_,e'⟩|⟨_,_,e'⟩|⟨_,_,e'⟩<;>rw[e,e']at he<;>clear e e'<;>first|omega|(have:=(vw he).2;omega)|(have:=uQ he;omega)
def zO.inj (hi:gY s.h s.nx) {b':ko} (z:erHF h' i=Z F) (hm:erHF h' m=Z b') (he:uO s.nx ai p m1 m2 len i=uO s.nx ai p m1 m2 len m):i=m:=by
 have L:∀i,ow i≠s.nx->uO s.nx ai p m1 m2 len i=i:=λi z=>by unfold uO;rw[av z]
 by_cases f0:ow i=s.nx
 .obtain⟨k,rfl,hk⟩:=t.key z f0;by_cases A:ow m=s.nx
  .obtain⟨q,rfl,I⟩:=t.key hm A;rw[t.inj1 hk I he]
  .rw[L m A]at he;rw[<- he,t.dS hi hk]at hm;cases hm
 .rw[L i f0]at he;by_cases A:ow m=s.nx
  .obtain⟨q,rfl,I⟩:=t.key hm A;rw[he,t.dS hi I]at z;cases z
  .grind
def zO.cfg (c:ji P E nt np T s N W) (bp:erHF s.h (nm p)=Z ⟨ty,.mx (r++[.mp (nm m1),.mp (nm m2)])⟩) (hle:gX (erHF s.h) (erHF s.h) r ((bI S new.1).map .f)) (b1:erHF s.h (nm m1)=Z ⟨0,.mp (Ij new.2.1)⟩) (b2:erHF s.h (nm m2)=Z ⟨0,.mp (Ij new.2.2)⟩):∃φ',ji P E nt np φ' ⟨s.e,h',s.nx+1⟩ N W/\xS np T φ' (erHF s.h) (erHF h') W W:=by
 have hi:=c.qz;have hs:∀n,ow n≠s.nx->uO s.nx ai p m1 m2 len n=n:=λn L=>by unfold uO;rw[av L]
 refine LF c (uO s.nx ai p m1 m2 len) hs (t.H hi) (t.inv hi) (λn b' z=>?_) λn m b b' L hm he=>t.inj hi L hm he
 by_cases I:ow n=s.nx
 .obtain⟨k,rfl,hk⟩:=t.key z I;rcases Ag (nx:=s.nx) (a:=ai) (p:=p) (m1:=m1) (m2:=m2) hk with ⟨g,e⟩|⟨g,A,e⟩|⟨g,A,e⟩|⟨g,A,e⟩<;>rw[e]
  .exact t.lt g z
  .rw[t.eqB g,ah]at z;subst z;refine ⟨_,bp,alb c.ql A hle ?_ ?_⟩
   .rw[yz,av (by omega),aC (by omega),av (by omega),aC (by omega)]
   .rw[yz,av (by omega),aC (by omega),av (by omega),av (by omega)]
  .rw[t.eqB g,ah]at z;subst z;refine ⟨_,b1,?_⟩;unfold wK;rw[av (by omega),aC A];exact yi.refl _
  .rw[t.eqB g,ah]at z;subst z;refine ⟨_,b2,?_⟩;unfold wK;rw[av (by omega),av (by omega)];exact yi.refl _
 .rw[hs n I];by_cases f1:ow n=m2\/ow n=m1\/ow n=p\/ow n=ai
  .rw[t.qj hi f1]at z;cases z
  .by_cases f2:ow n=o
   .cases hix:ix n with
    |succ k=>
     unfold erHF at z;rw[t.hg,av I,av f1,aC f2,hix]at z;cases z
    |zero=>
     have en:n=nm o:=by rw[<- f2];exact pI hix
     subst en;exact t.mapB hi z
   .exact t.oth hi I f1 f2 z
end aiw
def atz {s:TS} (c:ji P E nt np T s N W) {p:Nat} {kk:ν} {es:Y s?} (ho:s.h.get i=Z (.qh .zd m es kk (Z (p,af,0)))) {s':TS} (h:aiw s i m p kk es=Z s'):s'.e=s.e/\∃φ',ji P E nt np φ' s' N W/\xS np T φ' (erHF s.h) (erHF s'.h) W W:=by
 unfold aiw at h;split at h
 .rename_i ty S a0 xs ty' l ha hp;split at h
  .rename_i hty;have hty:=eq_of_beq hty;subst hty;split at h
   .rename_i z ai m1 m2 hpk;split at h
    .rename_i e1 e2 L I;split at h
     .rename_i hq;simp only[al,cS]at hq;let⟨q1,q2⟩:=hq;have q1:=au q1;subst q1;have hmm:m1≠m2:=λe=>by simp_all
      let⟨b1,K1,V1,es1,g1⟩:=adf L;let⟨b2,K2,V2,es2,g2⟩:=adf I;simp[ah]at h;subst h;refine ⟨rfl,?_⟩;let⟨l',A⟩:=fH s.h l (c.qz.G p _ l hp);let⟨la1,la2,hlap,hla2,hle⟩:=r_ (rX.refl (erHF s.h)) 40 S l z 0 _ l' hpk A Fx.zero;have hla2:la2=[.mp (nm m1),.mp (nm m2)]:=by simp[cI,bX,ah]at hla2;exact hla2.symm
      have bp:erHF s.h (nm p)=Z ⟨ty',.mx (la1++[.mp (nm m1),.mp (nm m2)])⟩:=by rw[bG,hp];simp[aB,kq,A];rw[hlap,hla2]
      refine zO.cfg (o:=i) (ai:=m) (p:=p) (m1:=m1) (m2:=m2) (len:=aj (α:=CZ S) xs) (ty:=ty') (S:=S) (xs:=xs) (new:=(z,e1,e2)) (kk:=kk) (es:=es) ⟨ho,⟨a0,ha⟩,⟨l,hp⟩,⟨_,_,_,g1⟩,⟨_,_,_,g2⟩,hmm,rfl,λo=>?_⟩ c bp hle b1 b2;rw[PT.get_set,PT.get_set,PT.get_set,PT.get_set,PT.get_set,PT.get_set,PT.get_updI];by_cases f0:o=s.nx
      .rw[aC f0,aC f0];rfl
      .grind
     .cases h
    .cases h
   .cases h
  .cases h
 .cases h
def Z' {n:Nat} {ty:TypeId} {T:Ty} {xss:Y (Y T.den)} {xs:Y T.den} (h:l! xss<=i):rL i ty T (xss.set n xs)=U:=by
 unfold rL
 grind
def HY (nx a r j n:Nat):Nat:=if ow n=nx then (match ix n with
 |0=>n
 |k+1=>if k=j then nm r else jD a (k+1)) else n
def yw (nx a r j k:Nat):HY nx a r j (jD nx (k+1))=if k=j then nm r else jD a (k+1):=by
 unfold HY;rw[iI,wy,aC rfl]
def atx {ty:TS} (c:ji P E nt np T ty N W) {r n:Nat} {kk:ν} {ls:Nat} (ho:ty.h.get i=Z (.qh (.rr s ls) m z kk (Z (r,J,n)))) {s':TS} (h:aty ty i m r n kk.1 s ls z=Z s'):s'.e=ty.e/\∃φ',ji P E nt np φ' s' N W/\xS np T φ' (erHF ty.h) (erHF s'.h) W W:=by
 unfold aty at h;split at h
 .rename_i ty2 φ a0 xss ty3 p S xs ha hrr;split at h
  .rename_i xs' hxs;split at h
   .rename_i hty;have hty:=eq_of_beq hty;subst hty;cases h;refine ⟨rfl,?_⟩;let⟨ee,exs⟩:=je hxs;cases ee;have exs:xs'=xs:=exs;subst exs;have hfr:=c.qz.fresh;have lo:=c.qz.low i _ ho;have la:=c.qz.low m _ ha;have lr:=c.qz.low r _ hrr;have n1:i≠m:=λe=>by rw[e,ha]at ho;cases ho
    have n2:i≠r:=λe=>by rw[e,hrr]at ho;cases ho
    have n3:m≠r:=λe=>by rw[e,hrr]at ha;cases ha
    generalize hjj:kk.1.toNat=j;generalize hh':(((ty.h.set i (Z (.qx (.rr s ls) ty.nx (zX (α:=Int) z j (aS n))))).set m (Z (.qj J 0 0))).set r (Z (.qj p φ.size (aj xs')))).set ty.nx (Z (.qx (.ir ty3 φ) 0 (EX (T:=φ) xss kk.1 xs')))=h';have hg:∀o,h'.get o=if o=ty.nx then Z (.qx (.ir ty3 φ) 0 (EX (T:=φ) xss kk.1 xs')) else if o=r then Z (.qj p φ.size (aj xs')) else if o=m then Z (.qj J 0 0) else if o=i then Z (.qx (.rr s ls) ty.nx (zX (α:=Int) z j (aS n))) else ty.h.get o:=λo=>by
     rw[<- hh',PT.get_set,PT.get_set,PT.get_set,PT.get_set]
    have hdead:∀n,ow n=r\/ow n=m->erHF h' n=U:=λn hn=>by
     unfold erHF;rcases hn with e|e
     .rw[hg,av (by omega),aC e];simp only[aB];cases ix n<;>rfl
     .rw[hg,av (by omega),av (by omega),aC e];simp only[aB];cases ix n<;>rfl
    have hr:bW ty.h h':=λo q hi=>by
     rw[bB]at hi ⊢;rw[hg];by_cases L:o=ty.nx
     .rw[L,hfr]at hi;cases hi
     .rw[av L];by_cases f1:o=r
      .rw[aC f1];rw[f1,hrr]at hi;exact hi
      .rw[av f1];by_cases f2:o=m
       .rw[f2,ha]at hi;cases hi
       .rw[av f2];by_cases f3:o=i
        .rw[aC f3];rw[f3,ho]at hi;simp only[aB,iH,sM,fV]at hi ⊢;exact hi
        .rw[av f3];exact hi
    have hinv:gY h' (ty.nx+1):=by
     refine ⟨λo s l hil=>?_,λo c' hic=>?_⟩
     .rw[hg]at hil;split at hil
      .cases hil
      .split at hil
       .cases hil
       .split at hil
        .cases hil
        .split at hil
         .cases hil
         .exact fo hr l (c.qz.G o _ l hil)
     .rw[hg]at hic;split at hic
      .omega
      .split at hic
       .omega
       .split at hic
        .omega
        .split at hic
         .omega
         .have:=c.qz.low o c' hic;omega
    have hmN:∀k,erHF h' (jD ty.nx (k+1))=rL k ty3 φ (zX xss j xs'):=λk=>by
     rw[kC,hg,aC rfl,<-hjj];rfl
    have hmO:∀k,erHF ty.h (jD m (k+1))=rL k ty3 φ xss:=λk=>by rw[kC,ha];rfl
    have hn0:erHF h' (nm ty.nx)=U:=by rw[bG,hg,aC rfl];rfl
    refine LF c (HY ty.nx m r j) (λn hn=>by unfold HY;rw[av hn]) hr hinv ?_ ?_
    .intro q b' A;by_cases L:ow q=ty.nx
     .cases hix:ix q with
      |zero=>rw[pI hix,L,hn0]at A;cases A
      |succ k=>
       have en:q=jD ty.nx (k+1):=by rw[<- L,<-hix,kK]
       subst en;rw[hmN]at A;rw[yw];by_cases hk:k=j
       .rw[aC hk];subst hk;refine ⟨b',?_,λφ' O' hφ keep oo hoo=>hoo.mono keep⟩;rw[bG,hrr];have hl:k<aj (α:=Y φ.den) xss:=by
         rcases cN k (aj (α:=Y φ.den) xss) with h1|h1
         .exact h1
         .have A:=(Z' (ty:=ty3) (T:=φ) (xss:=xss) (xs:=xs') (n:=k) h1).symm.trans A;cases A
        have A:=(Nw (ty:=ty3) (T:=φ) (xss:=xss) (xs:=xs') hl).symm.trans A;unfold Z_ at A;split at A
        .cases A
        next hz=>simp only[aB,kq];rw[av (by rw[al];exact λe=>hz e.2)];exact A
       .rw[av hk,hmO];exact⟨b',(II (ty:=ty3) (T:=φ) (xss:=xss) (xs:=xs') hk).symm.trans A,λφ' O' hφ keep oo hoo=>hoo.mono keep⟩
     .have hs:HY ty.nx m r j q=q:=by unfold HY;rw[av L]
      rw[hs];by_cases f1:ow q=r\/ow q=m
      .rw[hdead q f1]at A;cases A
      .have f1a:ow q≠r:=λe=>f1 (.inl e)
       have f1b:ow q≠m:=λe=>f1 (.inr e)
       by_cases f2:ow q=i
       .cases hix:ix q with
        |succ k=>
         unfold erHF at A;rw[hg,av L,av f1a,av f1b,aC f2,hix]at A;cases A
        |zero=>
         have en:q=nm i:=by rw[<- f2];exact pI hix
         subst en;rw[dj]at f1a f1b;rw[bG,hg,av (by omega),av f1a,av f1b,aC rfl]at A;have A:Z (ko.mk s (.mx (lK ty.nx ls 0 (zX (α:=Int) z j (aS n)))))=Z b':=A;cases A;rw[bG,ho];refine ⟨⟨s,.mx ((lK m ls 0 z).set kk.1.toNat (du J r ls n))⟩,rfl,λφ' O' hφ keep oo hoo=>?_⟩;rw[hjj]at hoo;have cl:∀(N k l:Nat),(uP N k ls l).isCell=J:=λN k l=>by unfold uP;split<;>rfl
         refine yD (by rw[fV,lh,lh,fV]) (λo x' I=>?_) hoo;have I:=I.symm.trans (yB ty.nx ls (zX (α:=Int) z j (aS n)) 0 o);rw[bZ,iR]at I;by_cases hij:j=o
         .subst hij;rw[aC rfl]at I;by_cases hl:j<aj (α:=Int) z
          .rw[aC hl]at I;simp only[bw,ah]at I;subst I;refine ⟨cl _ _ _,_,by rw[iR,aC rfl,aC (by rw[lh];exact hl)],λv hv=>?_⟩;have hn2:(aS n).toNat=n:=rfl;rw[hn2];unfold du at hv;unfold uP;by_cases hz:n=0
           .rw[aC (by simpa using hz)]at hv ⊢;exact keep _ _ hv
           .rw[av (by simpa using hz)]at hv ⊢;exact LC (by rw[hφ,yw,aC rfl]) hv
          .rw[av hl]at I;cases I
         .rw[av hij]at I;cases hli:(z:η)[o]? with
          |none=>
           have I:Z x'=ik _ ((z:η)[o]?):=I;rw[hli]at I;cases I
          |some l=>
           have I:Z x'=ik _ ((z:η)[o]?):=I;rw[hli]at I;simp only[bw,ah]at I;subst I;refine ⟨cl _ _ _,uP m o ls l.toNat,?_,λv hv=>?_⟩
           .rw[iR,av hij];have:=yB m ls z 0 o;rw[bZ]at this;refine this.trans ?_;show ik _ ((z:η)[o]?)=_;rw[hli];rfl
           .unfold uP at hv ⊢;by_cases hz:l.toNat=0
            .rw[aC (by simpa using hz)]at hv ⊢;exact keep _ _ hv
            .rw[av (by simpa using hz)]at hv ⊢;exact LC (by rw[hφ,yw,av (λe=>hij e.symm)]) hv
       .have hb2:(ty.h.get (ow q)).bind (Pu h' (ow q) (ix q))=Z b':=by
         unfold erHF at A;rw[hg,av L,av f1a,av f1b,av f2]at A;exact A
        cases hx:ty.h.get (ow q) with
        |none=>rw[hx]at hb2;cases hb2
        |some B=>
         rw[hx]at hb2;simp only[aB]at hb2;rw[mo hr (λs l e=>c.qz.G _ _ l (by rw[hx,e]))]at hb2;exact⟨b',by unfold erHF;rw[hx];exact hb2,λφ' O' hφ keep oo hoo=>hoo.mono keep⟩
    .intro q ai b b' hn hm he;have key:∀n b,erHF h' n=Z b->ow n=ty.nx->∃k,n=jD ty.nx (k+1):=λn b hn L=>by
      cases hix:ix n with
      |zero=>rw[pI hix,L,hn0]at hn;cases hn
      |succ k=>exact⟨k,by rw[<- L,<-hix,kK]⟩
     have dS:∀k,erHF h' (HY ty.nx m r j (jD ty.nx (k+1)))=U:=λk=>by
      refine hdead _ ?_;rw[yw];split
      .rw[dj];exact .inl rfl
      .rw[iI];exact .inr rfl
     by_cases L:ow q=ty.nx
     .obtain⟨k,rfl⟩:=key q b hn L;by_cases f1:ow ai=ty.nx
      .obtain⟨k2,rfl⟩:=key ai b' hm f1;rw[yw,yw]at he;have:k=k2:=by
        split at he<;>split at he
        .omega
        .have:=(vw he).2;omega
        .have:=(vw he).2;omega
        .have:=(vw he).2;omega
       rw[this]
      .rw[show HY ty.nx m r j ai=ai from by unfold HY;rw[av f1]]at he;rw[<- he,dS k]at hm;cases hm
     .rw[show HY ty.nx m r j q=q from by unfold HY;rw[av L]]at he;by_cases f1:ow ai=ty.nx
      .obtain⟨k2,rfl⟩:=key ai b' hm f1;rw[he,dS k2]at hn;cases hn
      .rw[show HY ty.nx m r j ai=ai from by unfold HY;rw[av f1]]at he;exact he
   .cases h
  .cases h
 .cases h
def BF (nx a n:Nat):Nat:=if ow n=nx then jD a (ix n) else n
def yA (nx a k:Nat):BF nx a (jD nx k)=jD a k:=by
 unfold BF;rw[iI,wy,aC rfl]
def ajb (a n:Nat) (B:fc):iH (rnG a n B)=iH B:=by
 cases B with
 |qx F b x=>
  simp[rnG];split<;>rfl
 |_=>rfl
def MW {F:uM} (h:akk F=J):(∃ty S,F= .ar ty S)\/∃ty T,F= .ir ty T:=by
 cases F with
 |ar ty S=>exact .inl ⟨ty,S,rfl⟩
 |ir ty T=>exact .inr ⟨ty,T,rfl⟩
 |_=>cases h
def ago {k:Nat} {b':uM} {x:b'.ty.den} (z:Lb i k b' x=Z F):∃b,Lb m k b' x=Z b/\yi T O W (BF i m) b F:=by
 cases b' with
 |ar ty S=>
  let⟨ob,h1,A⟩:=gz.1 z;subst A;exact⟨_,gz.2 ⟨ob,h1,rfl⟩,WN (λ_=>yA i m _) (λ_=>yA i m _)⟩
 |ir ty φ=>exact⟨F,z,yi.refl _⟩
 |_=>cases z
def Ry {R:AV->AV->Prop} {a nx:Nat} (z:∀j,R (.K (qA a j) 0) (.K (qA nx j) 0)):∀es:Y s?,EnR R (w7 a es) (w7 nx es)
 |[]=>trivial
 |e::r=>⟨rfl,z e.2,Ry z r⟩
def ajr (I:uF i (.zm s) z=Z F):∃b,uF m (.zm s) z=Z b/\yi T O W (BF i m) b F:=by
 have hob:∀j,BF i m (qA i j)=qA m j:=λj=>yA i m _
 have I:(if aj z==0 then U else Z (ko.mk s (.mx (im (λj=>AV.K (qA i j) 0) z))))=Z F:=I;show ∃b,(if aj z==0 then U else Z (ko.mk s (.mx (im (λj=>AV.K (qA m j) 0) z))))=Z b/\_;split at I
 .cases I
 .rename_i L;rw[av L];simp[ah]at I;subst I;refine ⟨_,rfl,λφ' O' hφ keep oo hoo=>yD (by simp) (λj x' A=>?_) hoo⟩;rw[bE]at A ⊢;cases hjx:z[j]? with
  |none=>rw[hjx]at A;cases A
  |some nx=>
   rw[hjx]at A;simp[bw,ah]at A;subst A;exact⟨rfl,_,rfl,λv hv=>Dc (by grind) hv⟩
def ajv {es:Y s?} (I:uF i .zd es=Z F):∃b,uF m .zd es=Z b/\yi T O W (BF i m) b F:=by
 have hob:∀j,BF i m (qA i j)=qA m j:=λj=>yA i m _
 cases I;refine ⟨_,rfl,λφ' O' hφ keep L hoo=>?_⟩;let⟨w1,z⟩:=EnR.get (Ry (R:=λx y=>∀v,ch T O W x v->ch φ' O' W y v) (a:=m) (nx:=i) (λj v A=>Dc (by grind) A) es);exact Mx w1 z hoo
def aoe {I:Nat} (L:uF i (.rr s I) z=Z F):∃b,uF m (.rr s I) z=Z b/\yi T O W (BF i m) b F:=by
 have L:Z (ko.mk s (.mx (lK i I 0 z)))=Z F:=L;simp[ah]at L;subst L;refine ⟨_,rfl,λφ' O' hφ keep oo hoo=>yD (by rw[lh,lh]) (λj x' A=>?_) hoo⟩;rw[yB]at A ⊢;cases hjx:z[j]? with
 |none=>rw[hjx]at A;cases A
 |some l=>
  rw[hjx]at A;simp only[bw,ah]at A;subst A;refine ⟨by unfold uP;split<;>rfl,uP m (0+j) I l.toNat,rfl,λv hv=>?_⟩;unfold uP at hv ⊢;by_cases hz:(l.toNat==0)=J
  .grind
  .rw[av hz]at hv ⊢;exact LC (by rw[hφ,yA]) hv
def agr {b':uM} {x:b'.ty.den} (A:uF i b' x=Z F):∃b,uF m b' x=Z b/\yi T O W (BF i m) b F:=by
 cases b' with
 |zm ty=>exact ajr A
 |zd=>exact ajv A
 |rr ty z=>exact aoe A
 |_=>cases A
def au0 {s:TS} (c:ji P E nt np T s N W) {s':TS} (h:au1 s i=Z s'):s'.e=s.e/\∃φ',ji P E nt np φ' s' N W/\xS np T φ' (erHF s.h) (erHF s'.h) W W:=by
 unfold au1 at h;split at h
 .rename_i F a0 x ha;split at h
  .rename_i hF;cases h;refine ⟨rfl,?_⟩;have hfr:=c.qz.fresh;have la:=c.qz.low i _ ha;have hi:=c.qz;generalize hh':((PT.updI (λ_ b=>rnG i s.nx b) 1 0 s.h).set i (Z (.qj J 0 0))).set s.nx (Z (.qx F 0 x))=h';have hg:∀ai,h'.get ai=if ai=s.nx then Z (.qx F 0 x) else if ai=i then Z (.qj J 0 0) else (s.h.get ai).map (rnG i s.nx):=λai=>by
    rw[<- hh',PT.get_set,PT.get_set,PT.get_updI]
   have hF0:sM F x=U:=by rcases MW hF with ⟨_,_,rfl⟩|⟨_,_,rfl⟩<;>rfl
   have hFB:∀q,uF q F x=U:=λq=>by rcases MW hF with ⟨_,_,rfl⟩|⟨_,_,rfl⟩<;>rfl
   have hr:bW s.h h':=λai q hq=>by
    rw[bB]at hq ⊢;rw[hg];by_cases L:ai=s.nx
    .grind
    .rw[av L];by_cases f1:ai=i
     .rw[f1,ha]at hq;simp only[aB,iH,hF0]at hq;cases hq
     .rw[av f1];cases A:s.h.get ai with
      |none=>rw[A]at hq;cases hq
      |some B=>rw[A]at hq;simp only[bw,aB]at hq ⊢;rw[ajb];exact hq
   have hinv:gY h' (s.nx+1):=by
    refine ⟨λai ty l hil=>?_,λai c' hic=>?_⟩
    .rw[hg]at hil;split at hil
     .cases hil
     .split at hil
      .cases hil
      .cases A:s.h.get ai with
       |none=>rw[A]at hil;cases hil
       |some B=>
        rw[A]at hil;simp only[bw,ah]at hil;cases B with
        |G ty2 l3=>
         simp only[rnG,fc.G.injEq]at hil;obtain⟨_,rfl⟩:=hil;exact fo hr l3 (hi.G ai _ l3 A)
        |qx F b x=>simp only[rnG]at hil;split at hil<;>cases hil
        |_=>cases hil
    .rw[hg]at hic;split at hic
     .omega
     .split at hic
      .omega
      .cases A:s.h.get ai with
       |none=>rw[A]at hic;cases hic
       |some B=>have:=hi.low ai B A;omega
   have hdead:∀n,ow n=i->erHF h' n=U:=λn hn=>by
    unfold erHF;rw[hg,av (by omega),aC hn];simp only[aB];cases ix n<;>rfl
   have hn0:erHF h' (nm s.nx)=U:=by
    rw[bG,hg,aC rfl];exact hFB _
   have hmN:∀k,erHF h' (jD s.nx (k+1))=Lb s.nx k F x:=λk=>by rw[kC,hg,aC rfl];rfl
   have hmO:∀k,erHF s.h (jD i (k+1))=Lb i k F x:=λk=>by rw[kC,ha];rfl
   refine LF c (BF s.nx i) (λn hn=>by unfold BF;rw[av hn]) hr hinv (λn b' I=>?_) λn m b b' hn hm he=>?_
   .by_cases L:ow n=s.nx
    .cases hix:ix n with
     |zero=>rw[pI hix,L,hn0]at I;cases I
     |succ k=>
      have en:n=jD s.nx (k+1):=by rw[<- L,<-hix,kK]
      subst en;rw[hmN]at I;rw[yA,hmO];exact ago I
    .have hs:BF s.nx i n=n:=by unfold BF;rw[av L]
     rw[hs];by_cases f1:ow n=i
     .grind
     .cases A:s.h.get (ow n) with
      |none=>
       unfold erHF at I
       grind
      |some B=>
       have z:Pu h' (ow n) (ix n) (rnG i s.nx B)=Z b':=by
        unfold erHF at I
        grind
       have same:rnG i s.nx B=B->∃b,erHF s.h n=Z b/\yi T (tot E T (erHF s.h)) W (BF s.nx i) b b':=λe=>by
        rw[e,mo hr (λty l e=>hi.G _ _ l (by rw[A,e]))]at z;exact⟨b',by unfold erHF;rw[A];exact z,yi.refl b'⟩
       cases B with
       |qx G b y=>
        by_cases hc:(!(akk G)&&aA b i)=J
        .have e0:rnG i s.nx (.qx G b y)= .qx G s.nx y:=by simp only[rnG];rw[aC hc]
         rw[e0]at z;simp only[al,cS]at hc;have hba:=au hc.2;subst hba;cases hix:ix n with
         |succ k=>
          rw[hix]at z;cases G with
          |ar ty S|ir ty φ=>cases hc.1
          |_=>cases z
         |zero=>
          rw[hix]at z;have hsrc:erHF s.h n=uF b G y:=by unfold erHF;rw[A,hix];rfl
          rw[hsrc];exact agr z
        .exact same (by simp only[rnG];rw[av hc])
       |_=>exact same rfl
   .have hs:∀n,ow n≠s.nx->BF s.nx i n=n:=λn hn=>by unfold BF;rw[av hn]
    have key:∀n b,erHF h' n=Z b->ow n=s.nx->BF s.nx i n=jD i (ix n):=λn b hn L=>by unfold BF;rw[aC L]
    by_cases L:ow n=s.nx
    .rw[key n b hn L]at he;by_cases f1:ow m=s.nx
     .rw[key m b' hm f1]at he;rw[<- kK n,<-kK m,L,f1,(vw he).2]
     .rw[hs m f1]at he;rw[<- he,hdead _ (iI ..)]at hm;cases hm
    .rw[hs n L]at he;by_cases f1:ow m=s.nx
     .rw[key m b' hm f1]at he;rw[he,hdead _ (iI ..)]at hn;cases hn
     .grind
  .cases h
 .cases h
variable {j:Y TV}
def au4 {cty:TS} (c:ji P E nt np T cty N W) {id:Nat} (hb:cty.h.get i=Z (.G (Z s) j)) (hv:j[m]? =Z (.I id)) {ty:TypeId} {ai:Nat} (hr0:cty.h.get id=Z (.qx (.zm ty) ai z)):∃φ',ji P E nt np φ' ⟨cty.e,((cty.h.set id (Z (.qj J 1 (aj z)))).set cty.nx (Z (.qx (.zm ty) ai z))).set i (Z (.G (Z s) (splice j m [.I cty.nx]))),cty.nx+1⟩ N W/\xS np T φ' (erHF cty.h) (erHF (((cty.h.set id (Z (.qj J 1 (aj z)))).set cty.nx (Z (.qx (.zm ty) ai z))).set i (Z (.G (Z s) (splice j m [.I cty.nx]))))) W W:=by
 have hfr:=c.qz.fresh;have hidlt:=c.qz.low id _ hr0;have hblt:=c.qz.low i _ hb;have hbid:i≠id:=λe=>by rw[e,hr0]at hb;cases hb
 have hbn:i≠cty.nx:=by omega
 have hin:id≠cty.nx:=by omega
 generalize hh2:(((cty.h.set id (Z (.qj J 1 (aj z)))).set cty.nx (Z (.qx (.zm ty) ai z))).set i (Z (.G (Z s) (splice j m [.I cty.nx]))))=h2;have j7:∀b,h2.get b=if b=i then Z (.G (Z s) (splice j m [.I cty.nx])) else if b=cty.nx then Z (.qx (.zm ty) ai z) else if b=id then Z (.qj J 1 (aj z)) else cty.h.get b:=λb=>by
  rw[<- hh2,PT.get_set,PT.get_set,PT.get_set]
 have hr:bW cty.h h2:=λb r hi=>by
  rw[bB]at hi ⊢;rw[j7];by_cases e1:b=i
  .subst e1;rw[hb]at hi;cases hi
  .rw[av e1];by_cases e2:b=cty.nx
   .subst e2;rw[hfr]at hi;cases hi
   .rw[av e2];by_cases e3:b=id
    .subst e3;rw[aC rfl];rw[hr0]at hi;exact hi
    .rw[av e3];exact hi
 have hlo:=c.qz.G i _ j hb;let⟨l',hl'⟩:=fH cty.h j hlo;have hrow:bX h2 (.I cty.nx)=Z (du J cty.nx 1 (l! z)):=by
  simp only[bX,bB,j7];rw[av hbn.symm];simp only[bt,aB,iH,sM]
 have hsp:cI h2 (splice j m [.I cty.nx])=Z (splice l' m [du J cty.nx 1 (l! z)]):=rN _ (gV hr _ _ hl') (by simp only[cI,hrow]);let⟨y,hy,hey⟩:=mn hl' _ _ hv;have hy0:y=du J id 1 (l! z):=by
  simp only[bX,bB,hr0,aB,iH,sM,ah]at hey;exact hey.symm
 subst hy0;have hinv:gY h2 (cty.nx+1):=by
  refine ⟨λb ty2 l2 hil=>?_,λb q hiq=>?_⟩
  .rw[j7]at hil;split at hil
   .simp only[ah,fc.G.injEq]at hil;obtain⟨_,rfl⟩:=hil;exact lY _ _ _ hsp
   .split at hil
    .cases hil
    .split at hil
     .cases hil
     .exact fo hr l2 (c.qz.G b _ l2 hil)
  .rw[j7]at hiq;split at hiq
   .omega
   .split at hiq
    .omega
    .split at hiq
     .omega
     .have:=c.qz.low b q hiq;omega
 have hdead:∀n,ow n=id->erHF h2 n=U:=λn hn=>by
  unfold erHF;rw[j7,av (by omega),av (by omega),aC hn];simp only[aB];cases ix n<;>rfl
 have hm0:∀n k,ow n=cty.nx->ix n=k+1->erHF h2 n=U:=λn k hn hk=>by
  unfold erHF;rw[j7,av (by omega),aC hn,hk];rfl
 refine LF c (λn=>if n=nm cty.nx then nm id else n) (λn hn=>by rw[av (λe=>hn (by rw[e,dj]))]) hr hinv (λn b' A=>?_) λn o p q hn hm he=>?_
 .show ∃i,erHF cty.h (if n=nm cty.nx then nm id else n)=Z i/\_;by_cases f0:ow n=cty.nx
  .cases hix:ix n with
   |succ k=>rw[hm0 n k f0 hix]at A;cases A
   |zero=>
    have en:n=nm cty.nx:=by rw[<- f0];exact pI hix
    rw[aC en];subst en;rw[bG,j7,av hbn.symm,aC rfl]at A;rw[bG,hr0];exact⟨b',A,λφ' O' hφ keep oo hoo=>hoo.mono keep⟩
  .have en:n≠nm cty.nx:=λe=>f0 (by rw[e,dj])
   rw[av en];by_cases f1:ow n=id
   .rw[hdead n f1]at A;cases A
   .by_cases f2:ow n=i
    .cases hix:ix n with
     |succ k=>
      unfold erHF at A;rw[j7,aC f2,hix]at A;cases A
     |zero=>
      have eb:n=nm i:=by rw[<- f2];exact pI hix
      subst eb;rw[bG,j7,aC rfl]at A;simp only[aB,kq,hsp,ah]at A;subst A;refine ⟨⟨s,.mx l'⟩,by rw[bG,hb];simp only[aB,kq,hl'],λφ' O' hφ keep oo hoo=>?_⟩;have hlt:m<l! l':=(bz.1 hy).1;have hφ0:φ' (nm cty.nx)=T (nm id):=by rw[hφ];simp
      rw[rz rfl]at hoo ⊢;let⟨arr,a1,a2⟩:=hoo;refine ⟨arr,a1,?_⟩;unfold vH at a2 ⊢;refine ⟨by simp only[BC.len]at a2 ⊢;rw[ny (by simp;omega)];exact a2.1,λl x L=>?_⟩;simp only[BC.get]at L a2;rw[oA (by simp;omega)]at L;split at L
      .grind
      .split at L
       .rename_i h3 h4;simp only[dI]at h4;have hj:l=m:=by omega
        subst hj;simp only[Lw,h_,ah]at L;subst L;let⟨_,v,a3,a4⟩:=a2.2 _ _ hy;refine ⟨by unfold du;split<;>rfl,v,a3,?_⟩;unfold du at a4 ⊢;by_cases hz:l! z=0
        .grind
        .rw[av (by simpa using hz)]at a4 ⊢;exact LC hφ0 a4
       .grind
    .cases L:cty.h.get (ow n) with
     |none=>
      unfold erHF at A;rw[j7,av f2,av f0,av f1,L]at A;cases A
     |some B=>
      unfold erHF at A;rw[j7,av f2,av f0,av f1,L]at A;simp only[aB]at A;rw[mo hr (λty j e=>c.qz.G _ _ j (by rw[L,e]))]at A;exact⟨b',by unfold erHF;rw[L];exact A,λφ' O' hφ keep oo hoo=>hoo.mono keep⟩
 .have he:(if n=nm cty.nx then nm id else n)=(if o=nm cty.nx then nm id else o):=he;by_cases f0:n=nm cty.nx
  .rw[aC f0]at he;by_cases f1:o=nm cty.nx
   .rw[f0,f1]
   .rw[av f1]at he;rw[<- he,hdead _ (dj id)]at hm;cases hm
  .rw[av f0]at he;by_cases f1:o=nm cty.nx
   .rw[aC f1]at he;rw[he,hdead _ (dj id)]at hn;cases hn
   .rw[av f1]at he;exact he
def atv {s:TS} (c:ji P E nt np T s N W) {s':TS} (h:atw s i=Z s'):s'.e=s.e/\∃φ',ji P E nt np φ' s' N W/\xS np T φ' (erHF s.h) (erHF s'.h) W W:=by
 unfold atw at h;split at h
 next z=>exact atz c z h
 next z=>exact atx c z h
 .split at h
  .cases h
  .exact au0 c h
 .cases h
def Yk {s:TS} (c:ji P E nt np T s N W) (hr:bW s.h h) (I:erHF h=erHF s.h) (hinv:gY h (s.nx+1)):ji P E nt np T ⟨s.e,h,s.nx+1⟩ N W/\xS np T T (erHF s.h) (erHF h) W W:=by
 refine ⟨⟨by rw[I];exact c.ql,λt x A=>?_,λn k hk=>qH (c.dom n k hk),fD c.low,hinv,λt x A=>m7 hr x (c.qc t x A),c.inert,c.size⟩,by rw[I];exact xS.refl _ _ _ _⟩;rw[I];simp[fQ]at A;cases he:s.e.get t with
 |none=>rw[he]at A;cases A
 |some q=>
  rw[he]at A;let⟨z,L⟩:=pG s.h q (c.qc t q he);simp[aB,fZ hr q z L,ah]at A;subst A;exact c.env t _ (by simp[fQ,he,aB,L])
def ayp {s:TS} (c:ji P E nt np T s N W) {V:Ty} {es:Y (S.den×V.den)} (hb:s.h.get i=Z (.mp S V es)) (hE:mpE S V es=J) (ty:TypeId) (K:Ty):ji P E nt np T ⟨s.e,(s.h.set i (Z (.qx .zd s.nx []))).set s.nx (Z (.qx (.ar ty K) 0 [])),s.nx+1⟩ N W/\xS np T T (erHF s.h) (erHF ((s.h.set i (Z (.qx .zd s.nx []))).set s.nx (Z (.qx (.ar ty K) 0 [])))) W W:=by
 have hfr:=c.qz.fresh;have hlt:=c.qz.low i _ hb;generalize hh':(s.h.set i (Z (.qx .zd s.nx []))).set s.nx (Z (.qx (.ar ty K) 0 []))=h';have I:∀id,h'.get id=if id=s.nx then Z (.qx (.ar ty K) 0 []) else if id=i then Z (.qx .zd s.nx []) else s.h.get id:=λid=>by
  rw[<- hh',PT.get_set,PT.get_set]
 have L:bW s.h h':=λid q hi=>by
  rw[bB]at hi ⊢;rw[I];by_cases A:id=s.nx
  .grind
  .rw[av A];by_cases z:id=i
   .rw[z,hb]at hi;cases hi
   .grind
 refine Yk c L ?_ ⟨λid ty l hil=>?_,λid c' hic=>?_⟩
 .funext n;unfold erHF;rw[I];by_cases A:ow n=s.nx
  .rw[aC A,A,hfr];cases ix n<;>rfl
  .rw[av A];by_cases z:ow n=i
   .rw[aC z,z,hb];simp[aB];cases ix n with
    |succ k=>rfl
    |zero=>
     simp[Pu,kq,Fc (ak6 hE),Te hE,C6];rfl
   .rw[av z];cases hx:s.h.get (ow n) with
    |none=>rfl
    |some B=>exact mo L (λty l e=>c.qz.G _ _ l (by rw[hx,e])) _ _
 .rw[I]at hil;split at hil
  .cases hil
  .split at hil
   .cases hil
   .exact fo L l (c.qz.G id _ l hil)
 .rw[I]at hic;split at hic
  .omega
  .split at hic
   .omega
   .have:=c.qz.low id c' hic;omega
def ayl {s:TS} (c:ji P E nt np T s N W) (ai:Nat) (ty:TypeId):ji P E nt np T ⟨s.e,s.h.set s.nx (Z (.qx (.zm ty) ai [])),s.nx+1⟩ N W/\erHF (s.h.set s.nx (Z (.qx (.zm ty) ai [])))=erHF s.h:=by
 have hfr:=c.qz.fresh;have z:bW s.h (s.h.set s.nx (Z (.qx (.zm ty) ai []))):=bW.set λr z=>by rw[bB,hfr]at z;cases z
 have I:erHF (s.h.set s.nx (Z (.qx (.zm ty) ai [])))=erHF s.h:=by
  funext n;unfold erHF;rw[PT.get_set];by_cases A:ow n=s.nx
  .rw[aC A,A,hfr];cases ix n<;>rfl
  .rw[av A];cases L:s.h.get (ow n) with
   |none=>rfl
   |some B=>exact mo z (λty l e=>c.qz.G _ _ l (by rw[L,e])) _ _
 exact⟨(Yk c z I (c.qz.set z (ox _) (Sk _) (λ_ _ he=>by cases he))).1,I⟩
end ren
def CW:∀(l:Y uJ) (acc:Nat),UC l acc=acc|||UC l 0
 |[],acc=>by simp[UC]
 |o::r,acc=>by
  simp only[UC];cases o.dst with
  |none=>exact CW r acc
  |some d=>simp only[];rw[CW r (acc|||gA d),CW r (0|||gA d),wR,kG]
def Dj:∀(l:ι) (acc:Nat),PL l acc=acc|||PL l 0
 |[],acc=>by simp[PL]
 |k::r,acc=>by simp only[PL];rw[Dj r (acc|||gA k),Dj r (0|||gA k),wR,kG]
def kD:∀(l:Y Adj) (acc:Nat),mU l acc=acc|||mU l 0
 |[],acc=>by simp[mU]
 |.nil k _ _::r,acc=>by simp only[mU];rw[kD r (acc|||gA k),kD r (0|||gA k),wR,kG]
 |.qn _ _ _ _::r,acc|.mpt _ _ _::r,acc=>by exact kD r acc
 |.qw k _::r,acc=>by simp only[mU];rw[kD r (acc|||gA k),kD r (0|||gA k),wR,kG]
 |.pk _ _ _::r,acc|.fmp _ _ _ _::r,acc|.frw _ _ _ _::r,acc|.tak _ _::r,acc=>by exact kD r acc
def g_:∀(c:TC) (acc:Nat),c.asg acc=acc|||c.asg 0
 |.jy ops _,acc=>CW ops acc
 |.seq a b,acc=>by simp[TC.asg];rw[g_ b (a.asg acc),g_ b (a.asg 0),g_ a acc,kG]
 |.jx A a b,acc=>by simp[TC.asg];rw[g_ b (a.asg _),g_ b (a.asg (PL A.ks 0)),g_ a (PL A.ks acc),g_ a (PL A.ks 0),Dj A.ks acc,kG,kG,kG]
 |.cond _ a b,acc=>by simp[TC.asg];rw[g_ b (a.asg acc),g_ b (a.asg 0),g_ a acc,kG]
 |.block _ b,acc=>g_ b acc
 |.zk A _ b,acc|.loop A b,acc=>by simp[TC.asg];rw[g_ b (PL A.ks acc),g_ b (PL A.ks 0),Dj A.ks acc,kG]
 |.defer _ _ t,acc=>by simp[TC.asg]
 |.adj l c,acc=>by simp[TC.asg];rw[g_ c (mU l acc),g_ c (mU l 0),kD l acc,kG]
 |.split _ _ _ _ c,acc=>g_ c acc
 |.bsp _ a b,acc=>by simp[TC.asg];rw[g_ b (a.asg acc),g_ b (a.asg 0),g_ a acc,kG]
 |.unl _ b,acc=>g_ b acc
 |.skip,acc|.exit _,acc|.ret,acc|.jq,acc=>by simp[TC.asg]
def vF {c:TC} (h:aM (c.asg 0) m=J):aM (c.asg i) m=J:=by rw[g_,bq,h];simp
def kg {c:TC} (h:aM i m=J):aM (c.asg i) m=J:=by rw[g_,bq,h];rfl
def adh:∀{l:ι} {acc k:Nat},k∈l->aM (PL l acc) k=J
 |[],_,_,h=>by cases h
 |x::r,acc,k,h=>by
  simp[PL];rcases bh.1 h with rfl|h
  .rw[Dj,bq,bq,bm.2 rfl];simp
  .exact adh h
def Yb:∀{l:Y uJ} {acc:Nat} {o:uJ} {d:Nat},o∈l->o.dst=Z d->aM (UC l acc) d=J
 |[],_,_,_,h,_=>by cases h
 |x::r,acc,o,d,h,hd=>by
  simp[UC];rcases bh.1 h with rfl|h
  .rw[hd];rw[CW,bq,bq,bm.2 rfl];simp
  .exact Yb h hd
def adt:∀{e:ia} {z:ι} {vs:Y TV},j7 e z=Z vs->l! vs=l! z/\∀(j k:Nat),z[j]? =Z k->∃v,vs[j]? =Z v/\e.get k=Z v
 |e,[],vs,h=>by simp[j7,ah]at h;subst h;exact⟨rfl,by simp⟩
 |e,k::r,vs,h=>by
  simp[j7]at h;split at h
  .rename_i v L;split at h
   .rename_i l hl;simp[ah]at h;subst h;let⟨h1,h2⟩:=adt hl;refine ⟨by simp[h1],λj I A=>?_⟩;cases j with
    |zero=>simp at A;subst A;exact⟨v,rfl,L⟩
    |succ j=>simpa using h2 j I (by grind)
   .cases h
  .cases h
def Mw {e:ia} (hi:s7 e h):∀{A:ι} {vs:Y TV},j7 e A=Z vs->lM h vs=J
 |[],vs,z=>by simp[j7,ah]at z;subst z;rfl
 |k::r,vs,z=>by
  simp[j7]at z;split at z
  .rename_i v I;split at z
   next l L=>simp[ah]at z;subst z;simp[lM,al];exact⟨hi k v I,Mw hi L⟩
   .cases z
  .cases z
def FL:∀{e:ia} {z:ι} {vs:Y TV},l! vs=l! z->∀t v,(afe e z vs).get t=Z v->(∃j:Nat,z[j]? =Z t/\vs[j]? =Z v)\/(t∉z/\e.get t=Z v)
 |e,[],[],_,t,v,h=>.inr ⟨by simp,h⟩
 |e,[],_::_,A,t,v,h|e,_::_,[],A,t,v,h=>by simp at A
 |e,k::r,u::l,A,t,v,h=>by
  simp[afe,PT.get_set]at h;split at h
  next L=>subst L;cases h;exact .inl ⟨0,rfl,rfl⟩
  .rename_i L;rcases FL (by grind) t v h with ⟨j,h1,I⟩|⟨h1,I⟩
   .exact .inl ⟨j+1,by simpa using h1,by simpa using I⟩
   .grind
def vO {e:ia}:∀{A:ι} {k:Nat} {v:TV},(Gk i e A).get k=Z v->k∈A/\e.get k=Z v/\wA v=J/\aM i k=af
 |[],k,v,h=>by simp[Gk,PT.get]at h
 |x::r,k,v,h=>by
  simp[Gk]at h;split at h
  .rename_i u I;split at h
   .rename_i L;rw[PT.get_set]at h;split at h
    .grind
    .obtain⟨h1,z⟩:=vO h;exact⟨by simp[h1],z⟩
   .obtain⟨h1,z⟩:=vO h;exact⟨by simp[h1],z⟩
  .obtain⟨h1,z⟩:=vO h;exact⟨by simp[h1],z⟩
def MT {e0 e:ia}:∀{z:ι},LN i e0 e z=J->∀k v,k∈z->e0.get k=Z v->wA v=J->aM i k=af->∃I,e.get k=Z I
 |[],_,k,v,h,_,_,_=>by cases h
 |x::r,A,k,v,h,L,hf,ha=>by
  simp[LN,al]at A;rcases bh.1 h with rfl|h
  .grind
  .exact MT A.2 k v h L hf ha
section walk
variable {P:Program} {E:Nat->Prop} {nt np:Nat}
def WR (A:aki u=J) (z:bX h u=Z y):Le y .emp:=by
 cases u with
 |nil=>simp[bX,ah]at z;subst z;exact Le.nilEmp
 |emp=>simp[bX,ah]at z;subst z;exact Le.refl _
 |_=>cases A
def aev {s:TS} (c:ji P E nt np T s N W) (ty:TypeId) (φ:Ty):ji P E nt np T ⟨s.e,s.h.set s.nx (Z (.H ty J φ [])),s.nx+1⟩ N W/\erHF (s.h.set s.nx (Z (.H ty J φ [])))=erHF s.h/\bW s.h (s.h.set s.nx (Z (.H ty J φ []))):=by
 have hfr:=c.qz.fresh;have I:bW s.h (s.h.set s.nx (Z (.H ty J φ []))):=bW.set λr I=>by rw[bB,hfr]at I;cases I
 have L:erHF (s.h.set s.nx (Z (.H ty J φ [])))=erHF s.h:=by
  funext n;by_cases hn:n=nm s.nx
  .subst hn;rw[bG,bG,PT.get_set,aC rfl,hfr];rfl
  .refine mQ c.qz I (iG.set (by rw[hfr];rfl) rfl) λi e=>?_
   subst e;rw[PT.get_set,av (λe=>hn (by rw[e]))]
 refine ⟨⟨by rw[L];exact c.ql,?_,λn k hk=>qH (c.dom n k hk),fD c.low,c.qz.set I (ox _) (Sk _) (λ_ _ he=>by cases he),?_,c.inert,c.size⟩,L,I⟩
 .intro t x A;rw[L];simp[fQ]at A;cases he:s.e.get t with
  |none=>rw[he]at A;cases A
  |some q=>
   rw[he]at A;let⟨z,hz⟩:=pG s.h q (c.qc t q he);simp[aB,fZ I q z hz,ah]at A;subst A;exact c.env t _ (by simp[fQ,he,aB,hz])
 .intro t x A;exact m7 I x (c.qc t x A)
def B7 :∀{a b:Y TV},lM h a=J->lM h b=J->lM h (a++b)=J
 |[],_,_,z=>z
 |x::r,b,A,z=>by
  simp[lM,al]at A;simp[gG,lM,al];exact⟨A.1,B7 A.2 z⟩
def Rb :∀{a:Y TV} (n:Nat),lM h a=J->lM h (a.take n)=J
 |[],n,_=>by simp[lM]
 |x::r,0,_=>rfl
 |x::r,n+1,z=>by
  simp[lM,al]at z;simp[yn,lM,al];exact⟨z.1,Rb n z.2⟩
def Rc :∀{a:Y TV} (n:Nat),lM h a=J->lM h (a.drop n)=J
 |[],n,_=>by simp[lM]
 |x::r,0,z=>z
 |x::r,n+1,z=>by
  simp[lM,al]at z;exact Rc n z.2
def BX {l:Y R} {x:R} (h:l[i]? =Z x):splice l i [x]=l:=by
 have z:i<l! l:=by grind
 rw[aF z,ah]at h;unfold splice;subst h;simp
def Yl {s:TS} (c:ji P E nt np T s N W) {id:Nat} {cty:M TypeId} {l:Y TV} {v:TV} (hb:s.h.get id=Z (.G cty l)) (hv:l[i]? =Z v) (hn:aki v=J) (hu:bX s.h u=Z .emp) (huo:PI s.h u=J):
 ji P E nt np T ⟨s.e,s.h.set id (Z (.G cty (splice l i [u]))),s.nx⟩ N W/\xS np T T (erHF s.h) (erHF (s.h.set id (Z (.G cty (splice l i [u]))))) W W:=by
 have I:bW s.h (s.h.set id (Z (.G cty (splice l i [u])))):=bW.set λr I=>by rw[bB,hb]at I;cases I
 have hlo:=c.qz.G id _ l hb;let⟨l',L⟩:=fH s.h l hlo;have hsp:cI s.h (splice l i [u])=Z (splice l' i [.emp]):=rN i L (by simp[cI,hu]);have hsp':cI (s.h.set id (Z (.G cty (splice l i [u])))) (splice l i [u])=Z (splice l' i [.emp]):=gV I _ _ hsp;let⟨y,hy,hey⟩:=mn L i v hv;have hold:erHF s.h (nm id)=Z (am0 cty l'):=by rw[bG,hb];cases cty<;>(simp [aB,kq,L];rfl)
 have hnew:erHF (s.h.set id (Z (.G cty (splice l i [u])))) (nm id)=Z (am0 cty (splice l' i [.emp])):=by
  rw[bG,PT.get_set,aC rfl];cases cty<;>(simp [aB,kq,hsp'];rfl)
 have hoth:∀n,n≠nm id->erHF (s.h.set id (Z (.G cty (splice l i [u])))) n=erHF s.h n:=λn hn'=>by
  refine mQ c.qz I (iG.set (by rw[hb];rfl) rfl) λj e=>?_
  subst e;rw[PT.get_set,av (λe=>hn' (by rw[e]))]
 have hdom:rX (erHF s.h) (erHF (s.h.set id (Z (.G cty (splice l i [u]))))):=λn b hb'=>by grind
 have hcell:∀ty,cty=Z ty->∀x∈l',x.isCell=J:=λty hty x A=>by
  subst hty;let⟨k,hk⟩:=fG A;let⟨q,_,_,hat⟩:=c.ql.at_ _ _ hold;let⟨ob,_,hob⟩:=hat;let⟨arr,_,hca⟩:=hob;exact (hca.2 k x hk).1
 have hV:O4 (erHF s.h) (erHF (s.h.set id (Z (.G cty (splice l i [u]))))):=⟨hdom,λn b b' h1 h2=>by
  by_cases e:n=nm id
  .subst e;rw[hold]at h1;cases h1;rw[hnew]at h2;cases h2;have hle:gX (erHF s.h) (erHF (s.h.set id (Z (.G cty (splice l i [u]))))) l' (splice l' i [.emp]):=by
    have:=gX.splice i (gX.refl hdom l') (b:=[y]) (b':=[.emp]) ⟨(WR hn hey).toH hdom,trivial⟩;rw[BX hy]at this;exact this
   cases cty with
   |none=>exact gx.none
   |some ty=>
    refine gx.G rfl rfl hle λx A=>?_
    have A:x∈splice l' i [.emp]:=A;unfold splice at A;rw[cq,cq,aG]at A;rcases A with (A|A)|A
    .grind
    .subst A;rfl
    .grind
  .rw[hoth n e,h1]at h2;cases h2;exact gx.refl hdom b⟩
 refine ⟨⟨hV.ql c.ql,?_,c.dom,c.low,c.qz.set I (c.qz.low id _ hb) (bK _) (λty l2 he=>?_),?_,c.inert,c.size⟩,⟨Jd.refl _ _,λk _ ho=>hdom.own ho,λ_ _=>rfl⟩⟩
 .intro t x A;simp[fQ]at A;cases he:s.e.get t with
  |none=>rw[he]at A;cases A
  |some q=>
   rw[he]at A;let⟨z,hz⟩:=pG s.h q (c.qc t q he);simp[aB,fZ I q z hz,ah]at A;subst A;exact (c.env t _ (by simp[fQ,he,aB,hz])).dom hdom
 .simp[fc.G.injEq]at he;obtain⟨_,rfl⟩:=he;refine fo I _ ?_;exact B7 (B7 (Rb _ hlo) (by simp only[lM,huo,ou])) (Rc _ hlo)
 .intro t x A;exact m7 I x (c.qc t x A)
def ji.congr {s s':TS} (c:ji P E nt np T s N W) (he:∀t,s'.e.get t=s.e.get t) (hh:∀i,s'.h.get i=s.h.get i) (hn:s'.nx=s.nx):ji P E nt np T s' N W/\erHF s'.h=erHF s.h:=by
 have L:bW s.h s'.h:=λi r hi=>by rw[bB]at hi ⊢;rw[hh];exact hi
 have hH:erHF s'.h=erHF s.h:=by funext n;exact mQ c.qz L (λi k=>by rw[hh]) λi _=>hh i
 refine ⟨⟨by rw[hH];exact c.ql,?_,by rw[hn];exact c.dom,by rw[hn];exact c.low,⟨λi ty l A=>?_,λi b A=>?_⟩,λt v hv=>?_,c.inert,c.size⟩,hH⟩
 .intro t x I;rw[hH];simp[fQ,he]at I;cases A:s.e.get t with
  |none=>rw[A]at I;cases I
  |some v=>
   rw[A]at I;let⟨z,hz⟩:=pG s.h v (c.qc t v A);simp[aB,fZ L v z hz,ah]at I;subst I;exact c.env t _ (by simp[fQ,A,aB,hz])
 .rw[hh]at A;exact fo L l (c.qz.G i _ l A)
 .rw[hh]at A;rw[hn];exact c.qz.low i b A
 .rw[he]at hv;exact m7 L v (c.qc t v hv)
variable {a:Int}
def Vc {f:Nat->M R} {r:R}:∀{m i:Nat},spl a f i m=Z r->∃j,a=aS j/\f j=Z r
 |0,i,h=>by cases h
 |m+1,i,h=>by
  rcases mS h with ⟨h1,z⟩|⟨_,z⟩
  .grind
  .exact Vc z
def aj7 {s s':TS} (c:ji P E nt np T s N W) {kd:IntKind} {v:Int} (h1:ako s i m=Z (kd,v)) (z:Y5 s i m kd v=Z s'):ji P E nt np T s' N W/\erHF s'.h=erHF s.h/\∀t,s'.e.get t=s.e.get t:=by
 unfold ako at h1;unfold Y5 at z;cases hk:s.e.get i with
 |none=>rw[hk]at h1;cases h1
 |some x=>
  rw[hk]at h1 z;cases x with
  |f φ q=>
   cases φ with
   |int kd'=>
    simp[ah,aQ]at h1;obtain⟨rfl,rfl⟩:=h1;simp[ah]at z;subst z;have he:∀t,(s.e.set i (Z (.f (.int kd') q))).get t=s.e.get t:=λt=>by
     rw[PT.get_set];split
     .grind
     .rfl
    let⟨g1,g2⟩:=c.congr (s':=⟨s.e.set i (Z (.f (.int kd') q)),s.h,s.nx⟩) he (λ_=>rfl) rfl;exact⟨g1,g2,he⟩
   |_=>cases h1
  |K a0 A=>
   simp[]at h1 z;cases L:s.h.get a0 with
   |none=>rw[L]at h1;cases h1
   |some b=>
    rw[L]at h1 z;cases b with
    |G ty l=>
     cases ty with
     |none=>cases h1
     |some ty=>
     simp only[]at h1 z;cases I:l[A+m]? with
     |none=>rw[I]at h1;cases h1
     |some y=>
      rw[I]at h1;cases y with
      |f φ q=>
       cases φ with
       |int kd'=>
        simp[ah,aQ]at h1;obtain⟨rfl,rfl⟩:=h1;simp[ah]at z;subst z;have hh:∀k,(s.h.set a0 (Z (.G (Z ty) (splice l (A+m) [.f (.int kd') q])))).get k=s.h.get k:=λk=>by
         rw[PT.get_set];split
         next e=>subst e;rw[L,BX I]
         .rfl
        let⟨g1,g2⟩:=c.congr (s':=⟨s.e,s.h.set a0 (Z (.G (Z ty) (splice l (A+m) [.f (.int kd') q]))),s.nx⟩) (λ_=>rfl) hh rfl;exact⟨g1,g2,λ_=>rfl⟩
       |_=>cases h1
      |_=>cases h1
    |_=>cases h1
  |_=>cases h1
mutual
def Q1 (id sz n:Nat):∀v:TV,wA v=J->Px id sz n v=v
 |.f _ _,_|.zf _ _ _ _ _,_|.emp,_|.nil,_|.undef,_|.np,_|.qy,_=>rfl
 |.agg l,h|.qp l,h=>by simp[Px];rw[ES id sz n l h]
 |.zq _ _ _ _,h|.K _ _,h|.qg _ _ _,h|.I _,h|.zl _ _,h|.mp _,h|.qf _ _,h|.sb _,h=>by cases h
def ES (id sz n:Nat):∀l:Y TV,sG l=J->Ji id sz n l=l
 |[],_=>rfl
 |x::r,h=>by
  simp[sG,al]at h;simp only[Ji];rw[Q1 id sz n x h.1,ES id sz n r h.2]
end
section subs
variable {id sz n:Nat} {h h':a8}
mutual
def Sw (hr:bW h h') (hid:eO h' id=Z (af,sz,n)):∀(v:TV) (y:AV),bX h v=Z y->bX h' (Px id sz n v)=Z y
 |.qg i s m,y,he=>by
  simp[bX,ah]at he;subst he;simp only[Px];split
  .rename_i hq;simp only[al]at hq;have e1:=au hq.1.1;have e2:=au hq.1.2;have e3:=au hq.2;subst e1 e2 e3;simp[bX,hid,du,oY,cO,dZ]
  .rfl
 |.agg l,y,he|.qp l,y,he|.qf g l,y,he=>by
  simp[bX]at he;cases hl:cI h l with
  |none=>rw[hl]at he;cases he
  |some l'=>rw[hl]at he;simp only[Px,bX,yr hr hid l l' hl];exact he
 |.f T v,y,he|.zf T xs j hj off,y,he|.zq _ _ _ _,y,he|.K _ _,y,he|.I _,y,he|.zl _ _,y,he|.emp,y,he|.nil,y,he|.mp _,y,he|.undef,y,he|.np,y,he|.qy,y,he|.sb _,y,he=>fZ hr _ _ he
def yr (hr:bW h h') (hid:eO h' id=Z (af,sz,n)):∀(l:Y TV) (l':Y AV),cI h l=Z l'->cI h' (Ji id sz n l)=Z l'
 |[],l',he=>by simp[cI,ah]at he;subst he;rfl
 |x::r,l',he=>by
  obtain⟨y,l2,rfl,h1,h2⟩:=cV he;exact qT (Sw hr hid x y h1) (yr hr hid r l2 h2)
end
end subs
def ay6 {s:TS} (c:ji P E nt np T s N W) {φ:Ty} {n:Nat} {s':TS} (hp:pkS s φ i m n=Z s'):ji P E nt np T s' N W/\xS np T T (erHF s.h) (erHF s'.h) W W/\fP 0 s.e s'.e:=by
 unfold pkS at hp;split at hp
 .rename_i ty l hb;split at hp
  .rename_i hs;have hs:=au hs;subst hs;split at hp
   .rename_i xs sz hpk;split at hp
    .cases hp
    .rename_i hmid;cases hp;have hm:dJ s.h sz:=S0 n l xs sz hpk;let⟨l',hl⟩:=fH s.h l (c.qz.G i _ l hb);have hidlt:=c.qz.low i _ hb;have j7:∀id,((PT.updI (λ_ b=>YZ i φ.size n b) 1 0 (dM sz s.h)).set i (Z (.H ty af φ xs))).get id=if id=i then Z (.H ty af φ xs) else if aM sz id then (s.h.get id).map vi else (s.h.get id).map (YZ i φ.size n):=λid=>by
      rw[PT.get_set];by_cases e:id=i
      .rw[aC e,aC e]
      .rw[av e,av e,PT.get_updI,iL];split
       .cases A:s.h.get id with
        |none=>rfl
        |some b=>
         let⟨p1,s1,n1,e1⟩:=MR b;simp only[bw,e1,YZ]
       .rfl
     generalize hH2:((PT.updI (λ_ b=>YZ i φ.size n b) 1 0 (dM sz s.h)).set i (Z (.H ty af φ xs)))=h2 at j7 ⊢;have hr:bW s.h h2:=λid r hi=>by
      rw[bB]at hi ⊢;rw[j7];by_cases e:id=i
      .subst e;rw[hb]at hi;cases hi
      .rw[av e];cases A:s.h.get id with
       |none=>rw[A]at hi;cases hi
       |some b=>
        rw[A]at hi;split
        .exact Q6 hi
        .cases b<;>first|exact hi|cases hi
     have hnone:∀id,aM sz id=J->erHF h2 (nm id)=U:=λid hi=>by
      have e:id≠i:=λe=>by subst e;exact hmid hi
      let⟨ty',p',T',xs',L⟩:=hm id hi;rw[bG,j7,av e,aC hi,L];rfl
     have hme:iG s.h h2:=λid k=>by
      rw[j7];by_cases e:id=i
      .rw[aC e,e,hb];rfl
      .rw[av e];split
       next hmi=>let⟨ty',p',T',xs',L⟩:=hm id hmi;rw[L];rfl
       .cases A:s.h.get id with
        |none=>rfl
        |some b=>cases b<;>rfl
     have hdom:rX (erHF s.h) (erHF h2):=λq b hq=>by
      rcases NA hme hq with h0|⟨id,cc,rfl,I,h4⟩
      .exact⟨b,h0⟩
      rw[bG];rw[j7]at I;by_cases e:id=i
      .subst e;rw[hb];simp only[aB,kq,hl];exact⟨_,rfl⟩
      .rw[av e]at I;cases A:s.h.get id with
       |none=>rw[A]at I;split at I<;>cases I
       |some b0=>
        rw[A]at I;split at I
        .grind
        .simp only[bw,ah]at I;subst I;simp only[aB];cases b0 with
         |G ty0 l0=>
          let⟨l0',hl0⟩:=fH s.h l0 (c.qz.G id _ l0 A);exact⟨am0 ty0 l0',by cases ty0<;>(simp only[kq,hl0];rfl)⟩
         |_=>exact⟨_,h4⟩
     have giv:Fx s.h (erHF s.h) (erHF h2) sz:=λid hi=>⟨rfl,hnone id hi⟩
     let⟨hle,hlen⟩:=F3 hdom n l xs sz l' hpk hl giv;have hrow:eO h2 i=Z (af,φ.size,n):=by rw[bB,j7,aC rfl,<-hlen];rfl
     have hV:O4 (erHF s.h) (erHF h2):=⟨hdom,λq b b' I h4=>by
      rcases NA hme h4 with h0|⟨id,cc,rfl,h5,h6⟩
      .rw[I]at h0;cases h0;exact gx.refl hdom _
      rw[bG]at I;rw[j7]at h5;by_cases e:id=i
      .subst e;rw[aC rfl]at h5;cases h5;rw[hb]at I;simp only[aB,kq,hl,ah]at I;subst I;simp only[kq,oY,cO,dZ,ah]at h6;subst h6;refine gx.G rfl rfl hle λx L=>?_
       simp only[BC.toMx]at L;obtain⟨q,hq,rfl⟩:=cC.1 L;exact ml φ _ q hq
      .rw[av e]at h5;cases A:s.h.get id with
       |none=>rw[A]at h5;split at h5<;>cases h5
       |some b0=>
        rw[A]at h5 I;split at h5
        .grind
        .simp only[bw,ah]at h5;subst h5;have:b=b':=by
          simp only[aB]at I;cases b0 with
          |G ty0 l0=>
           let⟨l0',hl0⟩:=fH s.h l0 (c.qz.G id _ l0 A);cases ty0<;>
            (simp only[kq,hl0,ah]at I
             simp only[YZ,kq,yr hr hrow l0 l0' hl0,ah]at h6;rw[<- I,<-h6])
          |H ty1 p1 T1 xs1=>
           have h3':kq h2 (.H ty1 p1 T1 xs1)=Z b:=I;exact fU (h3'.symm.trans h6)
          |qj p1 s1 n1=>
           have h3':kq h2 (.qj p1 s1 n1)=Z b:=I;exact fU (h3'.symm.trans h6)
          |mp K1 V1 es1=>
           have h3':kq h2 (.mp K1 V1 es1)=Z b:=I;exact fU (h3'.symm.trans h6)
          |qx F1 a1 x1=>
           have h3':kq h2 (.qx F1 a1 x1)=Z b:=I;exact fU (h3'.symm.trans h6)
          |qh F1 a1 x1 k1 p1=>
           have h3':kq h2 (.qh F1 a1 x1 k1 p1)=Z b:=I;exact fU (h3'.symm.trans h6)
         subst this;exact gx.refl hdom b⟩
     refine ⟨⟨hV.ql c.ql,?_,c.dom,c.low,⟨λid ty' l2 A=>?_,λid b A=>?_⟩,?_,c.inert,c.size⟩,⟨Jd.refl _ _,λk _ hk=>hdom.own hk,λ_ _=>rfl⟩,?_⟩
     .intro t x L;simp only[fQ,PT.get_updI]at L;cases he:s.e.get t with
      |none=>rw[he]at L;cases L
      |some v=>
       rw[he]at L;let⟨z,hz⟩:=pG s.h v (c.qc t v he);simp only[bw,aB,Sw hr hrow v z hz,ah]at L;subst L;exact (c.env t _ (by simp only[fQ,he,aB,hz])).dom hdom
     .rw[j7]at A;by_cases e:id=i
      .rw[aC e]at A;cases A
      .rw[av e]at A;cases hg0:s.h.get id with
       |none=>rw[hg0]at A;split at A<;>cases A
       |some b0=>
        rw[hg0]at A;split at A
        .simp only[bw,ah]at A;exact (Ce A).elim
        .simp only[bw,ah]at A;cases b0 with
         |G ty0 l0=>
          simp only[YZ,fc.G.injEq]at A;obtain⟨_,rfl⟩:=A;let⟨l0',hl0⟩:=fH s.h l0 (c.qz.G id _ l0 hg0);exact lY _ _ _ (yr hr hrow l0 l0' hl0)
         |_=>cases A
     .rw[j7]at A;by_cases e:id=i
      .subst e;exact hidlt
      .rw[av e]at A;cases hg0:s.h.get id with
       |none=>rw[hg0]at A;split at A<;>cases A
       |some b0=>exact c.qz.low id b0 hg0
     .intro t x L;simp only[PT.get_updI]at L;cases he:s.e.get t with
      |none=>rw[he]at L;cases L
      |some v=>
       rw[he]at L;simp only[bw,ah]at L;subst L;let⟨z,hz⟩:=pG s.h v (c.qc t v he);exact IL _ _ _ (Sw hr hrow v z hz)
     .intro k _ v' hv';simp only[PT.get_updI]at hv';cases he:s.e.get k with
      |none=>rw[he]at hv';cases hv'
      |some v=>
       rw[he]at hv';simp only[bw,ah]at hv';subst hv';exact⟨v,rfl,λhf=>Q1 _ _ _ v hf⟩
   .cases hp
  .cases hp
 .cases hp
def ay2 {s:TS} (c:ji P E nt np T s N W) {s':TS} (h:Lp s (.qw i m)=Z s'):∃φ',ji P E nt np φ' s' N W/\xS np T φ' (erHF s.h) (erHF s'.h) W W/\fP (mU [.qw i m] 0) s.e s'.e:=by
 simp only[Lp]at h;split at h
 .rename_i b o hk;split at h
  .rename_i cty l hb;split at h
   .rename_i id hv;split at h
    .rename_i ty p φ xs L;cases h;have hfr:=c.qz.fresh;have hidlt:=c.qz.low id _ L;have hblt:=c.qz.low b _ hb;have hbid:b≠id:=λe=>by rw[e,L]at hb;cases hb
     have hbn:b≠s.nx:=by omega
     have hin:id≠s.nx:=by omega
     generalize hh2:(((s.h.set id (Z (.qj p φ.size (l! xs)))).set s.nx (Z (.H ty p φ xs))).set b (Z (.G (Z cty) (splice l (o+m) [.I s.nx]))))=h2;have j7:∀k,h2.get k=if k=b then Z (.G (Z cty) (splice l (o+m) [.I s.nx])) else if k=s.nx then Z (.H ty p φ xs) else if k=id then Z (.qj p φ.size (l! xs)) else s.h.get k:=λk=>by
      rw[<- hh2,PT.get_set,PT.get_set,PT.get_set]
     have hr:bW s.h h2:=λk r hi=>by
      rw[bB]at hi ⊢;rw[j7];by_cases e1:k=b
      .subst e1;rw[hb]at hi;cases hi
      .rw[av e1];by_cases e2:k=s.nx
       .subst e2;rw[hfr]at hi;cases hi
       .rw[av e2];by_cases e3:k=id
        .subst e3;rw[aC rfl];rw[L]at hi;exact hi
        .rw[av e3];exact hi
     have hlo:=c.qz.G b _ l hb;let⟨l',hl'⟩:=fH s.h l hlo;have hrow:bX h2 (.I s.nx)=Z (du p s.nx φ.size (l! xs)):=by
      simp only[bX,bB,j7];rw[av hbn.symm];simp only[bt,aB,iH]
     have hsp:cI h2 (splice l (o+m) [.I s.nx])=Z (splice l' (o+m) [du p s.nx φ.size (l! xs)]):=rN _ (gV hr _ _ hl') (by simp only[cI,hrow]);let⟨y,hy,hey⟩:=mn hl' _ _ hv;have hy0:y=du p id φ.size (l! xs):=by
      simp only[bX,bB,L,aB,iH,ah]at hey;exact hey.symm
     subst hy0;have hold:erHF s.h (nm b)=Z ⟨cty,.mx l'⟩:=by rw[bG,hb];simp only[aB,kq,hl']
     have hnew:erHF h2 (nm b)=Z ⟨cty,.mx (splice l' (o+m) [du p s.nx φ.size (l! xs)])⟩:=by
      rw[bG,j7,aC rfl];simp only[aB,kq,hsp]
     have hdead:erHF h2 (nm id)=U:=by rw[bG,j7,av hbid.symm,av hin,aC rfl];rfl
     have hnx2:erHF h2 (nm s.nx)=if p&&l! xs==0 then U else Z ⟨ty,.fz (xs.flatMap (bI φ))⟩:=by rw[bG,j7,av hbn.symm,aC rfl];rfl
     have hid0:erHF s.h (nm id)=if p&&l! xs==0 then U else Z ⟨ty,.fz (xs.flatMap (bI φ))⟩:=by rw[bG,L];rfl
     have hoth:∀n,n≠nm b->n≠nm s.nx->n≠nm id->erHF h2 n=erHF s.h n:=λn e1 e2 e3=>mQ c.qz hr (iG.of λk=>by
      rw[j7];by_cases f1:k=b
      .rw[aC f1,f1,hb];exact .inr ⟨rfl,rfl⟩
      .rw[av f1];by_cases f2:k=s.nx
       .rw[aC f2,f2,hfr];exact .inr ⟨rfl,rfl⟩
       .rw[av f2];by_cases f3:k=id
        .rw[aC f3,f3,L];exact .inr ⟨rfl,rfl⟩
        .rw[av f3];exact .inl rfl) λk e=>by
      subst e;rw[j7,av (λe=>e1 (by rw[e])),av (λe=>e2 (by rw[e])),av (λe=>e3 (by rw[e]))]
     have hnb:nm b≠nm s.nx:=λe=>hbn (uQ e)
     have hbi:nm b≠nm id:=λe=>hbid (uQ e)
     have hni:nm s.nx≠nm id:=λe=>hin (uQ e).symm
     have hinv:gY h2 (s.nx+1):=by
      refine ⟨λk ty2 l2 hil=>?_,λk q hiq=>?_⟩
      .rw[j7]at hil;split at hil
       .simp only[ah,fc.G.injEq]at hil;obtain⟨_,rfl⟩:=hil;exact lY _ _ _ hsp
       .split at hil
        .cases hil
        .split at hil
         .cases hil
         .exact fo hr l2 (c.qz.G k _ l2 hil)
      .rw[j7]at hiq;split at hiq
       .omega
       .split at hiq
        .omega
        .split at hiq
         .omega
         .have:=c.qz.low k q hiq;omega
     have hE:∀t x,fQ s.e h2 t=Z x->fQ s.e s.h t=Z x:=λt x A=>by
      simp only[fQ]at A ⊢;cases he:s.e.get t with
      |none=>rw[he]at A;cases A
      |some q=>
       rw[he]at A;let⟨z,hz⟩:=pG s.h q (c.qc t q he);simp only[aB,fZ hr q z hz,ah]at A;subst A;simp only[aB,hz]
     by_cases hp:(p&&l! xs==0)=J
     ·
      have hH:erHF h2=erHF s.h:=by
       funext n;by_cases e1:n=nm b
       .subst e1;rw[hold,hnew];have:du p s.nx φ.size (l! xs)=du p id φ.size (l! xs):=by unfold du;rw[aC hp,aC hp]
        rw[this,BX hy]
       .by_cases e2:n=nm s.nx
        .subst e2;rw[hnx2,aC hp,bG,hfr];rfl
        .by_cases e3:n=nm id
         .subst e3;rw[hdead,hid0,aC hp]
         .exact hoth n e1 e2 e3
      refine ⟨T,⟨by rw[hH];exact c.ql,λt x A=>by rw[hH];exact c.env t x (hE t x A),λn q hq=>qH (c.dom n q hq),fD c.low,hinv,λt x A=>m7 hr x (c.qc t x A),c.inert,c.size⟩,by rw[hH];exact xS.refl _ _ _ _,fP.refl _ _⟩
     .have hid1:erHF s.h (nm id)=Z ⟨ty,.fz (xs.flatMap (bI φ))⟩:=by rw[hid0,av hp]
      let⟨kk,k1,k2,ob,k3,k4⟩:=c.ql.at_ _ _ hid1;have hφn:T (nm s.nx)=U:=by
       cases hq:T (nm s.nx) with
       |none=>rfl
       |some q=>have:=c.dom _ q hq;rw[dj]at this;omega
      let nw:HF:=λn=>if n=nm s.nx then Z ⟨ty,.fz (xs.flatMap (bI φ))⟩ else U
      have hsh:Ja W W kk ob:=⟨rfl,rfl,rfl,rfl,k3,λ_ _=>rfl,λ_=>rfl⟩
      let⟨φ',p1,p2,p3,p4⟩:=c.ql.wren hid1 k1 hφn hsh k4 nw (by simp[nw]) (by simp only[nw];rw[av hni.symm]);have hb1:fm (erHF s.h) [nm s.nx,nm id] nw (nm b)=Z ⟨cty,.mx l'⟩:=by
       unfold fm;rw[av (by simp[hnb,hbi]),hold]
      let⟨kb,b1,b2,ob2,b3,b4⟩:=p4.at_ _ _ hb1;have hlt:o+m<l! l':=by
       rcases cN (o+m) (l! l') with h'|h'
       .exact h'
       .rw[eA h']at hy;cases hy
      have hob:ii φ' (tot E φ' (fm (erHF s.h) [nm s.nx,nm id] nw)) W ⟨cty,.mx (splice l' (o+m) [du p s.nx φ.size (l! xs)])⟩ ob2:=by
       rw[rz rfl]at b4 ⊢;let⟨arr,a1,a2⟩:=b4;refine ⟨arr,a1,?_⟩;unfold vH at a2 ⊢;refine ⟨by simp only[BC.len]at a2 ⊢;rw[ny (by simp;omega)];exact a2.1,λj x A=>?_⟩;simp only[BC.get]at A a2;rw[oA (by simp;omega)]at A;split at A
       .exact a2.2 j x A
       .split at A
        .rename_i h3 h4;simp only[dI]at h4;have hj:j=o+m:=by omega
         subst hj;simp only[Lw,h_,ah]at A;subst A;let⟨_,v,a3,a4⟩:=a2.2 _ _ hy;unfold du at a4 ⊢;rw[av hp]at a4 ⊢;refine ⟨rfl,v,a3,?_⟩;cases a4 with
         |@I _ _ _ cc q hφq hn hc hs2=>
          have:=p2.sub _ _ k1;rw[this,ah]at hφq;subst hφq;exact .I p1 hn hc hs2
        .exact a2.2 j x A
      let⟨q1,q2⟩:=p4.wset hb1 b1 (⟨rfl,rfl,rfl,rfl,b3,λ_ _=>rfl,λ_=>rfl⟩:Ja W W kb ob2) hob (λn=>if n=nm b then Z ⟨cty,.mx (splice l' (o+m) [du p s.nx φ.size (l! xs)])⟩ else U) (by simp);have hH:fm (fm (erHF s.h) [nm s.nx,nm id] nw) [nm b] (λn=>if n=nm b then Z ⟨cty,.mx (splice l' (o+m) [du p s.nx φ.size (l! xs)])⟩ else U)=erHF h2:=by
       funext n;by_cases e1:n=nm b
       .subst e1;rw[hnew];simp[fm]
       .by_cases e2:n=nm s.nx
        .subst e2;rw[hnx2,av hp];simp[fm,nw,hnb.symm]
        .by_cases e3:n=nm id
         .subst e3;rw[hdead];simp[fm,nw,hbi.symm,hni.symm]
         .rw[hoth n e1 e2 e3];simp[fm,e1,e2,e3]
      rw[hH]at q1 q2;have off:=p2.trans q1;refine ⟨φ',⟨q2,λt x A=>off.zj (c.env t x (hE t x A)),λn q hq=>?_,fD c.low,hinv,λt x A=>m7 hr x (c.qc t x A),c.inert,c.size⟩,⟨Jd.refl _ _,off.qr,λk hi=>?_⟩,fP.refl _ _⟩
      .rcases p3 n q hq with h4|h4
       .exact qH (c.dom n q h4)
       .simp only[aG]at h4;subst h4;rw[dj];exact ox _
      .cases hq:φ' k with
       |none=>
        cases hq2:T k with
        |none=>rfl
        |some z=>rw[p2.sub _ _ hq2]at hq;cases hq
       |some z=>
        rcases p3 _ _ hq with h4|h4
        .exact h4.symm
        .simp only[aG]at h4;subst h4;rw[dj]at hi;have:=c.low;omega
    next ty ai js L=>cases h;let⟨φ',p1,p2⟩:=au4 c hb hv L;exact⟨φ',p1,p2,fP.refl _ _⟩
    .cases h
   .cases h
  .cases h
 .rename_i id hk;split at h
  .rename_i ty p φ xs L;cases h;have hfr:=c.qz.fresh;have hidlt:=c.qz.low id _ L;have hin:id≠s.nx:=by omega
   generalize hh2:((s.h.set id (Z (.qj p φ.size (l! xs)))).set s.nx (Z (.H ty p φ xs)))=h2;have j7:∀k,h2.get k=if k=s.nx then Z (.H ty p φ xs) else if k=id then Z (.qj p φ.size (l! xs)) else s.h.get k:=λk=>by
    rw[<- hh2,PT.get_set,PT.get_set]
   have hr:bW s.h h2:=λk r hi=>by
    rw[bB]at hi ⊢;rw[j7];by_cases e2:k=s.nx
    .subst e2;rw[hfr]at hi;cases hi
    .rw[av e2];by_cases e3:k=id
     .subst e3;rw[aC rfl];rw[L]at hi;exact hi
     .rw[av e3];exact hi
   have hrow:bX h2 (.I s.nx)=Z (du p s.nx φ.size (l! xs)):=by
    simp only[bX,bB,j7,bt,aB,iH]
   have hrow0:bX s.h (.I id)=Z (du p id φ.size (l! xs)):=by
    simp only[bX,bB,L,aB,iH]
   have hdead:erHF h2 (nm id)=U:=by rw[bG,j7,av hin,aC rfl];rfl
   have hnx2:erHF h2 (nm s.nx)=if p&&l! xs==0 then U else Z ⟨ty,.fz (xs.flatMap (bI φ))⟩:=by rw[bG,j7,aC rfl];rfl
   have hid0:erHF s.h (nm id)=if p&&l! xs==0 then U else Z ⟨ty,.fz (xs.flatMap (bI φ))⟩:=by rw[bG,L];rfl
   have hoth:∀n,n≠nm s.nx->n≠nm id->erHF h2 n=erHF s.h n:=λn e2 e3=>mQ c.qz hr (iG.of λk=>by
    rw[j7];by_cases f2:k=s.nx
    .rw[aC f2,f2,hfr];exact .inr ⟨rfl,rfl⟩
    .rw[av f2];by_cases f3:k=id
     .rw[aC f3,f3,L];exact .inr ⟨rfl,rfl⟩
     .rw[av f3];exact .inl rfl) λk e=>by
    subst e;rw[j7,av (λe=>e2 (by rw[e])),av (λe=>e3 (by rw[e]))]
   have hni:nm s.nx≠nm id:=λe=>hin (uQ e).symm
   have hinv:gY h2 (s.nx+1):=by
    refine ⟨λk ty2 l2 hil=>?_,λk q hiq=>?_⟩
    .rw[j7]at hil;split at hil
     .cases hil
     .split at hil
      .cases hil
      .exact fo hr l2 (c.qz.G k _ l2 hil)
    .rw[j7]at hiq;split at hiq
     .omega
     .split at hiq
      .omega
      .have:=c.qz.low k q hiq;omega
   have hE:∀t x,t≠i->fQ (s.e.set i (Z (.I s.nx))) h2 t=Z x->fQ s.e s.h t=Z x:=λt x ht A=>by
    simp only[fQ,PT.get_set]at A ⊢;rw[av ht]at A;cases he:s.e.get t with
    |none=>rw[he]at A;cases A
    |some q=>
     rw[he]at A;let⟨z,hz⟩:=pG s.h q (c.qc t q he);simp only[aB,fZ hr q z hz,ah]at A;subst A;simp only[aB,hz]
   have hIE:s7 (s.e.set i (Z (.I s.nx))) h2:=λt x A=>by
    simp only[PT.get_set]at A;split at A
    .cases A;exact IL _ _ _ hrow
    .exact m7 hr x (c.qc t x A)
   have hKp:fP (mU [.qw i m] 0) s.e (s.e.set i (Z (.I s.nx))):=λt ht v' hv'=>by
    simp only[PT.get_set]at hv';split at hv'
    next et=>subst et;simp only[mU]at ht;rw[bq,bm.2 rfl]at ht;simp at ht
    .exact⟨v',hv',λ_=>rfl⟩
   have hk0:=c.env i (du p id φ.size (l! xs)) (by simp only[fQ,hk,aB,hrow0]);by_cases hp:(p&&l! xs==0)=J
   .have hH:erHF h2=erHF s.h:=by
     funext n;by_cases e2:n=nm s.nx
     .subst e2;rw[hnx2,aC hp,bG,hfr];rfl
     .by_cases e3:n=nm id
      .subst e3;rw[hdead,hid0,aC hp]
      .exact hoth n e2 e3
    have hsame:du p s.nx φ.size (l! xs)=du p id φ.size (l! xs):=by unfold du;rw[aC hp,aC hp]
    refine ⟨T,⟨by rw[hH];exact c.ql,λt x A=>?_,λn q hq=>qH (c.dom n q hq),fD c.low,hinv,hIE,c.inert,c.size⟩,by rw[hH];exact xS.refl _ _ _ _,hKp⟩;rw[hH];by_cases ht:t=i
    .subst ht;simp only[fQ,PT.get_set,bt,aB,hrow,ah]at A;subst A;rw[hsame];exact hk0
    .exact c.env t x (hE t x ht A)
   .have hid1:erHF s.h (nm id)=Z ⟨ty,.fz (xs.flatMap (bI φ))⟩:=by rw[hid0,av hp]
    let⟨kk,k1,k2,ob,k3,k4⟩:=c.ql.at_ _ _ hid1;have hφn:T (nm s.nx)=U:=by
     cases hq:T (nm s.nx) with
     |none=>rfl
     |some q=>have:=c.dom _ q hq;rw[dj]at this;omega
    let nw:HF:=λn=>if n=nm s.nx then Z ⟨ty,.fz (xs.flatMap (bI φ))⟩ else U
    have hsh:Ja W W kk ob:=⟨rfl,rfl,rfl,rfl,k3,λ_ _=>rfl,λ_=>rfl⟩
    let⟨φ',p1,p2,p3,p4⟩:=c.ql.wren hid1 k1 hφn hsh k4 nw (by simp[nw]) (by simp only[nw];rw[av hni.symm]);have hH:fm (erHF s.h) [nm s.nx,nm id] nw=erHF h2:=by
     funext n;by_cases e2:n=nm s.nx
     .subst e2;rw[hnx2,av hp];simp[fm,nw]
     .by_cases e3:n=nm id
      .subst e3;rw[hdead];simp[fm,nw,hni.symm]
      .rw[hoth n e2 e3];simp[fm,e2,e3]
    rw[hH]at p2 p4;refine ⟨φ',⟨p4,λt x A=>?_,λn q hq=>?_,fD c.low,hinv,hIE,c.inert,c.size⟩,⟨Jd.refl _ _,p2.qr,λk hi=>?_⟩,hKp⟩
    .by_cases ht:t=i
     .subst ht;simp only[fQ,PT.get_set,bt,aB,hrow,ah]at A;subst A;unfold du at hk0 ⊢;rw[av hp]at hk0 ⊢;generalize N.tmps.getD t undef=z at hk0;cases hk0 with
      |@I _ _ _ cc q hφq hn hc hs2=>
       rw[k1,ah]at hφq;subst hφq;exact .I p1 hn hc hs2
     .exact p2.zj (c.env t x (hE t x ht A))
    .rcases p3 n q hq with h4|h4
     .exact qH (c.dom n q h4)
     .simp only[aG]at h4;subst h4;rw[dj];exact ox _
    .cases hq:φ' k with
     |none=>
      cases hq2:T k with
      |none=>rfl
      |some z=>rw[p2.sub _ _ hq2]at hq;cases hq
     |some z=>
      rcases p3 _ _ hq with h4|h4
      .exact h4.symm
      .simp only[aG]at h4;subst h4;rw[dj]at hi;have:=c.low;omega
  .cases h
 .cases h
def av6 {s:TS} (c:ji P E nt np T s N W) {ad:Adj} {s':TS} (h:Lp s ad=Z s') (hnr:∀k off,ad≠ .qw k off) (hnt:∀k off,ad≠ .tak k off):ji P E nt np T s' N W/\xS np T T (erHF s.h) (erHF s'.h) W W/\fP (mU [ad] 0) s.e s'.e:=by
 cases ad with
 |qw k off=>exact bT rfl (hnr k off)
 |tak k off=>exact bT rfl (hnt k off)
 |fmp k off ty S=>
  simp only[Lp]at h;split at h
  .split at h
   .rename_i K' V' es L;split at h
    next hE=>cases h;let⟨h1,h2⟩:=ayp c L hE ty S;exact⟨h1,h2,fP.refl _ _⟩
    .cases h
   .cases h;exact⟨c,xS.refl _ _ _ _,fP.refl _ _⟩
   .cases h
  .cases h
 |frw k off off2 ty=>
  simp only[Lp]at h;split at h
  .rename_i o id q _ _;split at h
   .rename_i ai es cty l ho L;split at h
    .rename_i v hv;split at h
     .rename_i hn;cases h;let⟨c1,hH⟩:=ayl c ai ty;have hid:id≠s.nx:=λe=>by have:=c.qz.low id _ L;omega
      let⟨c2,t2⟩:=Yl c1 (id:=id) (cty:=cty) (l:=l) (v:=v) (u:=.I s.nx) (by show (s.h.set s.nx _).get id=_;rw[PT.get_set,av hid];exact L) hv hn (by simp only[bX,bB,PT.get_set,bt,aB,iH,sM,du];rfl) (by simp only[PI,bB,PT.get_set,bt];rfl);exact⟨c2,by rw[<- hH];exact t2,fP.refl _ _⟩
     .cases h;exact⟨c,xS.refl _ _ _ _,fP.refl _ _⟩
    .cases h
   .cases h
  .cases h
 |nil k ty φ=>
  simp only[Lp]at h;split at h
  .rename_i v hv;split at h
   .rename_i hn;cases h;let⟨c1,hH,hr⟩:=aev c ty φ;refine ⟨⟨c1.ql,?_,c1.dom,c1.low,c1.qz,?_,c1.inert,c1.size⟩,by rw[hH];exact xS.refl _ _ _ _,?_⟩
    .intro t x A;simp only[fQ,PT.get_set]at A;split at A
     next et=>subst et;simp only[aB,bX,bB,PT.get_set,bt,iH,du,qi,cj,ou,ah]at A;subst A;let⟨z,hz⟩:=pG s.h v (c.qc _ v hv);rw[hH];exact WR hn hz _ _ _ _ (c.env _ _ (by simp only[fQ,hv,aB,hz]))
     .exact c1.env t x A
    .intro t x A;simp only[PT.get_set]at A;split at A
     .cases A;simp only[PI,bB,PT.get_set,bt];rfl
     .exact c1.qc t x A
    .intro t ht v' hv';simp only[PT.get_set]at hv';split at hv'
     next et=>subst et;simp only[mU]at ht;rw[bq,bm.2 rfl]at ht;simp at ht
     .exact⟨v',hv',λ_=>rfl⟩
   .cases h;exact⟨c,xS.refl _ _ _ _,fP.refl _ _⟩
  .cases h
 |qn k off ty φ=>
  simp only[Lp]at h;split at h
  .rename_i id o hk;split at h
   .rename_i cty l L;split at h
    .rename_i v hv;split at h
     .rename_i hn;cases h;let⟨c1,hH,hr⟩:=aev c ty φ;have hid:id≠s.nx:=λe=>by have:=c.qz.low id _ L;omega
      let⟨c2,t2⟩:=Yl c1 (id:=id) (cty:=cty) (l:=l) (v:=v) (u:=.I s.nx) (by show (s.h.set s.nx _).get id=_;rw[PT.get_set,av hid];exact L) hv hn (by simp only[bX,bB,PT.get_set,bt,aB,iH,du,qi,cj,ou]) (by simp only[PI,bB,PT.get_set,bt];rfl);exact⟨c2,by rw[<- hH];exact t2,fP.refl _ _⟩
     .cases h;exact⟨c,xS.refl _ _ _ _,fP.refl _ _⟩
    .cases h
   .cases h
  .cases h
 |mpt k K V=>
  simp only[Lp]at h;split at h
  .rename_i id hk;split at h
   .rename_i K' V' es L;split at h
    .rename_i hE;cases h;have hr:bW s.h (s.h.set id (Z (.mp K V []))):=bW.set λr hr=>by rw[bB,L]at hr;cases hr
     have hH:erHF (s.h.set id (Z (.mp K V [])))=erHF s.h:=by
      funext n;by_cases hn:n=nm id
      .subst hn;rw[bG,bG,PT.get_set,aC rfl,L];simp only[aB,kq,Fc (ak6 (dX.1 hE).1),Fc (dX.1 hE).2,Te (dX.1 hE).1,C6]
      .refine mQ c.qz hr (iG.set (by rw[L];rfl) rfl) λi e=>?_
       subst e;rw[PT.get_set,av (λe=>hn (by rw[e]))]
     refine ⟨⟨by rw[hH];exact c.ql,?_,c.dom,c.low,c.qz.set hr (c.qz.low id _ L) (bK _) (λ_ _ he=>by cases he),λt x A=>m7 hr x (c.qc t x A),c.inert,c.size⟩,by rw[hH];exact xS.refl _ _ _ _,fP.refl _ _⟩;intro t x A;rw[hH];simp only[fQ]at A;cases he:s.e.get t with
     |none=>rw[he]at A;cases A
     |some q=>
      rw[he]at A;let⟨z,hz⟩:=pG s.h q (c.qc t q he);simp only[aB,fZ hr q z hz,ah]at A;subst A;exact c.env t _ (by simp only[fQ,he,aB,hz])
    .cases h;exact⟨c,xS.refl _ _ _ _,fP.refl _ _⟩
   .cases h
  .cases h
 |pk k off φ=>
  simp only[Lp]at h;split at h
  .obtain⟨h1,h2,h3⟩:=ay6 c h;exact⟨h1,h2,h3.mono λk hk=>by simp at hk⟩
  .cases h
def av5 {s:TS} (c:ji P E nt np T s N W) {A:Adj} {s':TS} (h:Lp s A=Z s'):∃φ',ji P E nt np φ' s' N W/\xS np T φ' (erHF s.h) (erHF s'.h) W W/\fP (mU [A] 0) s.e s'.e:=by
 by_cases I:∃k off,A= .qw k off
 .obtain⟨k,off,rfl⟩:=I;exact ay2 c h
 .by_cases z:∃k off,A= .tak k off
  .obtain⟨k,off,rfl⟩:=z;simp[Lp]at h;split at h
   .obtain⟨he,φ',h1,L⟩:=atv c h;exact⟨φ',h1,L,by rw[he];exact fP.refl _ _⟩
   .cases h
  .exact⟨T,av6 c h (λk off e=>I ⟨k,off,e⟩) λk off e=>z ⟨k,off,e⟩⟩
def UH {φ:PM} {a:Act} {w:World}:∀{l:Y Adj} {s s':TS},ji P E nt np φ s a w->Yj s l=Z s'->∃φ',ji P E nt np φ' s' a w/\xS np φ φ' (erHF s.h) (erHF s'.h) w w/\fP (mU l 0) s.e s'.e
 |[],s,s',c,h=>by simp[Yj,ah]at h;subst h;exact⟨φ,c,xS.refl _ _ _ _,fP.refl _ _⟩
 |A::r,s,s',c,h=>by
  simp[Yj]at h;split at h
  .rename_i s1 h1;let⟨φ1,c1,L,k1⟩:=av5 c h1;let⟨φ2,c2,I,k2⟩:=UH c1 h;refine ⟨φ2,c2,L.trans I,(k1.mono ?_).trans (k2.mono ?_)⟩
   .intro k z;cases A with
    |nil q ty T|qw q off=>simp[mU]at z ⊢;rw[kD,bq,z];rfl
    |_=>simp[mU]at z
   .intro k z;cases A with
    |nil q ty T|qw q off=>simp[mU];rw[kD,bq,z];simp
    |_=>simp[mU];exact z
  .cases h
mutual
def WD {h:a8}:∀(v:TV) (y:AV),wA v=J->bX h v=Z y->y.all (λ_=>af)=J
 |.f _ _,y,_,he|.zf _ _ _ _ _,y,_,he|.emp,y,_,he|.nil,y,_,he|.undef,y,_,he|.np,y,_,he|.qy,y,_,he=>by simp[bX,ah]at he;subst he;rfl
 |.agg l,y,hl,he|.qp l,y,hl,he=>by
  simp[bX]at he;split at he
  .rename_i l' hl';simp[ah]at he;subst he;exact IG l l' hl hl'
  .cases he
 |.zq _ _ _ _,_,h,_|.K _ _,_,h,_|.qg _ _ _,_,h,_|.I _,_,h,_|.zl _ _,_,h,_|.mp _,_,h,_|.qf _ _,_,h,_=>by cases h
def IG {h:a8}:∀(l:Y TV) (l':Y AV),sG l=J->cI h l=Z l'->AV.allL (λ_=>af) l'=J
 |[],l',_,he=>by simp[cI,ah]at he;subst he;rfl
 |x::r,l',hl,he=>by
  obtain⟨y,l2,rfl,e1,e2⟩:=cV he;simp[sG,al]at hl;simp[AV.allL,al];exact⟨WD x y hl.1 e1,IG r l2 hl.2 e2⟩
end
mutual
def adw (h:a8):∀(v:TV),wA v=J->PI h v=J
 |.f _ _,_|.zf _ _ _ _ _,_|.emp,_|.nil,_|.undef,_|.np,_|.qy,_=>rfl
 |.agg l,hl|.qp l,hl=>No h l hl
 |.zq _ _ _ _,h|.K _ _,h|.qg _ _ _,h|.I _,h|.zl _ _,h|.mp _,h|.qf _ _,h=>by cases h
def No (h:a8):∀(l:Y TV),sG l=J->lM h l=J
 |[],_=>rfl
 |x::r,hl=>by
  simp[sG,al]at hl;simp[lM,al];exact⟨adw h x hl.1,No h r hl.2⟩
end
structure Seen (np:Nat) (t:Tm) (x:t.ty.den) (us:List TV) (h1:a8) (φ φ':PM) (H:HF) (E:Nat->Prop) (w:World) (la lu:List AV):Prop where
 ql:sV φ' E (erHF h1) w
 val:∀(j:Nat) y v,lu[j]? =Z y->∃z,la[j]? =Z z/\(ch φ (tot E φ H) w z v->ch φ' (tot E φ' (erHF h1)) w y v)
 len:l! lu=l! la
 tot_:∀k,tot E φ' (erHF h1) k->tot E φ H k
 qr:∀k,own φ' (erHF h1) k->own φ H k
 dom:∀n k,φ' n=Z k->ow n<l! t.bs
 par:∀n,ow n<np->ow n<l! t.bs->φ' n=φ n
variable {j:Y TV} {r:Y AV}
def Pz {t:Tm} {x:t.ty.den} {h1:a8} {l1:Y (M fc)} (I:pY t x j h1 l1) (hinv:gY h i) {vs:Y TV} {σ:PT Nat} {sm:Nat} (A:L3 np t vs h x m σ sm) (hla:cI h vs=Z r) (la:sV T E (erHF h) W):∃φ' lu,cI h1 j=Z lu/\Seen np t x j h1 T φ' (erHF h) E W r lu:=by
 let⟨x1,m1,x2,m2,hx,hmm,gv,gb⟩:=A.ex;have pvg:r7 (iv σ) t.vs x1=Z (li (iv σ) j):=by
  have h3:=vK (iv σ) t.vs x1;have h4:=I.pv;rw[hx,vE]at h4;rw[h3,h4];rfl
 have pbg:ry (iv σ) t.bs x2=Z (l1.map (ik (kO (iv σ)))):=by
  have h3:=yC (iv σ) t.bs x2;have h4:=I.pb;rw[hx,xm]at h4;rw[h3,h4];rfl
 have hbm:∀nx b,l1[nx]? =Z (Z b)->∃b0,h.get (iv σ nx)=Z b0/\BM (iv σ) h m b0 (kO (iv σ) b):=λnx b L=>by
  let⟨b0,q1,q2⟩:=Nm t.bs 0 x2 m2 _ gb pbg nx (kO (iv σ) b) (by grind);rw[bZ]at q1;exact⟨b0,q1,q2.mono λus hj=>by rw[hmm,bq,hj];simp⟩
 let hv:a8:=DL (iv σ) 0 (l1.map (ik (kO (iv σ)))) PT.leaf
 have hv_at:∀nx b,l1[nx]? =Z (Z b)->hv.get (iv σ nx)=Z (kO (iv σ) b):=λnx b L=>by
  have:=xv (iv σ) (l1.map (ik (kO (iv σ)))) 0 PT.leaf (λa b ha L=>by
   simp only[bx,I.len]at ha L;simp only[bZ];exact A.inj a b ha L) nx (Z (kO (iv σ) b)) (by grind)
  grind
 have hv_ex:∀us c,hv.get us=Z c->∃nx b,l1[nx]? =Z (Z b)/\us=iv σ nx/\c=kO (iv σ) b:=λus c hj=>by
  by_cases hex:∃nx,nx<l1.length/\us=iv σ nx
  .obtain⟨nx,hi,rfl⟩:=hex;have hcc:=aF hi;cases hcv:l1[nx] with
   |some b=>rw[hcv]at hcc;rw[hv_at nx b hcc]at hj;cases hj;exact⟨nx,b,hcc,rfl,rfl⟩
   |none=>
    rw[hcv]at hcc;have:=xv (iv σ) (l1.map (ik (kO (iv σ)))) 0 PT.leaf (λa b ha L=>by
     simp only[bx,I.len]at ha L;simp only[bZ];exact A.inj a b ha L) nx U (by grind)
    rw[bZ]at this;have hj':(DL (iv σ) 0 (l1.map (ik (kO (iv σ)))) PT.leaf).get (iv σ nx)=Z c:=hj;rw[this]at hj';simp[PT.get]at hj'
  .have:hv.get us=(PT.leaf:a8).get us:=xu (iv σ) _ 0 _ us λk hk=>by
    grind
   rw[this]at hj;simp[PT.get]at hj
 have rows_in:Ba hv h:=λus q hq=>by
  rw[bB]at hq ⊢;cases hc:hv.get us with
  |none=>rw[hc]at hq;cases hq
  |some c=>
   rw[hc]at hq;obtain⟨nx,b,q1,rfl,rfl⟩:=hv_ex us c hc;let⟨b0,q2,q3⟩:=hbm nx b q1;rw[q2];simp only[aB]at hq ⊢;rw[<- q3.I];exact hq
 have rows_h1:∀nx q,eO h1 nx=Z q->eO hv (iv σ nx)=Z q:=λnx q hq=>by
  rw[bB]at hq ⊢;cases L:h1.get nx with
  |none=>rw[L]at hq;cases hq
  |some b=>
   rw[L]at hq;rw[hv_at nx b ((I.at_ nx b).1 L)];simp only[aB,Mf]at hq ⊢;exact hq
 have hd:rX (erHF h) (erHF hv):=λn y hy=>by
  let⟨c,h3,h4⟩:=iM hy;obtain⟨nx,b,q1,e,rfl⟩:=hv_ex _ c h3;let⟨b0,q2,q3⟩:=hbm nx b q1;unfold erHF;rw[e,q2];rw[e]at h4;cases hk:ix n with
  |zero=>
   rw[hk]at h4;exact BM.erB_some hinv q2 q3 h4
  |succ k=>
   rw[hk]at h4;exact⟨y,(q3.mem _ _).trans h4⟩
 have gvv:Fx h (erHF h) (erHF hv) m:=λnx hi=>⟨rfl,by
  cases hc:erHF hv (nm nx) with
  |none=>rfl
  |some y=>
   let⟨c,h3,h4⟩:=iM hc;rw[dj]at h3;obtain⟨k,b,q1,rfl,rfl⟩:=hv_ex nx c h3;have hk:k<t.bs.length:=by rw[<- I.len];exact (bz.1 q1).1
   have h5:=A.disj _ hi;rw[(A.sig _).2 ⟨k,hk,rfl⟩]at h5;cases h5⟩
 have V:O4 (erHF h) (erHF hv):=⟨hd,λn b b' L hb'=>by
  let⟨c,h3,h4⟩:=iM hb';obtain⟨nx,bb,q1,e,rfl⟩:=hv_ex _ c h3;let⟨b0,q2,q3⟩:=hbm nx bb q1;unfold erHF at L;rw[e,q2]at L;rw[e]at h4;have L:Pu h (iv σ nx) (ix n) b0=Z b:=L;cases hk:ix n with
  |zero=>
   rw[hk]at h4 L;exact BM.view hd gvv rows_in q3 L h4
  |succ k=>
   rw[hk]at h4 L;have:=(q3.mem _ _).symm.trans L;have h4:wX (iv σ nx) k (kO (iv σ) bb)=Z b':=h4;rw[h4]at this;cases this;exact gx.refl hd _⟩
 have rv:=V.ql la;have φ:ar5 t x j h1 (iv σ) T E E (erHF hv) W:=by
  have hat:∀n y,erHF h1 n=Z y->erHF hv (p_ (iv σ) n)=Z (y.qw (p_ (iv σ))):=λn y hn=>by
   let⟨b,L,hyb⟩:=iM hn;unfold erHF;rw[xU,Au,hv_at _ b ((I.at_ _ b).1 L)];exact Dp rows_h1 hyb
  refine sV.toId I A.inj rv hat (λk hk=>.inl hk) (λn k y hn h4 hE=>?_) rv.el;let⟨k',p1,p2,_⟩:=rv.at_ _ _ (hat n y hn)
  grind
 let⟨lu,hlu⟩:=fH h1 j I.ok;have hlug:cI hv (li (iv σ) j)=Z (AV.renL (p_ (iv σ)) lu):=qS rows_h1 j lu hlu;have hle:=GA hd rows_in t.vs vs x1 m1 _ r _ gv pvg hla hlug (λnx hi=>gvv nx (by grind));have hall:=vC j lu I.lt hlu;refine ⟨_,lu,hlu,φ.ql,λus y v hy=>?_,?_,λk hk=>hd.tot (φ.tot_ k hk),λk hk=>hd.own (φ.qr k hk),λn k hk=>?_,λnx hi L=>?_⟩
 .rw[oE]at hle;let⟨z,hz,hlz⟩:=hle.get us (y.qw (p_ (iv σ))) (by grind);exact⟨z,hz,λhr=>φ.val y v (nj hall y (ba hy)) (hlz _ _ _ _ la hr)⟩
 .have:=hle.length;rw[oE,bx]at this;exact this
 .exact (Ae hk).1
 .rw[aij L];unfold p_;rw[A.fix _ hi,kK]
def Tk {s':TS} (c:ji P E nt np T s' N W) {A:Ann} {s0 s1:TS} {x:A.D} (L:Qf np A i s0 s'=Z x) (hs:KM A i s0 x=Z s1)
 (hk:∀k,k∈A.zj->k∉A.ks->∀v,s0.e.get k=Z v->wA v=J->aM i k=af->∀v',s'.e.get k=Z v'->v'=v):∃φ',ji P E nt np φ' s1 N W/\xS np T φ' (erHF s'.h) (erHF s1.h) W W:=by
 unfold Qf at L;split at L
 .rename_i hc;simp only[al]at hc;have hnp:=aY hc.1;split at L
  .rename_i s2 h2;let⟨φ2,c2,t2,_⟩:=UH c h2;split at L
   .rename_i vs hvs;split at L
    .rename_i z m σ sm hM;simp[ah]at L;subst L;have B:=yM hM;unfold KM at hs;split at hs
     .rename_i us h1 hi;let⟨l1,I⟩:=yS hi;split at hs
      .rename_i hlen;have hlen:=au hlen;simp[ah]at hs;subst hs;let⟨g1,g2⟩:=adt hvs;have hvok:lM s2.h vs=J:=Mw c2.qc hvs;let⟨la,hla⟩:=fH s2.h vs hvok;let⟨φ',lu,hlu,S⟩:=Pz (E:=E) I c2.qz B hla c2.ql;refine ⟨φ',⟨S.ql,?_,S.dom,hnp,⟨λam ty l hl=>(I.G am _ l hl).1,λam b hb=>I.lt_len hb⟩,?_,c.inert,c.size⟩,t2.trans ⟨Jd.refl _ _,λk _ h=>S.qr k h,λam hi=>S.par am hi (by omega)⟩⟩
       .intro t y hy;simp[fQ]at hy;cases ht:(afe (Gk i s0.e A.zj) A.ks us).get t with
        |none=>rw[ht]at hy;cases hy
        |some v=>
         rw[ht]at hy;simp[aB]at hy;rcases FL hlen t v ht with ⟨j,q1,q2⟩|⟨q1,q2⟩
         .obtain⟨y',p1,p2⟩:=mn hlu j v q2;rw[hy]at p2;cases p2;let⟨z,p3,p4⟩:=S.val j y (N.tmps.getD t undef) p1;refine p4 ?_;let⟨v0,p5,p6⟩:=g2 j t q1;let⟨z',p7,p8⟩:=mn hla j v0 p5;rw[p3]at p7;cases p7;exact c2.env t _ (by simp[fQ,p6,aB,p8])
         .obtain⟨k1,k2,k3,k4⟩:=vO q2;let⟨v',k5⟩:=MT hc.2 t v k1 k2 k3 k4;have:=hk t k1 q1 v k2 k3 k4 v' k5;subst this;have h3:=c.env t y (by simp[fQ,k5,aB];rw[WS s'.h h1 v' k3];exact hy);exact h3.restrict (p:=λ_=>af) (λam k hi _=>by cases hi) (λk hk=>by
           have h4:=S.tot_ k hk;rcases h4 with h4|h4
           .exact .inl h4
           .exact .inr (by
             have hkl:k<W.heap.size:=by
              let⟨n,b,e1,e2⟩:=h4;let⟨k',p1,_,ob,p3,_⟩:=c2.ql.at_ n b e1
              grind
             exact t2.qr k hkl h4)) (WD v' y k3 hy)
       .intro t v hv;rcases FL hlen t v hv with ⟨j,q1,q2⟩|⟨q1,q2⟩
        .obtain⟨y',_,p2⟩:=mn hlu j v q2;exact IL _ _ _ p2
        .exact adw _ v (vO q2).2.2.1
      .cases hs
     .cases hs
    .cases L
   .cases L
  .cases L
 .cases L
def H0 {A:Ann} {I L:TS} {x:A.D} (z:KM A i I x=Z L):fP (PL A.ks 0) I.e L.e/\∀k,k∉A.ks->∀v,L.e.get k=Z v->I.e.get k=Z v:=by
 unfold KM at z;split at z
 .rename_i us h1 hi;split at z
  .rename_i hlen;have hlen:=au hlen;simp[ah]at z;subst z;have key:∀k,k∉A.ks->∀v,(afe (Gk i I.e A.zj) A.ks us).get k=Z v->I.e.get k=Z v:=λk hk v hv=>by
    rcases FL hlen k v hv with ⟨j,q1,_⟩|⟨_,q2⟩
    .grind
    .exact (vO q2).2.1
   refine ⟨λk hk v' hv=>?_,key⟩;have hnk:k∉A.ks:=λhm=>by rw[adh hm]at hk;cases hk
   grind
  .cases z
 .cases z
end walk
inductive Er:TC->SC->Prop
 |skip:Er .skip .skip
 |jy (ops:List uJ) (prs:List (Nat×Nat)):Er (.jy ops prs) (.jy ops prs)
 |seq {a b:TC} {a' b':SC}:Er a a'->Er b b'->Er (.seq a b) (.seq a' b')
 |jx (A:Ann) {a b:TC} {a' b':SC}:Er a a'->Er b b'->Er (.jx A a b) (.seq a' b')
 |cond (c:Nat) {a b:TC} {a' b':SC}:Er a a'->Er b b'->Er (.cond c a b) (.cond c a' b')
 |block (id:Nat) {b:TC} {b':SC}:Er b b'->Er (.block id b) (.block id b')
 |zk (A:Ann) (id:Nat) {b:TC} {b':SC}:Er b b'->Er (.zk A id b) (.block id b')
 |loop (A:Ann) {b:TC} {b':SC}:Er b b'->Er (.loop A b) (.loop b')
 |exit (id:Nat):Er (.exit id) (.exit id)
 |ret:Er .ret .ret
 |defer (f:FuncId) (c:List Operand) (t:Nat):Er (.defer f c t) (.defer f c t)
 |adj (l:List Adj) {c:TC} {c':SC}:Er c c'->Er (.adj l c) c'
 |split (k off lo n:Nat) {c:TC} {c':SC}:Er c c'->Er (.split k off lo n c) c'
 |bsp (t:Nat) {a b:TC} {c':SC}:Er a c'->Er b c'->Er (.bsp t a b) c'
 |unl (n:Nat) {b:TC} {b':SC}:Er b b'->Er (.unl n b) (.loop b')
 |jq (c:SC):Er .jq c
def FD {H:PT an8} {c:TC} {z:SC} (h:Er c z):Er (L7 H i c) z:=by
 unfold L7;split
 .exact .adj _ h
 .exact .split _ _ _ _ h
 .exact .bsp _ (.split _ _ _ _ h) h
 .exact h
def AT (H:PT an8):∀(c:SC) (n:Nat),Er (IU H c n).1 c
 |.skip,n=>FD .skip
 |.jy o p,n=>FD (.jy o p)
 |.seq a b,n=>by
  have h1:=AT H a (n+1);have z:=AT H b (IU H a (n+1)).2;simp[IU];split
  .exact .jx _ h1 z
  .exact .seq h1 z
 |.cond c a b,n=>by
  have h1:=AT H a (n+1);have z:=AT H b (IU H a (n+1)).2;exact FD (.cond c h1 z)
 |.block id b,n=>by
  have h1:=AT H b (n+1);simp[IU];split
  .exact .zk _ id h1
  .exact .block id h1
 |.loop b,n=>by
  have h1:=AT H b (n+1);simp[IU];split
  .exact .loop _ h1
  .exact .unl _ h1
  .exact .jq _
 |.exit id,n=>FD (.exit id)
 |.ret,n=>FD .ret
 |.defer f c t,n=>.defer f c t
 |.jq,n=>.jq _
def afw {σ:Type} {step:σ->M (σ⊕R)} {x:σ} {r:R} (h:iter step x=Z r):∃n,iterN step n x=Z r:=by
 unfold iter at h;split at h
 .exact⟨_,h⟩
 .cases h
def adl {α:Type} {o:M (R⊕α)} {k:α->M R} {r:R} (h:jn o k=Z r):(∃x,o=Z (.inr x)/\k x=Z r)\/o=Z (.inl r):=by
 unfold jn at h
 grind
section inv
variable {P:Program} {nt:Nat}
def CO (id:Nat) (ops:Array Oper) (z:Bool):cu P nt (.region id ops z)= .jq\/
 ((ops.toList.all λo=>match o.dst with|some d=>decide (d<nt)|none=>J)=J/\
   ((∃f caps t,Hh ops z=Z (f,caps,t)/\cu P nt (.region id ops z)= .defer f caps t)\/
    ∃l prs,ud P ops ops.toList=Z l/\Q_ ops l=Z prs/\cu P nt (.region id ops z)= .jy l prs)):=by
 simp[cu]
 grind
def Ic:Code->Bool
 |.cond (.const (.bool _)) _ _=>af
 |_=>J
def k_ (P:Program) (nt:Nat) (c:Code):∃z,Ic z=J/\cu P nt z=cu P nt c/\∀Q a w,z.wp P Q a w->c.wp P Q a w:=by
 have self:∀c:Code,Ic c=J->∃z,Ic z=J/\cu P nt z=cu P nt c/\∀Q a w,z.wp P Q a w->c.wp P Q a w:=λc h=>⟨c,h,rfl,λ_ _ _ h=>h⟩
 induction c with
 |cond o x y ihx ihy=>
  cases o with
  |const v=>
   cases v with
   |bool b=>
    cases b with
    |true=>
     let⟨z,h1,I,A⟩:=ihx;exact⟨z,h1,I,λQ a w h=>wp_cond_true rfl (A Q a w h)⟩
    |false=>
     let⟨z,h1,I,A⟩:=ihy;exact⟨z,h1,I,λQ a w h=>wp_cond_false rfl (A Q a w h)⟩
   |_=>exact self _ rfl
  |_=>exact self _ rfl
 |_=>exact self _ rfl
variable {c:Operand}
def Jx {α:Prop} {x y:Code} {sc:SC} (z:Ic (.cond c x y)=J) (h:cu P nt (.cond c x y)=sc) (h1:sc≠ .jq) (A:∀t a b,sc≠ .cond t a b):α:=by
 cases c with
 |tmp q=>exact (A _ _ _ h.symm).elim
 |const v=>cases v<;>first|exact (h1 h.symm).elim|cases z
 |_=>exact (h1 h.symm).elim
def apc {c:Code} {sl:Y uJ} {prs:Y p?} (A:Ic c=J) (h:cu P nt c= .jy sl prs):∃id ops z,c= .region id ops z/\(ops.toList.all λo=>match o.dst with|some d=>decide (d<nt)|none=>J)=J/\ud P ops ops.toList=Z sl/\Q_ ops sl=Z prs:=by
 cases c with
 |region id ops z=>
  rcases CO (P:=P) (nt:=nt) id ops z with h1|⟨hd,⟨f,caps,t,_,h1⟩|⟨l,p,L,I,h1⟩⟩
  .rw[h1]at h;cases h
  .rw[h1]at h;cases h
  .grind
 |cond o x y=>exact Jx A h (by simp) (by simp)
 |_=>simp[cu]at h
variable {f:FuncId}
def afx {c:Code} {caps:Y Operand} (A:Ic c=J) (h:cu P nt c= .defer f caps i):∃id ops z,c= .region id ops z/\(ops.toList.all λo=>match o.dst with|some d=>decide (d<nt)|none=>J)=J/\Hh ops z=Z (f,caps,i):=by
 cases c with
 |region id ops z=>
  rcases CO (P:=P) (nt:=nt) id ops z with h1|⟨hd,⟨f',caps',L,I,h1⟩|⟨l,p,I,h3,h1⟩⟩
  .rw[h1]at h;cases h
  .grind
  .rw[h1]at h;cases h
 |cond o x y=>exact Jx A h (by simp) (by simp)
 |_=>simp[cu]at h
def qX {c:Code} {sc:SC} (h:cu P nt c=sc) (h1:sc≠ .jq) (L:∀a b,sc≠ .jy a b) (I:∀a b t,sc≠ .defer a b t):∀id ops A,c≠ .region id ops A:=by
 rintro id ops A rfl;rcases CO (P:=P) (nt:=nt) id ops A with z|⟨_,⟨f,caps,t,_,z⟩|⟨l,p,_,_,z⟩⟩<;>rw[z]at h
 .exact h1 h.symm
 .exact I _ _ _ h.symm
 .exact L _ _ h.symm
def akl {c:Code} (z:Ic c=J) (h:cu P nt c= .skip):c= .skip:=by
 have nr:=qX h (by simp) (by simp) (by simp);cases c with
 |skip=>rfl
 |region id ops A=>exact bT rfl (nr id ops A)
 |cond o x y=>exact Jx z h (by simp) (by simp)
 |_=>simp[cu]at h
def apb {c:Code} (z:Ic c=J) (h:cu P nt c= .ret):c= .ret:=by
 have nr:=qX h (by simp) (by simp) (by simp);cases c with
 |ret=>rfl
 |region id ops A=>exact bT rfl (nr id ops A)
 |cond o x y=>exact Jx z h (by simp) (by simp)
 |_=>simp[cu]at h
def akm {c:Code} (z:Ic c=J) (h:cu P nt c= .exit i):c= .exit i:=by
 have nr:=qX h (by simp) (by simp) (by simp);cases c with
 |exit id=>simp[cu]at h;rw[h]
 |region id ops A=>exact bT rfl (nr id ops A)
 |cond o x y=>exact Jx z h (by simp) (by simp)
 |_=>simp[cu]at h
def ado {c:Code} {a b:SC} (z:Ic c=J) (h:cu P nt c= .seq a b):∃x y,c= .seq x y/\cu P nt x=a/\cu P nt y=b:=by
 have nr:=qX h (by simp) (by simp) (by simp);cases c with
 |seq x y=>simp[cu]at h;exact⟨x,y,rfl,h.1,h.2⟩
 |region id ops A=>exact bT rfl (nr id ops A)
 |cond o x y=>exact Jx z h (by simp) (by simp)
 |_=>simp[cu]at h
def akn {c:Code} {a b:SC} (z:Ic c=J) (h:cu P nt c= .cond i a b):∃x y,c= .cond (.tmp i) x y/\cu P nt x=a/\cu P nt y=b:=by
 have nr:=qX h (by simp) (by simp) (by simp);cases c with
 |cond o x y=>
  cases o with
  |tmp q=>simp[cu]at h;obtain⟨rfl,h1,A⟩:=h;exact⟨x,y,rfl,h1,A⟩
  |const v=>cases v<;>first|(simp [cu]at h;done)|cases z
  |_=>simp[cu]at h
 |region id ops I=>exact bT rfl (nr id ops I)
 |_=>simp[cu]at h
def Rj {c:Code} {b:SC} (z:Ic c=J) (h:cu P nt c= .block i b):∃y,c= .block i y/\cu P nt y=b:=by
 have nr:=qX h (by simp) (by simp) (by simp);cases c with
 |block id y=>simp[cu]at h;obtain⟨rfl,h1⟩:=h;exact⟨y,rfl,h1⟩
 |region i ops A=>exact bT rfl (nr i ops A)
 |cond o x y=>exact Jx z h (by simp) (by simp)
 |_=>simp[cu]at h
def VW {c:Code} {b:SC} (z:Ic c=J) (h:cu P nt c= .loop b):∃y,c= .loop y/\cu P nt y=b:=by
 have nr:=qX h (by simp) (by simp) (by simp);cases c with
 |loop y=>simp[cu]at h;exact⟨y,rfl,h⟩
 |region id ops A=>exact bT rfl (nr id ops A)
 |cond o x y=>exact Jx z h (by simp) (by simp)
 |_=>simp[cu]at h
end inv
def atb (P:Program) (E:Nat->Prop) (nt np:Nat) (φ:PM) (s:TS) (w:World) (am:Nat) (K:Ex->TS->M R) (r:R):Exit->Act->World->Prop:=
 λe z w'=>∃ex s' φ',e=ex.to/\K ex s'=Z r/\ji P E nt np φ' s' z w'/\xS np φ φ' (erHF s.h) (erHF s'.h) w w'/\fP am s.e s'.e
def ji.bool {s:TS} (c:ji P O i m T s N W) {t:Nat} (ht:s.e.get t=Z (.f .bool b)):N.eval (.tmp t)= .bool b:=
 fJ (c.env t _ (by simp[fQ,ht,aB,bX];rfl))
def ji.qy {s:TS} (c:ji P O i m T s N W) {t:Nat} (ht:s.e.get t=Z .qy):∃b,N.eval (.tmp t)= .bool b:=by
 have:=c.env t .qy (by simp[fQ,ht,aB,bX]);show ∃b,N.tmps.getD t undef= .bool b;generalize N.tmps.getD t undef=z at this;cases this with
 |qy=>exact⟨_,rfl⟩
def ahm {a b:M R} {r:R} (h:I7 a b=Z r):a=Z r/\b=Z r:=by
 unfold I7 at h
 grind
variable {f:FuncId}
def aq4 {inert:FuncId->Bool} (hin:Pd P inert) (ha:∀d∈N.defers,YF P d) (hs:N.tmps.size=i) {caps:Y Operand} {t:Nat} (hd:(k.toList.all λo=>match o.dst with|some d=>decide (d<i)|none=>J)=J) (hdf:Hh k b=Z (f,caps,t)) (hi:inert f=J) {Q:Exit->Act->World->Prop}
 (hQ:∀L,(∀u,u≠t->L.tmps.getD u undef=N.tmps.getD u undef)->(∀d∈L.defers,YF P d)->L.tmps.size=i->Q .normal L W):(Code.region m k b).wp P Q N W:=by
 unfold Hh at hdf;split at hdf
 .rename_i p q hops;split at hdf
  .rename_i I first caps' t1 cl hpo hpg hpd hqo hqg hqd
   split at hdf
   .rename_i t2 hcl hca;split at hdf
    .rename_i hcond;simp only[al]at hcond;let⟨h1,h2⟩:=hcond;have h1:=au h1;have h2:first=#[]:=by grind
     simp only[ah,aQ]at hdf;obtain⟨rfl,rfl,rfl⟩:=hdf;subst h1 h2;have hops':k=#[p,q]:=by grind
     let⟨hcb,hincalls⟩:=hin I hi;have htn:t1<i:=by grind
     let z:Value:=.func (.func I) #[] (caps'.map N.eval)
     refine wp_region ?_;have hr2:dA k.size=[0,1]:=by rw[hops'];rfl
     rw[hr2];have e0:k[0]? =Z p:=by grind
     have e1:k[1]? =Z q:=by grind
     rw[wpOps_cons];have hexec1:(execOp N.eval p).run P W= .ok (.value z) W:=by
      unfold execOp;rw[hpo];simp[Instr.makeFunc,z]
     have w1:ju p (yielded k N.tmps)=J:=by unfold ju;rw[hpg]
     unfold wpOp;simp only[e0,w1,bt];left;unfold Lv;rw[hexec1];show wpOps P k Q [1] (N.put p.dst z) W;rw[wpOps_cons];unfold wpOp;have w2:ju q (yielded k (N.put p.dst z).tmps)=J:=by unfold ju;rw[hqg]
     simp only[e1,w2,bt];left;have pg:∀u,(N.put p.dst z).tmps.getD u undef=if p.dst=Z u then z else N.tmps.getD u undef:=λu=>Vz (by intro d A;rw[hpd]at A;cases A;rw[hs];exact htn)
     have heval:(N.put p.dst z).eval (.tmp t1)=z:=by
      show (N.put p.dst z).tmps.getD t1 undef=z;rw[pg,aC hpd]
     have hargs:cl.args=#[]:=by grind
     have hexec2:(execOp (N.put p.dst z).eval q).run P W= .ok (.defer {target:=.fn (.func I) (caps'.map N.eval),args:=#[]}) W:=by
      unfold execOp;rw[hqo];simp[resolve,hcl,heval,z,Deferred.ofValue,hargs]
     unfold Lv;rw[hexec2];show wpOps P k Q [] _ W;refine hQ _ (λu hu=>?_) (λd A=>?_) ?_
     .rw[hqd];show (N.put p.dst z).tmps.getD u undef=_;rw[pg,av (by rw[hpd];intro e;cases e;exact hu rfl)]
     .rw[hqd]at A;have hd'':d={target:=.fn (.func I) (caps'.map N.eval),args:=#[]}\/d∈(N.put p.dst z).defers:=by
       simpa[So] using A
      rcases hd'' with rfl|hd''
      .intro w0;refine ⟨_,_,I,caps'.map N.eval,rfl,?_,hincalls _ w0⟩;simp[invoke,Ah hcb]
      .rw[Mk]at hd'';exact ha d hd''
     .rw[hqd];show (N.put p.dst z).tmps.size=i;rw[Vy];exact hs
    .cases hdf
   .cases hdf
  .cases hdf
 .cases hdf
def atr {E:Nat->Prop} {inert:FuncId->Bool} (hm:P.follows .mixedOrders=J) (hcon:HJ P X) (hin:Pd P inert):
 ∀{tc:TC} {sc:SC},Er tc sc->∀(c:Code),cu P i c=sc->∀(R:Type) (s:TS) (K:Ex->TS->M R) (r:R),o6 m X V inert tc s K=Z r->∀(φ:PM) (a:Act) (w:World),ji P E i m φ s a w->c.wp P (atb P E i m φ s w (tc.asg 0) K r) a w:=by
 intro tc sc hE;induction hE with
 |skip=>
  intro c hc R s K r h φ a w g;let⟨c',hn,I,hsim⟩:=k_ P i c;refine hsim _ _ _ ?_;rw[<- I]at hc;rw[akl hn hc];exact wp_skip ⟨.normal,s,φ,rfl,h,g,xS.refl _ _ _ _,fP.refl _ _⟩
 |jy ops prs=>
  intro c hc R s K r h φ a w g;let⟨c',hn,I,hsim⟩:=k_ P i c;refine hsim _ _ _ ?_;rw[<- I]at hc;obtain⟨id,os,dr,rfl,h1,h2,h3⟩:=apc hn hc;simp only[o6]at h;refine ajh (K:=λs'=>K .normal s') hm hcon g (am:=UC ops 0) (λj o d ho hd=>?_) h1 h2 h3 h λa' w' s' φ' q1 L q3 q4=>⟨.normal,s',φ',rfl,q1,L,q3,q4⟩
  have hmem:o∈os.toList:=by have:=Array.mem_of_getElem? ho;simpa using this
  have key:∀(rest:Y Oper) (sl:Y uJ),ud P os rest=Z sl->∀o∈rest,∃so∈sl,so.dst=o.dst:=by
   intro rest;induction rest with
   |nil=>intro sl _ o ho;cases ho
   |cons x rest ih=>
    intro sl hsl o ho;simp only[ud]at hsl;split at hsl
    .rename_i l hl;have:∃so,sl=so::l/\so.dst=x.dst:=by
      split at hsl
      .simp only[ah]at hsl;exact⟨_,hsl.symm,rfl⟩
      .split at hsl
       .simp only[ah]at hsl;exact⟨_,hsl.symm,rfl⟩
       .cases hsl
     obtain⟨so,rfl,hso⟩:=this;rcases bh.1 ho with rfl|ho
     .exact⟨so,by simp,hso⟩
     .obtain⟨q,hq,hq2⟩:=ih l hl o ho;exact⟨q,by simp[hq],hq2⟩
    .cases hsl
  let⟨so,hso,hd2⟩:=key os.toList ops h2 o hmem;exact Yb hso (by rw[hd2];exact hd)
 |@seq x y x' y' _ _ ihx ihy=>
  intro c hc R s K r h φ a w g;let⟨c',hn,I,hsim⟩:=k_ P i c;refine hsim _ _ _ ?_;rw[<- I]at hc;obtain⟨cx,cy,rfl,h1,h2⟩:=ado hn hc;simp only[o6]at h;refine wp_seq (wp_mono (ihx cx h1 R s _ r h φ a w g) ?_);rintro e a' w' ⟨ex,s',φ',rfl,z,g',st,kp⟩;have kp':fP ((TC.seq x y).asg 0) s.e s'.e:=kp.mono λk z=>by simp only[TC.asg];exact kg z
  cases ex with
  |normal=>
   refine wp_mono (ihy cy h2 R s' K r z φ' a' w' g') ?_;rintro e2 a2 w2 ⟨ex2,s2,φ2,rfl,hk2,g2,st2,kp2⟩;exact⟨ex2,s2,φ2,rfl,hk2,g2,st.trans st2,kp'.trans (kp2.mono λk z=>by simp only[TC.asg];exact vF z)⟩
  |exit id=>exact⟨.exit id,s',φ',rfl,z,g',st,kp'⟩
  |ret=>exact⟨.ret,s',φ',rfl,z,g',st,kp'⟩
 |@jx A x y x' y' _ _ ihx ihy=>
  intro c hc R s K r h φ a w g;let⟨c',hn,I,hsim⟩:=k_ P i c;refine hsim _ _ _ ?_;rw[<- I]at hc;obtain⟨cx,cy,rfl,h1,h2⟩:=ado hn hc;simp only[o6]at h;have sub1:∀k,aM (x.asg 0) k=J->aM ((TC.jx A x y).asg 0) k=J:=λk z=>by simp only[TC.asg];exact kg (vF z)
  have sub2:∀k,aM (y.asg 0) k=J->aM ((TC.jx A x y).asg 0) k=J:=λk z=>by simp only[TC.asg];exact vF z
  have sub3:∀k,aM (PL A.ks 0) k=J->aM ((TC.jx A x y).asg 0) k=J:=λk z=>by simp only[TC.asg];exact kg (kg z)
  rcases adl h with ⟨d,h3,h4⟩|h3
  .refine wp_seq (wp_mono (ihx cx h1 _ s _ _ h3 φ a w g) ?_);rintro e a' w' ⟨ex,s',φ',rfl,z,g',st,kp⟩;cases ex with
   |normal=>
    simp only[]at z;let⟨d',q1,L⟩:=dV z;simp only[ah,Sum.inr.injEq]at L;subst L;split at h4
    .rename_i s1 hs1;let⟨φ1,g1,Pq⟩:=Tk g' q1 hs1 λk _ _ v hv hf ha v' hv'=>by
      let⟨v0,e1,e2⟩:=kp k ha v' hv';rw[hv]at e1;cases e1;exact e2 hf
     refine wp_mono (ihy cy h2 R s1 K r h4 φ1 a' w' g1) ?_;rintro e2 a2 w2 ⟨ex2,s2,φ2,rfl,hk2,g2,st2,kp2⟩;exact⟨ex2,s2,φ2,rfl,hk2,g2,(st.trans Pq).trans st2,((H0 hs1).1.mono sub3).trans (kp2.mono sub2)⟩
    .cases h4
   |_=>simp only[]at z;let⟨_,_,L⟩:=dV z;simp at L
  .refine wp_seq (wp_mono (ihx cx h1 _ s _ _ h3 φ a w g) ?_);rintro e a' w' ⟨ex,s',φ',rfl,z,g',st,kp⟩;cases ex with
   |normal=>simp only[]at z;let⟨_,_,L⟩:=dV z;simp at L
   |exit id=>
    simp only[]at z;let⟨r',q1,L⟩:=dV z;simp only[ah,Sum.inl.injEq]at L;subst L;exact⟨.exit id,s',φ',rfl,q1,g',st,kp.mono sub1⟩
   |ret=>
    simp only[]at z;let⟨r',q1,L⟩:=dV z;simp only[ah,Sum.inl.injEq]at L;subst L;exact⟨.ret,s',φ',rfl,q1,g',st,kp.mono sub1⟩
 |@cond t x y x' y' _ _ ihx ihy=>
  intro c hc R s K r h φ a w g;let⟨c',hn,I,hsim⟩:=k_ P i c;refine hsim _ _ _ ?_;rw[<- I]at hc;obtain⟨cx,cy,rfl,h1,h2⟩:=akn hn hc;simp only[o6]at h;split at h
  .rename_i b hb;rcases mS h with ⟨rfl,h⟩|⟨rfl,h⟩
   .refine wp_cond_true (g.bool hb) (wp_mono (ihx cx h1 R s K r h φ a w g) ?_);rintro e a' w' ⟨ex,s',φ',rfl,z,g',st,kp⟩;exact⟨ex,s',φ',rfl,z,g',st,kp.mono λk z=>by simp only[TC.asg];exact kg z⟩
   .refine wp_cond_false (g.bool hb) (wp_mono (ihy cy h2 R s K r h φ a w g) ?_);rintro e a' w' ⟨ex,s',φ',rfl,z,g',st,kp⟩;exact⟨ex,s',φ',rfl,z,g',st,kp.mono λk z=>by simp only[TC.asg];exact vF z⟩
  .rename_i hb;let⟨ha,hbb⟩:=ahm h;let⟨bv,hbv⟩:=g.qy hb;cases bv with
   |true=>
    refine wp_cond_true hbv (wp_mono (ihx cx h1 R s K r ha φ a w g) ?_);rintro e a' w' ⟨ex,s',φ',rfl,z,g',st,kp⟩;exact⟨ex,s',φ',rfl,z,g',st,kp.mono λk z=>by simp only[TC.asg];exact kg z⟩
   |false=>
    refine wp_cond_false hbv (wp_mono (ihy cy h2 R s K r hbb φ a w g) ?_);rintro e a' w' ⟨ex,s',φ',rfl,z,g',st,kp⟩;exact⟨ex,s',φ',rfl,z,g',st,kp.mono λk z=>by simp only[TC.asg];exact vF z⟩
  .cases h
 |@block id b b' _ ih=>
  intro c hc R s K r h φ a w g;let⟨c',hn,I,hsim⟩:=k_ P i c;refine hsim _ _ _ ?_;rw[<- I]at hc;obtain⟨cb,rfl,h1⟩:=Rj hn hc;simp only[o6]at h;refine wp_block (wp_mono (ih cb h1 R s _ r h φ a w g) ?_);rintro e a' w' ⟨ex,s',φ',rfl,z,g',st,kp⟩;cases ex with
  |normal=>exact⟨.normal,s',φ',rfl,z,g',st,kp⟩
  |ret=>exact⟨.ret,s',φ',rfl,z,g',st,kp⟩
  |exit nt=>
   simp only[Ex.to,Exit.inBlock];simp only[]at z;split at z
   next hb=>rw[aC (au hb)];exact⟨.normal,s',φ',rfl,z,g',st,kp⟩
   next hb=>rw[av (λe=>hb (by rw[e];exact qI id))];exact⟨.exit nt,s',φ',rfl,z,g',st,kp⟩
 |@zk A id b b' _ ih=>
  intro c hc R s K r h φ a w g;let⟨c',hn,I,hsim⟩:=k_ P i c;refine hsim _ _ _ ?_;rw[<- I]at hc;obtain⟨cb,rfl,h1⟩:=Rj hn hc;simp only[o6]at h;have sub1:∀k,aM (b.asg 0) k=J->aM ((TC.zk A id b).asg 0) k=J:=λk z=>by simp only[TC.asg];exact vF z
  have sub3:∀k,aM (PL A.ks 0) k=J->aM ((TC.zk A id b).asg 0) k=J:=λk z=>by simp only[TC.asg];exact kg z
  rcases adl h with ⟨d,h3,h4⟩|h3
  .refine wp_block (wp_mono (ih cb h1 _ s _ _ h3 φ a w g) ?_);rintro e a' w' ⟨ex,s',φ',rfl,z,g',st,kp⟩;have fin:ax (Qf m A (b.asg 0) s s') (λx=>Z (bL (α:=R) x))=Z (bL d)->atb P E i m φ s w ((TC.zk A id b).asg 0) K r .normal a' w':=by
    intro z;let⟨d',q1,L⟩:=dV z;simp only[ah,Sum.inr.injEq]at L;subst L;split at h4
    .rename_i s1 hs1;let⟨φ1,g1,Pq⟩:=Tk g' q1 hs1 λk _ _ v hv hf ha v' hv'=>by
      let⟨v0,e1,e2⟩:=kp k ha v' hv';rw[hv]at e1;cases e1;exact e2 hf
     exact⟨.normal,s1,φ1,rfl,h4,g1,st.trans Pq,(H0 hs1).1.mono sub3⟩
    .cases h4
   cases ex with
   |normal=>exact fin z
   |ret=>simp only[]at z;let⟨_,_,L⟩:=dV z;simp at L
   |exit nt=>
    simp only[Ex.to,Exit.inBlock];simp only[]at z;split at z
    next hb=>rw[aC (au hb)];exact fin z
    .obtain⟨_,_,L⟩:=dV z;simp at L
  .refine wp_block (wp_mono (ih cb h1 _ s _ _ h3 φ a w g) ?_);rintro e a' w' ⟨ex,s',φ',rfl,z,g',st,kp⟩;cases ex with
   |normal=>simp only[]at z;let⟨_,_,L⟩:=dV z;simp at L
   |ret=>
    simp only[]at z;let⟨r',q1,L⟩:=dV z;simp only[ah,Sum.inl.injEq]at L;subst L;exact⟨.ret,s',φ',rfl,q1,g',st,kp.mono sub1⟩
   |exit nt=>
    simp only[Ex.to,Exit.inBlock];simp only[]at z;split at z
    .obtain⟨_,_,L⟩:=dV z;simp at L
    next hb=>rw[av (λe=>hb (by rw[e];exact qI id))];let⟨r',q1,L⟩:=dV z;simp only[ah,Sum.inl.injEq]at L;subst L;exact⟨.exit nt,s',φ',rfl,q1,g',st,kp.mono sub1⟩
 |@loop A b b' _ ih=>
  intro c hc R s K r h φ a w g;let⟨c',hn,I,hsim⟩:=k_ P i c;refine hsim _ _ _ ?_;rw[<- I]at hc;obtain⟨cb,rfl,h1⟩:=VW hn hc;simp only[o6]at h;let⟨x0,hx0,h⟩:=dV h;let⟨n,hn⟩:=afw h;have sub1:∀k,aM (b.asg 0) k=J->aM ((TC.loop A b).asg 0) k=J:=λk z=>by simp only[TC.asg];exact vF z
  have sub3:∀k,aM (PL A.ks 0) k=J->aM ((TC.loop A b).asg 0) k=J:=λk z=>by simp only[TC.asg];exact kg z
  obtain⟨step,hstep⟩:∃step:A.D->M (A.D⊕R),step=λx=>(match KM A (b.asg 0) s x with
   |some s'=>o6 m X V inert b s' λex s'=>(match ex with
    |.normal=>ax (Qf m A (b.asg 0) s s') λy=>Z (lP y)
    |ex=>ax (K ex s') λr=>Z (bL r))
   |none=>U):=⟨_,rfl⟩
  have hn:iterN step n x0=Z r:=by rw[hstep];exact hn
  have stepEq:∀x,step x=(match KM A (b.asg 0) s x with
   |some s'=>o6 m X V inert b s' λex s'=>(match ex with
    |.normal=>ax (Qf m A (b.asg 0) s s') λy=>Z (lP y)
    |ex=>ax (K ex s') λr=>Z (bL r))
   |none=>U):=λx=>by rw[hstep]
  let Inv:Nat->Act->World->Prop:=λn a w'=>∃x s1 φ1,iterN step n x=Z r/\KM A (b.asg 0) s x=Z s1/\ji P E i m φ1 s1 a w'/\xS m φ φ1 (erHF s.h) (erHF s1.h) w w'
  have head:∀(n:Nat) (x:A.D),iterN step n x=Z r->∃s1,KM A (b.asg 0) s x=Z s1:=by
   intro n x hn;cases n with
   |zero=>cases hn
   |succ n=>
    simp only[iterN]at hn;cases hr:KM A (b.asg 0) s x with
    |some s1=>exact⟨s1,rfl⟩
    |none=>rw[stepEq,hr]at hn;cases hn
  refine FE Inv ?_ (n:=n) ?_
  .rintro n a1 w1 ⟨x,s1,φ1,hi,hr,g1,Pq⟩;cases n with
   |zero=>cases hi
   |succ n=>
    simp only[iterN]at hi;have hse:=stepEq x;rw[hr]at hse;simp only[]at hse;let⟨kp1,kp1'⟩:=H0 hr;split at hi
    .rename_i y hy;rw[hy]at hse;refine wp_mono (ih cb h1 _ s1 _ _ hse.symm φ1 a1 w1 g1) ?_;rintro e a' w' ⟨ex,s',φ',rfl,z,g',st,kp⟩;cases ex with
     |normal=>
      simp only[]at z;let⟨d',q1,L⟩:=dV z;simp only[ah,Sum.inl.injEq]at L;subst L;let⟨s2,hs2⟩:=head n d' hi;let⟨φ2,g2,st2⟩:=Tk g' q1 hs2 λk hkk hks v hv hf ha v' hv'=>by
       let⟨v0,e1,e2⟩:=kp k ha v' hv';have:=kp1' k hks v0 e1;rw[hv]at this;cases this;exact e2 hf
      exact⟨n,by omega,d',s2,φ2,hi,hs2,g2,(Pq.trans st).trans st2⟩
     |_=>simp only[]at z;let⟨_,_,L⟩:=dV z;simp at L
    .rename_i r' hy;cases hi;rw[hy]at hse;refine wp_mono (ih cb h1 _ s1 _ _ hse.symm φ1 a1 w1 g1) ?_;rintro e a' w' ⟨ex,s',φ',rfl,z,g',st,kp⟩;cases ex with
     |normal=>simp only[]at z;let⟨_,_,L⟩:=dV z;simp at L
     |exit id=>
      simp only[]at z;let⟨r',q1,L⟩:=dV z;simp only[ah,Sum.inr.injEq]at L;subst L;exact⟨.exit id,s',φ',rfl,q1,g',Pq.trans st,(kp1.mono sub3).trans (kp.mono sub1)⟩
     |ret=>
      simp only[]at z;let⟨r',q1,L⟩:=dV z;simp only[ah,Sum.inr.injEq]at L;subst L;exact⟨.ret,s',φ',rfl,q1,g',Pq.trans st,(kp1.mono sub3).trans (kp.mono sub1)⟩
    .cases hi
  .obtain⟨s1,hs1⟩:=head n x0 hn;let⟨φ1,g1,Pq⟩:=Tk g hx0 hs1 λk _ _ v hv _ _ v' hv'=>by rw[hv]at hv';cases hv';rfl
   exact⟨x0,s1,φ1,hn,hs1,g1,Pq⟩
 |exit id=>
  intro c hc R s K r h φ a w g;let⟨c',hn,I,hsim⟩:=k_ P i c;refine hsim _ _ _ ?_;rw[<- I]at hc;rw[akm hn hc];exact wp_exit ⟨.exit id,s,φ,rfl,h,g,xS.refl _ _ _ _,fP.refl _ _⟩
 |ret=>
  intro c hc R s K r h φ a w g;let⟨c',hn,I,hsim⟩:=k_ P i c;refine hsim _ _ _ ?_;rw[<- I]at hc;rw[apb hn hc];exact wp_ret ⟨.ret,s,φ,rfl,h,g,xS.refl _ _ _ _,fP.refl _ _⟩
 |defer f caps t=>
  intro c hc R s K r h φ a w g;let⟨c',hn,I,hsim⟩:=k_ P i c;refine hsim _ _ _ ?_;rw[<- I]at hc;obtain⟨id,ops,dr,rfl,h1,h2⟩:=afx hn hc;simp only[o6]at h;split at h
  .rename_i hi;refine aq4 hin g.inert g.size h1 h2 hi λa' d1 d2 d3=>⟨.normal,_,φ,rfl,h,⟨g.ql,λu x hx=>?_,g.dom,g.low,g.qz,λu x hx=>?_,d2,d3⟩,xS.refl _ _ _ _,λk z v' hv'=>?_⟩
   .simp only[fQ,PT.get_set]at hx;split at hx
    .cases hx
    next hu=>rw[d1 u hu];exact g.env u x hx
   .simp only[PT.get_set]at hx;split at hx
    .cases hx
    .exact g.qc u x hx
   .simp only[PT.get_set]at hv';split at hv'
    .cases hv'
    .exact⟨v',hv',λ_=>rfl⟩
  .cases h
 |@adj l tc' sc' _ ih=>
  intro c hc R s K r h φ a w g;let⟨c',hn,I,hsim⟩:=k_ P i c;refine hsim _ _ _ ?_;rw[<- I]at hc;simp only[o6]at h;split at h
  next s1 hs1=>let⟨φ1,g1,Pq,kp1⟩:=UH g hs1;refine wp_mono (ih c' hc R s1 K r h φ1 a w g1) ?_;rintro e a' w' ⟨ex,s',φ',rfl,z,g',st,kp⟩;exact⟨ex,s',φ',rfl,z,g',Pq.trans st,(kp1.mono λk z=>by simp only[TC.asg];exact kg z).trans (kp.mono λk z=>by simp only[TC.asg];exact vF z)⟩
  .cases h
 |@split k off lo n tc' sc' _ ih=>
  intro c hc R s K r h φ a w g;let⟨c',hn,I,hsim⟩:=k_ P i c;refine hsim _ _ _ ?_;rw[<- I]at hc;simp only[o6]at h;split at h
  .rename_i kd v hv;let⟨j,hj,h2⟩:=Vc h;subst hj;split at h2
   .rename_i s1 hs1;let⟨g1,hH,he⟩:=aj7 g hv hs1;refine wp_mono (ih c' hc R s1 K r h2 φ a w g1) ?_;rintro e a' w' ⟨ex,s',φ',rfl,z,g',st,kp⟩;exact⟨ex,s',φ',rfl,z,g',by rw[<- hH];exact st,λk z v' hv'=>by
     let⟨v,q1,L⟩:=kp k z v' hv';exact⟨v,by rw[<- he];exact q1,L⟩⟩
   .cases h2
  .cases h
 |@bsp t x y sc' _ _ ihx ihy=>
  intro c hc R s K r h φ a w g;simp only[o6]at h;split at h
  .rename_i v hv;rcases mS h with ⟨rfl,h⟩|⟨rfl,h⟩
   .have he:∀q,(s.e.set t (Z (.f .bool J))).get q=s.e.get q:=λq=>by
     rw[PT.get_set];split
     next e=>subst e;exact hv.symm
     .rfl
    let⟨g1,hH⟩:=g.congr (s':=⟨s.e.set t (Z (.f .bool J)),s.h,s.nx⟩) he (λ_=>rfl) rfl;refine wp_mono (ihx c hc R _ K r h φ a w g1) ?_;rintro e a' w' ⟨ex,s',φ',rfl,z,g',st,kp⟩;exact⟨ex,s',φ',rfl,z,g',by rw[<- hH];exact st,λk z v' hv'=>by
     let⟨v,q1,L⟩:=(kp.mono λk z=>by simp only[TC.asg];exact kg z) k z v' hv';exact⟨v,by rw[<- he];exact q1,L⟩⟩
   .have he:∀q,(s.e.set t (Z (.f .bool af))).get q=s.e.get q:=λq=>by
     rw[PT.get_set];split
     next e=>subst e;exact hv.symm
     .rfl
    let⟨g1,hH⟩:=g.congr (s':=⟨s.e.set t (Z (.f .bool af)),s.h,s.nx⟩) he (λ_=>rfl) rfl;refine wp_mono (ihy c hc R _ K r h φ a w g1) ?_;rintro e a' w' ⟨ex,s',φ',rfl,z,g',st,kp⟩;exact⟨ex,s',φ',rfl,z,g',by rw[<- hH];exact st,λk z v' hv'=>by
     let⟨v,q1,L⟩:=(kp.mono λk z=>by simp only[TC.asg];exact vF z) k z v' hv';exact⟨v,by rw[<- he];exact q1,L⟩⟩
  .cases h
 |@unl n b b' _ ih=>
  intro c hc R s K r h φ a w g;let⟨c',hn,I,hsim⟩:=k_ P i c;refine hsim _ _ _ ?_;rw[<- I]at hc;obtain⟨cb,rfl,h1⟩:=VW hn hc;simp only[o6]at h
  let Inv:Nat->Act->World->Prop:=λnp a w'=>∃s1 φ1,ao2 (λs K=>o6 m X V inert b s K) np s1 K=Z r/\ji P E i m φ1 s1 a w'/\xS m φ φ1 (erHF s.h) (erHF s1.h) w w'/\fP (b.asg 0) s.e s1.e
  refine FE Inv ?_ (n:=n) ⟨s,φ,h,g,xS.refl _ _ _ _,fP.refl _ _⟩;rintro np a1 w1 ⟨s1,φ1,hi,g1,Pq,kp1⟩;cases np with
  |zero=>cases hi
  |succ np=>
   simp only[ao2]at hi;refine wp_mono (ih cb h1 R s1 _ r hi φ1 a1 w1 g1) ?_;rintro e a' w' ⟨ex,s',φ',rfl,z,g',st,kp⟩;cases ex with
   |normal=>exact⟨np,ox np,s',φ',z,g',Pq.trans st,kp1.trans kp⟩
   |exit id=>exact⟨.exit id,s',φ',rfl,z,g',Pq.trans st,kp1.trans kp⟩
   |ret=>exact⟨.ret,s',φ',rfl,z,g',Pq.trans st,kp1.trans kp⟩
 |jq sc'=>
  intro c hc R s K r h;simp[o6]at h
def SJ {s:TS} (hinv:gY s.h s.nx) (hiE:s7 s.e s.h) (r:sV T O (erHF s.h) W) (en:Sf T (tot O T (erHF s.h)) W (fQ s.e s.h) N):∀(rs:Y ResultVar) (rvs:Y RV) (l:Y TV),xL P rs=Z rvs->Vl s rvs=Z l->
 ∃la vs,cI s.h l=Z la/\(rs.mapM (ajf N.tmps)).run P W= .ok vs W/\lG T (tot O T (erHF s.h)) W la vs
 |[],rvs,l,A,z=>by
  simp[xL,ah]at A;subst A;simp[Vl,ah]at z;subst z;exact⟨[],[],rfl,by simp,trivial⟩
 |.tmp t::rs,rvs,l,A,z=>by
  simp[xL]at A;split at A
  .rename_i rvs' hrs;simp[ah]at A;subst A;simp[Vl]at z;split at z
   .rename_i v I;split at z
    next l' L=>simp[ah]at z;subst z;let⟨la,vs,h0,h1,h2⟩:=SJ hinv hiE r en rs rvs' l' hrs L;simp[rvT]at I;let⟨y,hy⟩:=pG s.h v (hiE t v I);refine ⟨y::la,N.tmps.getD t undef::vs,qT hy h0,?_,en t y (by simp[fQ,I,aB,hy]),h2⟩;simp[List.mapM_cons,fB,ajf,xg,cQ];simp_all
    .cases z
   .cases z
  .cases A
 |.cell ad t::rs,rvs,l,A,z=>by
  simp[xL]at A;split at A
  .rename_i rvs' sz ag hrs hsz hag;simp[ah]at A;subst A;simp[Vl]at z;split at z
   .rename_i v I;split at z
    .rename_i l' L;simp[ah]at z;subst z;let⟨la,vs,h0,h1,h2⟩:=SJ hinv hiE r en rs rvs' l' hrs L;simp[rvT]at I;split at I
     .rename_i id off hp;split at I
      .rename_i ty q hb;let⟨q',hq'⟩:=fH s.h q (hinv.G id _ q hb);let⟨y,e1,e2⟩:=ach hq' I;let⟨H,hH⟩:=gK s.h;have hR:xQ H sz ag (.K (nm id) off)=Z ⟨y,[nm id],[],[],[]⟩:=by
        have hg:H.get (nm id)=Z ⟨ty,.mx q'⟩:=by rw[hH,bG,hb];simp[aB,kq,hq']
        simp[xQ,hg,e2]
       let⟨_,_,_,h3⟩:=Yh (P:=P) hsz hag hR;let⟨qq,v',h4,h5,h6⟩:=h3 T O (erHF s.h) W _ (λi _=>by rw[hH]) r (en ad _ (by simp[fQ,hp,aB,bX]));refine ⟨y::la,v'::vs,qT e1 h0,?_,h6,h2⟩;have hone:(ajf N.tmps (.cell ad t)).run P W= .ok v' W:=by
        simp[ajf,fB,h4,asAddr,xg,cQ,h5]
       simp_all
      .cases I
     .cases I
    .cases z
   .cases z
  .cases A
def I9:∀(args:Y TV) (k t:Nat) (x:TV),(OZ k args).get t=Z x->k<=t/\args[t-k]? =Z x
 |[],k,t,x,h=>by simp[OZ,PT.get]at h
 |y::args,k,t,x,h=>by
  rw[OZ,PT.get_set]at h;split at h
  .grind
  .obtain⟨h1,z⟩:=I9 args (k+1) t x h
   grind
variable {j:Y TV}
def ajw (A:lM h j=J) {l:Nat} (L:j[l]? =Z u):PI h u=J:=by
 let⟨l',I⟩:=fH h j A;let⟨y,_,z⟩:=mn I l u L;exact IL _ _ _ z
def YV {inert:FuncId->Bool} (hm:P.follows .mixedOrders=J) (hcon:HJ P X) (hin:Pd P inert) {sf:SF} (hf:CP P f=Z sf) (D:FT) (m:D.pre.ty.den->M D.post.ty.den) (hmod:∀x y,m x=Z y->aiv X V inert (Z sf) D x=Z y):rR P f ⟨D.pre,D.post,m⟩:=by
 let⟨fn,c,hfn,hb,hnm,hcode,hres,hnt⟩:=X3 hf;refine ⟨⟨fn,hfn,by rw[hb];rfl,hnm⟩,λx y hxy vs hp l1 rs hq l2 la lr I B hla hlr φ E w us hrep hrel hdom=>?_⟩;have ht:=hmod x y hxy;unfold aiv at ht;simp only[]at ht;split at ht
 .rename_i args h hins;let⟨l1',I'⟩:=yS hins;have e1:args=vs:=by have h1:=I.pv;have h2:=I'.pv;rw[h1]at h2;cases h2;rfl
  have e2:l1'=l1:=by have h1:=I.pb;have h2:=I'.pb;rw[h1]at h2;cases h2;rfl
  subst e1 e2;have hget:∀i,h.get i=hp.get i:=λi=>by
   cases h3:hp.get i with
   |some b=>exact (I'.at_ i b).2 ((I.at_ i b).1 h3)
   |none=>
    cases h4:h.get i with
    |none=>rfl
    |some b=>have:=(I.at_ i b).2 ((I'.at_ i b).1 h4);rw[h3]at this;cases this
  have hrow:∀i,eO h i=eO hp i:=λi=>by rw[bB,bB,hget]
  have herH:erHF h=erHF hp:=by
   funext n;unfold erHF;rw[hget];cases h3:hp.get (ow n) with
   |none=>rfl
   |some b=>
    simp only[aB];refine mo (λi r hr=>by rw[hrow];exact hr) (λty l e=>?_) _ _;exact (I.G _ _ l (by rw[h3,e])).1
  have hla':cI h args=Z la:=gV (λi r hr=>by rw[hrow];exact hr) args la hla;split at ht
  .rename_i hle;simp only[al]at hle;have hle2:=aY hle.2;have hle:=aY hle.1;have hlen:=hrel.length;have hargl:args.length=la.length:=(iC hla).symm;refine calls_of_wp_defers hfn hb ?_;have hcfg:ji P E fn.ntmps D.pre.bs.length φ ⟨OZ 0 args,h,D.pre.bs.length⟩ {tmps:=us.toArray++uN (fn.ntmps-us.toArray.size) undef,defers:=[]} w:=by
    refine ⟨by rw[herH];exact hrep,?_,hdom,bK _,⟨λi ty l hl=>(I'.G i _ l hl).1,λi b hbb=>I'.lt_len hbb⟩,?_,by simp,by simp;omega⟩
    .intro t z hz;simp only[fQ]at hz;cases hx:(OZ 0 args).get t with
     |none=>rw[hx]at hz;cases hz
     |some v0=>
      rw[hx]at hz;let⟨_,h2⟩:=I9 args 0 t v0 hx;rw[Nat.sub_zero]at h2;let⟨y0,q1,q2⟩:=mn hla' t v0 h2;simp only[aB]at hz;rw[hz]at q2;cases q2;let⟨v,h3,h4⟩:=hrel.get t z q1;have hlt:t<us.length:=(bz.1 h3).1;have:(us.toArray++uN (fn.ntmps-us.toArray.size) undef).getD t undef=v:=by
       rw[jX,Array.getElem?_append]
       grind
      grind
    .intro t v0 hv0;let⟨_,h2⟩:=I9 args 0 t v0 hv0;exact ajw I'.ok h2
   refine wp_mono (atr (E:=E) hm hcon hin (AT D.hints sf.code 0) c hcode.symm _ _ _ _ ht φ _ w hcfg) ?_;rintro e a' w' ⟨ex,s',φ',rfl,L,g',st,_⟩;have fin:∀(s':TS) (φ':PM),ji P E fn.ntmps D.pre.bs.length φ' s' a' w'->xS D.pre.bs.length φ φ' (erHF h) (erHF s'.h) w w'->(match Vl s' sf.res with
    |some l=>(match Fd D.pre.bs.length D.post l s'.h with
     |some ⟨y,_,_,_⟩=>(match D' D.post y with|some _=>Z y|none=>U)
     |none=>U)
    |none=>U)=Z y->Leaves P fn a'.tmps (λen w'=>∃v φ',en= .returned v/\Jd (own φ (erHF hp)) w w'/\(∀k,k<w.heap.size->own φ' (erHF hq) k->own φ (erHF hp) k)/\(∀n,ow n<D.pre.bs.length->φ' n=φ n)/\sV φ' E (erHF hq) w'/\ch φ' (tot E φ' (erHF hq)) w' (FH lr) v) a'.defers .returning w':=by
    intro s' φ' g' st L;split at L
    .rename_i l hl;split at L
     .rename_i y' m' σ sm hM;split at L
      .cases L;let⟨lo,rvs,q0,q1,q2⟩:=SJ g'.qz g'.qc g'.ql g'.env fn.results.toList sf.res l hres hl;have A:=yM hM;let⟨φ2,lu,hlu,S⟩:=Pz (np:=D.pre.bs.length) (E:=E) B g'.qz A q0 g'.ql;rw[hlr]at hlu;cases hlu;have hresults:(results fn a'.tmps).run P w'= .ok (if h:rvs.toArray.size=1 then rvs.toArray[0] else .tuple rvs.toArray) w':=by
        rw[Y_,Array.mapM_eq_mapM_toList];simp only[fB,Sem.run_map,q1,cQ,xg]
       have hrl:lG φ2 (tot E φ2 (erHF hq)) w' lr rvs:=by
        refine lG.of (by rw[q2.length,S.len]) λj z v hz hv=>?_
        let⟨z0,p1,p2⟩:=S.val j z v hz;let⟨v',p3,p4⟩:=q2.get j z0 p1;rw[hv]at p3;cases p3;exact p2 p4
       have hval:ch φ2 (tot E φ2 (erHF hq)) w' (FH lr) (if h:rvs.toArray.size=1 then rvs.toArray[0] else .tuple rvs.toArray):=by
        have hll:=hrl.length;clear hlr S;cases lr with
        |nil=>
         cases rvs with
         |nil=>exact ch.qp (vs:=[]) rfl (by intro j x v hx;simp at hx)
         |cons _ _=>exact hrl.elim
        |cons z lr=>
         cases rvs with
         |nil=>exact hrl.elim
         |cons v rvs=>
          cases lr with
          |nil=>
           cases rvs with
           |nil=>exact hrl.1
           |cons _ _=>exact hrl.2.elim
          |cons y l=>
           cases rvs with
           |nil=>exact hrl.2.elim
           |cons u rvs=>
            rw[dif_neg (by simp)];refine ch.qp (vs:=v::u::rvs) (by simpa using hll) λj x' v' hx hv=>?_
            let⟨v'',q1,q2⟩:=hrl.get j x' hx;rw[hv]at q1;cases q1;exact q2
       have st':xS D.pre.bs.length φ φ' (erHF hp) (erHF s'.h) w w':=by rw[<- herH];exact st
       refine Gf hresults ⟨_,φ2,rfl,st'.ext,λk L ho=>st'.qr k L (S.qr k ho),λi hi=>?_,S.ql,hval⟩ a'.defers g'.inert;rw[S.par i hi (dv hi hle2),st'.par i hi]
      .cases L
     .cases L
    .cases L
   have fin2:(match Yj s' (ayr D) with
    |some s=>(match Vl s sf.res with
     |some l=>(match Fd D.pre.bs.length D.post l s.h with
      |some ⟨y,_,_,_⟩=>(match D' D.post y with|some _=>Z y|none=>U)
      |none=>U)
     |none=>U)
    |none=>U)=Z y->Leaves P fn a'.tmps (λen w'=>∃v φ',en= .returned v/\Jd (own φ (erHF hp)) w w'/\(∀k,k<w.heap.size->own φ' (erHF hq) k->own φ (erHF hp) k)/\(∀n,ow n<D.pre.bs.length->φ' n=φ n)/\sV φ' E (erHF hq) w'/\ch φ' (tot E φ' (erHF hq)) w' (FH lr) v) a'.defers .returning w':=by
    intro L;split at L
    next s2 ha=>let⟨φ3,c3,t3,_⟩:=UH g' ha;exact fin s2 φ3 c3 (st.trans t3) L
    .cases L
   cases ex with
   |exit id=>cases L
   |_=>exact fin2 L
  .cases ht
 .cases ht
abbrev A?:=FuncId×ci
def ab5:Y A?->FuncId->M ci
 |[],_=>U
 |(g,c)::r,f=>if aA g f then Z c else ab5 r f
def QV (P:Program):Y A?->Prop
 |[]=>True
 |p::r=>aL P (p.1%65536) p.2/\QV P r
def aeh :∀{l:Y A?},QV P l->HJ P (ab5 l)
 |[],_,f,c,h=>by simp[ab5]at h
 |(g,d)::r,z,f,c,h=>by
  simp only[ab5]at h;split at h
  next A=>have:=au A;subst this;cases h;exact z.1
  .exact aeh z.2 f c h
def Wx {inert:FuncId->Bool} (hm:P.follows .mixedOrders=J) (hin:Pd P inert) {l:Y A?} (A:QV P l) {D:FT} {m:D.pre.ty.den->M D.post.ty.den} (z:(CP P f).isSome=J) (he:∀x,aiv (ab5 l) V inert (CP P f) D x=m x):rR P f ⟨D.pre,D.post,m⟩:=by
 let⟨I,hf⟩:=ru.1 z;exact YV hm (aeh A) hin hf D m λx y hxy=>by rw[<- hf,he];exact hxy
def rR.sub {pre post:Tm} {m m':pre.ty.den->M post.ty.den} (h:rR P f ⟨pre,post,m⟩) (z:∀x y,m' x=Z y->m x=Z y):rR P f ⟨pre,post,m'⟩:=
 ⟨h.zg,λx y hxy=>h.calls x y (z x y hxy)⟩
def aL.sub {P:Program} {f:FuncId} {pre post:Tm} {m m':pre.ty.den->M post.ty.den} (h:aL P f ⟨pre,post,m⟩) (z:dY (l! pre.bs) (l! post.bs)=J) (A:∀x y,m' x=Z y->m x=Z y):aL P f ⟨pre,post,m'⟩:=
 ((h.holds z).sub A).toC z
def tR {b:Nat}:∀(x y:Y R),chk (bg (aj x) b) (λ_=>Z x)=Z y->aJ (aA (aj x) 0) (I7 (Z ([]:Y R)) (chk (bg (aj ([]:Y R)+aj x) b) λ_=>(Z (([]:Y R)++x)))) (chk (bg (aj ([]:Y R)+aj x) b) λ_=>(Z (([]:Y R)++x)))=Z y:=by
 intro x y h;rw[jH,qi,bZ,h];cases x with
 |nil=>
  let⟨_,h⟩:=cG h;cases h;show I7 (Z []) (Z [])=_;unfold I7;rw[aC rfl]
 |cons a r=>rfl
def Z1 {pre post:Tm} (z:(CP P f).isSome=J):rR P f ⟨pre,post,λ_=>U⟩:=by
 let⟨I,hf⟩:=ru.1 z;let⟨fn,c,hfn,A,hnm,_⟩:=X3 hf;exact⟨⟨fn,hfn,by rw[A];rfl,hnm⟩,λx y h=>by cases h⟩
def rR.orElse {pre post:Tm} {m m':pre.ty.den->M post.ty.den} (h:rR P f ⟨pre,post,m⟩) (h':rR P f ⟨pre,post,m'⟩):rR P f ⟨pre,post,λx=>match m x with|some y=>Z y|none=>m' x⟩:=
 ⟨h.zg,λx y hxy=>by
   cases hm:m x with
   |some z=>rw[show (ci.m ⟨pre,post,λx=>match m x with|some y=>Z y|none=>m' x⟩ x)=Z z by show (match m x with|some y=>Z y|none=>m' x)=Z z;rw[hm]]at hxy;cases hxy;exact h.calls x _ hm
   |none=>rw[show (ci.m ⟨pre,post,λx=>match m x with|some y=>Z y|none=>m' x⟩ x)=m' x by show (match m x with|some y=>Z y|none=>m' x)=m' x;rw[hm]]at hxy;exact h'.calls x y hxy⟩
def aL.orE {pre post:Tm} {m m':pre.ty.den->M post.ty.den} (z:dY (l! pre.bs) (l! post.bs)=J) (h:aL P f ⟨pre,post,m⟩) (h':aL P f ⟨pre,post,m'⟩):aL P f ⟨pre,post,λx=>AI.orE (m x) (m' x)⟩:=by
 have e:(λx=>AI.orE (m x) (m' x))=λx=>match m x with|some y=>Z y|none=>m' x:=by funext x;cases m x<;>rfl
 rw[e];exact ((h.holds z).orElse (h'.holds z)).toC z
def inert (f:FuncId):Bool:=aA f 47
def VY:∃z,Tryz.prog.underlying 20=Z (.interface z):=⟨#[],by kernel_rfl⟩
def akq (w:World):(Op.equal 20 .nilIface .nilIface).run Tryz.prog w= .ok J w:=by
 let⟨A,z⟩:=VY;have key:∀d,(Op.equalIn (d+1) 20 .nilIface .nilIface).run Tryz.prog w= .ok J w:=λd=>by simp[Op.equalIn,run_underlying z]
 exact key 9999
def ajt {Q:Exit->Act->Y Frame->World->Prop} {rest:ι} {cs:Y Frame} {w':World} {o:Oper} (I:k[i]? =Z o) (z:o.guard=U) (A:(execOp N.eval o).run P W= .ok .recover w') (L:recoverD cs=U) (h:wpOpsS P k Q rest (N.put o.dst .nilIface) cs w'):wpOpsS P k Q (i::rest) N cs W:=by
 have z:ju o (yielded k N.tmps)=J:=by unfold ju;rw[z]
 simp only[wpOpsS,I,z,bt,A,L];exact h
variable {v:Value}
def ajs {Q:Exit->Act->Y Frame->World->Prop} {rest:ι} {cs:Y Frame} {w':World} {o:Oper} (I:k[i]? =Z o) (z:o.guard=U) (A:(execOp N.eval o).run P W= .ok (.value v) w') (h:wpOpsS P k Q rest (N.put o.dst v) cs w'):wpOpsS P k Q (i::rest) N cs W:=by
 have z:ju o (yielded k N.tmps)=J:=by unfold ju;rw[z]
 simp only[wpOpsS,I,z,bt,A];exact h
def VX:Pd Tryz.prog inert:=by
 intro f hf;have hf:f=47:=au hf;subst hf;refine ⟨⟨Tryz.f47,Tryz.func47,by kernel_rfl,by kernel_rfl⟩,λargs w=>?_⟩;refine callsD_of_wpS Tryz.func47 rfl λc₀ cs z=>?_
 refine wpS_seq (wpS_region ?_);generalize ht:(args++uN (Tryz.f47.ntmps-args.size) undef)=T;have hs:5<=T.size:=by
  rw[<- ht];simp only[Array.size_append,Array.size_replicate];have:Tryz.f47.ntmps=5:=rfl;omega
 have I:recoverD (c₀::cs)=U:=by simp[recoverD,z]
 refine ajt (i:=0) (rest:=[1]) rfl rfl (w':=w) ?_ I ?_
 .simp[execOp,resolve,invoke,builtin]
 refine ajs (v:=.bool af) rfl rfl (w':=w) ?_ ?_
 .have A:Act.eval (So {tmps:=T,defers:=[]} (Z 2) .nilIface) (.tmp 2)= .nilIface:=by
   simp[Act.eval,So,show 2<T.size by omega]
  have L:=akq w;have hcst:Act.eval (So {tmps:=T,defers:=[]} (Z 2) .nilIface) (.const .nilIface)= .nilIface:=rfl;show (execOp (Act.eval (So {tmps:=T,defers:=[]} (Z 2) .nilIface)) _).run _ w=_;simp[execOp,A,hcst,eqGuard,binOp,L]
 show Exit.thenS _ _ .normal _ _ _;refine wpS_cond (t:=af) ?_ ?_
 .simp[Act.eval,So,show 3<T.size by omega]
 refine wpS_of_wp (wp_skip ?_);have hres:Tryz.f47.results=#[]:=rfl;exact⟨rfl,c₀.mode,rfl,.tuple #[],by simp[results,hres],⟨_,rfl⟩,z,rfl⟩
def dL :Y (Nat×R)->PT R
 |[]=>.leaf
 |p::r=>(dL r).set p.1 (Z p.2)
noncomputable abbrev Pg:Program:=Tryz.prog
def cn (D:FT) (m:D.pre.ty.den->M D.post.ty.den):ci:=⟨D.pre,D.post,m⟩
def ayk:Pg.follows .mixedOrders=J:=by kernel_rfl
def ac {c:ci} {l:Y A?} (h:aL Pg f c) (t:QV Pg l) (hf:eK f 65536=J:=by rfl):QV Pg ((f,c)::l):=⟨by rw[xh (UB hf)];exact h,t⟩
def ac2 {c:ci} {l:Y A?} (q:FuncId) (z:q%65536=f) (h:aL Pg f c) (t:QV Pg l):QV Pg ((q,c)::l):=⟨by rw[z];exact h,t⟩
def an:QV Pg []:=trivial
inductive OI {R:Type}:Option R->Option R->Prop where
 |rfl {a:Option R}:OI a a
 |chk {b:Bool} {k k':Option R} (h:mW k k'):OI (chk b λ_=>k) (chk b λ_=>k')
 |aJ {b:Bool} {t f t' f':Option R} (h1:mW t t') (h2:mW f f'):OI (aJ b t f) (aJ b t' f')
 |lt {α:Type} {x:α} {k k':α->Option R} (h:∀y,mW (k y) (k' y)):OI (lt x k) (lt x k')
 |jn {α:Type} {o o':Option (R⊕α)} {k k':α->Option R} (h:mW o o') (hk:∀x,mW (k x) (k' x)):OI (jn o k) (jn o' k')
 |ax {α:Type} {o o':Option α} {k k':α->Option R} (h:mW o o') (hk:∀x,mW (k x) (k' x)):OI (ax o k) (ax o' k')
 |iter {σ:Type} {f g:σ->Option (σ⊕R)} {x:σ} (h:∀x,mW (f x) (g x)):OI (hZ f x) (iter g x)
def OI.o {a b:M R} (h:OI a b):mW a b:=by
 cases h with
 |rfl=>exact mW.rfl
 |chk h=>exact mW.chk h
 |aJ h g=>exact mW.bcase h g
 |lt h=>exact mW.lt h
 |jn h g=>exact mW.jn h g
 |ax h g=>exact mW.obind h g
 |iter h=>exact mW.iter h
def mk (D:FT) (m:D.pre.ty.den->M D.post.ty.den) {l:Y A?} (L:QV Pg l) (z:TypeId->M Ty) (he:∀x,aiv (ab5 l) z inert (CP Pg f) D x=m x:=by intro x;kernel_rfl) (A:(CP Pg f).isSome=J:=by kernel_rfl) (I:dY (l! D.pre.bs) (l! D.post.bs)=J:=by kernel_rfl):aL Pg f (cn D m):=(Wx ayk VX L A he).toC I
def DK (D:FT) (m n:D.pre.ty.den->M D.post.ty.den) (I:∀x,mW (m x) (n x)) {l:Y A?} (ha:QV Pg l) (z:TypeId->M Ty) (he:∀x,aiv (ab5 l) z inert (CP Pg f) D x=n x:=by intro x;kernel_rfl) (A:(CP Pg f).isSome=J:=by kernel_rfl) (L:dY (l! D.pre.bs) (l! D.post.bs)=J:=by kernel_rfl):aL Pg f (cn D m):=((Wx ayk VX ha A he).sub I).toC L
def Jv (D:FT) (z:(CP Pg f).isSome=J:=by kernel_rfl) (A:dY (l! D.pre.bs) (l! D.post.bs)=J:=by kernel_rfl):aL Pg f (cn D λ_=>U):=(Z1 z).toC A
@[simp] theorem ep (t f:M R):aJ J t f=t:=Eq.trans rfl rfl
@[simp] theorem eY (t f:M R):aJ af t f=f:=Eq.trans rfl rfl
@[simp] theorem chk_t (k:J=J->M R):chk J k=k rfl:=Eq.trans rfl rfl
def cH (h:b=J) (k:M R):chk b (λ_=>k)=k:=by cases b with|true=>rfl|false=>cases h
@[simp] theorem dm {α:Type} (x:α) (k:α->M R):ax (Z x) k=k x:=Eq.trans rfl rfl
@[simp] theorem ov {α:Type} (x:α) (k:α->M R):jn (Z (.inr x)) k=k x:=Eq.trans rfl rfl
@[simp] theorem jn_l {α:Type} (r:R) (k:α->M R):jn (Z (.inl r)) k=Z r:=Eq.trans rfl rfl
def apa {σ:Type} {f:σ->M (σ⊕R)} {x:σ} {r:R} (h:iterN f i x=Z r) (z:i<=18446744073709551616):hZ f x=Z r:=Ch h z
def Cg {σ:Type} {f:σ->M (σ⊕R)} (n:Nat) (A:n<18446744073709551616) (st:Nat->σ) {r:R} (h0:∀i,i<n->f (st i)=Z (.inl (st (i+1)))) (h1:f (st n)=Z (.inr r)):hZ f (st 0)=Z r:=by
 have key:∀k i,i+k=n->iterN f (k+1) (st i)=Z r:=by
  intro k;induction k with
  |zero=>intro i hi;have:i=n:=by omega
         subst this;simp[iterN,h1]
  |succ k z=>intro i hi;rw[iterN,h0 i (by omega)];exact z (i+1) (by omega)
 exact apa (key n 0 (by omega)) (by omega)
variable {a:Int}
@[simp] theorem aks {b:Int}:cX a b=J↔a<=b:=by unfold cX;simp
@[simp] theorem akr {b:Int}:gI a b=J↔a<b:=by unfold gI;simp
def s_ {b:Int} (h:a<=b):cX a b=J:=aks.2 h
def xw {b:Int} (h:a<b):gI a b=J:=akr.2 h
def VZ {b:Int} (h:b<a):cX a b=af:=by unfold cX;simp;omega
def Bi {b:Int} (h:b<=a):gI a b=af:=by unfold gI;simp;omega
def ayi (h0:0<=a) (h1:a<i):ef a i=J:=by unfold ef;rw[s_ h0,xw h1];rfl
def dc (h1:i<m):ef (i:Int) m=J:=ayi (by omega) (by omega)
def Ai (h0:i<=1099511627776) (h1:i*m<=1099511627776):bg i m=J:=by
 unfold bg;rw[bf h0,bf h1];rfl
def as4 (h0: -9223372036854775808<=a) (h1:a<=9223372036854775807):a_ .i64 a=a:=by
 rw[Ly];unfold QW;simp only[];rw[s_ h0,s_ h1];rfl
def rx (h:i<m) (z:m<=1099511627776):a_ .i64 ((i:Int)+1)=((i+1:Nat):Int):=by
 rw[as4 (by omega) (by omega)];omega
def Cj (a b:Nat):kA (aS a) (aS b)=((max a b:Nat):Int):=by
 unfold kA;by_cases h:a<b
 .rw[xw (by simp;omega),aC rfl];simp;omega
 .rw[Bi (by simp;omega)];simp;omega
def yX {T:Ty} (xs:Y T.den) (i:Nat):aI _ xs (i:Int)=xs.getD i T.zero:=by unfold aI;simp
def pQ (xs:Y η) (i:Nat):aI (.sl (.int .i64)) xs (i:Int)=xs.getD i []:=yX (T:=.sl (.int .i64)) xs i
def auh (xs:η) (i:Nat):aI (Ty.int .i64) xs (i:Int)=xs.getD i 0:=yX (T:=Ty.int .i64) xs i
def eR (xs:Y R) (i:Nat) (x:R):ca xs (i:Int) x=xs.set i x:=by unfold ca;simp
abbrev aN:Ty:=(.int .i64)
abbrev kF:Ty:=(.st (.pr .str (.pr aN (.pr aN (.pr .bool aN)))))
abbrev tU:Ty:=(.st (.pr .str .bool))
abbrev qG:Ty:=(.st (.pr aN (.pr aN aN)))
abbrev oy:Ty:=(.st (.pr (.sl kF) (.pr (.sl tU) (.pr (.sl itK) (.pr (.sl .str) (.pr (.sl .str) (.sl qG)))))))
abbrev lO:Ty:=(.sl (.sl aN))
abbrev fw:Ty:=(.st (.pr aN (.pr (.sl aN) (.pr lO aN))))
abbrev sZ:Ty:=(.st (.pr aN (.pr aN (.pr aN (.pr aN (.pr aN aN))))))
abbrev dO:Ty:=(.st (.pr aN (.sl aN)))
abbrev rV:Ty:=(.sl .bool)
abbrev hP:Ty:=(.st (.pr aN (.pr aN .bool)))
abbrev Jc:Ty:=(.st (.pr (.sl dO) (.pr aN (.pr rV (.sl hP)))))
abbrev gm:Ty:=(.st (.pr aN (.pr aN (.pr aN (.pr aN (.pr aN (.pr (.sl aN) (.sl aN))))))))
abbrev Kz:Ty:=(.st (.pr aN (.pr aN (.pr .str (.pr aN (.pr aN .str))))))
abbrev u_:Ty:=(.st (.pr .str (.pr aN (.pr (.sl .str) (.sl .sm)))))
abbrev Se:Ty:=(.st (.pr (.sl Kz) (.sl u_)))
abbrev zR:Ty:=(.st (.pr aN (.sl sZ)))
abbrev wP:Ty:=(.st (.pr oy (.sl zR)))
abbrev ym:Ty:=(.st (.pr Jc (.pr (.sl aN) (.pr (.sl aN) (.sl fw)))))
abbrev lH:Ty:=(.st (.pr Jc (.pr (.sl aN) (.pr (.sl aN) (.sl aN)))))
abbrev HE:Ty:=(.sl (.int .u8))
abbrev BP:Ty:=(.st (.pr HE aN))
abbrev hY:Ty:=(.st (.pr aN aN))
abbrev uL:Ty:=(.st (.pr oy (.sl gm)))
abbrev n?:=Int×Int×Bool×Int
abbrev Ym:=(ζ×n?)
abbrev nR:=(Y Ym)
abbrev H!:=ζ×Bool
abbrev mV:=(Y H!)
abbrev jT:=(ζ×Int)
abbrev dl:=(Y ζ)
abbrev b?:=nR×mV×(Y jT)×dl×dl×Y π
abbrev gk:=b?
abbrev g?:=Int×Int
abbrev ug:=(nR×mV×(Y jT)×dl×dl×(Y π)×dl×g?)
abbrev f?:=Int×η
abbrev jE:=(Y f?)
abbrev c!:=Int×Int×Bool
abbrev eh:=c!
abbrev h!:=(θ)×Y eh
abbrev v?:=jE×Int×h!
abbrev rq:=v?
abbrev j?:=Int×(η)×(Y η)×Int
abbrev yh:=j?
abbrev mq:=(ω)
abbrev b!:=Int×Int×Int×Int×Int×(η)×η
abbrev lZ:=b!
abbrev B?:=Int×Int×(ζ)×Int×Int×ζ
abbrev av8:=B?
abbrev zM:=(Y av8)
abbrev zL:=(ζ×Int×dl×Y Sx)
abbrev L!:=Bool×Bool
abbrev V?:=Int×Int×Bool×Bool×L!
abbrev Hy:=V?
abbrev z?:=gk×Y (Int×Y mq)
abbrev FB:=z?
abbrev HB:=(υ)
abbrev d!:=(η)×(η)×η
abbrev L?:=rq×d!
abbrev iV:=L?
abbrev n!:=η×Int
abbrev iE:=n!
abbrev g!:=rq×(η)×(η)×Y yh
abbrev AZ:=g!
abbrev abu:=(Int×Int×(ζ)×(ζ)×Int×Int×ζ)
abbrev zN:=(zM×(Y zL)×Int)
abbrev Yn:=(Bool×Y ζ)
abbrev Ya23:=(Int×Int×yh×yh×j?)
abbrev Ya24:=(yh×Int×Int×yh×j?)
abbrev Y!:=Int×Int×j?
abbrev Ya25:=(yh×yh×Y!)
abbrev i?:=Hy×iE×Bool×Y ζ
abbrev amn:=((Y Sx)×i?)
abbrev Ya27:=(Int×Int×yh×j?)
abbrev Ya28:=(yh×Y!)
abbrev Ya29:=Y!
abbrev ahp:=(Int×i?)
abbrev amm:=(Sx×i?)
abbrev c?:=zN×(Bool×Y Sx)×dl×Y ζ
abbrev ar3:=(ν×c?)
abbrev e?:=ug×Y mq
abbrev QI:=(Sx×e?)
abbrev HA:=(AZ×lZ×Bool)
abbrev W?:=(Sx×Int×Int×Int)×e?
abbrev aml:=W?
abbrev ar2:=(ν×i?)
abbrev ar1:=(jT×i?)
abbrev aho:=(Hy×iE×Yn×Y Sx)
abbrev ar0:=(Xp×i?)
abbrev Ya42:=(yh×yh×yh×g?)
abbrev amk:=((Y Sx)×e?)
abbrev aZ {α:Type} (l:Y α):Int:=aS (aj l)
abbrev cL (n:Int):Int:=a_ .i64 (n+1)
abbrev aH {R α:Type} (x:α):M (R⊕α):=Z (bL x)
abbrev cP {R α:Type} (x:R):M (R⊕α):=Z (lP x)
abbrev bJ {R:Type} (T:Ty) (l:Y T.den) (j:Int) (k:T.den->M R):M R:=chk (ef j (aj l)) λ_=>lt (aI T l j) k
abbrev lx {R:Type} (T:Ty) (l:Y T.den) (j:Int) (k:T.den->M R):M R:=chk (ef j (aj l)) λ_=>chk (ef j (aj l)) λ_=>lt (aI T l j) k
abbrev wT {R α:Type} (j:Int) (l:Y α) (k:M R):M R:=chk (ef j (aj l)) λ_=>k
abbrev bV {R:Type} (b:Bool) (k:M R):M R:=chk b λ_=>k
abbrev bj {R:Type} (a b:Int) (t f:M R):M R:=aJ (decide (a=b)) t f
abbrev gO {R:Type} (a b:Int) (t f:M R):M R:=aJ (!decide (a=b)) t f
abbrev bQ {R:Type} (a b:Int) (t f:M R):M R:=aJ (gI a b) t f
abbrev kw {R:Type} (a b:Int) (t f:M R):M R:=aJ (cX a b) t f
def ck (b:Bool) (k:M R):M R:=chk b λ_=>chk b λ_=>k
def eP (s:Sx):Sx:=pn (Sx.op s,Sx.line s,Sx.name s,Sx.arg s,Sx.index s,eM (Xp.op (Sx.expr s),Xp.n (Sx.expr s),Xp.name (Sx.expr s),Xp.l (Sx.expr s)),Sx.body s,Sx.els s)
def lA (x:Unit):M dl:=
 (Z ([[118,97,114],[118,111,108,97,116,105,108,101],[109,117,116,101,120],[114,119,108,111,99,107],[99,111,110,100],[102,117,116,117,114,101],[116,104,114,101,97,100],[105,102],[101,108,115,101],[119,104,105,108,101],[108,111,99,107],[114,101,97,100],[119,114,105,116,101],[116,114,97,110,115,97,99,116,105,111,110],[97,116,111,109,105,99],[119,97,105,116],[110,111,116,105,102,121],[110,111,116,105,102,121,97,108,108],[115,112,97,119,110],[106,111,105,110],[115,101,116],[103,101,116]]))
def mc (x:ζ):M (Bool):=
 (ax (lA ()) λA=>(iter (σ:=Int) (λz=>(bQ z (aZ A) (bJ (.str) A z λI=>(aJ (decide ((I:ζ)=x)) (aH J) (cP (cL z)))) (aH af))) 0))
def mB (x:Int):M (Bool):=
 (jn (kw 97 x (kw x 122 (aH J) (kw 65 x (aH (cX x 90)) (aH af))) (kw 65 x (aH (cX x 90)) (aH af))) λx1=>(Z x1))
def tD (x:Int):M (Bool):=
 (jn (kw 48 x (aH (cX x 57)) (aH af)) λx1=>(Z x1))
def ri (x:Int):M (Bool):=
 (jn (ax (mB x) λA=>(aJ A (aH J) (ax (tD x) λz=>(aJ z (aH J) (aH (decide ((x:Int)=95))))))) λx1=>(Z x1))
def fY (x:ζ):M (Bool):=
 (jn (bQ (aZ x) 1 (aH J) (bQ 12 (aZ x) (aH J) (wT 0 x (ax (mB (aoc x 0)) λL=>(aJ (!L) (aH J) (ax (mc x) λI=>(aH I))))))) λx1=>(aJ x1 (Z af) (iter (σ:=Int) (λz=>(bQ z (aZ x) (wT z x (ax (ri (aoc x z)) λA=>(aJ (!A) (aH af) (cP (cL z))))) (aH J))) 0)))
def gu (x:Bool):M (Int):=
 (aJ x (Z 1) (Z 0))
def wu (x:ν):M j!:=
 (bj x.1 4 (Z ((a_ .i64 (0-x.2)),J)) (bj x.1 5 (ax (gu (decide ((x.2:Int)=0))) λz=>(Z (z,J))) (Z (0,af))))
def xp (x:π):M j!:=
 (bj x.1 6 (Z ((a_ .i64 (x.2.1+x.2.2)),J)) (bj x.1 7 (Z ((a_ .i64 (x.2.1-x.2.2)),J)) (bj x.1 8 (Z ((a_ .i64 (x.2.1*x.2.2)),J)) (bj x.1 9 (bj x.2.2 0 (Z (0,J)) (bV (!decide ((x.2.2:Int)=0)) (Z ((a_ .i64 (Pn x.2.1 x.2.2)),J)))) (bj x.1 10 (bj x.2.2 0 (Z (0,J)) (bV (!decide ((x.2.2:Int)=0)) (Z ((lw x.2.1 x.2.2),J)))) (bj x.1 11 (ax (gu (decide ((x.2.1:Int)=x.2.2))) λy1=>(Z (y1,J))) (bj x.1 12 (ax (gu (!decide ((x.2.1:Int)=x.2.2))) λy2=>(Z (y2,J))) (bj x.1 13 (ax (gu (gI x.2.1 x.2.2)) λy3=>(Z (y3,J))) (bj x.1 14 (ax (gu (cX x.2.1 x.2.2)) λy4=>(Z (y4,J))) (bj x.1 15 (ax (gu (gI x.2.2 x.2.1)) λy5=>(Z (y5,J))) (bj x.1 16 (ax (gu (cX x.2.2 x.2.1)) λy6=>(Z (y6,J))) (bj x.1 17 (jn (gO x.2.1 0 (ax (gu (!decide ((x.2.2:Int)=0))) λy8=>(aH (y8,J))) (ax (gu af) λL=>(aH (L,J)))) λx7=>(Z x7)) (bj x.1 18 (jn (gO x.2.1 0 (ax (gu J) λA=>(aH (A,J))) (ax (gu (!decide ((x.2.2:Int)=0))) λz=>(aH (z,J)))) λI=>(Z I)) (Z (0,af)))))))))))))))
def wv (x:ν):M (Int):=
 (bQ x.2 1 (Z 0) (bV (!decide ((x.2:Int)=0)) (jn (bQ (lw x.1 x.2) 0 (aH (a_ .i64 ((lw x.1 x.2)+x.2))) (aH (lw x.1 x.2))) λx1=>(Z x1))))
def nI (x:Int):M (Int):=
 (jn (bj x 1 (aH J) (aH (decide ((x:Int)=2)))) λx1=>(aJ x1 (Z 0) (jn (kw 3 x (aH (cX x 5)) (aH af)) λA=>(aJ A (Z 1) (jn (kw 6 x (aH (cX x 18)) (aH af)) λz=>(aJ z (Z 2) (Z (-1))))))))
def qR (rr02_ShapedExpr:Xp->M (Bool)) (x:Xp):M (Bool):=
 (jn (bj (Xp.op x) 2 (aH (J,eM ((Xp.op x),(Xp.n x),(Xp.name x),(Xp.l x)))) (aH ((decide (((Xp.op x):Int)=3)),eM ((Xp.op x),(Xp.n x),(Xp.name x),(Xp.l x))))) λx1=>(jn (α:=Bool×Xp) (ax (nI (Xp.op x1.2)) λy3=>(gO y3 (aS (aj (Xp.l x1.2))) (aH (J,eM ((Xp.op x1.2),(Xp.n x1.2),(Xp.name x1.2),(Xp.l x1.2)))) (aJ ((x1.1==(!decide (((Xp.name x1.2):ζ)=([])))) !=J) (aH (J,eM ((Xp.op x1.2),(Xp.n x1.2),(Xp.name x1.2),(Xp.l x1.2)))) (aJ x1.1 (ax (fY (Xp.name x1.2)) λy4=>(aJ (!y4) (aH (J,eM ((Xp.op x1.2),(Xp.n x1.2),(Xp.name x1.2),(Xp.l x1.2)))) (bQ (Xp.n x1.2) 0 (aH (J,eM ((Xp.op x1.2),(Xp.n x1.2),(Xp.name x1.2),(Xp.l x1.2)))) (gO (Xp.op x1.2) 1 (aH ((!decide (((Xp.n x1.2):Int)=0)),eM ((Xp.op x1.2),(Xp.n x1.2),(Xp.name x1.2),(Xp.l x1.2)))) (aH (af,eM ((Xp.op x1.2),(Xp.n x1.2),(Xp.name x1.2),(Xp.l x1.2)))))))) (bQ (Xp.n x1.2) 0 (aH (J,eM ((Xp.op x1.2),(Xp.n x1.2),(Xp.name x1.2),(Xp.l x1.2)))) (gO (Xp.op x1.2) 1 (aH ((!decide (((Xp.n x1.2):Int)=0)),eM ((Xp.op x1.2),(Xp.n x1.2),(Xp.name x1.2),(Xp.l x1.2)))) (aH (af,eM ((Xp.op x1.2),(Xp.n x1.2),(Xp.name x1.2),(Xp.l x1.2)))))))))) λA=>(aJ A.1 (Z af) (iter (σ:=Int×Xp) (λz=>(bQ z.1 (aS (aj (Xp.l z.2))) (bJ (.ex) (Xp.l z.2) z.1 λI=>(ax (rr02_ShapedExpr I) λL=>(aJ (!L) (aH af) (cP ((cL z.1),eM ((Xp.op z.2),(Xp.n z.2),(Xp.name z.2),(Xp.l z.2))))))) (aH J))) (0,eM ((Xp.op A.2),(Xp.n A.2),(Xp.name A.2),(Xp.l A.2)))))))
def iB:Nat->Xp->M (Bool)
 |0,_=>U
 |n+1,x=>qR (iB n) x
def Cw (n:Nat) (x:Xp):iB (n+1) x=qR (iB n) x:=rfl
def jM (x:Xp):M (Bool):=iB fuel x
def rh (x:Xp):M (Bool):=
 (jn (α:=Bool) (bj (Xp.op x) 0 (bj (Xp.n x) 0 (aJ (decide (((Xp.name x):ζ)=([]))) (aH (decide (((aS (aj (Xp.l x))):Int)=0))) (aH af)) (aH af)) (aH af)) λx1=>(Z x1))
def kX (rr02_ShapedStmt:Sx->M (Bool)) (rr02_ShapedStmts:(Y Sx)->M (Bool)) (x:Sx):M (Bool):=
 (jn (bQ (Sx.op x) 1 (aH (J,eP x)) (aH ((gI 15 (Sx.op x)),eP x))) λx1=>(aJ x1.1 (Z af) (jn (bj (Sx.op x1.2) 2 (aH (J,eP x1.2)) (bj (Sx.op x1.2) 3 (aH (J,eP x1.2)) (bj (Sx.op x1.2) 7 (aH (J,eP x1.2)) (aH ((decide (((Sx.op x1.2):Int)=8)),eP x1.2))))) λx2=>(jn (α:=Bool×Sx) (aJ x2.1 (aJ (!decide (((Sx.name x2.2):ζ)=([]))) (aH (J,eP x2.2)) (aJ (!x2.1) (ax (fY (Sx.name x2.2)) λy4=>(aH ((!y4),eP x2.2))) (aH (af,eP x2.2)))) (aJ (!x2.1) (ax (fY (Sx.name x2.2)) λy5=>(aH ((!y5),eP x2.2))) (aH (af,eP x2.2)))) λL=>(aJ L.1 (Z af) (jn (α:=Bool×Sx) (bj (Sx.op L.2) 15 (ax (fY (Sx.arg L.2)) λy7=>(aJ (!y7) (aH (J,eP L.2)) (gO (Sx.op L.2) 15 (aH ((!decide (((Sx.arg L.2):ζ)=([]))),eP L.2)) (aH (af,eP L.2))))) (gO (Sx.op L.2) 15 (aH ((!decide (((Sx.arg L.2):ζ)=([]))),eP L.2)) (aH (af,eP L.2)))) λI=>(aJ I.1 (Z af) (jn (bQ 1 (aS (aj (Sx.index I.2))) (aH (J,eP I.2)) (gO (Sx.op I.2) 1 (bQ 0 (aS (aj (Sx.index I.2))) (aH (J,eP I.2)) (bj (aS (aj (Sx.index I.2))) 1 (bJ (.ex) (Sx.index I.2) 0 λz9=>(ax (jM z9) λy10=>(aH ((!y10),eP I.2)))) (aH (af,eP I.2)))) (bj (aS (aj (Sx.index I.2))) 1 (bJ (.ex) (Sx.index I.2) 0 λz11=>(ax (jM z11) λy12=>(aH ((!y12),eP I.2)))) (aH (af,eP I.2))))) λx8=>(aJ x8.1 (Z af) (jn (bj (Sx.op x8.2) 1 (aH (J,eP x8.2)) (bj (Sx.op x8.2) 2 (aH (J,eP x8.2)) (bj (Sx.op x8.2) 3 (aH (J,eP x8.2)) (aH ((decide (((Sx.op x8.2):Int)=14)),eP x8.2))))) λz=>(jn (aJ z.1 (ax (jM (eM ((Xp.op (Sx.expr z.2)),(Xp.n (Sx.expr z.2)),(Xp.name (Sx.expr z.2)),(Xp.l (Sx.expr z.2))))) λy15=>(aJ (!y15) (aH (J,eP z.2)) (aJ (!z.1) (ax (rh (eM ((Xp.op (Sx.expr z.2)),(Xp.n (Sx.expr z.2)),(Xp.name (Sx.expr z.2)),(Xp.l (Sx.expr z.2))))) λy16=>(aH ((!y16),eP z.2))) (aH (af,eP z.2))))) (aJ (!z.1) (ax (rh (eM ((Xp.op (Sx.expr z.2)),(Xp.n (Sx.expr z.2)),(Xp.name (Sx.expr z.2)),(Xp.l (Sx.expr z.2))))) λy17=>(aH ((!y17),eP z.2))) (aH (af,eP z.2)))) λx14=>(aJ x14.1 (Z af) (jn (kw 2 (Sx.op x14.2) (aH ((cX (Sx.op x14.2) 8),eP x14.2)) (aH (af,eP x14.2))) λA=>(jn (aJ (!A.1) (bQ 0 (aS (aj (Sx.body A.2))) (aH (J,eP A.2)) (gO (Sx.op A.2) 2 (aH ((gI 0 (aS (aj (Sx.els A.2)))),eP A.2)) (aH (af,eP A.2)))) (gO (Sx.op A.2) 2 (aH ((gI 0 (aS (aj (Sx.els A.2)))),eP A.2)) (aH (af,eP A.2)))) λx19=>(aJ x19.1 (Z af) (jn (ax (rr02_ShapedStmts (Sx.body x19.2)) λy21=>(aJ y21 (ax (rr02_ShapedStmts (Sx.els x19.2)) λy22=>(aH y22)) (aH af))) λx20=>(Z x20)))))))))))))))))
def mh (rr02_ShapedStmt:Sx->M (Bool)) (rr02_ShapedStmts:(Y Sx)->M (Bool)) (x:Y Sx):M (Bool):=
 (iter (σ:=Int) (λx1=>(bQ x1 (aZ x) (wT x1 x (ax (rr02_ShapedStmt (aI (.sm) x x1)) λz=>(aJ (!z) (aH af) (cP (cL x1))))) (aH J))) 0)
mutual
def eZ:Nat->Sx->M (Bool)
 |0,_=>U
 |n+1,x=>kX (eZ n) (dP n) x
def dP:Nat->(Y Sx)->M (Bool)
 |0,_=>U
 |n+1,x=>mh (eZ n) (dP n) x
end
def Cv (n:Nat) (x:Sx):eZ (n+1) x=kX (eZ n) (dP n) x:=rfl
def BK (n:Nat) (x:Y Sx):dP (n+1) x=mh (eZ n) (dP n) x:=rfl
def pj (x:Y Sx):M (Bool):=dP fuel x
def m_ (x:B?):M (Bool):=
 (jn (bQ x.1 1 (aH (J,x)) (bQ 6 x.1 (aH (J,x)) (ax (fY x.a) λI=>(aJ (!I) (aH (J,x)) (bQ x.b 0 (aH (J,x)) (gO x.1 1 (aH ((!decide ((x.b:Int)=0)),x)) (aH (af,x)))))))) λx1=>(aJ x1.1 (Z af) (jn (α:=Bool×B?) (bj x1.2.1 5 (ax (fY x1.j) λA=>(aJ (!A) (aH (J,x1.2)) (gO x1.2.1 5 (aH ((!decide ((x1.j:ζ)=([]))),x1.2)) (aH (af,x1.2))))) (gO x1.2.1 5 (aH ((!decide ((x1.j:ζ)=([]))),x1.2)) (aH (af,x1.2)))) λz=>(aJ z.1 (Z af) (jn (α:=Bool) (bQ (-9223372036854775808) z.e (bj z.e 0 (aH J) (bj z.2.1 1 (aH J) (aH (decide ((z.2.1:Int)=2))))) (aH af)) λL=>(Z L))))))
abbrev A!:=zM×Y zL
abbrev K?:=Int×(zM×Y zL)×(ζ)×Int×dl×Y Sx
def rF (x:A!):M (Bool):=
 (iter (σ:=Int×A!) (λx1=>(bQ x1.1 (aZ x1.2.1) (bJ Kz x1.2.1 x1.1 λz2=>(ax (m_ z2) λy3=>(aJ (!y3) (aH af) (cP ((cL x1.1),x1.2))))) (ax (iter (σ:=Int×A!) (λA=>(bQ A.1 (aZ A.2.2) (bJ u_ A.2.2 A.1 λz5=>(iter (σ:=K?) (λz=>(bQ z.1 (aZ z.c) (bJ (.str) z.c z.1 λz7=>(ax (fY z7) λy8=>(aJ (!y8) (aH (bL af)) (cP ((cL z.1),z.2))))) (ax (jn (ax (fY z.a) λL=>(aJ (!L) (aH (J,z.2.1)) (ax (pj z.h) λI=>(aH ((!I),z.2.1))))) λx9=>(aJ x9.1 (aH af) (cP ((cL A.1),x9.2)))) λr=>Z (bL r)))) (0,A.2,z5))) (aH (gI 0 (aZ A.2.2))))) (0,x1.2)) λr=>Z (bL r)))) (0,x))
def jZ (x:dl×ζ):M (Int):=
 (iter (σ:=Int) (λx1=>(bQ x1 (aZ x.1) (bJ (.str) x.1 x1 λz=>(aJ (decide ((z:ζ)=x.2)) (aH x1) (cP (cL x1)))) (aH (-1)))) 0)
def i_ (x:zM×ζ):M (Int):=
 (iter (σ:=Int) (λx1=>(bQ x1 (aZ x.1) (bJ Kz x.1 x1 λz=>(aJ (decide ((z.2.2.1:ζ)=x.2)) (aH x1) (cP (cL x1)))) (aH (-1)))) 0)
def iS (x:(Y zL)×ζ):M (Int):=
 (iter (σ:=Int) (λx1=>(bQ x1 (aZ x.1) (bJ u_ x.1 x1 λz=>(aJ (decide ((z.1:ζ)=x.2)) (aH x1) (cP (cL x1)))) (aH (-1)))) 0)
def uy (x:(zM×Y zL)×Int×ζ):M (Int):=
 (jn (kw 0 x.2.1 (bQ x.2.1 (aZ x.1.2) (bJ u_ x.1.2 x.2.1 λz2=>(ax (jZ (z2.2.2.1,x.2.2)) λy3=>(aH ((cX 0 y3),x.1)))) (aH (af,x.1))) (aH (af,x.1))) λx1=>(aJ x1.1 (Z 8) (ax (i_ (x1.2.1,x.2.2)) λA=>(bQ A 0 (ax (iS (x1.2.2,x.2.2)) λy5=>(kw 0 y5 (Z 7) (Z 0))) (wT A x1.2.1 (lt ((aI Kz x1.2.1 A).1) λz=>(bj z 1 (bJ Kz x1.2.1 A λz7=>(gO z7.2.2.2.1 0 (Z 2) (Z 1))) (bj z 2 (Z 1) (jn (bj z 3 (aH ((decide ((z:Int)=3)),x1.2)) (bj z 4 (aH ((decide ((z:Int)=4)),x1.2)) (bj z 5 (aH ((decide ((z:Int)=5)),x1.2)) (aH ((decide ((z:Int)=6)),x1.2))))) λI=>(aJ I.1 (bJ Kz I.2.1 A λL=>(Z L.1)) (Z 9)))))))))))
def io (x:(zM×Y zL)×Int×(ζ)×g?):M (Int):=
 (ax (uy (x.1,x.2.1,x.a)) λz=>(bj z 0 (Z 5) (jn (gO z x.b (aH (!decide ((z:Int)=x.g))) (aH af)) λA=>(aJ A (Z 6) (Z 0)))))
def AB (rr04_Nodes:Xp->M ν) (x:Xp):M ν:=
 (iter (σ:=(π)×Xp) (λx1=>(bQ x1.1.2.2 (aS (aj (Xp.l x1.2))) (bJ (.ex) (Xp.l x1.2) x1.1.2.2 λA=>(ax (rr04_Nodes A) λz=>(cP (((a_ .i64 (x1.1.1+z.1)),(kA x1.1.2.1 z.2),(cL x1.1.2.2)),eM ((Xp.op x1.2),(Xp.n x1.2),(Xp.name x1.2),(Xp.l x1.2)))))) (aH (x1.1.1,(cL x1.1.2.1))))) ((1,0,0),eM ((Xp.op x),(Xp.n x),(Xp.name x),(Xp.l x))))
def oS:Nat->Xp->M ν
 |0,_=>U
 |n+1,x=>AB (oS n) x
def K_ (n:Nat) (x:Xp):oS (n+1) x=AB (oS n) x:=rfl
def Fa (x:Xp):M ν:=oS fuel x
abbrev w?:=(zM×Y zL)×Int×Xp
def wG (rr04_names:w?->M (Int)) (x:w?):M (Int):=
 (jn (α:=Int×(zM×Y zL)×Xp) (bj (Xp.op x.2.2) 2 (ax (io (x.1,x.2.1,(Xp.name x.2.2),8,1)) λy2=>(aH (y2,x.1,eM ((Xp.op x.2.2),(Xp.n x.2.2),(Xp.name x.2.2),(Xp.l x.2.2))))) (bj (Xp.op x.2.2) 3 (ax (io (x.1,x.2.1,(Xp.name x.2.2),2,2)) λy3=>(aH (y3,x.1,eM ((Xp.op x.2.2),(Xp.n x.2.2),(Xp.name x.2.2),(Xp.l x.2.2))))) (aH (0,x.1,eM ((Xp.op x.2.2),(Xp.n x.2.2),(Xp.name x.2.2),(Xp.l x.2.2)))))) λx1=>(iter (σ:=(ν)×(zM×Y zL)×Xp) (λz=>(jn (bQ z.1.2 (aS (aj (Xp.l z.2.2))) (aH ((decide ((z.1.1:Int)=0)),z.2.1,eM ((Xp.op z.2.2),(Xp.n z.2.2),(Xp.name z.2.2),(Xp.l z.2.2)))) (aH (af,z.2.1,eM ((Xp.op z.2.2),(Xp.n z.2.2),(Xp.name z.2.2),(Xp.l z.2.2))))) λA=>(aJ A.1 (bJ (.ex) (Xp.l A.2.2) z.1.2 λI=>(ax (rr04_names (A.2.1,x.2.1,I)) λL=>(cP ((L,(cL z.1.2)),A.2.1,eM ((Xp.op A.2.2),(Xp.n A.2.2),(Xp.name A.2.2),(Xp.l A.2.2)))))) (aH z.1.1)))) ((x1.1,0),x1.2.1,eM ((Xp.op x1.2.2),(Xp.n x1.2.2),(Xp.name x1.2.2),(Xp.l x1.2.2)))))
def oR:Nat->(w?)->M (Int)
 |0,_=>U
 |n+1,x=>wG (oR n) x
def Bo (n:Nat) (x:w?):oR (n+1) x=wG (oR n) x:=rfl
def E_ (x:w?):M (Int):=oR fuel x
def pi (x:w?):M (Int):=
 (ax (jM (eM ((Xp.op x.2.2),(Xp.n x.2.2),(Xp.name x.2.2),(Xp.l x.2.2)))) λL=>(aJ (!L) (Z 3) (ax (Fa (eM ((Xp.op x.2.2),(Xp.n x.2.2),(Xp.name x.2.2),(Xp.l x.2.2)))) λA=>(jn (bQ 24 A.1 (aH (J,x.1,eM ((Xp.op x.2.2),(Xp.n x.2.2),(Xp.name x.2.2),(Xp.l x.2.2)))) (aH ((gI 6 A.2),x.1,eM ((Xp.op x.2.2),(Xp.n x.2.2),(Xp.name x.2.2),(Xp.l x.2.2))))) λz=>(aJ z.1 (Z 2) (ax (E_ (z.2.1,x.2.1,eM ((Xp.op z.2.2),(Xp.n z.2.2),(Xp.name z.2.2),(Xp.l z.2.2)))) λI=>(Z I)))))))
def db (x:Bool):M (Int):=
 (aJ x (Z 7) (Z 0))
def jK (x:ν):M (Int):=
 (gO x.1 0 (Z x.1) (Z x.2))
abbrev R!:=Int×c?
def eJ (x:(Int×Int×ζ)×c?):M (Bool×c?):=
 (iter (σ:=R!) (λx1=>(bQ x1.1 (aZ x1.a.2) (lx (.sm) x1.a.2 x1.1 λz=>(jn (α:=Bool×c?) (bj (Sx.op z) x.1.1 (aJ (decide ((x.1.2.2:ζ)=([]))) (aH (J,x1.2)) (aH ((decide (((Sx.name z):ζ)=x.1.2.2)),x1.2))) (bj (Sx.op z) x.1.2.1 (aJ (decide ((x.1.2.2:ζ)=([]))) (aH (J,x1.2)) (aH ((decide (((Sx.name z):ζ)=x.1.2.2)),x1.2))) (aH (af,x1.2)))) λA=>(aJ A.1 (aH (J,A.2)) (cP ((cL x1.1),A.2))))) (aH (af,x1.2)))) (0,x.2))
abbrev E!:=Int×zN×(Bool×Y Sx)×Sx×(zM×Y zL)×dl×Y ζ
def nG (x:Sx×c?):M R!:=
 (ax (eJ ((7,7,[]),x.2)) λy1=>(bV (aA (aj x.g) (aj y1.g)&&(aA (aj x.b) (aj y1.b)&&(((x.a.1==y1.a.1)&&J)&&aA (aj x.a.2) (aj y1.a.2)&&J))) (ax (eJ ((8,8,[]),y1.2)) λy2=>(bV (aA (aj y1.g) (aj y2.g)&&(aA (aj y1.b) (aj y2.b)&&(((y1.a.1==y2.a.1)&&J)&&aA (aj y1.a.2) (aj y2.a.2)&&J))) (ax (eJ ((3,3,[]),y2.2)) λy3=>(bV (aA (aj y2.g) (aj y3.g)&&(aA (aj y2.b) (aj y3.b)&&(((y2.a.1==y3.a.1)&&J)&&aA (aj y2.a.2) (aj y3.a.2)&&J))) (bj (Sx.op x.1) 1 (bj (aS (aj (Sx.index x.1))) 0 (ax (io ((x.2.1.1,x.2.1.2.1),x.2.1.2.2,(Sx.name x.1),8,1)) λy4=>(ax (pi ((x.2.1.1,x.2.1.2.1),x.2.1.2.2,eM ((Xp.op (Sx.expr x.1)),(Xp.n (Sx.expr x.1)),(Xp.name (Sx.expr x.1)),(Xp.l (Sx.expr x.1))))) λy5=>(ax (jK (y4,y5)) λy6=>(Z (y6,y3.2))))) (ax (io ((x.2.1.1,x.2.1.2.1),x.2.1.2.2,(Sx.name x.1),2,2)) λy7=>(bJ (.ex) (Sx.index x.1) 0 λz8=>(ax (pi ((x.2.1.1,x.2.1.2.1),x.2.1.2.2,z8)) λy9=>(ax (pi ((x.2.1.1,x.2.1.2.1),x.2.1.2.2,eM ((Xp.op (Sx.expr x.1)),(Xp.n (Sx.expr x.1)),(Xp.name (Sx.expr x.1)),(Xp.l (Sx.expr x.1))))) λy10=>(ax (jK (y9,y10)) λy11=>(ax (jK (y7,y11)) λy12=>(Z (y12,y3.2))))))))) (jn (bj (Sx.op x.1) 2 (aH ((decide (((Sx.op x.1):Int)=2)),y3.2.1,y3.a,eP x.1,(x.2.1.1,x.2.1.2.1),y3.d)) (aH ((decide (((Sx.op x.1):Int)=3)),y3.2.1,y3.a,eP x.1,(x.2.1.1,x.2.1.2.1),y3.d))) λI=>(aJ I.1 (ax (pi (I.c,x.2.1.2.2,eM ((Xp.op (Sx.expr I.b)),(Xp.n (Sx.expr I.b)),(Xp.name (Sx.expr I.b)),(Xp.l (Sx.expr I.b))))) λy14=>(Z (y14,I.2.1,I.a,I.h))) (bj (Sx.op x.1) 4 (jn (α:=R!) (ax (io (I.c,x.2.1.2.2,(Sx.name I.b),3,3)) λy16=>(aJ y1.1 (ax (db J) λy17=>(ax (jK (y16,y17)) λy18=>(aH (y18,I.2.1,I.a,I.h)))) (ax (eJ ((4,4,(Sx.name I.b)),I.2.1,I.a,I.h)) λy19=>(bV (aA (aj I.j) (aj y19.g)&&(aA (aj I.e) (aj y19.b)&&(((I.a.1==y19.a.1)&&J)&&aA (aj I.a.2) (aj y19.a.2)&&J))) (ax (db y19.1) λy20=>(ax (jK (y16,y20)) λy21=>(aH (y21,y19.2)))))))) λx15=>(Z x15)) (jn (bj (Sx.op x.1) 5 (aH ((decide (((Sx.op x.1):Int)=5)),I.2.1,I.a,eP I.b,I.g)) (aH ((decide (((Sx.op x.1):Int)=6)),I.2.1,I.a,eP I.b,I.g))) λA=>(aJ A.1 (jn (α:=R!) (ax (io (A.c,x.2.1.2.2,(Sx.name A.b),4,4)) λy24=>(aJ y1.1 (ax (db J) λy25=>(ax (jK (y24,y25)) λy26=>(aH (y26,A.2.1,A.a,A.h)))) (ax (eJ ((5,6,(Sx.name A.b)),A.2.1,A.a,A.h)) λy27=>(bV (aA (aj A.j) (aj y27.g)&&(aA (aj A.e) (aj y27.b)&&(((A.a.1==y27.a.1)&&J)&&aA (aj A.a.2) (aj y27.a.2)&&J))) (ax (db y27.1) λy28=>(ax (jK (y24,y28)) λy29=>(aH (y29,y27.2)))))))) λx23=>(Z x23)) (bj (Sx.op x.1) 7 (ax (db y1.1) λy30=>(Z (y30,A.2.1,A.a,A.h))) (bj (Sx.op x.1) 8 (jn (aJ y1.1 (ax (db J) λy32=>(aH (y32,A.2.1,A.a,A.h))) (ax (db y2.1) λy33=>(aH (y33,A.2.1,A.a,A.h)))) λx31=>(Z x31)) (jn (bj (Sx.op x.1) 9 (aH ((decide (((Sx.op x.1):Int)=9)),A.2.1,A.a,eP A.b,A.g)) (bj (Sx.op x.1) 10 (aH ((decide (((Sx.op x.1):Int)=10)),A.2.1,A.a,eP A.b,A.g)) (aH ((decide (((Sx.op x.1):Int)=11)),A.2.1,A.a,eP A.b,A.g)))) λz=>(aJ z.1 (ax (io (z.c,x.2.1.2.2,(Sx.name z.b),5,5)) λy35=>(gO y35 0 (Z (y35,z.2.1,z.a,z.h)) (ax (i_ (z.c.1,(Sx.name z.b))) λy36=>(bJ Kz z.c.1 y36 λz37=>(ax (eJ ((4,4,z37.2.2.2.2.2),z.2.1,z.a,z.h)) λy38=>(bV (aA (aj z.j) (aj y38.g)&&(aA (aj z.e) (aj y38.b)&&(((z.a.1==y38.a.1)&&J)&&aA (aj z.a.2) (aj y38.a.2)&&J))) (jn (aJ y1.1 (ax (db J) λy40=>(aH (y40,y38.2))) (aJ (!y38.1) (ax (db J) λy41=>(aH (y41,y38.2))) (bj (Sx.op z.b) 9 (ax (db y2.1) λy42=>(aH (y42,y38.2))) (ax (db af) λy43=>(aH (y43,y38.2)))))) λx39=>(Z x39)))))))) (bj (Sx.op x.1) 12 (ax (io (z.c,x.2.1.2.2,(Sx.name z.b),7,7)) λy44=>(gO y44 0 (Z (y44,z.2.1,z.a,z.h)) (ax (iS (z.c.2,(Sx.name z.b))) λy45=>(jn (aJ y1.1 (aH (J,z.2.1,z.a,eP z.b,z.h)) (aJ y2.1 (aH (J,z.2.1,z.a,eP z.b,z.h)) (aJ y3.1 (aH (J,z.2.1,z.a,eP z.b,z.h)) (bj y45 x.2.1.2.2 (aH (J,z.2.1,z.a,eP z.b,z.h)) (aH ((decide ((y45:Int)=0)),z.2.1,z.a,eP z.b,z.h)))))) λL=>(aJ L.1 (Z (7,L.2.1,L.a,L.g)) (ax (jZ (L.c,(Sx.name L.b))) λy47=>(kw 0 y47 (Z (8,L.2.1,L.a,L.g)) (bV (bg (aj L.c+aj ([(Sx.name L.b)])) 16) (Z (0,L.2.1,L.a,(L.c++([(Sx.name L.b)])),L.h)))))))))) (bj (Sx.op x.1) 13 (jn (α:=R!) (ax (io (z.c,x.2.1.2.2,(Sx.name z.b),7,7)) λy49=>(aJ y1.1 (ax (db J) λy50=>(ax (jK (y49,y50)) λy51=>(aH (y51,z.2.1,z.a,z.h)))) (aJ y2.1 (ax (db J) λy52=>(ax (jK (y49,y52)) λy53=>(aH (y53,z.2.1,z.a,z.h)))) (ax (iS (z.c.2,(Sx.name z.b))) λy54=>(ax (db (decide ((y54:Int)=x.2.1.2.2))) λy55=>(ax (jK (y49,y55)) λy56=>(aH (y56,z.2.1,z.a,z.h)))))))) λx48=>(Z x48)) (bj (Sx.op x.1) 14 (jn (α:=E!) (ax (io (z.c,x.2.1.2.2,(Sx.name z.b),6,6)) λy58=>(aJ y1.1 (ax (db J) λy59=>(ax (jK (y58,y59)) λy60=>(aH (y60,z.2.1,z.a,eP z.b,z.g)))) (ax (db y3.1) λy61=>(ax (jK (y58,y61)) λy62=>(aH (y62,z.2.1,z.a,eP z.b,z.g)))))) λx57=>(jn (α:=E!) (jn (bj x57.1 0 (ax (jZ (x57.j,(Sx.name x57.b))) λy65=>(aH ((cX 0 y65),x57.2.1,x57.a,eP x57.b,x57.g))) (aH (af,x57.2.1,x57.a,eP x57.b,x57.g))) λx64=>(aJ x64.1 (aH (8,x64.2.1,x64.a,eP x64.b,x64.g)) (aH (x57.1,x64.2.1,x64.a,eP x64.b,x64.g)))) λx63=>(bV (bg (aj x63.j+aj ([(Sx.name x63.b)])) 16) (ax (pi (x63.c,x.2.1.2.2,eM ((Xp.op (Sx.expr x63.b)),(Xp.n (Sx.expr x63.b)),(Xp.name (Sx.expr x63.b)),(Xp.l (Sx.expr x63.b))))) λy66=>(ax (jK (x63.1,y66)) λy67=>(Z (y67,x63.2.1,x63.a,x63.e,(x63.j++([(Sx.name x63.b)]))))))))) (ax (io (z.c,x.2.1.2.2,(Sx.name z.b),8,8)) λy68=>(ax (io (z.c,x.2.1.2.2,(Sx.arg z.b),6,6)) λy69=>(ax (db y1.1) λy70=>(ax (jK (y69,y70)) λy71=>(ax (jK (y68,y71)) λy72=>(Z (y72,z.2.1,z.a,z.h))))))))))))))))))))))))))
abbrev M!:=(Y Sx)×c?
def nM (rr04_walk_all:M!->M ar3) (x:M!):M ar3:=
 (iter (σ:=R!) (λx1=>(bQ x1.1 (aZ x.1) (bJ (.sm) x.1 x1.1 λz2=>(ax (nG (eP z2,x1.2)) λL=>(bV (aA (aj x1.g) (aj x1.g)&&(aA (aj x1.b) (aj x1.b)&&(((x1.a.1==L.a.1)&&J)&&aA (aj x1.a.2) (aj L.a.2)&&J))) (jn (α:=Int×zN×Sx×(Bool×Y Sx)×dl×Y ζ) (bQ 6 (a_ .i64 ((aZ L.a.2)+1)) (aH (2,L.2.1,eP z2,L.2.2)) (aH (L.1,L.2.1,eP z2,L.2.2))) λz=>(gO z.1 0 (aH ((z.1,(Sx.line z.a)),z.2.1,z.d)) (bV (bg (aj z.b.2+aj ([pn (0,0,[],[],([]:Y Xp),eM (0,0,[],([]:Y Xp)),([]:Y Sx),([]:Y Sx))])) 176) (ck (ef (aZ z.b.2) (aj (z.b.2++([pn (0,0,[],[],([]:Y Xp),eM (0,0,[],([]:Y Xp)),([]:Y Sx),([]:Y Sx))])))) (ax (rr04_walk_all ((Sx.body z.a),z.2.1,(z.b.1,(ca (z.b.2++([pn (0,0,[],[],([]:Y Xp),eM (0,0,[],([]:Y Xp)),([]:Y Sx),([]:Y Sx))])) (aZ z.b.2) (eP z.a))),z.g)) λI=>(bV (aA (aj z.h) (aj z.h)&&(aA (aj z.c) (aj z.c)&&(((z.b.1==z.b.1)&&J)&&aA (aj (ca (z.b.2++([pn (0,0,[],[],([]:Y Xp),eM (0,0,[],([]:Y Xp)),([]:Y Sx),([]:Y Sx))])) (aZ z.b.2) (eP z.a))) (aj (ca (z.b.2++([pn (0,0,[],[],([]:Y Xp),eM (0,0,[],([]:Y Xp)),([]:Y Sx),([]:Y Sx))])) (aZ z.b.2) (eP z.a)))&&J))) (jn (bj I.1.1 0 (ax (rr04_walk_all ((Sx.els z.a),I.2)) λy7=>(bV (aA (aj I.g) (aj I.g)&&(aA (aj I.b) (aj I.b)&&(((I.a.1==I.a.1)&&J)&&aA (aj I.a.2) (aj I.a.2)&&J))) (aH y7))) (aH I)) λA=>(bV (cX 0 (a_ .i64 ((aZ A.a.2)-1))&&gI (a_ .i64 ((aZ A.a.2)-1)) (aj A.a.2)) (gO A.1.1 0 (aH (A.1,A.2.1,(af,(dy (aO (a_ .i64 ((aZ A.a.2)-1))) A.a.2)),A.d)) (cP ((cL x1.1),A.2.1,(af,(dy (aO (a_ .i64 ((aZ A.a.2)-1))) A.a.2)),A.d)))))))))))))) (aH ((0,0),x1.2)))) (0,x.2))
def iU:Nat->(M!)->M ar3
 |0,_=>U
 |n+1,x=>nM (iU n) x
def Fl (n:Nat) (x:M!):iU (n+1) x=nM (iU n) x:=rfl
def xZ (x:M!):M ar3:=iU fuel x
def AC (rr04_Count:(Y Sx)->M (Int)) (x:Y Sx):M (Int):=
 (iter (σ:=ν) (λx1=>(bQ x1.2 (aZ x) (wT x1.2 x (lt (Sx.body (aI (.sm) x x1.2)) λA=>(ax (rr04_Count A) λL=>(wT x1.2 x (lt (Sx.els (aI (.sm) x x1.2)) λz=>(ax (rr04_Count z) λI=>(cP ((a_ .i64 ((a_ .i64 (x1.1+L))+I)),(cL x1.2))))))))) (aH x1.1))) ((aZ x),0))
def oU:Nat->(Y Sx)->M (Int)
 |0,_=>U
 |n+1,x=>AC (oU n) x
def La (n:Nat) (x:Y Sx):oU (n+1) x=AC (oU n) x:=rfl
def Fb (x:Y Sx):M (Int):=oU fuel x
abbrev q!:=Int×Int×g?
def tC (x:Y av8):M ν:=
 (iter (σ:=υ) (λx1=>(bQ x1.g (aZ x) (jn (α:=q!) (bJ Kz x x1.g λz=>(bV (cX 0 x1.g&&cX x1.g (aj x)) (ax (i_ ((dy (aO x1.g) x),z.a)) λy4=>(kw 0 y4 (cP (bL (4,z.2.1))) (bQ 4 z.b (cP (bL (2,z.2.1))) (jn (jn (bj z.1 1 (aH ((decide ((z.1:Int)=1)),z)) (aH ((decide ((z.1:Int)=2)),z))) λL=>(aJ L.1 (aH (((a_ .i64 (x1.1+(kA L.c 1))),x1.2.1,x1.a,x1.b),L.2)) (jn (bj z.1 3 (aH ((decide ((z.1:Int)=3)),L.2)) (aH ((decide ((z.1:Int)=4)),L.2))) λx7=>(aJ x7.1 (aH ((x1.1,(cL x1.2.1),x1.a,x1.b),x7.2)) (bj z.1 5 (aH ((x1.1,x1.2.1,(cL x1.a),x1.b),x7.2)) (aH ((x1.1,x1.2.1,x1.a,(cL x1.b)),x7.2))))))) λA=>(jn (bQ 12 A.1.1 (aH (J,A.2)) (bQ 4 A.1.2.1 (aH (J,A.2)) (bQ 2 A.1.a (aH (J,A.2)) (aH ((gI 2 A.1.d),A.2))))) λI=>(aJ I.1 (cP (bL (2,I.a))) (bj I.2.1 5 (bV (cX 0 x1.g&&cX x1.g (aj x)) (ax (i_ ((dy (aO x1.g) x),I.j)) λy9=>(bQ y9 0 (cP (bL (5,I.a))) (bJ Kz x y9 λz10=>(gO z10.1 3 (cP (bL (6,I.a))) (aH A.1)))))) (aH A.1)))))))))) λx2=>(cP (x2.1,x2.2.1,x2.a,x2.d,(cL x1.g)))) (aH (0,0)))) (0,0,0,0,0))
def ph (x:A!):M ν:=
 (iter (σ:=Int×A!) (λx1=>(bQ x1.1 (aZ x1.2.2) (bJ u_ x1.2.2 x1.1 λL=>(jn (ax (i_ (x1.2.1,L.1)) λy4=>(kw 0 y4 (aH (J,x1.2,L)) (bV (cX 0 x1.1&&cX x1.1 (aj x1.2.2)) (ax (iS ((dy (aO x1.1) x1.2.2),L.1)) λy5=>(aH ((cX 0 y5),x1.2,L)))))) λx3=>(aJ x3.1 (aH (4,x3.b)) (cP ((cL x1.1),x3.2.1))))) (ax (iter (σ:=Int×A!) (λI=>(bQ I.1 (aZ I.2.2) (bJ u_ I.2.2 I.1 λz7=>(bQ 4 (aZ z7.a) (aH (2,z7.2.1)) (iter (σ:=K?) (λz=>(bQ z.1 (aZ z.c) (bJ (.str) z.c z.1 λz9=>(jn (ax (i_ (z.2.1.1,z9)) λy11=>(kw 0 y11 (aH (J,z.2)) (ax (iS (z.2.1.2,z9)) λy12=>(kw 0 y12 (aH (J,z.2)) (bV (cX 0 z.1&&cX z.1 (aj z.c)) (ax (jZ ((dy (aO z.1) z.c),z9)) λy13=>(aH ((cX 0 y13),z.2)))))))) λA=>(aJ A.1 (aH (bL (4,A.b))) (cP ((cL z.1),A.2))))) (aH (lP ((cL I.1),z.2.1))))) (0,I.2,z7)))) (aH (0,0)))) (0,x1.2)) λr=>Z (bL r)))) (0,x))
def gi (x:A!):M ν:=
 (ax (rF x) λy1=>(aJ (!y1) (Z (3,0)) (ax (tC x.1) λy2=>(gO y2.1 0 (Z y2) (bQ 4 (aZ x.2) (Z (2,0)) (ax (ph x) λL=>(gO L.1 0 (Z L) (iter (σ:=(ν)×A!) (λA=>(bQ A.1.2 (aZ A.2.2) (bJ u_ A.2.2 A.1.2 λz5=>(ax (Fb z5.2.2.2) λy6=>(cP (((a_ .i64 (A.1.1+y6)),(cL A.1.2)),A.2)))) (ax (bQ 60 A.1.1 (Z (2,0)) (iter (σ:=Int×(zM×Y zL)×c?) (λz=>(bQ z.1 (aZ z.2.1.2) (bJ u_ z.2.1.2 z.1 λz8=>(ax (xZ (z8.2.2.2,(z.a.1,z.a.2.1,z.1),z.d)) λI=>(bV (aA (aj z.h) (aj z.h)&&(aA (aj z.c) (aj z.c)&&(((z.b.1==z.b.1)&&J)&&aA (aj z.b.2) (aj z.b.2)&&J))) (gO I.1.1 0 (aH I.1) (cP ((cL z.1),z.2.1,I.2)))))) (aH (0,0)))) (0,A.2,(A.2.1,A.2.2,0),(J,([]:Y Sx)),([]:Y ζ),([]:Y ζ)))) λr=>Z (bL r)))) ((0,0),x)))))))))
abbrev y!:=(Int×Int×Y Sx)×Y π
abbrev X!:=Int×Y π
def AA (rr06_sites:y!->M X!) (x:y!):M X!:=
 (iter (σ:=(ν)×Y π) (λx1=>(bQ x1.1.2 (aZ x.1.2.2) (wT x1.1.2 x.1.2.2 (lt (Sx.line (aI (.sm) x.1.2.2 x1.1.2)) λz=>(bV (bg (aj x1.2+aj ([(x.1.1,x1.1.1,z)])) 24) (wT x1.1.2 x.1.2.2 (lt (Sx.body (aI (.sm) x.1.2.2 x1.1.2)) λz3=>(ax (rr06_sites ((x.1.1,(cL x1.1.1),z3),(x1.2++([(x.1.1,x1.1.1,z)])))) λA=>(bV (aA (aj (x1.2++([(x.1.1,x1.1.1,z)]))) (aj (x1.2++([(x.1.1,x1.1.1,z)])))&&J) (wT x1.1.2 x.1.2.2 (lt (Sx.els (aI (.sm) x.1.2.2 x1.1.2)) λL=>(ax (rr06_sites ((x.1.1,A.1,L),A.2)) λI=>(bV (aA (aj A.2) (aj A.2)&&J) (cP ((I.1,(cL x1.1.2)),I.2))))))))))))) (aH (x1.1.1,x1.2)))) ((x.1.2.1,0),x.2))
def rn:Nat->(y!)->M X!
 |0,_=>U
 |n+1,x=>AA (rn n) x
def K9 (n:Nat) (x:y!):rn (n+1) x=AA (rn n) x:=rfl
def MD (x:y!):M X!:=rn fuel x
def mA (x:mV×ζ):M (Int):=
 (iter (σ:=Int) (λx1=>(bQ x1 (aZ x.1) (bJ tU x.1 x1 λz=>(aJ (decide ((z.1:ζ)=x.2)) (aH x1) (cP (cL x1)))) (aH (-1)))) 0)
abbrev E?:=Int×b?
def oN (x:gk×ζ):M (Int):=
 (iter (σ:=E?) (λx1=>(bQ x1.1 (aZ x1.2.1) (bJ kF x1.2.1 x1.1 λz=>(aJ (decide ((z.1:ζ)=x.2)) (aH x1.1) (cP ((cL x1.1),x1.2)))) (aH (-1)))) (0,x.1))
abbrev J?:=nR×mV×(Y jT)×Y ζ
def wq (x:A!):M gk:=
 (ax (gi x) λy1=>(gO y1.1 0 (Z (([]:Y Ym),([]:Y H!),([]:Y jT),([]:Y ζ),([]:Y ζ),([]:Y π))) (iter (σ:=Int×(zM×Y zL)×J?) (λL=>(bQ L.1 (aZ L.2.1.1) (bJ Kz L.2.1.1 L.1 λz3=>(jn (α:=(zM×Y zL)×J?) (jn (bj z3.1 1 (aH ((decide ((z3.1:Int)=1)),L.2.1,z3,L.2.2)) (aH ((decide ((z3.1:Int)=2)),L.2.1,z3,L.2.2))) λx5=>(aJ x5.1 (iter (σ:=Int×(zM×Y zL)×av8×J?) (λA=>(bQ A.1 (kA A.a.b 1) (bV (bg (aj A.b+aj ([(A.a.a,A.1,A.a.b,(decide ((A.a.1:Int)=2)),A.a.c)])) 48) (cP ((cL A.1),A.2.1,A.a,(A.b++([(A.a.a,A.1,A.a.b,(decide ((A.a.1:Int)=2)),A.a.c)])),A.g))) (aH (bL (A.2.1,A.d))))) (0,x5.2)) (jn (bj z3.1 3 (aH ((decide ((z3.1:Int)=3)),x5.2)) (aH ((decide ((z3.1:Int)=4)),x5.2))) λz=>(aJ z.1 (bV (bg (aj z.c+aj ([(z.a.a,(decide ((z.a.1:Int)=4)))])) 24) (aH (z.2.1,z.b,(z.c++([(z.a.a,(decide ((z.a.1:Int)=4)))])),z.h))) (bj z3.1 5 (ax (mA (z.c,z.a.h)) λy8=>(bV (bg (aj z.e+aj ([(z.a.a,y8)])) 24) (aH (z.2.1,z.b,z.c,(z.e++([(z.a.a,y8)])),z.j)))) (bV (bg (aj z.j+aj ([z.a.a])) 16) (aH (z.2.1,z.b,z.c,z.e,(z.j++([z.a.a])))))))))) λx4=>(cP ((cL L.1),x4)))) (ax (iter (σ:=Int×(zM×Y zL)×b?) (λI=>(bQ I.1 (aZ I.2.1.2) (bJ u_ I.2.1.2 I.1 λz10=>(bV (bg (aj I.f+aj ([z10.1])) 16) (bJ u_ I.2.1.2 I.1 λz11=>(ax (MD ((I.1,0,z11.2.2.2),I.n)) λy12=>(bV (aA (aj I.n) (aj I.n)&&J) (cP ((cL I.1),I.2.1,I.a,I.b,I.c,I.e,(I.f++([z10.1])),y12.2))))))) (aH I.2.2))) (0,L.2.1,L.a,L.b,L.c,L.h,([]:Y ζ),([]:Y π))) λr=>Z (bL r)))) (0,x,([]:Y Ym),([]:Y H!),([]:Y jT),([]:Y ζ)))))
abbrev B!:=Int×gk×Y ζ
abbrev N!:=dl×(ζ)×n?
def q_ (x:b?):M (dl×Bool):=
 (iter (σ:=B!) (λx1=>(bQ x1.1 (aZ x1.2.1.1) (jn (α:=B!) (bJ kF x1.2.1.1 x1.1 λI=>(bV (bg (aj x1.2.2+aj ([I.1])) 16) (bj I.a 0 (gO I.2.1 0 (cP (bL (([]:Y ζ),af))) (aH ((cL x1.1),x1.2.1,(x1.2.2++([I.1]))))) (jn (α:=Bool×gk×N!) (bQ I.a 1 (aH (J,x1.2.1,(x1.2.2++([I.1])),I)) (bQ 4 I.a (aH (J,x1.2.1,(x1.2.2++([I.1])),I)) (aH ((gI (a_ .i64 ((aZ x1.2.1.1)-x1.1)) I.a),x1.2.1,(x1.2.2++([I.1])),I)))) λx4=>(aJ x4.1 (cP (bL (([]:Y ζ),af))) (iter (σ:=Int×gk×N!) (λA=>(bQ A.1 A.e (bJ kF A.2.1.1 (a_ .i64 (x1.1+A.1)) λz6=>(jn (gO z6.2.1 A.1 (aH (J,A.2)) (aJ (!decide ((z6.1:ζ)=A.b)) (aH (J,A.2)) (gO z6.a A.e (aH (J,A.2)) (gO z6.g A.n (aH (J,A.2)) (aH (z6.b,A.2)))))) λx7=>(aJ x7.1 (aH (lP (bL (([]:Y ζ),af)))) (cP ((cL A.1),x7.2))))) (aH (bL ((a_ .i64 (x1.1+A.e)),A.2.1,A.a))))) (0,x4.2))))))) λx2=>(cP x2)) (ax (iter (σ:=B!) (λL=>(bQ L.1 (aZ L.2.1.2.1) (bJ tU L.2.1.2.1 L.1 λz9=>(bV (bg (aj L.2.2+aj ([z9.1])) 16) (cP ((cL L.1),L.2.1,(L.2.2++([z9.1])))))) (ax (iter (σ:=B!) (λz=>(bQ z.1 (aZ z.2.1.a) (bJ itK z.2.1.a z.1 λz11=>(bV (bg (aj z.2.2+aj ([z11.1])) 16) (cP ((cL z.1),z.2.1,(z.2.2++([z11.1])))))) (ax (bV (bg (aj z.2.2+aj z.2.1.b) 16) (bV (bg (aj (z.2.2++z.2.1.b)+aj z.2.1.c) 16) (Z (((z.2.2++z.2.1.b)++z.2.1.c),J)))) λr=>Z (bL r)))) (0,L.2)) λr=>Z (bL r)))) (0,x1.2)) λr=>Z (bL r)))) (0,x,([]:Y ζ)))
def iz (x:b?):M (Bool):=
 (jn (bQ 12 (aZ x.1) (aH (J,x)) (bQ 4 (aZ x.2.1) (aH (J,x)) (bQ 2 (aZ x.a) (aH (J,x)) (bQ 2 (aZ x.b) (aH (J,x)) (bQ (aZ x.c) 1 (aH (J,x)) (bQ 4 (aZ x.c) (aH (J,x)) (aH ((gI 60 (aZ x.h)),x)))))))) λx1=>(aJ x1.1 (Z af) (ax (q_ x1.2) λy2=>(aJ (!y2.2) (Z af) (iter (σ:=E?) (λx3=>(bQ x3.1 (aZ y2.1) (jn (bJ (.str) y2.1 x3.1 λz5=>(ax (fY z5) λy6=>(aJ (!y6) (aH (J,x3.2)) (bV (cX 0 x3.1&&cX x3.1 (aj y2.1)) (bJ (.str) y2.1 x3.1 λz7=>(ax (jZ ((dy (aO x3.1) y2.1),z7)) λy8=>(aH ((cX 0 y8),x3.2)))))))) λx4=>(aJ x4.1 (aH af) (cP ((cL x3.1),x4.2)))) (ax (iter (σ:=E?) (λI=>(bQ I.1 (aZ I.b) (bJ itK I.b I.1 λz10=>(jn (bQ z10.2 0 (aH (J,I.2)) (kw (aZ I.a) z10.2 (aH (J,I.2)) (bJ tU I.a z10.2 λz12=>(aH (z12.2,I.2))))) λx11=>(aJ x11.1 (aH af) (cP ((cL I.1),x11.2))))) (ax (iter (σ:=E?) (λz=>(bQ z.1 (aZ z.j) (jn (bJ qG z.j z.1 λz15=>(jn (bQ z15.1 0 (aH (J,z.2,z15)) (aH ((cX (aZ z.e) z15.1),z.2,z15))) λL=>(aJ L.1 (cP (bL af)) (jn (bj z.1 0 (aH (J,L.2)) (bJ qG L.2.1.h (a_ .i64 (z.1-1)) λz18=>(aH ((!decide ((z18.1:Int)=L.a)),L.2)))) λA=>(aJ A.1 (jn (gO A.b 0 (aH (J,A.2.1)) (bQ 0 z.1 (bJ qG A.2.1.h (a_ .i64 (z.1-1)) λz20=>(aH ((gI A.a z20.1),A.2.1))) (aH (af,A.2.1)))) λx19=>(aJ x19.1 (cP (bL af)) (aH x19.2))) (bJ qG A.2.1.h (a_ .i64 (z.1-1)) λz21=>(gO A.b (cL z21.2.1) (cP (bL af)) (aH A.2.1)))))))) λx14=>(cP ((cL z.1),x14))) (aH J))) (0,I.2)) λr=>Z (bL r)))) (0,x3.2)) λr=>Z (bL r)))) (0,x1.2))))))
def ky (x:ω):M η:=
 (jn (bj x.1 1 (aH ((decide ((x.1:Int)=1)),x)) (bj x.1 6 (aH ((decide ((x.1:Int)=6)),x)) (bj x.1 10 (aH ((decide ((x.1:Int)=10)),x)) (aH ((decide ((x.1:Int)=27)),x))))) λx1=>(aJ x1.1 (Z ([x1.a])) (jn (bj x.1 2 (aH ((decide ((x.1:Int)=2)),x1.2)) (aH ((decide ((x.1:Int)=3)),x1.2))) λz=>(aJ z.1 (Z ([z.a,z.b])) (bj x.1 4 (Z ([z.a,z.b,z.c])) (bj x.1 7 (Z ([z.a,z.c])) (jn (bj x.1 8 (aH ((decide ((x.1:Int)=8)),z.2)) (aH ((decide ((x.1:Int)=26)),z.2))) λA=>(aJ A.1 (Z ([A.b])) (bj x.1 9 (Z ([A.b,A.c])) (Z ([]:η)))))))))))
def rE (x:Int):M (Bool):=
 (jn (kw 1 x (aH (cX x 5)) (aH af)) λx1=>(Z x1))
def re (x:(Y mq)×Int):M (Bool):=
 (iter (σ:=ν) (λx1=>(kw x1.2 (aZ x.1) (jn (jn (bQ x1.1 0 (aH J) (aH (cX (aZ x.1) x1.1))) λx3=>(aJ x3 (cP (bL af)) (bJ sZ x.1 x1.1 λI=>(ax (rE I.1) λL=>(aJ (!L) (cP (bL J)) (bJ sZ x.1 x1.1 λA=>(bj A.1 5 (bJ sZ x.1 x1.1 λz=>(aH z.2.1)) (aH (cL x1.1))))))))) λx2=>(cP (x2,(cL x1.2)))) (aH af))) (x.2,0))
def jY (x:ν):M (Bool):=
 (jn (kw 0 x.1 (aH (gI x.1 x.2)) (aH af)) λx1=>(Z x1))
def rf (x:gk×g?):M (Bool):=
 (jn (ax (jY (x.2.1,(aZ x.1.1))) λL=>(aJ L (bJ kF x.1.1 x.2.1 λI=>(bj I.2.1 0 (bJ kF x.1.1 x.2.1 λA=>(gO A.2.2.1 0 (bJ kF x.1.1 x.2.1 λz=>(aH (decide ((z.2.2.1:Int)=x.2.2)))) (aH af))) (aH af))) (aH af))) λx1=>(Z x1))
def mJ (x:gk×Int×Int×q!):M (Bool):=
 (bj x.2.1 6 (jn (ax (jY (x.b,(aZ x.1.1))) λy2=>(aJ y2 (bJ kF x.1.1 x.b λz3=>(aH (decide ((z3.2.2.1:Int)=0)))) (aH af))) λx1=>(Z x1)) (bj x.2.1 8 (jn (ax (jY (x.a,(aZ x.1.1))) λy5=>(aJ y5 (bJ kF x.1.1 x.a λz6=>(aH (decide ((z6.2.2.1:Int)=0)))) (aH af))) λx4=>(Z x4)) (bj x.2.1 7 (ax (rf (x.1,x.b,x.e)) λy7=>(Z y7)) (bj x.2.1 9 (ax (rf (x.1,x.a,x.e)) λy8=>(Z y8)) (jn (bj x.2.1 11 (aH ((decide ((x.2.1:Int)=11)),x)) (aH ((decide ((x.2.1:Int)=12)),x))) λL=>(aJ L.1 (jn (ax (jY (L.b,(aZ L.2.1.2.1))) λy11=>(aJ y11 (bJ tU L.2.1.2.1 L.b λz12=>(aH (!z12.2))) (aH af))) λx10=>(Z x10)) (jn (bj x.2.1 13 (aH ((decide ((x.2.1:Int)=13)),L.2)) (bj x.2.1 14 (aH ((decide ((x.2.1:Int)=14)),L.2)) (bj x.2.1 15 (aH ((decide ((x.2.1:Int)=15)),L.2)) (aH ((decide ((x.2.1:Int)=16)),L.2))))) λA=>(aJ A.1 (jn (ax (jY (A.b,(aZ A.2.1.2.1))) λy15=>(aJ y15 (bJ tU A.2.1.2.1 A.b λz16=>(aH z16.2)) (aH af))) λx14=>(Z x14)) (jn (bj x.2.1 21 (aH ((decide ((x.2.1:Int)=21)),A.2)) (bj x.2.1 22 (aH ((decide ((x.2.1:Int)=22)),A.2)) (aH ((decide ((x.2.1:Int)=23)),A.2)))) λI=>(aJ I.1 (ax (jY (I.b,(aZ I.2.1.a))) λy18=>(Z y18)) (jn (bj x.2.1 24 (aH ((decide ((x.2.1:Int)=24)),I.2)) (aH ((decide ((x.2.1:Int)=25)),I.2))) λz=>(aJ z.1 (ax (jY (z.b,(aZ z.2.1.c))) λy20=>(Z y20)) (bj x.2.1 26 (ax (jY (z.b,(aZ z.2.1.b))) λy21=>(Z y21)) (bj x.2.1 27 (ax (jY (z.c,(aZ z.2.1.b))) λy22=>(Z y22)) (bj x.2.1 3 (jn (bj z.f 4 (aH J) (aH (decide ((z.f:Int)=5)))) λx23=>(Z x23)) (bj x.2.1 4 (jn (kw 6 z.f (aH (cX z.f 18)) (aH af)) λx24=>(Z x24)) (Z J)))))))))))))))))
abbrev O?:=Int×Y mq
def iJ (x:gk×Int×O?):M (Bool):=
 (jn (bQ x.a 0 (aH (J,x.1,x.2.2)) (bQ 32 x.a (aH (J,x.1,x.2.2)) (aH ((decide (((aZ x.d):Int)=0)),x.1,x.2.2)))) λx1=>(aJ x1.1 (Z af) (iter (σ:=Int×gk×O?) (λA=>(bQ A.1 (aZ x.d) (bJ sZ A.d A.1 λz3=>(jn (bQ z3.1 1 (aH (J,A.2.1,A.2.2,z3)) (bQ 28 z3.1 (aH (J,A.2.1,A.2.2,z3)) (aJ (((decide ((z3.1:Int)=28))==(decide ((A.1:Int)=(a_ .i64 ((aZ x.d)-1))))) !=J) (aH (J,A.2.1,A.2.2,z3)) (ax (mJ (A.2.1,z3)) λy5=>(aJ (!y5) (aH (J,A.2.1,A.2.2,z3)) (ax (re (A.d,A.1)) λy6=>(aH ((!y6),A.2.1,A.2.2,z3)))))))) λz=>(aJ z.1 (aH af) (jn (α:=Bool×gk×(Int×Y mq)×Int×Int×q!) (bj z.b 28 (gO z.o (-1) (aH (J,z.2)) (gO z.b 28 (ax (jY (z.o,(aZ z.2.1.h))) λy8=>(aJ (!y8) (aH (J,z.2)) (bJ qG z.2.1.h z.o λz9=>(aH ((!decide ((z9.1:Int)=x.2.1)),z.2))))) (aH (af,z.2)))) (gO z.b 28 (ax (jY (z.o,(aZ z.2.1.h))) λy10=>(aJ (!y10) (aH (J,z.2)) (bJ qG z.2.1.h z.o λz11=>(aH ((!decide ((z11.1:Int)=x.2.1)),z.2))))) (aH (af,z.2)))) λL=>(aJ L.1 (aH af) (jn (bj L.b 5 (ax (jY (L.c,(aZ x.d))) λy13=>(aJ (!y13) (aH (J,L.2)) (bj L.b 10 (ax (jY (L.e,(aZ x.d))) λy14=>(aH ((!y14),L.2))) (aH (af,L.2))))) (bj L.b 10 (ax (jY (L.e,(aZ x.d))) λy15=>(aH ((!y15),L.2))) (aH (af,L.2)))) λx12=>(aJ x12.1 (aH af) (ax (ky x12.d) λy16=>(iter (σ:=Int×gk×O?) (λI=>(bQ I.1 (aZ y16) (bJ aN y16 I.1 λz18=>(ax (jY (z18,I.a)) λy19=>(aJ (!y19) (aH (bL af)) (cP ((cL I.1),I.2))))) (aH (lP ((cL A.1),I.2))))) (0,x12.2.1,x12.a)))))))))) (aH J))) (0,x1.2))))
def kx (x:z?):M (Bool):=
 (jn (ax (iz x.1) λL=>(aJ (!L) (aH (J,x)) (aH ((!decide (((aZ x.2):Int)=(aZ x.1.c))),x)))) λx1=>(aJ x1.1 (Z af) (iter (σ:=Int×z?) (λz=>(bQ z.1 (aZ z.2.2) (bJ zR z.2.2 z.1 λA=>(ax (iJ (z.2.1,z.1,A)) λI=>(aJ (!I) (aH af) (cP ((cL z.1),z.2))))) (aH J))) (0,x1.2))))
def cJ (x:mq×e?):M e?:=
 (bV (bg (aj x.2.2+aj ([(x.1.1,x.1.2.1,x.1.a,x.1.b,x.1.c,x.2.1.i)])) 48) (Z (x.2.1,(x.2.2++([(x.1.1,x.1.2.1,x.1.a,x.1.b,x.1.c,x.2.1.i)])))))
abbrev G!:=(Xp×Int)×e?
def sI (rr06_gen_value:G!->M e?) (x:G!):M e?:=
 (jn (α:=e?) (bj (Xp.op x.1.1) 1 (ax (cJ ((1,x.1.2,0,0,(Xp.n x.1.1),0),x.2)) λy2=>(bV (aA (aj x.2.2) (aj x.2.2)&&J) (aH y2))) (bj (Xp.op x.1.1) 2 (ax (jZ (x.2.1.f,(Xp.name x.1.1))) λy3=>(kw 0 y3 (ax (cJ ((2,x.1.2,y3,0,0,0),x.2)) λy4=>(bV (aA (aj x.2.2) (aj x.2.2)&&J) (aH y4))) (ax (oN ((x.2.1.1,x.2.1.2.1,x.2.1.a,x.2.1.b,x.2.1.c,x.2.1.e),(Xp.name x.1.1))) λy5=>(ax (cJ ((6,x.1.2,y5,0,0,0),x.2)) λy6=>(bV (aA (aj x.2.2) (aj x.2.2)&&J) (aH y6)))))) (bj (Xp.op x.1.1) 3 (bJ (.ex) (Xp.l x.1.1) 0 λz7=>(ax (rr06_gen_value ((z7,x.1.2),x.2)) λz=>(bV (aA (aj x.2.2) (aj x.2.2)&&J) (ax (oN ((z.1.1,z.1.2.1,z.1.a,z.1.b,z.1.c,z.1.e),(Xp.name x.1.1))) λy9=>(bJ kF z.1.1 y9 λz10=>(ax (cJ ((7,x.1.2,y9,x.1.2,z10.2.2.1,0),z)) λy11=>(bV (aA (aj z.2) (aj z.2)&&J) (aH y11)))))))) (bj (aS (aj (Xp.l x.1.1))) 1 (bJ (.ex) (Xp.l x.1.1) 0 λz12=>(ax (rr06_gen_value ((z12,x.1.2),x.2)) λL=>(bV (aA (aj x.2.2) (aj x.2.2)&&J) (ax (cJ ((3,x.1.2,x.1.2,0,(Xp.op x.1.1),0),L)) λy14=>(bV (aA (aj L.2) (aj L.2)&&J) (aH y14)))))) (bJ (.ex) (Xp.l x.1.1) 0 λz15=>(ax (rr06_gen_value ((z15,x.1.2),x.2)) λI=>(bV (aA (aj x.2.2) (aj x.2.2)&&J) (bJ (.ex) (Xp.l x.1.1) 1 λz17=>(ax (rr06_gen_value ((z17,(cL x.1.2)),I)) λA=>(bV (aA (aj I.2) (aj I.2)&&J) (ax (cJ ((4,x.1.2,x.1.2,(cL x.1.2),(Xp.op x.1.1),0),A)) λy19=>(bV (aA (aj A.2) (aj A.2)&&J) (aH y19))))))))))))) λx1=>(Z x1))
def ja:Nat->(G!)->M e?
 |0,_=>U
 |n+1,x=>sI (ja n) x
def DR (n:Nat) (x:G!):ja (n+1) x=sI (ja n) x:=rfl
def iZ (x:G!):M e?:=ja fuel x
def m8 (x:Sx×e?):M e?:=
 (bQ 0 (aS (aj (Sx.index x.1))) (bJ (.ex) (Sx.index x.1) 0 λz1=>(ax (iZ ((z1,(aZ x.2.1.f)),x.2)) λI=>(bV (aA (aj x.2.2) (aj x.2.2)&&J) (ax (iZ ((eM ((Xp.op (Sx.expr x.1)),(Xp.n (Sx.expr x.1)),(Xp.name (Sx.expr x.1)),(Xp.l (Sx.expr x.1))),(a_ .i64 ((aZ x.2.1.f)+1))),I)) λA=>(bV (aA (aj I.2) (aj I.2)&&J) (ax (oN ((A.1.1,A.1.2.1,A.1.a,A.1.b,A.1.c,A.1.e),(Sx.name x.1))) λy4=>(bJ kF A.1.1 y4 λz5=>(ax (cJ ((9,y4,(a_ .i64 ((aZ x.2.1.f)+1)),(aZ x.2.1.f),z5.2.2.1,0),A)) λy6=>(bV (aA (aj A.2) (aj A.2)&&J) (Z y6)))))))))) (ax (iZ ((eM ((Xp.op (Sx.expr x.1)),(Xp.n (Sx.expr x.1)),(Xp.name (Sx.expr x.1)),(Xp.l (Sx.expr x.1))),(aZ x.2.1.f)),x.2)) λz=>(bV (aA (aj x.2.2) (aj x.2.2)&&J) (ax (jZ (z.1.f,(Sx.name x.1))) λy8=>(kw 0 y8 (ax (cJ ((2,y8,(aZ x.2.1.f),0,0,0),z)) λy9=>(bV (aA (aj z.2) (aj z.2)&&J) (Z y9))) (ax (oN ((z.1.1,z.1.2.1,z.1.a,z.1.b,z.1.c,z.1.e),(Sx.name x.1))) λy10=>(ax (cJ ((8,y10,(aZ x.2.1.f),0,0,0),z)) λL=>(bV (aA (aj z.2) (aj z.2)&&J) (Z L)))))))))
def j9 (x:ζ×e?):M (Int×e?):=
 (iter (σ:=Int×e?) (λx1=>(bQ x1.1 (aZ x1.2.1.a) (bJ itK x1.2.1.a x1.1 λz=>(aJ (decide ((z.1:ζ)=x.1)) (aH x1) (cP ((cL x1.1),x1.2)))) (aH ((-1),x1.2)))) (0,x.2))
def wF (rr06_gen_stmts:amk->M e?) (rr06_gen_stmt:QI->M e?) (rr06_gen_branches:QI->M e?) (rr06_gen_around:aml->M e?) (x:(Y Sx)×e?):M e?:=
 (iter (σ:=Int×e?) (λx1=>(bQ x1.1 (aZ x.1) (bJ (.sm) x.1 x1.1 λz=>(ax (rr06_gen_stmt (z,x1.2)) λA=>(bV (aA (aj x1.2.2) (aj x1.2.2)&&J) (cP ((cL x1.1),A))))) (aH x1.2))) (0,x.2))
def ua (rr06_gen_stmts:amk->M e?) (rr06_gen_stmt:QI->M e?) (rr06_gen_branches:QI->M e?) (rr06_gen_around:aml->M e?) (x:Sx×e?):M e?:=
 (jn (α:=e?) (bj (Sx.op x.1) 1 (ax (m8 (eP x.1,(x.2.1.1,x.2.1.2.1,x.2.1.a,x.2.1.b,x.2.1.c,x.2.1.e,x.2.1.f,x.2.1.o,(cL x.2.1.o)),x.2.2)) λy2=>(bV (aA (aj x.2.2) (aj x.2.2)&&J) (aH y2))) (jn (bj (Sx.op x.1) 2 (aH ((decide (((Sx.op x.1):Int)=2)),(x.2.1.1,x.2.1.2.1,x.2.1.a,x.2.1.b,x.2.1.c,x.2.1.e,x.2.1.f,x.2.1.o,(cL x.2.1.o)),eP x.1,x.2.2)) (aH ((decide (((Sx.op x.1):Int)=3)),(x.2.1.1,x.2.1.2.1,x.2.1.a,x.2.1.b,x.2.1.c,x.2.1.e,x.2.1.f,x.2.1.o,(cL x.2.1.o)),eP x.1,x.2.2))) λz=>(aJ z.1 (ax (rr06_gen_branches (eP z.a,z.2.1,z.d)) λy4=>(bV (aA (aj z.d) (aj z.d)&&J) (aH y4))) (bj (Sx.op x.1) 4 (ax (mA (z.2.1.2.1,(Sx.name z.a))) λy5=>(ax (rr06_gen_around ((eP z.a,11,12,y5),z.2.1,z.d)) λy6=>(bV (aA (aj z.d) (aj z.d)&&J) (aH y6)))) (bj (Sx.op x.1) 5 (ax (mA (z.2.1.2.1,(Sx.name z.a))) λy7=>(ax (rr06_gen_around ((eP z.a,13,14,y7),z.2.1,z.d)) λy8=>(bV (aA (aj z.d) (aj z.d)&&J) (aH y8)))) (bj (Sx.op x.1) 6 (ax (mA (z.2.1.2.1,(Sx.name z.a))) λy9=>(ax (rr06_gen_around ((eP z.a,15,16,y9),z.2.1,z.d)) λy10=>(bV (aA (aj z.d) (aj z.d)&&J) (aH y10)))) (bj (Sx.op x.1) 7 (ax (rr06_gen_around ((eP z.a,17,18,0),z.2.1,z.d)) λy11=>(bV (aA (aj z.d) (aj z.d)&&J) (aH y11))) (bj (Sx.op x.1) 8 (ax (rr06_gen_around ((eP z.a,19,20,0),z.2.1,z.d)) λy12=>(bV (aA (aj z.d) (aj z.d)&&J) (aH y12))) (bj (Sx.op x.1) 9 (ax (j9 ((Sx.name z.a),z.2.1,z.d)) λL=>(bV (aA (aj z.d) (aj L.2.2)&&J) (ax (cJ ((21,L.1,0,0,0,0),L.2)) λy14=>(bV (aA (aj L.2.2) (aj L.2.2)&&J) (aH y14))))) (bj (Sx.op x.1) 10 (ax (j9 ((Sx.name z.a),z.2.1,z.d)) λI=>(bV (aA (aj z.d) (aj I.2.2)&&J) (ax (cJ ((22,I.1,0,0,0,0),I.2)) λy16=>(bV (aA (aj I.2.2) (aj I.2.2)&&J) (aH y16))))) (bj (Sx.op x.1) 11 (ax (j9 ((Sx.name z.a),z.2.1,z.d)) λA=>(bV (aA (aj z.d) (aj A.2.2)&&J) (ax (cJ ((23,A.1,0,0,0,0),A.2)) λy18=>(bV (aA (aj A.2.2) (aj A.2.2)&&J) (aH y18))))) (bj (Sx.op x.1) 12 (ax (jZ (z.2.1.c,(Sx.name z.a))) λy19=>(ax (cJ ((24,y19,0,0,0,0),z.2.1,z.d)) λy20=>(bV (aA (aj z.d) (aj z.d)&&J) (aH y20)))) (bj (Sx.op x.1) 13 (ax (jZ (z.2.1.c,(Sx.name z.a))) λy21=>(ax (cJ ((25,y21,0,0,0,0),z.2.1,z.d)) λy22=>(bV (aA (aj z.d) (aj z.d)&&J) (aH y22)))) (bj (Sx.op x.1) 14 (ax (iZ ((eM ((Xp.op (Sx.expr z.a)),(Xp.n (Sx.expr z.a)),(Xp.name (Sx.expr z.a)),(Xp.l (Sx.expr z.a))),(aZ x.2.1.f)),z.2.1,z.d)) λy23=>(bV (aA (aj z.d) (aj z.d)&&J) (ax (jZ (y23.1.b,(Sx.name z.a))) λy24=>(ax (cJ ((26,y24,(aZ x.2.1.f),0,0,0),y23)) λy25=>(bV (aA (aj y23.2) (aj y23.2)&&J) (aH y25)))))) (bj (Sx.op x.1) 15 (ax (jZ (z.2.1.f,(Sx.name z.a))) λy26=>(ax (jZ (z.2.1.b,(Sx.arg z.a))) λy27=>(ax (cJ ((27,y26,y27,0,0,0),z.2.1,z.d)) λy28=>(bV (aA (aj z.d) (aj z.d)&&J) (aH y28))))) (aH (z.2.1,z.d))))))))))))))))) λx1=>(Z x1))
def nY (rr06_gen_stmts:amk->M e?) (rr06_gen_stmt:QI->M e?) (rr06_gen_branches:QI->M e?) (rr06_gen_around:aml->M e?) (x:Sx×e?):M e?:=
 (ax (iZ ((eM ((Xp.op (Sx.expr x.1)),(Xp.n (Sx.expr x.1)),(Xp.name (Sx.expr x.1)),(Xp.l (Sx.expr x.1))),(aZ x.2.1.f)),x.2)) λA=>(bV (aA (aj x.2.2) (aj x.2.2)&&J) (ax (cJ ((10,(aZ A.1.f),0,0,0,0),A)) λy2=>(bV (aA (aj A.2) (aj A.2)&&J) (ax (rr06_gen_stmts ((Sx.body x.1),y2)) λz=>(bV (aA (aj y2.2) (aj y2.2)&&J) (bj (Sx.op x.1) 3 (ax (cJ ((5,(aZ x.2.2),0,0,0,0),(z.1.1,z.1.2.1,z.1.a,z.1.b,z.1.c,z.1.e,z.1.f,x.2.1.i,z.1.o),z.2)) λL=>(bV (aA (aj z.2) (aj z.2)&&J) (ck (ef (aZ A.2) (aj L.2)) (Z (L.1,(ca L.2 (aZ A.2) ((aI sZ L.2 (aZ A.2)).1,((aI sZ L.2 (aZ A.2)).2).1,(aZ L.2),(((aI sZ L.2 (aZ A.2)).2).2).2))))))) (bj (aS (aj (Sx.els x.1))) 0 (ck (ef (aZ A.2) (aj z.2)) (Z ((z.1.1,z.1.2.1,z.1.a,z.1.b,z.1.c,z.1.e,z.1.f,x.2.1.i,z.1.o),(ca z.2 (aZ A.2) ((aI sZ z.2 (aZ A.2)).1,((aI sZ z.2 (aZ A.2)).2).1,(aZ z.2),(((aI sZ z.2 (aZ A.2)).2).2).2))))) (ax (cJ ((5,0,0,0,0,0),(z.1.1,z.1.2.1,z.1.a,z.1.b,z.1.c,z.1.e,z.1.f,x.2.1.i,z.1.o),z.2)) λI=>(bV (aA (aj z.2) (aj z.2)&&J) (ck (ef (aZ A.2) (aj I.2)) (ax (rr06_gen_stmts ((Sx.els x.1),I.1,(ca I.2 (aZ A.2) ((aI sZ I.2 (aZ A.2)).1,((aI sZ I.2 (aZ A.2)).2).1,(aZ I.2),(((aI sZ I.2 (aZ A.2)).2).2).2)))) λy6=>(bV (aA (aj (ca I.2 (aZ A.2) ((aI sZ I.2 (aZ A.2)).1,((aI sZ I.2 (aZ A.2)).2).1,(aZ I.2),(((aI sZ I.2 (aZ A.2)).2).2).2))) (aj (ca I.2 (aZ A.2) ((aI sZ I.2 (aZ A.2)).1,((aI sZ I.2 (aZ A.2)).2).1,(aZ I.2),(((aI sZ I.2 (aZ A.2)).2).2).2)))&&J) (ck (ef (aZ z.2) (aj y6.2)) (Z (y6.1,(ca y6.2 (aZ z.2) ((aI sZ y6.2 (aZ z.2)).1,(aZ y6.2),((aI sZ y6.2 (aZ z.2)).2).2))))))))))))))))))
def uV (rr06_gen_stmts:amk->M e?) (rr06_gen_stmt:QI->M e?) (rr06_gen_branches:QI->M e?) (rr06_gen_around:aml->M e?) (x:W?):M e?:=
 (ax (cJ ((x.1.2.1,x.1.d,0,0,0,0),x.2)) λA=>(bV (aA (aj x.2.2) (aj x.2.2)&&J) (ax (rr06_gen_stmts ((Sx.body x.1.1),A)) λz=>(bV (aA (aj A.2) (aj A.2)&&J) (ax (cJ ((x.1.a,x.1.d,0,0,0,0),(z.1.1,z.1.2.1,z.1.a,z.1.b,z.1.c,z.1.e,z.1.f,x.2.1.i,z.1.o),z.2)) λI=>(bV (aA (aj z.2) (aj z.2)&&J) (Z I)))))))
mutual
def dW:Nat->amk->M e?
 |0,_=>U
 |n+1,x=>wF (dW n) (fk n) (dk n) (dT n) x
def fk:Nat->QI->M e?
 |0,_=>U
 |n+1,x=>ua (dW n) (fk n) (dk n) (dT n) x
def dk:Nat->QI->M e?
 |0,_=>U
 |n+1,x=>nY (dW n) (fk n) (dk n) (dT n) x
def dT:Nat->aml->M e?
 |0,_=>U
 |n+1,x=>uV (dW n) (fk n) (dk n) (dT n) x
end
def wj (x:(Y Sx)×e?):M e?:=dW fuel x
abbrev C?:=Int×(zM×Y zL)×gk×ug×Int×(Y (Int×Y mq))×Y mq
def sA (x:A!):M (FB×g?):=
 (ax (gi x) λy1=>(gO y1.1 0 (Z (((([]:Y Ym),([]:Y H!),([]:Y jT),([]:Y ζ),([]:Y ζ),([]:Y π)),([]:Y O?)),y1)) (ax (wq x) λy2=>(iter (σ:=(ν)×(zM×Y zL)×z?) (λA=>(bQ A.1.2 (aZ A.2.1.2) (bJ u_ A.2.1.2 A.1.2 λz4=>(bJ u_ A.2.1.2 A.1.2 λz5=>(ax (wj (z5.2.2.2,(A.a.1,A.a.2.1,A.a.a,A.a.b,A.a.c,A.a.h,z4.2.2.1,0,A.1.1),([]:Y mq))) λL=>(bV (aA (aj ([]:Y mq)) (aj ([]:Y mq))&&J) (ax (cJ ((28,0,0,0,0,0),(L.1.1,L.1.2.1,L.1.a,L.1.b,L.1.c,L.1.e,L.1.f,(-1),L.1.o),L.2)) λy7=>(bV (aA (aj L.2) (aj L.2)&&J) (iter (σ:=C?) (λI=>(bQ I.1 (aZ I.j) (lx sZ I.j I.1 λz9=>(ax (ky z9) λy10=>(iter (σ:=C?) (λz=>(bQ z.1 (aZ y10) (bJ aN y10 z.1 λz12=>(cP ((cL z.1),z.2.1,z.a,z.b,(kA z.c (cL z12)),z.h))) (aH (lP ((cL I.1),z.2))))) (0,I.2)))) (ax (bV (bg (aj I.e+aj ([(I.c,I.j)])) 32) (cP ((L.1.o,(cL A.1.2)),I.2.1,I.a,(I.e++([(I.c,I.j)]))))) λr=>Z (bL r)))) (0,A.2.1,A.a,y7.1,(aZ y7.1.f),A.d,y7.2)))))))) (aH (A.2.2,0,0)))) ((0,0),x,y2,([]:Y O?))))))
def oM (x:n!):M (Bool):=
 (iter (σ:=Int) (λx1=>(bQ x1 (aZ x.1) (bJ aN x.1 x1 λz=>(bj z x.2 (aH J) (cP (cL x1)))) (aH af))) 0)
def yJ (x:n!):M η:=
 (iter (σ:=Int) (λx1=>(jn (bQ x1 (aZ x.1) (bJ aN x.1 x1 λA=>(aH (gI A x.2))) (aH af)) λL=>(aJ L (cP (cL x1)) (ax (jn (bQ x1 (aZ x.1) (bJ aN x.1 x1 λz=>(aH (decide ((z:Int)=x.2)))) (aH af)) λI=>(aJ I (Z x.1) (bV (cX 0 x1&&cX x1 (aj x.1)) (bV (bg (aj ([]:η)+aj (dy (aO x1) x.1)) 8) (bV (bg (aj (([]:η)++(dy (aO x1) x.1))+aj ([x.2])) 8) (bV (cX 0 x1&&cX x1 (aj x.1)) (bV (bg (aj ((([]:η)++(dy (aO x1) x.1))++([x.2]))+aj (List.drop (aO x1) x.1)) 8) (Z (((([]:η)++(dy (aO x1) x.1))++([x.2]))++(List.drop (aO x1) x.1)))))))))) λr=>Z (bL r))))) 0)
abbrev u?:=(η)×Int
abbrev x!:=η×η
def wh (x:x!):M η:=
 (iter (σ:=u?) (λx1=>(bQ x1.2 (aZ x.1) (bJ aN x.1 x1.2 λI=>(ax (yJ (x1.1,I)) λy3=>(cP (y3,(cL x1.2))))) (ax (iter (σ:=u?) (λz=>(bQ z.2 (aZ x.2) (bJ aN x.2 z.2 λA=>(ax (yJ (z.1,A)) λL=>(cP (L,(cL z.2))))) (aH z.1))) (x1.1,0)) λr=>Z (bL r)))) (([]:η),0))
def nF (x:Int):M (Int):=
 (jn (bQ x 1 (aH J) (aH (gI 100 x))) λx1=>(aJ x1 (Z 0) (Z x)))
abbrev o!:=(η)×Y η
def cr (x:j?):M (ν×o!):=
 (bV (bg (aj ([]:η)+aj x.2.1) 8) (iter (σ:=Int×yh×(ν)×(ν)×o!) (λx1=>(bQ x1.1 (aZ x1.2.1.a) (bJ (.sl aN) x1.2.1.a x1.1 λz=>(bV (bg (aj ([]:η)+aj z) 8) (bV (bg (aj x1.h+aj ([(([]:η)++z)])) 24) (cP ((cL x1.1),x1.2.1,x1.a,x1.b,x1.c,(x1.h++([(([]:η)++z)]))))))) (aH x1.d))) (0,x,(0,0),(x.1,x.d),(([]:η)++x.2.1),([]:Y η))))
abbrev S?:=(η)×(Y η)×mq×(ν)×g?
def yI (x:(mq×Int×Int)×o!):M ((ν×Bool)×o!):=
 (ax (ky x.1.1) λy1=>(iter (σ:=Int×S?) (λz=>(bQ z.1 (aZ y1) (jn (bJ aN y1 z.1 λz4=>(bQ z4 0 (aH (J,z.2)) (bJ aN y1 z.1 λz5=>(aH ((cX (aZ z.2.1) z5),z.2))))) λx3=>(aJ x3.1 U (cP ((cL z.1),x3.2)))) (ax (jn (α:=(Int×Bool×η)×S?) (bj z.b.1 5 (cP (((z.b.2.1,z.c.2),J),z.2.1,z.a)) (bj z.b.1 1 (aH ((z.b.c,J,([]:η)),z.2)) (bj z.b.1 2 (lx aN z.2.1 z.b.a λz7=>(lx (.sl aN) z.a z.b.a λz8=>(aH ((z7,J,z8),z.2)))) (bj z.b.1 3 (ax (nF z.b.c) λy9=>(lx aN z.2.1 z.b.a λz10=>(ax (wu (y9,z10)) λL=>(lx (.sl aN) z.a z.b.a λz12=>(aH ((L.1,L.2,z12),z.2)))))) (ax (nF z.b.c) λy13=>(lx aN z.2.1 z.b.a λz14=>(lx aN z.2.1 z.b.b λz15=>(ax (xp (y13,z14,z15)) λI=>(lx (.sl aN) z.a z.b.a λz17=>(lx (.sl aN) z.a z.b.b λz18=>(ax (wh (z17,z18)) λy19=>(aH ((I.1,I.2,y19),z.2))))))))))))) λA=>(bV (bg (aj ([]:η)+aj A.1.2.2) 8) (ck (ef A.b.2.1 (aj A.2.1)) (ck (ef A.b.2.1 (aj A.a)) (Z ((((cL A.c.1),A.c.2),A.1.2.1),(ca A.2.1 A.b.2.1 A.1.1),(ca A.a A.b.2.1 (([]:η)++A.1.2.2)))))))) λr=>Z (bL r)))) (0,x.2.1,x.2.2,x.1.1,x.1.2,0,0)))
def oL (x:(Int×Y mq)×j?):M (yh×Bool):=
 (jn (α:=Bool×(Int×Y mq)×yh×g?) (gO (aZ x.a) x.1.1 (aH (J,x.1,x.2,0,0)) (aH ((!decide (((aZ x.b):Int)=x.1.1)),x.1,x.2,0,0))) λx1=>(aJ x1.1 (Z ((0,([]:η),([]:Y η),0),af)) (ax (cr x1.a) λy2=>(iter (σ:=Int×(Int×Y mq)×(ν)×(ν)×o!) (λA=>(kw A.1 (aZ A.2.1.2) (jn (bQ A.a.1 0 (aH (J,A.2)) (aH ((cX (aZ A.2.1.2) A.a.1),A.2))) λz=>(aJ z.1 (aH ((0,([]:η),([]:Y η),0),af)) (bJ sZ z.2.1.2 z.a.1 λL=>(ax (rE L.1) λy6=>(aJ (!y6) (aH ((z.a.1,z.c,z.h,z.a.2),J)) (bj A.1 (aZ z.2.1.2) (aH ((0,([]:η),([]:Y η),0),af)) (ax (yI ((L,z.a),z.g)) λI=>(bV (aA (aj z.h) (aj I.2.2)&&(aA (aj z.c) (aj I.2.1)&&J)) (aJ (!I.1.2) (aH ((0,([]:η),([]:Y η),0),af)) (cP ((cL A.1),z.2.1,I.1.1,z.b,I.2))))))))))) (aH ((0,([]:η),([]:Y η),0),af)))) (0,x1.2.1,y2.1,x1.d,y2.2)))))
abbrev r?:=Int×Int×jE×h!
abbrev D!:=jE×h!
def tB (x:b?):M rq:=
 (iter (σ:=Int×gk×Int×Int×Y (Int×η)) (λx1=>(bQ x1.1 (aZ x1.2.1.2.1) (bV (bg (aj x1.g+aj ([((-1),([]:η))])) 32) (cP ((cL x1.1),x1.2.1,x1.a,x1.b,(x1.g++([((-1),([]:η))]))))) (ax (iter (σ:=Int×gk×Int×Int×jE×θ) (λA=>(bQ A.1 (aZ A.2.1.b) (bV (bg (aj A.h+aj ([af])) 1) (cP ((cL A.1),A.2.1,A.a,A.b,A.c,(A.h++([af]))))) (ax (iter (σ:=Int×gk×r?) (λz=>(bQ z.1 (aZ z.2.1.c) (jn (α:=gk×Int×Int×eh×D!) (bj z.1 0 (aH (z.2.1,z.a,z.b,(1,0,af),z.g)) (aH (z.2.1,z.a,z.b,(0,0,af),z.g))) λI=>(bV (bg (aj I.j+aj ([I.b])) 24) (cP ((cL z.1),I.1,I.2.1,I.a,I.c,I.e,(I.j++([I.b])))))) (aH (z.c,z.b,z.h)))) (0,A.2.1,A.a,A.b,A.c,A.h,([]:Y eh))) λr=>Z (bL r)))) (0,x1.2.1,x1.a,x1.b,x1.g,([]:θ))) λr=>Z (bL r)))) (0,x,0,(-1),([]:Y f?)))
def pf (x:gk×v?):M (Bool):=
 (iter (σ:=Int×gk×v?) (λx1=>(bQ x1.1 (aZ x1.2.1.a) (jn (bJ itK x1.2.1.a x1.1 λI=>(bQ I.2 0 (aH (J,x1.2)) (bJ itK x1.2.1.a x1.1 λA=>(aH ((cX (aZ x1.2.1.2.1) A.2),x1.2))))) λz=>(aJ z.1 (aH af) (cP ((cL x1.1),z.2)))) (ax (jn (bj (aZ x1.a) (aZ x1.2.1.2.1) (bj (aZ x1.c) (aZ x1.2.1.b) (aH (decide (((aZ x1.h):Int)=(aZ x1.2.1.c)))) (aH af)) (aH af)) λL=>(Z L)) λr=>Z (bL r)))) (0,x))
def sw (x:ν):M (Bool):=
 (jn (kw 0 x.1 (aH (gI x.1 x.2)) (aH af)) λx1=>(Z x1))
def qZ (x:gk×g?):M (Bool):=
 (jn (bj x.2.1 1 (aH ((decide ((x.2.1:Int)=1)),x.1)) (bj x.2.1 2 (aH ((decide ((x.2.1:Int)=2)),x.1)) (bj x.2.1 5 (aH ((decide ((x.2.1:Int)=5)),x.1)) (bj x.2.1 12 (aH ((decide ((x.2.1:Int)=12)),x.1)) (bj x.2.1 13 (aH ((decide ((x.2.1:Int)=13)),x.1)) (bj x.2.1 14 (aH ((decide ((x.2.1:Int)=14)),x.1)) (aH ((decide ((x.2.1:Int)=15)),x.1)))))))) λx1=>(aJ x1.1 (Z (decide ((x.2.2:Int)=(-1)))) (jn (bj x.2.1 3 (aH ((decide ((x.2.1:Int)=3)),x1.2)) (aH ((decide ((x.2.1:Int)=4)),x1.2))) λx2=>(aJ x2.1 (ax (sw (x.2.2,(aZ x2.2.1))) λy3=>(Z y3)) (jn (bj x.2.1 6 (aH ((decide ((x.2.1:Int)=6)),x2.2)) (aH ((decide ((x.2.1:Int)=7)),x2.2))) λL=>(aJ L.1 (jn (ax (sw (x.2.2,(aZ L.a))) λy6=>(aJ y6 (bJ tU L.a x.2.2 λz7=>(aH (!z7.2))) (aH af))) λx5=>(Z x5)) (jn (bj x.2.1 8 (aH ((decide ((x.2.1:Int)=8)),L.2)) (bj x.2.1 9 (aH ((decide ((x.2.1:Int)=9)),L.2)) (bj x.2.1 10 (aH ((decide ((x.2.1:Int)=10)),L.2)) (aH ((decide ((x.2.1:Int)=11)),L.2))))) λI=>(aJ I.1 (jn (ax (sw (x.2.2,(aZ I.a))) λy10=>(aJ y10 (bJ tU I.a x.2.2 λz11=>(aH z11.2)) (aH af))) λx9=>(Z x9)) (jn (bj x.2.1 16 (aH ((decide ((x.2.1:Int)=16)),I.2)) (bj x.2.1 17 (aH ((decide ((x.2.1:Int)=17)),I.2)) (bj x.2.1 18 (aH ((decide ((x.2.1:Int)=18)),I.2)) (aH ((decide ((x.2.1:Int)=19)),I.2))))) λA=>(aJ A.1 (ax (sw (x.2.2,(aZ A.b))) λy13=>(Z y13)) (jn (bj x.2.1 20 (aH ((decide ((x.2.1:Int)=20)),A.2)) (aH ((decide ((x.2.1:Int)=21)),A.2))) λz=>(aJ z.1 (ax (sw (x.2.2,(aZ z.e))) λy15=>(Z y15)) (jn (bj x.2.1 22 (aH ((decide ((x.2.1:Int)=22)),z.2)) (aH ((decide ((x.2.1:Int)=23)),z.2))) λx16=>(aJ x16.1 (ax (sw (x.2.2,(aZ x16.c))) λy17=>(Z y17)) (Z af)))))))))))))))
abbrev Q!:=gk×rq×Int×g?
def ic (x:Q!):M (Bool):=
 (jn (ax (pf (x.1,x.2.1)) λy2=>(aJ (!y2) (aH (J,x.1,x.2.1)) (ax (sw (x.a,(aZ x.1.c))) λy3=>(aJ (!y3) (aH (J,x.1,x.2.1)) (ax (qZ (x.1,x.d)) λy4=>(aH ((!y4),x.1,x.2.1))))))) λx1=>(aJ x1.1 (Z af) (bJ hP x1.h x.a λI=>(bj x.b 1 (Z (decide ((I.1:Int)=1))) (bj x.b 17 (jn (α:=Bool) (bj I.1 4 (bj I.2.1 x.g (bJ itK x1.2.1.a x.g λz7=>(bJ dO x1.a z7.2 λz8=>(aH (decide ((z8.1:Int)=(-1)))))) (aH af)) (aH af)) λx6=>(Z x6)) (gO I.1 2 (Z af) (bj x.b 6 (bJ dO x1.a x.g λz9=>(Z (decide ((z9.1:Int)=(-1))))) (bj x.b 10 (jn (α:=Bool) (bJ dO x1.a x.g λz11=>(bj z11.1 (-1) (bJ dO x1.a x.g λz12=>(aH (decide (((aZ z12.2):Int)=0)))) (aH af))) λx10=>(Z x10)) (bj x.b 8 (jn (α:=Bool) (bJ dO x1.a x.g λz14=>(bj z14.1 (-1) (bJ dO x1.a x.g λz15=>(ax (oM (z15.2,x.a)) λy16=>(aH (!y16)))) (aH af))) λx13=>(Z x13)) (jn (bj x.b 7 (aH ((decide ((x.b:Int)=7)),x1.2.1,x1.2.2,I)) (aH ((decide ((x.b:Int)=11)),x1.2.1,x1.2.2,I))) λz=>(aJ z.1 (bJ dO z.a.1 x.g λz18=>(Z (decide ((z18.1:Int)=x.a)))) (bj x.b 9 (bJ dO z.a.1 x.g λz19=>(ax (oM (z19.2,x.a)) λy20=>(Z y20))) (bj x.b 12 (Z (decide ((z.a.2.1:Int)=(-1)))) (bj x.b 13 (Z (decide ((z.a.2.1:Int)=x.a))) (bj x.b 14 (Z (!z.h)) (bj x.b 15 (Z z.h) (jn (bj x.b 16 (aH ((decide ((x.b:Int)=16)),z.2.1,z.a)) (bj x.b 18 (aH ((decide ((x.b:Int)=18)),z.2.1,z.a)) (aH ((decide ((x.b:Int)=19)),z.2.1,z.a)))) λA=>(aJ A.1 (bJ itK A.2.1.a x.g λz22=>(bJ dO A.a z22.2 λz23=>(Z (decide ((z23.1:Int)=x.a))))) (bj x.b 20 (jn (gO x.g x.a (bJ hP A.h x.g λz25=>(aH (decide ((z25.1:Int)=0)))) (aH af)) λx24=>(Z x24)) (bj x.b 21 (jn (gO x.g x.a (bJ hP A.h x.g λz27=>(aH (decide ((z27.1:Int)=5)))) (aH af)) λx26=>(Z x26)) (bj x.b 22 (bJ (.bool) A.c x.g λz28=>(Z (!z28))) (bj x.b 23 (bJ (.bool) A.c x.g λL=>(Z L)) (Z J)))))))))))))))))))))))
def pe (x:rq×Int):M η:=
 (iter (σ:=Int×rq×η) (λx1=>(bQ x1.1 (aZ x1.2.1.d) (jn (α:=rq×η) (jn (bJ hP x1.2.1.d x1.1 λI=>(bj I.1 3 (bJ hP x1.2.1.d x1.1 λA=>(aH ((decide ((A.2.1:Int)=x.2)),x1.2))) (aH (af,x1.2)))) λz=>(aJ z.1 (bV (bg (aj z.2.2+aj ([x1.1])) 8) (aH (z.2.1,(z.2.2++([x1.1]))))) (aH z.2))) λL=>(cP ((cL x1.1),L))) (aH x1.2.2))) (0,x.1,([]:η)))
def su (x:n!):M η:=
 (iter (σ:=f?) (λx1=>(bQ x1.1 (aZ x.1) (jn (α:=η) (bJ aN x.1 x1.1 λA=>(gO A x.2 (bJ aN x.1 x1.1 λz=>(bV (bg (aj x1.2+aj ([z])) 8) (aH (x1.2++([z]))))) (aH x1.2))) λI=>(cP ((cL x1.1),I))) (aH x1.2))) (0,([]:η)))
def gU (x:v?):M (Int×D!):=
 (bV (bg (aj ([]:θ)+aj x.a) 1) (bV (bg (aj ([]:Y eh)+aj x.d) 24) (iter (σ:=Int×rq×r?) (λx1=>(bQ x1.1 (aZ x1.2.1.1) (bJ dO x1.2.1.1 x1.1 λA=>(bJ dO x1.2.1.1 x1.1 λz=>(bV (bg (aj ([]:η)+aj z.2) 8) (bV (bg (aj x1.c+aj ([(A.1,(([]:η)++z.2))])) 32) (cP ((cL x1.1),x1.2.1,x1.a,x1.b,(x1.c++([(A.1,(([]:η)++z.2))])),x1.h)))))) (aH x1.d))) (0,x,0,x.2.1,([]:Y f?),(([]:θ)++x.a),(([]:Y eh)++x.d)))))
def nE (x:ν×D!):M (η×D!):=
 (iter (σ:=Int×jE×(θ)×(Y eh)×f?) (λx1=>(bQ x1.1 (aZ x1.b) (jn (α:=jE×(θ)×(Y eh)×f?) (jn (lx hP x1.b x1.1 λI=>(bj I.1 3 (lx hP x1.b x1.1 λA=>(aH ((decide ((A.2.1:Int)=x.1.2)),x1.2))) (aH (af,x1.2)))) λz=>(aJ z.1 (bV (bg (aj z.h+aj ([x1.1])) 8) (aH (z.2.1,z.a,z.b,z.c,(z.h++([x1.1]))))) (aH z.2))) λL=>(cP ((cL x1.1),L))) (aH (x1.h,x1.2.1,x1.a,x1.b)))) (0,x.2.1,x.a,x.d,x.1.1,([]:η)))
def mb (x:ν×D!):M η:=ax (nE x) λy=>same y.2 x.2 (Z y.1)
abbrev T!:=gk×rq×q!
abbrev Y?:=Int×r?
def oK (x:T!):M (rq×j!):=
 (ax (ic (x.1,x.2.1,x.a,x.b,x.c)) λy1=>(aJ (!y1) (Z ((([]:Y f?),0,([]:θ),([]:Y eh)),0,af)) (ax (gU x.2.1) λL=>(jn (α:=Y?) (bj x.b 1 (ck (ef x.a (aj L.d)) (aH (0,L.1,0,L.2.1,L.a,(ca L.d x.a (2,(aI hP L.d x.a).2))))) (bj x.b 2 (ck (ef x.a (aj L.d)) (aH (0,L.1,0,L.2.1,L.a,(ca L.d x.a (5,(aI hP L.d x.a).2))))) (jn (α:=Bool×gk×r?) (bj x.b 6 (aH ((decide ((x.b:Int)=6)),x.1,L.1,0,L.2)) (aH ((decide ((x.b:Int)=10)),x.1,L.1,0,L.2))) λx4=>(aJ x4.1 (ck (ef x.c (aj x4.c)) (aH (0,x4.a,x4.b,(ca x4.c x.c (x.a,(aI dO x4.c x.c).2)),x4.h))) (jn (bj x.b 7 (aH ((decide ((x.b:Int)=7)),x4.2)) (aH ((decide ((x.b:Int)=11)),x4.2))) λz=>(aJ z.1 (ck (ef x.c (aj z.c)) (aH (0,z.a,z.b,(ca z.c x.c ((-1),(aI dO z.c x.c).2)),z.h))) (bj x.b 8 (lx dO z.c x.c λz6=>(ax (wh (z6.2,[x.a])) λy7=>(ck (ef x.c (aj z.c)) (aH (0,z.a,z.b,(ca z.c x.c ((aI dO z.c x.c).1,y7)),z.h))))) (bj x.b 9 (lx dO z.c x.c λz8=>(ax (su (z8.2,x.a)) λy9=>(ck (ef x.c (aj z.c)) (aH (0,z.a,z.b,(ca z.c x.c ((aI dO z.c x.c).1,y9)),z.h))))) (bj x.b 12 (aH (0,x.a,z.d)) (bj x.b 13 (aH (0,(-1),z.d)) (bj x.b 14 (ck (ef x.a (aj z.j)) (aH (0,z.a,z.b,z.c,z.e,(ca z.j x.a ((aI hP z.j x.a).1,((aI hP z.j x.a).2).1,J))))) (bj x.b 15 (ck (ef x.a (aj z.j)) (aH (0,z.a,z.b,z.c,z.e,(ca z.j x.a ((aI hP z.j x.a).1,((aI hP z.j x.a).2).1,af))))) (bj x.b 16 (bJ itK z.2.1.a x.c λz10=>(ck (ef z10.2 (aj z.c)) (ck (ef x.a (aj z.j)) (ck (ef x.a (aj (ca z.j x.a (3,(aI hP z.j x.a).2)))) (aH (0,z.a,z.b,(ca z.c z10.2 ((-1),(aI dO z.c z10.2).2)),z.e,(ca (ca z.j x.a (3,(aI hP z.j x.a).2)) x.a ((aI hP (ca z.j x.a (3,(aI hP z.j x.a).2)) x.a).1,x.c,((aI hP (ca z.j x.a (3,(aI hP z.j x.a).2)) x.a).2).2)))))))) (bj x.b 17 (bJ itK z.2.1.a x.c λz11=>(ck (ef z11.2 (aj z.c)) (ck (ef x.a (aj z.j)) (ck (ef x.a (aj (ca z.j x.a (2,(aI hP z.j x.a).2)))) (aH (0,z.a,z.b,(ca z.c z11.2 (x.a,(aI dO z.c z11.2).2)),z.e,(ca (ca z.j x.a (2,(aI hP z.j x.a).2)) x.a ((aI hP (ca z.j x.a (2,(aI hP z.j x.a).2)) x.a).1,0,((aI hP (ca z.j x.a (2,(aI hP z.j x.a).2)) x.a).2).2)))))))) (bj x.b 18 (ax (mb ((z.a,x.c),z.g)) λy12=>(bQ 0 (aZ y12) (bJ aN y12 0 λz13=>(jn (ax (oM (y12,x.h)) λy15=>(aJ y15 (aH (x.h,z.2.2)) (aH (z13,z.2.2)))) λI=>(ck (ef I.1 (aj I.h)) (aH (I.1,I.2.1,I.a,I.b,I.c,(ca I.h I.1 (4,(aI hP I.h I.1).2))))))) (aH ((-1),z.2.2)))) (bj x.b 19 (ax (mb ((z.a,x.c),z.g)) λy16=>(iter (σ:=Y?) (λA=>(bQ A.1 (aZ y16) (bJ aN y16 A.1 λz18=>(ck (ef z18 (aj A.h)) (cP ((cL A.1),A.2.1,A.a,A.b,A.c,(ca A.h z18 (4,(aI hP A.h z18).2)))))) (aH (bL ((aZ y16),A.2))))) (0,z.2.2))) (bj x.b 20 (ck (ef x.c (aj z.j)) (aH (0,z.a,z.b,z.c,z.e,(ca z.j x.c (1,(aI hP z.j x.c).2))))) (bj x.b 22 (ck (ef x.c (aj z.e)) (aH (0,z.a,z.b,z.c,(ca z.e x.c J),z.j))) (aH (0,z.2.2)))))))))))))))))))) λx3=>(Z ((x3.b,x3.2.1,x3.g),x3.1,J))))))
abbrev N?:=(η)×η
def wg (x:z?):M AZ:=
 (ax (kx x) λy1=>(aJ (!y1) (Z ((([]:Y f?),0,([]:θ),([]:Y eh)),([]:η),([]:η),([]:Y yh))) (ax (tB x.1) λy2=>(iter (σ:=Int×FB×Int×rq×η) (λI=>(bQ I.1 (aZ I.2.1.1.1) (bJ kF I.2.1.1.1 I.1 λz4=>(bV (bg (aj I.g+aj ([z4.2.2.2.2])) 8) (cP ((cL I.1),I.2.1,I.a,I.b,(I.g++([z4.2.2.2.2])))))) (ax (iter (σ:=Int×FB×Int×rq×N?) (λA=>(bQ A.1 (aZ A.2.1.1.b) (bV (bg (aj A.h+aj ([0])) 8) (cP ((cL A.1),A.2.1,A.a,A.b,A.c,(A.h++([0]))))) (ax (iter (σ:=Int×FB×Int×g!) (λz=>(bQ z.1 (aZ z.2.1.2) (wT z.1 z.2.1.2 (lt ((aI zR z.2.1.2 z.1).1) λz7=>(bV (cX 0 z7&&cX z7 z7&&bg (aO z7) 8) (wT z.1 z.2.1.2 (lt ((aI zR z.2.1.2 z.1).1) λL=>(bV (cX 0 L&&cX L L&&bg (aO L) 24) (bV (bg (aj z.j+aj ([(0,(aE (aO z7) (0:Int)),(aE (aO L) ([]:η)),0)])) 64) (cP ((cL z.1),z.2.1,z.a,z.b,z.c,z.e,(z.j++([(0,(aE (aO z7) (0:Int)),(aE (aO L) ([]:η)),0)]))))))))))) (aH z.d))) (0,A.2.1,A.a,A.b,A.c,A.h,([]:Y yh))) λr=>Z (bL r)))) (0,I.2.1,I.a,I.b,I.g,([]:η))) λr=>Z (bL r)))) (0,x,0,y2,([]:η))))))
def yH (x:FB×g!):M (Bool):=
 (jn (ax (kx x.1) λy2=>(aJ (!y2) (aH (J,x)) (ax (pf (x.1.1,x.2.1)) λy3=>(aJ (!y3) (aH (J,x)) (gO (aZ x.a) (aZ x.1.1.1) (aH (J,x)) (gO (aZ x.b) (aZ x.1.1.b) (aH (J,x)) (aH ((!decide (((aZ x.g):Int)=(aZ x.1.2))),x)))))))) λx1=>(aJ x1.1 (Z af) (iter (σ:=Int×FB×g!) (λz=>(bQ z.1 (aZ z.2.1.2) (bJ fw z.h z.1 λA=>(jn (bQ A.1 0 (aH (J,z.2)) (bJ zR z.2.1.2 z.1 λz7=>(kw (aZ z7.2) A.1 (aH (J,z.2)) (bJ zR z.2.1.2 z.1 λz8=>(gO (aZ A.2.1) z8.1 (aH (J,z.2)) (bJ zR z.2.1.2 z.1 λL=>(aH ((!decide (((aZ A.a):Int)=L.1)),z.2)))))))) λI=>(aJ I.1 (aH af) (cP ((cL z.1),I.2))))) (aH J))) (0,x1.2))))
def Dh (x:Int):M (Int):=
 (jn (α:=Bool×η) (bQ x 6 (aH (J,[3,3,4,4,5,6,7,8,9,10,11,12,13,14,15,16,18,19,20,21,22,23,2])) (aH ((gI 28 x),[3,3,4,4,5,6,7,8,9,10,11,12,13,14,15,16,18,19,20,21,22,23,2]))) λx1=>(aJ x1.1 (Z 0) (lx aN x1.2 (a_ .i64 (x-6)) λz=>(Z z))))
def xo (x:mq×j?):M (Int):=
 (jn (bj x.1.1 6 (aH ((decide ((x.1.1:Int)=6)),x)) (aH ((decide ((x.1.1:Int)=27)),x))) λx1=>(aJ x1.1 (Z x1.2.1.a) (bj x.1.1 7 (bJ aN x1.b x1.2.1.b λI=>(ax (wv (I,x1.2.1.c)) λy3=>(Z (a_ .i64 (x1.2.1.a+y3))))) (bj x.1.1 9 (bJ aN x1.b x1.2.1.b λA=>(ax (wv (A,x1.2.1.c)) λL=>(Z (a_ .i64 (x1.2.1.2.1+L))))) (jn (bj x.1.1 10 (aH ((decide ((x.1.1:Int)=10)),x1.2.1)) (bj x.1.1 17 (aH ((decide ((x.1.1:Int)=17)),x1.2.1)) (bj x.1.1 18 (aH ((decide ((x.1.1:Int)=18)),x1.2.1)) (bj x.1.1 19 (aH ((decide ((x.1.1:Int)=19)),x1.2.1)) (bj x.1.1 20 (aH ((decide ((x.1.1:Int)=20)),x1.2.1)) (aH ((decide ((x.1.1:Int)=28)),x1.2.1))))))) λz=>(aJ z.1 (Z (-1)) (Z z.a)))))))
def pd (x:FB×AZ×Int):M (lZ×Bool):=
 (jn (α:=Bool×FB×AZ×Int×q!) (ax (yH (x.1,x.2.1)) λy2=>(aJ (!y2) (aH (J,x.1,x.2.1,0,0,0,0,0)) (bQ x.2.2 0 (aH (J,x.1,x.2.1,0,0,0,0,0)) (aH ((cX (aZ x.1.2) x.2.2),x.1,x.2.1,0,0,0,0,0))))) λx1=>(aJ x1.1 (Z ((0,0,0,0,0,([]:η),([]:η)),af)) (bJ fw x1.a.d x.2.2 λz3=>(bJ zR x1.2.1.2 x.2.2 λz4=>(bJ sZ z4.2 z3.1 λI=>(bJ hP x1.a.1.d x.2.2 λz6=>(bj z6.1 1 (Z ((x.2.2,1,(-1),0,(-1),([]:η),([]:η)),J)) (bj z6.1 4 (bJ hP x1.a.1.d x.2.2 λz7=>(Z ((x.2.2,17,z7.2.1,0,I.h,([]:η),([]:η)),J))) (bj z6.1 2 (ax (Dh I.1) λy8=>(ax (xo (I,z3)) λy9=>(bj y8 0 (Z ((0,0,0,0,0,([]:η),([]:η)),af)) (jn (α:=HB×yh×mq×HB×η) (bj I.1 10 (bJ (.sl aN) z3.a I.2.1 λz11=>(bV (bg (aj (z11:η)) 8) (aH (x1.d,z3,I,(x.2.2,y8,y9,0,I.h),z11)))) (jn (α:=Bool×HB×yh×mq×Int×q!) (bj I.1 7 (aH ((decide ((I.1:Int)=7)),x1.d,z3,I,x.2.2,y8,y9,0,I.h)) (aH ((decide ((I.1:Int)=9)),x1.d,z3,I,x.2.2,y8,y9,0,I.h))) λz=>(aJ z.1 (bJ (.sl aN) z.a.a z.b.b λz13=>(bV (bg (aj (z13:η)) 8) (aH (z.2.1,z.a,z.b,z.g,z13)))) (aH (z.2.1,z.a,z.b,z.g,([]:η)))))) λx10=>(jn (α:=HB×HB×N?) (jn (bj x10.a.1 8 (aH (J,x10)) (bj x10.a.1 9 (aH (J,x10)) (aH ((decide ((x10.a.1:Int)=26)),x10)))) λA=>(aJ A.1 (bJ (.sl aN) A.a.a A.b.a λz16=>(bV (bg (aj (z16:η)) 8) (aH (A.2.1,A.c,A.h,z16)))) (aH (A.2.1,A.c,A.h,([]:η))))) λL=>(Z ((L.2.1.1,L.2.1.2.1,L.2.1.a,L.2.1.b,L.2.1.g,L.2.2),J))))))) (Z ((0,0,0,0,0,([]:η),([]:η)),af)))))))))))
def mI (x:b?):M iV:=
 (ax (tB x) λI=>(bV (cX 0 (aZ x.b)&&cX (aZ x.b) (aZ x.b)&&bg (aO (aZ x.b)) 8) (bV (cX 0 (aZ x.c)&&cX (aZ x.c) (aZ x.c)&&bg (aO (aZ x.c)) 8) (iter (σ:=Int×gk×Int×L?) (λz=>(bQ z.1 (aZ z.2.1.1) (bJ kF z.2.1.1 z.1 λA=>(bV (bg (aj z.c+aj ([A.2.2.2.2])) 8) (cP ((cL z.1),z.2.1,z.a,z.b,(z.c++([A.2.2.2.2])),z.h)))) (aH z.d))) (0,x,0,I,([]:η),(aE (aO (aZ x.b)) (0:Int)),(aE (aO (aZ x.c)) (0:Int)))))))
def vM (x:gk×L?):M (Bool):=
 (jn (ax (pf (x.1,x.2.1)) λz=>(aJ z (bj (aZ x.a) (aZ x.1.1) (bj (aZ x.b) (aZ x.1.b) (aH (decide (((aZ x.g):Int)=(aZ x.1.c)))) (aH af)) (aH af)) (aH af))) λx1=>(Z x1))
def Ga (x:ν):M (Bool):=
 (jn (kw 0 x.1 (aH (gI x.1 x.2)) (aH af)) λx1=>(Z x1))
def pa (x:n!):M (Bool):=
 (iter (σ:=Int) (λx1=>(bQ x1 (aZ x.1) (jn (bJ aN x.1 x1 λL=>(bQ L 1 (aH J) (bJ aN x.1 x1 λI=>(kw x.2 I (aH J) (bQ 0 x1 (bJ aN x.1 x1 λA=>(bJ aN x.1 (a_ .i64 (x1-1)) λz=>(aH (cX A z)))) (aH af)))))) λx2=>(aJ x2 (aH af) (cP (cL x1)))) (aH J))) 0)
abbrev M?:=iV×b!
def v_ (x:M?):M (Bool):=
 (bj x.a 3 (bJ aN x.1.2.1 x.b λL=>(Z (decide ((x.c:Int)=L)))) (bj x.a 23 (bJ aN x.1.a x.b λI=>(Z (decide ((x.c:Int)=I)))) (bj x.a 5 (jn (bj x.c 0 (aH J) (aH (decide ((x.c:Int)=1)))) λx3=>(Z x3)) (jn (bj x.a 4 (aH ((decide ((x.a:Int)=4)),x)) (aH ((decide ((x.a:Int)=22)),x))) λz=>(aJ z.1 (Z J) (bj x.a 18 (ax (pe (z.2.1.1,z.c)) λA=>(bj (aZ A) 0 (Z (decide ((z.e:Int)=(-1)))) (jn (kw 0 z.e (bQ z.e (aZ z.2.1.1.d) (ax (oM (A,z.e)) λy7=>(aH y7)) (aH af)) (aH af)) λx6=>(Z x6)))) (bj x.a 19 (ax (pe (z.2.1.1,z.c)) λy8=>(Z (decide ((z.e:Int)=(aZ y8))))) (Z (decide ((z.e:Int)=0))))))))))
abbrev I?:=gk×iV×lZ×Int
def kU (x:gk×M?):M (iV×Bool):=
 (jn (α:=Bool×I?) (ax (vM (x.1,x.2.1)) λy2=>(aJ (!y2) (aH (J,x.1,x.2.1,x.2.2,0)) (ax (Ga (x.a,(aZ x.1.c))) λy3=>(aJ (!y3) (aH (J,x.1,x.2.1,x.2.2,0)) (bQ x.b 1 (aH (J,x.1,x.2.1,x.2.2,0)) (bQ 23 x.b (aH (J,x.1,x.2.1,x.2.2,0)) (ax (ic (x.1,x.2.1.1,x.a,x.b,x.c)) λy4=>(aH ((!y4),x.1,x.2.1,x.2.2,0))))))))) λx1=>(aJ x1.1 (Z (((([]:Y f?),0,([]:θ),([]:Y eh)),([]:η),([]:η),([]:η)),af)) (jn (α:=I?) (jn (bj x1.b.2.1 1 (aH (J,x1.2)) (aH ((decide ((x1.b.2.1:Int)=2)),x1.2))) λx6=>(aJ x6.1 (gO x6.b.c (-1) (cP (((([]:Y f?),0,([]:θ),([]:Y eh)),([]:η),([]:η),([]:η)),af)) (aH x6.2)) (jn (ax (Ga (x6.b.c,(aZ x6.2.1.h))) λy8=>(aJ (!y8) (aH (J,x6.2)) (bJ qG x6.2.1.h x6.b.c λz9=>(aH ((!decide ((z9.1:Int)=x6.b.1)),x6.2))))) λx7=>(aJ x7.1 (cP (((([]:Y f?),0,([]:θ),([]:Y eh)),([]:η),([]:η),([]:η)),af)) (aH x7.2))))) λx5=>(jn (bj x5.a.2.1 3 (aH (J,x5)) (aH ((decide ((x5.a.2.1:Int)=4)),x5))) λx10=>(jn (bQ 0 (aZ x10.b.e) (gO x10.b.2.1 5 (aJ x10.1 (bJ kF x10.2.1.1 x10.b.a λz12=>(aH ((!(!decide ((z12.2.2.1:Int)=0))),x10.2))) (aH (J,x10.2))) (aH (af,x10.2))) (aH (af,x10.2))) λx11=>(aJ x11.1 (Z (((([]:Y f?),0,([]:θ),([]:Y eh)),([]:η),([]:η),([]:η)),af)) (jn (bQ 0 (aZ x11.b.j) (gO x11.b.2.1 4 (aH ((!decide ((x11.b.2.1:Int)=22)),x11.2)) (aH (af,x11.2))) (aH (af,x11.2))) λL=>(aJ L.1 (Z (((([]:Y f?),0,([]:θ),([]:Y eh)),([]:η),([]:η),([]:η)),af)) (jn (bJ aN L.a.d L.b.1 λz15=>(ax (pa (L.b.e,z15)) λy16=>(aJ (!y16) (aH (J,L.2)) (bJ aN L.a.d L.b.1 λz17=>(ax (pa (L.b.j,z17)) λy18=>(aJ (!y18) (aH (J,L.2)) (ax (v_ (L.a,L.b)) λy19=>(aH ((!y19),L.2))))))))) λz=>(aJ z.1 (Z (((([]:Y f?),0,([]:θ),([]:Y eh)),([]:η),([]:η),([]:η)),af)) (bV (bg (aj ([]:η)+aj z.a.2.1) 8) (bV (bg (aj ([]:η)+aj z.a.a) 8) (bV (bg (aj ([]:η)+aj z.a.d) 8) (jn (α:=Int×gk×iV×lZ×Int×Int×d!) (bj z.b.2.1 18 (aH (z.b.b,z.2.1,z.a,z.b,z.g,0,(([]:η)++z.a.2.1),(([]:η)++z.a.a),(([]:η)++z.a.d))) (aH ((-1),z.2.1,z.a,z.b,z.g,0,(([]:η)++z.a.2.1),(([]:η)++z.a.a),(([]:η)++z.a.d)))) λA=>(ax (oK (A.2.1,A.a.1,A.b.1,A.b.2.1,A.b.a,A.1)) λy21=>(jn (bj A.b.2.1 4 (ck (ef A.b.a (aj A.f)) (aH (A.b,A.c,y21.1,(ca A.f A.b.a A.b.b),A.n))) (aH (A.b,A.c,y21.1,A.j))) λI=>(jn (bj I.1.2.1 22 (ck (ef I.1.a (aj I.c)) (aH (I.1,I.2.1,I.a,I.b,(ca I.c I.1.a I.1.b),I.h))) (aH I)) λx23=>(lx aN x23.h x23.1.1 λz24=>(ck (ef x23.1.1 (aj x23.h)) (Z ((x23.a,x23.b,x23.c,(ca x23.h x23.1.1 (cL z24))),J)))))))))))))))))))))
def oH (x:(Y lZ)×Int×f?):M (Bool):=
 (iter (σ:=Int) (λx1=>(bQ x1 (aZ x.d) (iter (σ:=Int×Bool×Int) (λz=>(bQ z.2.2 x.2.1 (jn (bJ gm x.1 z.2.2 λz4=>(gO z4.1 x.a (aH (z.1,z.2.1)) (jn (aJ z.2.1 (aH J) (bJ aN x.d x1 λz6=>(bj z.1 z6 (bJ gm x.1 z.2.2 λL=>(bj L.2.1 3 (aH J) (bJ gm x.1 z.2.2 λI=>(aH (decide ((I.2.1:Int)=23)))))) (aH af)))) λx5=>(aH ((cL z.1),x5))))) λA=>(cP (A.1,A.2,(cL z.2.2)))) (ax (aJ (!z.2.1) (aH af) (cP (cL x1))) λr=>Z (bL r)))) (0,af,0)) (aH J))) 0)
abbrev u!:=gk×Y lZ
def oI (x:u!):M ν:=
 (bQ 400 (aZ x.2) (Z (0,2)) (ax (iz x.1) λy1=>(aJ (!y1) (Z (0,1)) (ax (mI x.1) λy2=>(iter (σ:=Int×(gk×Y lZ)×L?) (λz=>(bQ z.1 (aZ z.2.1.2) (bJ gm z.2.1.2 z.1 λA=>(ax (kU (z.2.1.1,z.2.2,A)) λI=>(jn (aJ (!I.2) (aH (J,z.2.1,z.2.2,I.1)) (ax (oH (z.2.1.2,z.1,A.1,A.e)) λy7=>(aJ (!y7) (aH (J,z.2.1,z.2.2,I.1)) (ax (oH (z.2.1.2,z.1,A.1,A.j)) λy8=>(aH ((!y8),z.2.1,z.2.2,I.1)))))) λL=>(aJ L.1 (aH (z.1,12)) (cP ((cL z.1),L.2.1,L.d)))))) (aH (0,0)))) (0,x,y2))))))
def KG {W V:Type} (i:Int) (t1:R->(η)->(Y η)->W) (t2:W->V) (t3:V->yh->Y yh) (x6:Int) (z:FB×rq×(ν)×Int×HB×lZ×(ν)×(η)×(η)×R×(η)×Y η):M HA:=
 (jn (jn (gO z.e.2.1 16 (aH ((!decide ((z.e.2.1:Int)=2)),z.1,z.2.1,z.a,z.b,z.c,z.e,(x6,z.m,z.q,(cL z.f.2)),z.i,z.k,(t1 z.l z.m z.q))) (aH (af,z.1,z.2.1,z.a,z.b,z.c,z.e,(x6,z.m,z.q,(cL z.f.2)),z.i,z.k,(t1 z.l z.m z.q)))) λA=>(aJ A.1 (bJ zR A.2.1.2 A.b.1 λL=>(ax (oL (L,A.i)) λy18=>(aH (A.a,A.b,A.c,A.e,A.f,y18.1,A.k,A.l,(t2 A.p))))) (aH (A.a,A.b,A.c,A.e,A.f,A.i,A.k,A.l,(t2 A.p))))) λI=>(bj I.2.1.1 i (Z ((I.1,I.f,I.i,(t3 I.o I.e)),I.c,J)) U))
abbrev w!:=FB×AZ×g?
def SG (i:Int) (cp:g!->M (Int×jE×(θ)×(Y eh)×(η)×(η)×R×(η)×Y η)) (pc ev:R->Int) (k:Int->(FB×rq×(ν)×Int×HB×lZ×(ν)×(η)×(η)×R×(η)×Y η)->M HA) (x:w!):M HA:=
 (ax (pd (x.1,x.2.1,x.a)) λI=>(aJ (!I.2) (Z (((([]:Y f?),0,([]:θ),([]:Y eh)),([]:η),([]:η),([]:Y yh)),(0,0,0,0,0,([]:η),([]:η)),af)) (ax (oK (x.1.1,x.2.1.1,x.a,I.1.2.1,I.1.a,x.d)) λy2=>(aJ (!y2.2.2) (Z (((([]:Y f?),0,([]:θ),([]:Y eh)),([]:η),([]:η),([]:Y yh)),(0,0,0,0,0,([]:η),([]:η)),af)) (ax (cp x.2.1) λL=>(bj x.a i (bJ zR x.1.2 i λz4=>(bJ sZ z4.2 (pc L.f) λz5=>(jn (α:=Int×FB×rq×(ν)×Int×HB×lZ×(ν)×mq×(η)×(η)×R×(η)×Y η) (jn (α:=Bool×FB×rq×(ν)×Int×HB×lZ×(ν)×mq×(η)×(η)×R×(η)×Y η) (bj I.1.2.1 1 (aH ((decide ((I.1.2.1:Int)=1)),x.1,y2.1,(i,x.d),0,(0,0,0,0,0),(I.1.1,I.1.2.1,I.1.a,y2.2.1,I.1.g),((pc L.f),(ev L.f)),z5,L.g)) (bj I.1.2.1 16 (aH ((decide ((I.1.2.1:Int)=16)),x.1,y2.1,(i,x.d),0,(0,0,0,0,0),(I.1.1,I.1.2.1,I.1.a,y2.2.1,I.1.g),((pc L.f),(ev L.f)),z5,L.g)) (aH ((decide ((I.1.2.1:Int)=2)),x.1,y2.1,(i,x.d),0,(0,0,0,0,0),(I.1.1,I.1.2.1,I.1.a,y2.2.1,I.1.g),((pc L.f),(ev L.f)),z5,L.g)))) λz=>(aJ z.1 (aH (z.i.1,z.2)) (bj I.1.2.1 3 (lx aN z.l z.f.a λz8=>(aH ((a_ .i64 ((pc L.f)+1)),z.2.1,z.a,z.b,z.c,z.e,(z.f.1,z.f.2.1,z.f.a,z8,z.f.g),z.n))) (bj I.1.2.1 23 (lx aN z.m z.f.a λz9=>(aH ((a_ .i64 ((pc L.f)+1)),z.2.1,z.a,z.b,z.c,z.e,(z.f.1,z.f.2.1,z.f.a,z9,z.f.g),z.n))) (bj I.1.2.1 4 (lx aN z.r z.k.a λz10=>(ck (ef z.f.a (aj z.l)) (aH ((a_ .i64 ((pc L.f)+1)),z.2.1,z.a,z.b,z.c,z.e,(z.f.1,z.f.2.1,z.f.a,z10,z.f.g),z.i,z.k,(ca z.l z.f.a z10),z.p)))) (bj I.1.2.1 22 (lx aN z.r z.k.a λz11=>(ck (ef z.f.a (aj z.m)) (aH ((a_ .i64 ((pc L.f)+1)),z.2.1,z.a,z.b,z.c,z.e,(z.f.1,z.f.2.1,z.f.a,z11,z.f.g),z.i,z.k,z.l,(ca z.m z.f.a z11),z.q)))) (bj I.1.2.1 5 (lx aN z.r z.k.2.1 λz12=>(bj z12 0 (aH (z.k.a,z.2.1,z.a,z.b,z.c,z.e,(z.f.1,z.f.2.1,z.f.a,0,z.f.g),z.n)) (aH ((a_ .i64 ((pc L.f)+1)),z.2.1,z.a,z.b,z.c,z.e,(z.f.1,z.f.2.1,z.f.a,1,z.f.g),z.n)))) (aH ((a_ .i64 ((pc L.f)+1)),z.2))))))))) λx6=>(jn (α:=FB×rq×(ν)×Int×HB×lZ×(ν)×(η)×(η)×R×(η)×Y η) (jn (bj x6.f.2.1 3 (aH (J,x6.2)) (aH ((decide ((x6.f.2.1:Int)=23)),x6.2))) λA=>(aJ A.1 (ck (ef A.k.2.1 (aj A.r)) (ck (ef A.k.2.1 (aj A.D)) (aH (A.2.1,A.a,A.b,A.c,A.e,A.f,A.i,A.l,A.m,A.s,(ca A.r A.k.2.1 A.f.b),(ca A.D A.k.2.1 ([A.i.2])))))) (aH (A.2.1,A.a,A.b,A.c,A.e,A.f,A.i,A.v)))) λx13=>(k x6.1 x13))))) U))))))
def ux (x:g!):M (Int×jE×(θ)×(Y eh)×(η)×(η)×(ν)×o!):=
 (ax (gU x.1) λz=>(bV (bg (aj ([]:η)+aj x.2.1) 8) (bV (bg (aj ([]:η)+aj x.a) 8) (bQ 0 (aZ x.d) (bJ fw x.d 0 λI=>(ax (cr I) λL=>(bQ 1 (aZ x.d) (bJ fw x.d 1 λA=>(ax (cr A) λy5=>U)) (Z (z.1,z.2.1,z.a,z.d,(([]:η)++x.2.1),(([]:η)++x.a),L))))) U))))
def gR (x:w!):M HA:=
 SG 0 ux (λz=>z.1) (λz=>z.2) (KG 0 (λz R T=>(z.1,R,T,z.2)) (λw=>((w.1,w.2.1,w.2.2.1,w.2.2.2))) (λv t=>[t])) x
def uw (x:g!):M (Int×jE×(θ)×(Y eh)×(η)×(η)×Ya29×o!):=
 (ax (gU x.1) λA=>(bV (bg (aj ([]:η)+aj x.2.1) 8) (bV (bg (aj ([]:η)+aj x.a) 8) (bQ 0 (aZ x.d) (bJ fw x.d 0 λz2=>(ax (cr z2) λI=>(bQ 1 (aZ x.d) (bJ fw x.d 1 λz4=>(ax (cr z4) λz=>(bQ 2 (aZ x.d) (bJ fw x.d 2 λL=>(ax (cr L) λy7=>U)) (Z (A.1,A.2.1,A.a,A.d,(([]:η)++x.2.1),(([]:η)++x.a),(I.1.1,I.1.2,z.1.1,z.2.1,z.2.2,z.1.2),I.2))))) U))) U))))
def iy (x:w!):M HA:=
 SG 0 uw (λz=>z.1) (λz=>z.2.1) (KG 0 (λz R T=>(z.1,R,T,z.2.1,z.2.2)) (λw=>((w.1,w.2.1,w.2.2.1,w.2.2.2.1),w.2.2.2.2)) (λv t=>[t,v.2])) x
def uv (x:g!):M (Int×jE×(θ)×(Y eh)×(η)×(η)×(yh×Int×Int)×o!):=
 (ax (gU x.1) λA=>(bV (bg (aj ([]:η)+aj x.2.1) 8) (bV (bg (aj ([]:η)+aj x.a) 8) (bQ 0 (aZ x.d) (bJ fw x.d 0 λz2=>(ax (cr z2) λz=>(bQ 1 (aZ x.d) (bJ fw x.d 1 λz4=>(ax (cr z4) λI=>(bQ 2 (aZ x.d) (bJ fw x.d 2 λL=>(ax (cr L) λy7=>U)) (Z (A.1,A.2.1,A.a,A.d,(([]:η)++x.2.1),(([]:η)++x.a),((z.1.1,z.2.1,z.2.2,z.1.2),I.1),I.2))))) U))) U))))
def gQ (x:w!):M HA:=
 SG 1 uv (λz=>z.2.1) (λz=>z.2.2) (KG 1 (λz R T=>(z.1,z.2.1,R,T,z.2.2)) (λw=>(w.1,(w.2.1,w.2.2.1,w.2.2.2.1,w.2.2.2.2))) (λv t=>[v.1,t])) x
def uu (x:g!):M (Int×jE×(θ)×(Y eh)×(η)×(η)×Ya27×o!):=
 (ax (gU x.1) λI=>(bV (bg (aj ([]:η)+aj x.2.1) 8) (bV (bg (aj ([]:η)+aj x.a) 8) (bQ 0 (aZ x.d) (bJ fw x.d 0 λz2=>(ax (cr z2) λL=>(bQ 1 (aZ x.d) (bJ fw x.d 1 λz4=>(ax (cr z4) λA=>(bQ 2 (aZ x.d) (bJ fw x.d 2 λz6=>(ax (cr z6) λz=>(bQ 3 (aZ x.d) (bJ fw x.d 3 λz8=>(ax (cr z8) λy9=>U)) (Z (I.1,I.2.1,I.a,I.d,(([]:η)++x.2.1),(([]:η)++x.a),(L.1.1,L.1.2,(A.1.1,A.2.1,A.2.2,A.1.2),z.1.1,z.2.1,z.2.2,z.1.2),L.2))))) U))) U))) U))))
def lm (x:w!):M HA:=
 SG 0 uu (λz=>z.1) (λz=>z.2.1) (KG 0 (λz R T=>(z.1,R,T,z.2.1,z.a,z.d)) (λw=>((w.1,w.2.1,w.2.2.1,w.2.2.2.1),w.2.2.2.2.1,w.2.2.2.2.2)) (λv t=>[t,v.2.1,v.2.2])) x
def ut (x:g!):M (Int×jE×(θ)×(Y eh)×(η)×(η)×Ya28×o!):=
 (ax (gU x.1) λI=>(bV (bg (aj ([]:η)+aj x.2.1) 8) (bV (bg (aj ([]:η)+aj x.a) 8) (bQ 0 (aZ x.d) (bJ fw x.d 0 λz2=>(ax (cr z2) λA=>(bQ 1 (aZ x.d) (bJ fw x.d 1 λz4=>(ax (cr z4) λL=>(bQ 2 (aZ x.d) (bJ fw x.d 2 λz6=>(ax (cr z6) λz=>(bQ 3 (aZ x.d) (bJ fw x.d 3 λz8=>(ax (cr z8) λy9=>U)) (Z (I.1,I.2.1,I.a,I.d,(([]:η)++x.2.1),(([]:η)++x.a),((A.1.1,A.2.1,A.2.2,A.1.2),L.1.1,L.1.2,z.1.1,z.2.1,z.2.2,z.1.2),L.2))))) U))) U))) U))))
def j8 (x:w!):M HA:=
 SG 1 ut (λz=>z.2.1) (λz=>z.a) (KG 1 (λz R T=>(z.1,z.2.1,R,T,z.a,z.d)) (λw=>(w.1,(w.2.1,w.2.2.1,w.2.2.2.1,w.2.2.2.2.1),w.2.2.2.2.2)) (λv t=>[v.1,t,v.2.2])) x
def ur (x:g!):M (Int×jE×(θ)×(Y eh)×(η)×(η)×(yh×yh×Int×Int)×o!):=
 (ax (gU x.1) λI=>(bV (bg (aj ([]:η)+aj x.2.1) 8) (bV (bg (aj ([]:η)+aj x.a) 8) (bQ 0 (aZ x.d) (bJ fw x.d 0 λz2=>(ax (cr z2) λA=>(bQ 1 (aZ x.d) (bJ fw x.d 1 λz4=>(ax (cr z4) λz=>(bQ 2 (aZ x.d) (bJ fw x.d 2 λz6=>(ax (cr z6) λL=>(bQ 3 (aZ x.d) (bJ fw x.d 3 λz8=>(ax (cr z8) λy9=>U)) (Z (I.1,I.2.1,I.a,I.d,(([]:η)++x.2.1),(([]:η)++x.a),((A.1.1,A.2.1,A.2.2,A.1.2),(z.1.1,z.2.1,z.2.2,z.1.2),L.1),L.2))))) U))) U))) U))))
def iY (x:w!):M HA:=
 SG 2 ur (λz=>z.a) (λz=>z.d) (KG 2 (λz R T=>(z.1,z.2.1,z.a,R,T,z.d)) (λw=>(w.1,w.2.1,(w.2.2.1,w.2.2.2.1,w.2.2.2.2.1,w.2.2.2.2.2))) (λv t=>[v.1,v.2.1,t])) x
def uq (x:g!):M (Int×jE×(θ)×(Y eh)×(η)×(η)×Ya23×o!):=
 (ax (gU x.1) λL=>(bV (bg (aj ([]:η)+aj x.2.1) 8) (bV (bg (aj ([]:η)+aj x.a) 8) (bQ 0 (aZ x.d) (bJ fw x.d 0 λz2=>(ax (cr z2) λy3=>(bQ 1 (aZ x.d) (bJ fw x.d 1 λz4=>(ax (cr z4) λI=>(bQ 2 (aZ x.d) (bJ fw x.d 2 λz6=>(ax (cr z6) λA=>(bQ 3 (aZ x.d) (bJ fw x.d 3 λz8=>(ax (cr z8) λz=>(bQ 4 (aZ x.d) (bJ fw x.d 4 λz10=>(ax (cr z10) λy11=>U)) (Z (L.1,L.2.1,L.a,L.d,(([]:η)++x.2.1),(([]:η)++x.a),(y3.1.1,y3.1.2,(I.1.1,I.2.1,I.2.2,I.1.2),(A.1.1,A.2.1,A.2.2,A.1.2),z.1.1,z.2.1,z.2.2,z.1.2),y3.2))))) U))) U))) U))) U))))
def rD (x:w!):M HA:=
 SG 0 uq (λz=>z.1) (λz=>z.2.1) (KG 0 (λz R T=>(z.1,R,T,z.2.1,z.a,z.b,z.g)) (λw=>((w.1,w.2.1,w.2.2.1,w.2.2.2.1),w.2.2.2.2.1,w.2.2.2.2.2.1,w.2.2.2.2.2.2)) (λv t=>[t,v.2.1,v.2.2.1,v.2.2.2])) x
def uo (x:g!):M (Int×jE×(θ)×(Y eh)×(η)×(η)×Ya24×o!):=
 (ax (gU x.1) λL=>(bV (bg (aj ([]:η)+aj x.2.1) 8) (bV (bg (aj ([]:η)+aj x.a) 8) (bQ 0 (aZ x.d) (bJ fw x.d 0 λz2=>(ax (cr z2) λI=>(bQ 1 (aZ x.d) (bJ fw x.d 1 λz4=>(ax (cr z4) λy5=>(bQ 2 (aZ x.d) (bJ fw x.d 2 λz6=>(ax (cr z6) λA=>(bQ 3 (aZ x.d) (bJ fw x.d 3 λz8=>(ax (cr z8) λz=>(bQ 4 (aZ x.d) (bJ fw x.d 4 λz10=>(ax (cr z10) λy11=>U)) (Z (L.1,L.2.1,L.a,L.d,(([]:η)++x.2.1),(([]:η)++x.a),((I.1.1,I.2.1,I.2.2,I.1.2),y5.1.1,y5.1.2,(A.1.1,A.2.1,A.2.2,A.1.2),z.1.1,z.2.1,z.2.2,z.1.2),y5.2))))) U))) U))) U))) U))))
def rC (x:w!):M HA:=
 SG 1 uo (λz=>z.2.1) (λz=>z.a) (KG 1 (λz R T=>(z.1,z.2.1,R,T,z.a,z.b,z.g)) (λw=>(w.1,(w.2.1,w.2.2.1,w.2.2.2.1,w.2.2.2.2.1),w.2.2.2.2.2.1,w.2.2.2.2.2.2)) (λv t=>[v.1,t,v.2.2.1,v.2.2.2])) x
def um (x:g!):M (Int×jE×(θ)×(Y eh)×(η)×(η)×Ya25×o!):=
 (ax (gU x.1) λL=>(bV (bg (aj ([]:η)+aj x.2.1) 8) (bV (bg (aj ([]:η)+aj x.a) 8) (bQ 0 (aZ x.d) (bJ fw x.d 0 λz2=>(ax (cr z2) λI=>(bQ 1 (aZ x.d) (bJ fw x.d 1 λz4=>(ax (cr z4) λA=>(bQ 2 (aZ x.d) (bJ fw x.d 2 λz6=>(ax (cr z6) λy7=>(bQ 3 (aZ x.d) (bJ fw x.d 3 λz8=>(ax (cr z8) λz=>(bQ 4 (aZ x.d) (bJ fw x.d 4 λz10=>(ax (cr z10) λy11=>U)) (Z (L.1,L.2.1,L.a,L.d,(([]:η)++x.2.1),(([]:η)++x.a),((I.1.1,I.2.1,I.2.2,I.1.2),(A.1.1,A.2.1,A.2.2,A.1.2),y7.1.1,y7.1.2,z.1.1,z.2.1,z.2.2,z.1.2),y7.2))))) U))) U))) U))) U))))
def oJ (x:w!):M HA:=
 SG 2 um (λz=>z.a) (λz=>z.b) (KG 2 (λz R T=>(z.1,z.2.1,z.a,R,T,z.b,z.g)) (λw=>(w.1,w.2.1,(w.2.2.1,w.2.2.2.1,w.2.2.2.2.1,w.2.2.2.2.2.1),w.2.2.2.2.2.2)) (λv t=>[v.1,v.2.1,t,v.2.2.2])) x
def ul (x:g!):M (Int×jE×(θ)×(Y eh)×(η)×(η)×Ya42×o!):=
 (ax (gU x.1) λL=>(bV (bg (aj ([]:η)+aj x.2.1) 8) (bV (bg (aj ([]:η)+aj x.a) 8) (bQ 0 (aZ x.d) (bJ fw x.d 0 λz2=>(ax (cr z2) λI=>(bQ 1 (aZ x.d) (bJ fw x.d 1 λz4=>(ax (cr z4) λA=>(bQ 2 (aZ x.d) (bJ fw x.d 2 λz6=>(ax (cr z6) λz=>(bQ 3 (aZ x.d) (bJ fw x.d 3 λz8=>(ax (cr z8) λy9=>(bQ 4 (aZ x.d) (bJ fw x.d 4 λz10=>(ax (cr z10) λy11=>U)) (Z (L.1,L.2.1,L.a,L.d,(([]:η)++x.2.1),(([]:η)++x.a),((I.1.1,I.2.1,I.2.2,I.1.2),(A.1.1,A.2.1,A.2.2,A.1.2),(z.1.1,z.2.1,z.2.2,z.1.2),y9.1),y9.2))))) U))) U))) U))) U))))
def mz (x:w!):M HA:=
 SG 3 ul (λz=>z.b) (λz=>z.g) (KG 3 (λz R T=>(z.1,z.2.1,z.a,z.b,R,T,z.g)) (λw=>(w.1,w.2.1,w.2.2.1,(w.2.2.2.1,w.2.2.2.2.1,w.2.2.2.2.2.1,w.2.2.2.2.2.2))) (λv t=>[v.1,v.2.1,v.2.2.1,t])) x
def Di (x:w!):M HA:=orE (rD x) (orE (rC x) (orE (oJ x) (orE (mz x) (orE (lm x) (orE (j8 x) (orE (iY x) (orE (iy x) (orE (gQ x) (gR x)))))))))
def yG (x:FB×AZ×Y ν):M ((Y lZ)×g!):=
 (iter (σ:=Int×(Y lZ)×FB×AZ×Int) (λx1=>(jn (bQ x1.1 (aZ x.2.2) (aH ((gI (aZ x1.2.1) 400),x1.2)) (aH (af,x1.2))) λz=>(aJ z.1 (jn (α:=(Y lZ)×FB×AZ×Int) (bJ hY x.2.2 x1.1 λI=>(ax (Di (z.a,z.b,I)) λA=>(aJ A.2.2 (bV (bg (aj z.2.1+aj ([A.2.1])) 88) (aH ((z.2.1++([A.2.1])),z.a,A.1,z.g))) (aH z.2)))) λL=>(cP ((cL x1.1),L))) (aH (z.2.1,z.b))))) (0,([]:Y lZ),x.1,x.2.1,0))
def Gb (x:FB×Y ν):M ((gk×Y lZ)×g!):=
 (ax (kx x.1) λI=>(aJ (!I) (Z (((([]:Y Ym),([]:Y H!),([]:Y jT),([]:Y ζ),([]:Y ζ),([]:Y π)),([]:Y lZ)),(([]:Y f?),0,([]:θ),([]:Y eh)),([]:η),([]:η),([]:Y yh))) (ax (wg x.1) λA=>(ax (yG (x.1,A,x.2)) λz=>(Z ((x.1.1,z.1),z.2))))))
abbrev K!:=Int×u?
def bF (x:K!):M K!:=
 (jn (kw (aZ x.2.1) x.2.2 (aH (J,x.2)) (aH ((gI x.1 1),x.2))) λx1=>(aJ x1.1 (Z (0,x1.2)) (lt (cL x1.2.2) λA=>(bJ (.int .u8) x1.2.1 (a_ .i64 (A-1)) λz=>(bV (!decide ((x.1:Int)=0)) (Z ((lw (a_ .i64 z) x.1),x1.2.1,(cL x1.2.2))))))))
def tG (x:Int):M (Xp):=
 (Z (eM (1,x,[],([]:Y Xp))))
def rj (x:ζ):M (Xp):=
 (Z (eM (2,0,x,([]:Y Xp))))
def pm (x:Int×Xp×Xp):M (Xp):=
 (Z (eM (x.1,0,[],[eM ((Xp.op x.2.1),(Xp.n x.2.1),(Xp.name x.2.1),(Xp.l x.2.1)),eM ((Xp.op x.2.2),(Xp.n x.2.2),(Xp.name x.2.2),(Xp.l x.2.2))])))
def j6 (x:ζ×Xp):M (Sx):=
 (Z (pn (1,0,x.1,[],([]:Y Xp),eM ((Xp.op x.2),(Xp.n x.2),(Xp.name x.2),(Xp.l x.2)),([]:Y Sx),([]:Y Sx))))
def uz (x:Unit):M zM:=
 (Z ([(1,0,[120],0,0,[]),(1,0,[121],0,1,[]),(2,0,[118],0,0,[]),(1,0,[113],2,0,[]),(3,0,[109],0,0,[]),(3,0,[110],0,0,[]),(4,0,[114],0,0,[]),(5,0,[99],0,0,[109]),(6,0,[102],0,0,[])]))
def tZ (x:η):M (Y ν):=
 (iter (σ:=Int×Y ν) (λx1=>(bQ x1.1 (aZ x) (bJ (.int .u8) x x1.1 λA=>(bJ (.int .u8) x x1.1 λz=>(bV (bg (aj x1.2+aj ([((lw (a_ .i64 A) 4),(a_ .i64 ((lw (a_ .i64 (Pn (a_ .i64 z) 4)) 5)-1)))])) 16) (cP ((cL x1.1),(x1.2++([((lw (a_ .i64 A) 4),(a_ .i64 ((lw (a_ .i64 (Pn (a_ .i64 z) 4)) 5)-1)))]))))))) (aH x1.2))) (0,([]:Y ν)))
def yW (rmade_maker_expr:ahp->M ar0) (x:Int×i?):M ar0:=
 (ax (bF (10,x.a)) λy1=>(jn (α:=Bool×Hy×iE×Yn×(Int×Int×ζ)×Y ζ) (bQ y1.1 2 (aH (J,x.2.1,y1.2,x.d,(0,0,[]),[[97],[98],[120],[121],[118],[120],[121]])) (bj x.1 0 (aH ((cX 7 y1.1),x.2.1,y1.2,x.d,(0,0,[]),[[97],[98],[120],[121],[118],[120],[121]])) (aH (af,x.2.1,y1.2,x.d,(0,0,[]),[[97],[98],[120],[121],[118],[120],[121]])))) λz=>(aJ z.1 (ax (bF (4,z.a)) λy3=>(ax (tG y3.1) λy4=>(Z (eM ((Xp.op y4),(Xp.n y4),(Xp.name y4),(Xp.l y4)),z.2.1,y3.2,z.b)))) (bQ y1.1 7 (ax (bF ((aZ z.h),z.a)) λy5=>(lx (.str) z.h y5.1 λz6=>(ax (rj z6) λy7=>(Z (eM ((Xp.op y7),(Xp.n y7),(Xp.name y7),(Xp.l y7)),z.2.1,y5.2,z.b))))) (bj y1.1 7 (ax (rmade_maker_expr (0,z.2.1,z.a,z.b)) λy8=>(bV (((z.b.1==y8.b)&&J)&&aA (aj z.b.2) (aj y8.g)&&J) (Z (eM (3,0,[113],[eM ((Xp.op y8.1),(Xp.n y8.1),(Xp.name y8.1),(Xp.l y8.1))]),y8.2)))) (ax (bF ((aS (aj ([6,7,8,11,13,17]))),z.a)) λy9=>(lx aN ([6,7,8,11,13,17]) y9.1 λz10=>(ax (rmade_maker_expr ((a_ .i64 (x.1-1)),z.2.1,y9.2,z.b)) λA=>(bV (((z.b.1==A.b)&&J)&&aA (aj z.b.2) (aj A.g)&&J) (ax (rmade_maker_expr ((a_ .i64 (x.1-1)),A.2)) λL=>(bV (((A.b==L.b)&&J)&&aA (aj A.g) (aj L.g)&&J) (ax (pm (z10,A.1,L.1)) λI=>(Z (eM ((Xp.op I),(Xp.n I),(Xp.name I),(Xp.l I)),L.2))))))))))))))
def mj:Nat->ahp->M ar0
 |0,_=>U
 |n+1,x=>yW (mj n) x
def fI (x:Int×i?):M ar0:=mj fuel x
def fh (x:ζ×i?):M (Bool×i?):=
 (ax (jZ (x.g,x.1)) λz=>(Z ((cX 0 z),x.2)))
def n_ (rmade_maker_stmts:ar2->M aho) (rmade_maker_stmt:ahp->M amm) (rmade_maker_block:ar1->M amn) (x:ν×i?):M aho:=
 (iter (σ:=Int×Hy×iE×(Y Sx)×Bool×Y ζ) (λx1=>(jn (bQ x1.1 x.1.2 (bj x1.1 0 (aH (J,x1.2)) (aH ((gI 0 x1.2.1.2.1),x1.2))) (aH (af,x1.2))) λz=>(aJ z.1 (ax (rmade_maker_stmt (x.1.1,z.2.1,z.a,z.g)) λA=>(bV (((z.c==z.c)&&J)&&aA (aj z.h) (aj z.h)&&J) (bV (bg (aj z.b+aj ([eP A.1])) 176) (cP ((cL x1.1),A.2.1,A.a,(z.b++([eP A.1])),A.d))))) (aH (z.2.1,z.a,z.g,z.b))))) (0,x.2.1,x.a,([]:Y Sx),x.d))
abbrev o?:=Bool×Hy×iE×abu×Bool×Y ζ
def px (rmade_maker_stmts:ar2->M aho) (rmade_maker_stmt:ahp->M amm) (rmade_maker_block:ar1->M amn) (x:Int×i?):M amm:=
 (ax (bF (18,x.a)) λy1=>(jn (α:=o?) (bQ 0 x.1 (lt (a_ .i64 (x.2.1.2.1-1)) λz3=>(bQ 0 z3 (aH ((!x.2.1.b),(x.2.1.1,(a_ .i64 (x.2.1.2.1-1)),x.2.1.2.2),y1.2,(0,0,[],[],0,0,[]),x.d)) (aH (af,(x.2.1.1,(a_ .i64 (x.2.1.2.1-1)),x.2.1.2.2),y1.2,(0,0,[],[],0,0,[]),x.d)))) (aH (af,(x.2.1.1,(a_ .i64 (x.2.1.2.1-1)),x.2.1.2.2),y1.2,(0,0,[],[],0,0,[]),x.d))) λx2=>(bQ y1.1 4 (lx (.str) ([[120],[121],[120],[118]]) y1.1 λz4=>(ax (fI (1,x2.2.1,x2.a,x2.g)) λy5=>(bV (((x2.c==y5.b)&&J)&&aA (aj x2.h) (aj y5.g)&&J) (ax (j6 (z4,y5.1)) λy6=>(Z (eP y6,y5.2)))))) (bj y1.1 4 (ax (bF (2,x2.a)) λy7=>(lx (.str) ([[97],[98]]) y7.1 λz8=>(ax (fI (1,x2.2.1,y7.2,x2.g)) λy9=>(bV (((x2.c==y9.b)&&J)&&aA (aj x2.h) (aj y9.g)&&J) (ax (j6 (z8,y9.1)) λy10=>(Z (eP y10,y9.2))))))) (bj y1.1 5 (ax (fI (0,x2.2.1,x2.a,x2.g)) λy11=>(bV (((x2.c==y11.b)&&J)&&aA (aj x2.h) (aj y11.g)&&J) (ax (fI (1,y11.2)) λy12=>(bV (((y11.b==y12.b)&&J)&&aA (aj y11.g) (aj y12.g)&&J) (Z (pn (1,0,[113],[],[eM ((Xp.op y11.1),(Xp.n y11.1),(Xp.name y11.1),(Xp.l y11.1))],eM ((Xp.op y12.1),(Xp.n y12.1),(Xp.name y12.1),(Xp.l y12.1)),([]:Y Sx),([]:Y Sx)),y12.2)))))) (jn (bj y1.1 6 (aH ((gI 0 x.1),x2.2)) (aH (af,x2.2))) λx13=>(aJ x13.1 (ax (fI (1,x13.2.1,x13.a,x13.g)) λL=>(bV (((x13.c==L.b)&&J)&&aA (aj x13.h) (aj L.g)&&J) (ax (rmade_maker_stmts (((a_ .i64 (x.1-1)),1),L.2)) λy15=>(bV (((L.b==L.b)&&J)&&aA (aj L.g) (aj L.g)&&J) (jn (α:=Hy×iE×abu×(Int×Int×(ζ)×(ζ)×Int×Int×(ζ)×Y Xp)×Yn×(Y Sx)×Y Sx) (ax (bF (2,y15.2.1)) λy17=>(bj y17.1 1 (ax (rmade_maker_stmts (((a_ .i64 (x.1-1)),1),y15.1,y17.2,y15.a)) λy18=>(bV (((y15.a.1==y15.a.1)&&J)&&aA (aj y15.a.2) (aj y15.a.2)&&J) (aH (y18.1,y18.2.1,x13.b,(2,0,[],[],(Xp.op L.1),(Xp.n L.1),(Xp.name L.1),(Xp.l L.1)),y18.a,y15.d,y18.d)))) (aH (y15.1,y17.2,x13.b,(2,0,[],[],(Xp.op L.1),(Xp.n L.1),(Xp.name L.1),(Xp.l L.1)),y15.a,y15.d,([]:Y Sx))))) λx16=>(Z (pn (x16.b.1,x16.b.2.1,x16.b.a,x16.b.b,([]:Y Xp),eM x16.b.g,x16.h),x16.1,x16.2.1,x16.c))))))) (jn (bj y1.1 7 (aH ((gI 0 x.1),x13.2)) (aH (af,x13.2))) λz=>(aJ z.1 (ax (rj ([98])) λy20=>(ax (tG 2) λy21=>(ax (pm (13,y20,y21)) λy22=>(ax (rmade_maker_stmts (((a_ .i64 (x.1-1)),1),(z.2.1.1,z.2.1.2.1,z.2.1.a,z.2.1.b,z.2.1.c,J),z.a,z.g)) λy23=>(bV (((z.c==z.c)&&J)&&aA (aj z.h) (aj z.h)&&J) (ax (rj ([98])) λy24=>(ax (tG 1) λy25=>(ax (pm (6,y24,y25)) λy26=>(ax (j6 ([98],y26)) λy27=>(bV (bg (aj y23.d+aj ([eP y27])) 176) (Z (pn (3,0,[],[],([]:Y Xp),eM ((Xp.op y22),(Xp.n y22),(Xp.name y22),(Xp.l y22)),(y23.d++([eP y27])),([]:Y Sx)),(y23.1.1,y23.1.2.1,y23.1.a,y23.1.b,y23.1.c,z.2.1.h),y23.2.1,y23.a)))))))))))) (jn (α:=o?) (bj y1.1 8 (aJ x2.1 (lx (.str) ([[109],[110]]) (a_ .i64 (y1.1-8)) λz29=>(ax (fh (z29,z.2.1,z.a,z.g)) λy30=>(bV (((z.c==y30.b)&&J)&&aA (aj z.h) (aj y30.g)&&J) (aH ((!y30.1),y30.2.1,y30.a,z.b,y30.d))))) (aH (af,z.2))) (bj y1.1 9 (aJ x2.1 (lx (.str) ([[109],[110]]) (a_ .i64 (y1.1-8)) λz31=>(ax (fh (z31,z.2.1,z.a,z.g)) λy32=>(bV (((z.c==y32.b)&&J)&&aA (aj z.h) (aj y32.g)&&J) (aH ((!y32.1),y32.2.1,y32.a,z.b,y32.d))))) (aH (af,z.2))) (aH (af,z.2)))) λA=>(aJ A.1 (lx (.str) ([[109],[110]]) (a_ .i64 (y1.1-8)) λz33=>(ax (rmade_maker_block ((z33,(a_ .i64 (x.1-1))),A.2.1,A.a,A.g)) λy34=>(bV (((A.c==A.c)&&J)&&aA (aj A.h) (aj A.h)&&J) (Z (pn (4,0,z33,[],([]:Y Xp),eM (0,0,[],([]:Y Xp)),y34.1,([]:Y Sx)),y34.2))))) (jn (α:=o?) (bj y1.1 10 (aJ x2.1 (ax (fh ([114],A.2.1,A.a,A.g)) λy36=>(bV (((A.c==y36.b)&&J)&&aA (aj A.h) (aj y36.g)&&J) (aH ((!y36.1),y36.2.1,y36.a,A.b,y36.d)))) (aH (af,A.2))) (bj y1.1 11 (aJ x2.1 (ax (fh ([114],A.2.1,A.a,A.g)) λy37=>(bV (((A.c==y37.b)&&J)&&aA (aj A.h) (aj y37.g)&&J) (aH ((!y37.1),y37.2.1,y37.a,A.b,y37.d)))) (aH (af,A.2))) (aH (af,A.2)))) λx35=>(aJ x35.1 (ax (rmade_maker_block (([114],(a_ .i64 (x.1-1))),x35.2.1,x35.a,x35.g)) λy38=>(bV (((x35.c==x35.c)&&J)&&aA (aj x35.h) (aj x35.h)&&J) (Z (pn ((a_ .i64 ((a_ .i64 (y1.1-10))+5)),0,[114],[],([]:Y Xp),eM (0,0,[],([]:Y Xp)),y38.1,([]:Y Sx)),y38.2)))) (jn (bj y1.1 12 (aH (x2.1,x35.2)) (aH (af,x35.2))) λx39=>(aJ x39.1 (ax (bF (2,x39.a)) λy40=>(ax (rmade_maker_stmts ((0,(a_ .i64 (1+y40.1))),(x39.2.1.1,x39.2.1.2.1,x39.2.1.a,J,x39.2.1.g),y40.2,x39.g)) λy41=>(bV (((x39.c==x39.c)&&J)&&aA (aj x39.h) (aj x39.h)&&J) (Z (pn (7,0,[],[],([]:Y Xp),eM (0,0,[],([]:Y Xp)),y41.d,([]:Y Sx)),(y41.1.1,y41.1.2.1,y41.1.a,af,y41.1.g),y41.2.1,y41.a))))) (jn (bj y1.1 13 (aJ x2.1 (aH ((!x39.2.1.c),x39.2)) (aH (af,x39.2))) (aH (af,x39.2))) λI=>(aJ I.1 (ax (rmade_maker_stmts (((a_ .i64 (x.1-1)),2),(I.2.1.1,I.2.1.2.1,I.2.1.a,I.2.1.b,J,I.2.1.h),I.a,I.g)) λy43=>(bV (((I.c==I.c)&&J)&&aA (aj I.h) (aj I.h)&&J) (Z (pn (8,0,[],[],([]:Y Xp),eM (0,0,[],([]:Y Xp)),y43.d,([]:Y Sx)),(y43.1.1,y43.1.2.1,y43.1.a,y43.1.b,af,y43.1.h),y43.2.1,y43.a)))) (jn (α:=o?) (bj y1.1 14 (aJ x2.1 (aJ (!I.2.1.c) (ax (fh ([109],I.2.1,I.a,I.g)) λy45=>(bV (((I.c==y45.b)&&J)&&aA (aj I.h) (aj y45.g)&&J) (aH ((!y45.1),y45.2.1,y45.a,I.b,y45.d)))) (aH (af,I.2))) (aH (af,I.2))) (aH (af,I.2))) λx44=>(aJ x44.1 (ax (rj ([120])) λy46=>(ax (j6 ([97],y46)) λy47=>(Z (pn (4,0,[109],[],([]:Y Xp),eM (0,0,[],([]:Y Xp)),[pn (9,0,[99],[],([]:Y Xp),eM (0,0,[],([]:Y Xp)),([]:Y Sx),([]:Y Sx)),eP y47],([]:Y Sx)),x44.2.1,x44.a,x44.g)))) (jn (α:=o?) (bj y1.1 15 (aJ x2.1 (ax (fh ([109],x44.2.1,x44.a,x44.g)) λy49=>(bV (((x44.c==y49.b)&&J)&&aA (aj x44.h) (aj y49.g)&&J) (aH ((!y49.1),y49.2.1,y49.a,x44.b,y49.d)))) (aH (af,x44.2))) (aH (af,x44.2))) λx48=>(aJ x48.1 (ax (bF (2,x48.a)) λy50=>(Z (pn (4,0,[109],[],([]:Y Xp),eM (0,0,[],([]:Y Xp)),[pn ((a_ .i64 (10+y50.1)),0,[99],[],([]:Y Xp),eM (0,0,[],([]:Y Xp)),([]:Y Sx),([]:Y Sx))],([]:Y Sx)),x48.2.1,y50.2,x48.g))) (jn (bj y1.1 16 (aJ (!x48.2.1.b) (aJ (!x48.2.1.h) (aH ((!x48.2.1.a),x48.2)) (aH (af,x48.2))) (aH (af,x48.2))) (aH (af,x48.2))) λx51=>(aJ x51.1 (ax (fI (1,(x51.2.1.1,x51.2.1.2.1,J,x51.2.1.d),x51.a,x51.g)) λy52=>(bV (((x51.c==y52.b)&&J)&&aA (aj x51.h) (aj y52.g)&&J) (Z (pn (14,0,[102],[],([]:Y Xp),eM ((Xp.op y52.1),(Xp.n y52.1),(Xp.name y52.1),(Xp.l y52.1)),([]:Y Sx),([]:Y Sx)),y52.2)))) (jn (α:=o?) (bj y1.1 17 (aJ (!x51.2.1.b) (ax (bF (2,x51.a)) λy54=>(aH ((decide ((y54.1:Int)=1)),x51.2.1,y54.2,x51.d))) (aH (af,x51.2))) (aH (af,x51.2))) λx53=>(aJ x53.1 (Z (pn (15,0,[97],[102],([]:Y Xp),eM (0,0,[],([]:Y Xp)),([]:Y Sx),([]:Y Sx)),x53.2.1,x53.a,x53.g)) (ax (fI (1,x53.2.1,x53.a,x53.g)) λy55=>(bV (((x53.c==y55.b)&&J)&&aA (aj x53.h) (aj y55.g)&&J) (ax (j6 ([120],y55.1)) λy56=>(Z (eP y56,y55.2))))))))))))))))))))))))))))))
def oc (rmade_maker_stmts:ar2->M aho) (rmade_maker_stmt:ahp->M amm) (rmade_maker_block:ar1->M amn) (x:jT×i?):M amn:=
 (bV (bg (aj x.g+aj ([x.1.1])) 16) (ax (bF (2,x.a)) λA=>(ax (rmade_maker_stmts ((x.1.2,(a_ .i64 (1+A.1))),x.2.1,A.2,x.b,(x.g++([x.1.1])))) λz=>(bV (((x.b==x.b)&&J)&&aA (aj (x.g++([x.1.1]))) (aj (x.g++([x.1.1])))&&J) (bV (cX 0 (a_ .i64 ((aZ z.a.2)-1))&&gI (a_ .i64 ((aZ z.a.2)-1)) (aj z.a.2)) (Z (z.d,z.1,z.2.1,af,(dy (aO (a_ .i64 ((aZ z.a.2)-1))) z.a.2))))))))
mutual
def dU:Nat->ar2->M aho
 |0,_=>U
 |n+1,x=>n_ (dU n) (e_ n) (eL n) x
def e_:Nat->ahp->M amm
 |0,_=>U
 |n+1,x=>px (dU n) (e_ n) (eL n) x
def eL:Nat->ar1->M amn
 |0,_=>U
 |n+1,x=>oc (dU n) (e_ n) (eL n) x
end
def sC (x:ν×i?):M aho:=dU fuel x
abbrev q?:=Hy×zM×dl×jT×iE×Yn×(Y zL)×dl×Y Sx
def qF (x:η):M A!:=
 (ax (uz ()) λy1=>(ax (bF (3,x,0)) λy2=>(iter (σ:=Int×Hy×zM×dl×iE×Yn×Y zL) (λI=>(bQ I.1 (a_ .i64 (2+y2.1)) (lx (.str) I.b I.1 λz4=>(jn (α:=q?) (bj I.1 0 (iter (σ:=Int×q?) (λx6=>(bQ x6.1 (a_ .i64 (2+y2.1)) (lx (.str) x6.b x6.1 λz7=>(bV (bg (aj x6.v+aj ([pn (12,0,z7,[],([]:Y Xp),eM (0,0,[],([]:Y Xp)),([]:Y Sx),([]:Y Sx))])) 176) (cP ((cL x6.1),x6.2.1,x6.a,x6.b,x6.c,x6.e,x6.f,x6.i,x6.k,(x6.v++([pn (12,0,z7,[],([]:Y Xp),eM (0,0,[],([]:Y Xp)),([]:Y Sx),([]:Y Sx))])))))) (aH (bL x6.2)))) (1,(I.1,I.2.1.2),I.a,I.b,(z4,0),I.c,I.e,I.j,[[97],[98]],([]:Y Sx))) (aH ((I.1,I.2.1.2),I.a,I.b,(z4,0),I.c,I.e,I.j,[[97],[98]],([]:Y Sx)))) λL=>(ax (bF (3,L.c)) λy8=>(ax (sC ((2,(a_ .i64 (1+y8.1))),L.1,y8.2,L.e)) λy9=>(bV (((L.e.1==L.e.1)&&J)&&aA (aj L.e.2) (aj L.e.2)&&J) (bV (bg (aj L.o+aj y9.d) 176) (jn (α:=q?) (jn (α:=Bool×q?) (bj I.1 0 (ax (bF (3,y9.2.1)) λy12=>(aH ((decide ((y12.1:Int)=2)),y9.1,L.2.1,L.a,L.b,y12.2,y9.a,L.f,L.i,(L.o++y9.d)))) (aH (af,y9.1,L.2.1,L.a,L.b,y9.2.1,y9.a,L.f,L.i,(L.o++y9.d)))) λz=>(aJ z.1 (lx (.str) z.b 1 λz13=>(bV (bg (aj z.v+aj ([pn (13,0,z13,[],([]:Y Xp),eM (0,0,[],([]:Y Xp)),([]:Y Sx),([]:Y Sx))])) 176) (aH (z.2.1,z.a,z.b,z.c,z.e,z.f,z.i,z.k,(z.v++([pn (13,0,z13,[],([]:Y Xp),eM (0,0,[],([]:Y Xp)),([]:Y Sx),([]:Y Sx))])))))) (aH z.2))) λA=>(bV (bg (aj A.f+aj ([(A.b.1,A.b.2,A.n)])) 72) (cP ((cL I.1),A.1,A.2.1,A.a,A.c,A.e,(A.f++([(A.b.1,A.b.2,A.n)])))))))))))) (ax (ax (gi (I.a,I.j)) λy14=>(gO y14.1 0 (ax (uz ()) λy15=>(ax (tG 1) λy16=>(ax (j6 ([120],y16)) λy17=>(Z (y15,[([109,97,105,110],0,[[97],[98]],[eP y17])]))))) (Z (I.a,I.j)))) λr=>Z (bL r)))) (0,(0,20,af,af,af,af),y1,[[109,97,105,110],[116,49],[116,50],[116,51]],y2.2,(J,([]:Y ζ)),([]:Y zL)))))
def Ar (x:η):M FB:=
 (ax (qF x) λA=>(ax (sA A) λz=>(Z z.1)))
def xr (x:x!):M u!:=
 (ax (Ar x.1) λI=>(ax (tZ x.2) λA=>(ax (Gb (I,A)) λz=>(Z z.1))))
def o9 (x:Unit):M gk:=
 (iter (σ:=E?) (λx1=>(bQ x1.1 (aS (aj ([[109,97,105,110],[116,49],[116,50],[116,51]]))) (iter (σ:=E?) (λz=>(bQ z.1 6 (bV (bg (aj z.j+aj ([(x1.1,z.1,(a_ .i64 ((a_ .i64 ((a_ .i64 (10*x1.1))+z.1))+1)))])) 24) (cP ((cL z.1),z.2.1,z.a,z.b,z.c,z.e,(z.j++([(x1.1,z.1,(a_ .i64 ((a_ .i64 ((a_ .i64 (10*x1.1))+z.1))+1)))]))))) (aH (lP ((cL x1.1),z.2))))) (0,x1.2)) (aH x1.2))) (0,[([120],0,0,af,0),([121],0,0,af,1),([118],0,0,J,0),([113],0,2,af,0),([113],1,2,af,0)],[([109],af),([110],af),([114],J)],[([99],0)],[[102]],[[109,97,105,110],[116,49],[116,50],[116,51]],([]:Y π)))
def oG (x:L?):M η:=
 (iter (σ:=f?) (λx1=>(bQ x1.1 (aZ x.1.d) (jn (α:=η) (bJ hP x.1.d x1.1 λz=>(bj z.1 3 (bV (bg (aj x1.2+aj ([x1.1])) 8) (aH (x1.2++([x1.1])))) (aH x1.2))) λA=>(cP ((cL x1.1),A))) (aH x1.2))) (0,([]:η)))
def vx (x:Unit):M η:=
 (Z ([3,3,3,3,3,4,4,4,4,4,5,5,5,6,6,6,7,7,7,8,9,10,11,12,13,14,14,15,16,16,17,17,18,18,19,20,1,1,2,21,22,23,23]))
def qC (x:ν×u?):M K!:=
 (jn (bj x.1.1 3 (aH ((decide ((x.1.1:Int)=3)),x.2)) (aH ((decide ((x.1.1:Int)=4)),x.2))) λx1=>(aJ x1.1 (ax (bF (8,x1.2)) λy2=>(lx aN ([0,0,0,1,1,2,3,4]) y2.1 λz3=>(Z (z3,y2.2)))) (jn (bj x.1.1 6 (aH ((decide ((x.1.1:Int)=6)),x1.2)) (aH ((decide ((x.1.1:Int)=7)),x1.2))) λA=>(aJ A.1 (ax (bF (2,A.2)) λy5=>(Z y5)) (jn (bj x.1.1 8 (aH ((decide ((x.1.1:Int)=8)),A.2)) (bj x.1.1 9 (aH ((decide ((x.1.1:Int)=9)),A.2)) (bj x.1.1 10 (aH ((decide ((x.1.1:Int)=10)),A.2)) (aH ((decide ((x.1.1:Int)=11)),A.2))))) λz=>(aJ z.1 (Z (2,z.2)) (jn (bj x.1.1 16 (aH ((decide ((x.1.1:Int)=16)),z.2)) (bj x.1.1 17 (aH ((decide ((x.1.1:Int)=17)),z.2)) (bj x.1.1 18 (aH ((decide ((x.1.1:Int)=18)),z.2)) (bj x.1.1 19 (aH ((decide ((x.1.1:Int)=19)),z.2)) (bj x.1.1 22 (aH ((decide ((x.1.1:Int)=22)),z.2)) (aH ((decide ((x.1.1:Int)=23)),z.2))))))) λI=>(aJ I.1 (Z (0,I.2)) (jn (bj x.1.1 20 (aH ((decide ((x.1.1:Int)=20)),I.2)) (aH ((decide ((x.1.1:Int)=21)),I.2))) λL=>(aJ L.1 (ax (bF (3,L.2)) λy9=>(Z ((lw (a_ .i64 ((cL x.1.2)+y9.1)) 4),y9.2))) (Z ((-1),L.2))))))))))))
def sj (x:(iV×Int×Int)×u?):M K!:=
 (bj x.1.2.1 3 (bJ aN x.1.1.2.1 x.1.2.2 λz1=>(Z (z1,x.2))) (bj x.1.2.1 23 (bJ aN x.1.1.a 0 λz2=>(Z (z2,x.2))) (jn (bj x.1.2.1 4 (aH ((decide ((x.1.2.1:Int)=4)),x.2,x.1.1)) (aH ((decide ((x.1.2.1:Int)=22)),x.2,x.1.1))) λz=>(aJ z.1 (ax (bF (3,z.2.1)) λy4=>(Z y4)) (bj x.1.2.1 5 (ax (bF (2,z.2.1)) λy5=>(Z y5)) (bj x.1.2.1 18 (ax (oG z.2.2) λA=>(bQ 0 (aZ A) (ax (bF ((aZ A),z.2.1)) λI=>(bJ aN A I.1 λL=>(Z (L,I.2)))) (Z ((-1),z.2.1)))) (bj x.1.2.1 19 (ax (oG z.2.2) λy9=>(Z ((aZ y9),z.2.1))) (Z (0,z.2.1)))))))))
def iw (x:iE×η):M (η×iE×η):=
 (iter (σ:=Int×iE×N?) (λx1=>(bQ x1.1 (aZ x.2) (jn (α:=iE×N?) (lx aN x1.a x1.1 λA=>(jn (α:=Bool×iE×N?) (kw (aZ x1.a) (a_ .i64 (x1.1+3)) (ax (bF (2,x1.2.1)) λI=>(aH ((decide ((I.1:Int)=1)),I.2,x1.2.2))) (aH (af,x1.2))) λz=>(aJ z.1 (bV (bg (aj z.d+aj ([A])) 8) (aH (z.2.1,z.a,(z.d++([A]))))) (aH z.2)))) λL=>(cP ((cL x1.1),L))) (aH (x1.d,x1.2.1,x1.a)))) (0,x.1,x.2,([]:η)))
abbrev h?:=Int×Int×Int×Int×f?
abbrev F!:=iE×(η)×(η)×(η)×(η)×iV×gk×HB×Int×q!
def sq (x:(iV×nR×mV×(Y jT)×dl×dl×Y π)×iE×(η)×d!):M (lZ×iE×(η)×d!):=
 (ax (bF (4,x.2.1)) λL=>(ax (vx ()) λy2=>(ax (bF ((aZ y2),L.2)) λy3=>(bJ aN y2 y3.1 λz4=>(ax (bF (6,y3.2)) λy5=>(jn (α:=F!) (jn (α:=Bool×F!) (bj z4 1 (aH (J,y5.2,x.a,x.b,x.c,x.h,x.1.1,x.1.2,(0,0,0,0,0),L.1,z4,0,0,(a_ .i64 ((a_ .i64 (L.1*6))+y5.1)))) (aH ((decide ((z4:Int)=2)),y5.2,x.a,x.b,x.c,x.h,x.1.1,x.1.2,(0,0,0,0,0),L.1,z4,0,0,(a_ .i64 ((a_ .i64 (L.1*6))+y5.1))))) λx7=>(aJ x7.1 (aH (x7.2.1,x7.a,x7.b,x7.c,x7.e,x7.f,x7.i,x7.k,x7.l,x7.m,x7.s,x7.r,(-1))) (aH x7.2))) λI=>(ax (qC ((I.l,L.1),I.1)) λy8=>(ax (sj ((I.e,I.l,y8.1),y8.2)) λy9=>(jn (α:=iE×(η)×(η)×(η)×(η)×HB×h?) (jn (bj I.l 5 (aH (J,y9.2,I.2.1,I.a,I.b,I.c,I.i,I.k,I.l,y8.1,y9.1,I.t)) (bj I.l 3 (bJ kF I.f.1 y8.1 λz12=>(aH ((gI 0 z12.2.2.1),y9.2,I.2.1,I.a,I.b,I.c,I.i,I.k,I.l,y8.1,y9.1,I.t))) (bj I.l 4 (bJ kF I.f.1 y8.1 λz13=>(aH ((gI 0 z13.2.2.1),y9.2,I.2.1,I.a,I.b,I.c,I.i,I.k,I.l,y8.1,y9.1,I.t))) (aH (af,y9.2,I.2.1,I.a,I.b,I.c,I.i,I.k,I.l,y8.1,y9.1,I.t))))) λA=>(aJ A.1 (bj L.1 0 (ax (iw (A.2.1,A.a)) λy14=>(bV (aA (aj A.a) (aj y14.2.2)&&J) (aH (y14.2.1,y14.2.2,A.b,A.c,A.e,A.f,A.i,A.k,A.l,A.m,A.q,y14.1)))) (bj L.1 1 (ax (iw (A.2.1,A.b)) λy15=>(bV (aA (aj A.b) (aj y15.2.2)&&J) (aH (y15.2.1,A.a,y15.2.2,A.c,A.e,A.f,A.i,A.k,A.l,A.m,A.q,y15.1)))) (bj L.1 2 (ax (iw (A.2.1,A.c)) λy16=>(bV (aA (aj A.c) (aj y16.2.2)&&J) (aH (y16.2.1,A.a,A.b,y16.2.2,A.e,A.f,A.i,A.k,A.l,A.m,A.q,y16.1)))) (bj L.1 3 (ax (iw (A.2.1,A.e)) λy17=>(bV (aA (aj A.e) (aj y17.2.2)&&J) (aH (y17.2.1,A.a,A.b,A.c,y17.2.2,A.f,A.i,A.k,A.l,A.m,A.q,y17.1)))) U)))) (aH (A.2.1,A.a,A.b,A.c,A.e,A.f,A.i,A.k,A.l,A.m,A.q,([]:η))))) λx10=>(jn (α:=iE×(η)×(η)×(η)×(η)×HB×b!) (jn (bj x10.i 4 (aH (J,x10)) (aH ((decide ((x10.i:Int)=22)),x10))) λz=>(aJ z.1 (bj L.1 0 (ax (iw (z.2.1,z.a)) λy20=>(bV (aA (aj z.a) (aj y20.2.2)&&J) (aH (y20.2.1,y20.2.2,z.b,z.c,z.e,z.f,z.i,z.k,z.l,z.m,z.s,z.t,y20.1)))) (bj L.1 1 (ax (iw (z.2.1,z.b)) λy21=>(bV (aA (aj z.b) (aj y21.2.2)&&J) (aH (y21.2.1,z.a,y21.2.2,z.c,z.e,z.f,z.i,z.k,z.l,z.m,z.s,z.t,y21.1)))) (bj L.1 2 (ax (iw (z.2.1,z.c)) λy22=>(bV (aA (aj z.c) (aj y22.2.2)&&J) (aH (y22.2.1,z.a,z.b,y22.2.2,z.e,z.f,z.i,z.k,z.l,z.m,z.s,z.t,y22.1)))) (bj L.1 3 (ax (iw (z.2.1,z.e)) λy23=>(bV (aA (aj z.e) (aj y23.2.2)&&J) (aH (y23.2.1,z.a,z.b,z.c,y23.2.2,z.f,z.i,z.k,z.l,z.m,z.s,z.t,y23.1)))) U)))) (aH (z.2.1,z.a,z.b,z.c,z.e,z.f,z.i,z.k,z.l,z.m,z.s,z.t,([]:η))))) λx18=>(Z (x18.j,x18.1,x18.2.1,x18.a,x18.b,x18.c))))))))))))
abbrev k!:=iE×iV×gk×(η)×d!
abbrev Q?:=iE×iV×gk×(Y lZ)×(η)×d!
abbrev T?:=Bool×k!
def ui (x:(iV×gk×Int×Bool)×u?):M ((Y lZ)×u?):=
 (bV (cX 0 (aZ x.1.2.1.c)&&cX (aZ x.1.2.1.c) (aZ x.1.2.1.c)&&bg (aO (aZ x.1.2.1.c)) 24&&decide (((aZ x.1.2.1.c):Int)=4)) (jn (α:=k!) (bQ 0 (aS 4) (jn (α:=k!) (jn (α:=T?) (aJ x.1.d (bJ aN x.1.1.d 0 λz4=>(bQ 1 z4 (ax (bF (3,x.2)) λy5=>(aH ((decide ((y5.1:Int)=2)),y5.2,x.1.1,x.1.2.1,([]:η),([]:η),([]:η),([]:η)))) (aH (af,x.2,x.1.1,x.1.2.1,([]:η),([]:η),([]:η),([]:η))))) (aH (af,x.2,x.1.1,x.1.2.1,([]:η),([]:η),([]:η),([]:η)))) λx3=>(aJ x3.1 (bV (bg (aj x3.c+aj ([1])) 8) (aH (x3.2.1,x3.a,x3.b,(x3.c++([1])),x3.h))) (aH x3.2))) λx2=>(bQ 1 (aS 4) (jn (α:=k!) (jn (α:=T?) (aJ x.1.d (bJ aN x2.2.1.d 1 λz8=>(bQ 1 z8 (ax (bF (3,x2.1)) λy9=>(aH ((decide ((y9.1:Int)=2)),y9.2,x2.2))) (aH (af,x2)))) (aH (af,x2))) λx7=>(aJ x7.1 (bV (bg (aj x7.e+aj ([1])) 8) (aH (x7.2.1,x7.a,x7.b,x7.c,(x7.e++([1])),x7.j))) (aH x7.2))) λx6=>(bQ 2 (aS 4) (jn (α:=k!) (jn (α:=T?) (aJ x.1.d (bJ aN x6.2.1.d 2 λz12=>(bQ 1 z12 (ax (bF (3,x6.1)) λy13=>(aH ((decide ((y13.1:Int)=2)),y13.2,x6.2))) (aH (af,x6)))) (aH (af,x6))) λx11=>(aJ x11.1 (bV (bg (aj x11.f+aj ([1])) 8) (aH (x11.2.1,x11.a,x11.b,x11.c,x11.e,(x11.f++([1])),x11.n))) (aH x11.2))) λx10=>(bQ 3 (aS 4) (jn (α:=k!) (jn (α:=T?) (aJ x.1.d (bJ aN x10.2.1.d 3 λz16=>(bQ 1 z16 (ax (bF (3,x10.1)) λy17=>(aH ((decide ((y17.1:Int)=2)),y17.2,x10.2))) (aH (af,x10)))) (aH (af,x10))) λL=>(aJ L.1 (bV (bg (aj L.n+aj ([1])) 8) (aH (L.2.1,L.a,L.b,L.c,L.e,L.f,(L.n++([1]))))) (aH L.2))) λx14=>(bQ 4 (aS 4) (jn (α:=k!) (jn (α:=T?) (aJ x.1.d (bJ aN x14.2.1.d 4 λz20=>(bQ 1 z20 (ax (bF (3,x14.1)) λy21=>(aH ((decide ((y21.1:Int)=2)),y21.2,x14.2))) (aH (af,x14)))) (aH (af,x14))) λx19=>(aJ x19.1 U (aH x19.2))) λx18=>U) (aH x14))) (aH x10))) (aH x6))) (aH x2))) (aH (x.2,x.1.1,x.1.2.1,([]:η),([]:η),([]:η),([]:η)))) λx1=>(iter (σ:=Q?) (λx22=>(jn (bQ (aZ x22.b) x.1.a (aH ((gI x22.1.2 (aZ x22.1.1)),x22)) (aH (af,x22))) λA=>(aJ A.1 (jn (α:=Q?) (ax (sq ((A.a,A.b),A.2.1,A.h)) λI=>(bV (aA (aj A.o) (aj I.h)&&(aA (aj A.i) (aj I.c)&&(aA (aj A.f) (aj I.b)&&(aA (aj A.e) (aj I.a)&&J)))) (ax (kU (A.b,A.a,I.1)) λy26=>(aJ (!y26.2) (aH (I.2.1,A.a,A.b,A.c,I.2.2)) (jn (α:=iE×iV×gk×(Y lZ)×lZ×iV×(η)×d!) (jn (bj I.1.2.1 3 (aH (J,I.2.1,A.a,A.b,A.c,I.1,y26.1,I.2.2)) (aH ((decide ((I.1.2.1:Int)=23)),I.2.1,A.a,A.b,A.c,I.1,y26.1,I.2.2))) λz=>(aJ z.1 (bj z.e.1 0 (bJ aN z.a.d 0 λz29=>(bV (bg (aj z.i+aj ([z29])) 8) (aH (z.2.1,z.a,z.b,z.c,(0,z.e.2),z.f,(z.i++([z29])),z.o)))) (bj z.e.1 1 (bJ aN z.a.d 1 λz30=>(bV (bg (aj z.k+aj ([z30])) 8) (aH (z.2.1,z.a,z.b,z.c,(1,z.e.2),z.f,z.i,(z.k++([z30])),z.v)))) (bj z.e.1 2 (bJ aN z.a.d 2 λz31=>(bV (bg (aj z.l+aj ([z31])) 8) (aH (z.2.1,z.a,z.b,z.c,(2,z.e.2),z.f,z.i,z.k,(z.l++([z31])),z.p)))) (bj z.e.1 3 (bJ aN z.a.d 3 λz32=>(bV (bg (aj z.p+aj ([z32])) 8) (aH (z.2.1,z.a,z.b,z.c,(3,z.e.2),z.f,z.i,z.k,z.l,(z.p++([z32])))))) U)))) (aH z.2))) λx27=>(bV (bg (aj x27.b+aj ([x27.c])) 88) (aH (x27.1,x27.e,x27.a,(x27.b++([x27.c])),x27.j)))))))) λx24=>(cP x24)) (aH (A.c,A.2.1))))) (x1.1,x1.2.1,x1.a,([]:Y lZ),x1.d))))
abbrev W!:=iE×gk×iV×(Y lZ)×Y lZ
def sr (x:n!):M u!:=
 (jn (bQ 600 (aZ x.1) (bV (cX 0 600&&cX 600 (aj x.1)) (aH (dy (aO 600) x.1))) (aH x.1)) λx1=>(ax (o9 ()) λy2=>(ax (mI y2) λy3=>(ax (bF (3,x1,0)) λy4=>(iter (σ:=Int×iE×gk×iV×Y lZ) (λA=>(kw A.1 (a_ .i64 (1+y4.1)) (bV (bg (aj A.g+aj ([(0,20,A.1,0,0,([]:η),([]:η)),(A.1,1,(-1),0,(-1),([]:η),([]:η))])) 88) (cP ((cL A.1),A.2.1,A.a,A.b,(A.g++([(0,20,A.1,0,0,([]:η),([]:η)),(A.1,1,(-1),0,(-1),([]:η),([]:η))]))))) (ax (iter (σ:=Int×W!) (λz=>(bQ z.1 (aZ A.g) (jn (α:=W!) (lx gm z.c z.1 λL=>(ax (kU (z.a,z.b,L)) λy9=>(aJ y9.2 (bV (bg (aj z.h+aj ([L])) 88) (aH (z.2.1,z.a,y9.1,z.c,(z.h++([L]))))) (aH z.2)))) λx7=>(cP ((cL z.1),x7))) (ax (ax (ui ((z.b,z.a,(BI (kA x.2 0) 60),af),z.2.1)) λI=>(bV (bg (aj z.h+aj I.1) 88) (ax (oI (z.a,(z.h++I.1))) λy11=>(gO y11.2 0 (ax (o9 ()) λy12=>(Z (y12,([]:Y lZ)))) (Z (z.a,(z.h++I.1))))))) λr=>Z (bL r)))) (0,A.2.1,A.a,A.b,A.g,([]:Y lZ))) λr=>Z (bL r)))) (1,y4.2,y2,y3,[(0,1,(-1),0,(-1),([]:η),([]:η))]))))))
def o_ (x:(η×(η)×η)×Int):M u!:=
 (bQ 0 (aZ x.1.2.2) (ax (sr (x.1.2.2,x.2)) λA=>(Z A)) (bV (cX 0 (BI (aZ x.1.2.1) x.2)&&cX (BI (aZ x.1.2.1) x.2) (aj x.1.2.1)) (ax (xr (x.1.1,(dy (aO (BI (aZ x.1.2.1) x.2)) x.1.2.1))) λz=>(Z z))))
abbrev Kd0:Ty:=(.st (.pr lO (.pr lO (.pr lO (.pr lO (.pr lO (.pr lO (.pr (.sl aN) (.pr lO (.sl aN))))))))))
abbrev Kd1:Ty:=(.st (.pr .bool .bool))
abbrev t?:=(Y η)×(Y η)×(Y η)×(Y η)×(Y η)×(η)×(Y η)×η
abbrev Yd0:=((Y η)×t?)
abbrev e!:=(Y η)×(Y η)×(Y η)×(Y η)×(Y η)×(Y η)×(Y η)×(η)×η
abbrev Yd1:=(η×e!)
abbrev Yd2:=(Int×D!)
abbrev Yd3:=(ν×b!)
abbrev Yd4:=(gk×b!)
abbrev Yd5:=(Int×h!)
def Q4 {α:Type} [DecidableEq α] (a b:α) (r:M R):M R:=if a=b then r else U
def Vh {α:Type} [DecidableEq α] (a b:α) (r:M R):Q4 a b r=same a b r:=by unfold Q4 same;by_cases h:a=b<;>simp[h]
def Vg {α:Type} [DecidableEq α] {a b:α} (h:a=b) (r:M R):Q4 a b r=r:=by unfold Q4;rw[aC h]
def kl (x:n!):M (Int):=
 (jn (bQ x.2 0 (aH J) (aH (cX (aZ x.1) x.2))) λx1=>(aJ x1 (Z 0) (wT x.2 x.1 (Z (aI aN x.1 x.2)))))
def xD (it:D6) (x:x!):M η:=
 (bV (cX 0 (kA (aZ x.1) (aZ x.2))&&cX (kA (aZ x.1) (aZ x.2)) (kA (aZ x.1) (aZ x.2))&&bg (aO (kA (aZ x.1) (aZ x.2))) 8) (it f? _ (λx1=>(bQ x1.1 (aS (aj (aE (aO (kA (aZ x.1) (aZ x.2))) (0:Int)))) (ax (kl (x.1,x1.1)) λA=>(ax (kl (x.2,x1.1)) λz=>(ck (ef x1.1 (aj x1.2)) (cP ((cL x1.1),(ca x1.2 x1.1 (kA A z))))))) (aH x1.2))) (0,(aE (aO (kA (aZ x.1) (aZ x.2))) (0:Int)))))
def B9 (x:x!):M η:=xD @iter x
def j_ (x:x!):M η:=xD @hZ x
def Tb (x:n!):M (Int):=
 (jn (bQ x.2 0 (aH J) (aH (cX (aZ x.1) x.2))) λx1=>(aJ x1 (Z 0) (wT x.2 x.1 (Z (aI aN x.1 x.2)))))
def Th (x:η):M η:=
 (aJ (aA (aj x) 0) (I7 (Z ([]:η)) (bV (bg (aj ([]:η)+aj x) 8) (Z (([]:η)++x)))) (bV (bg (aj ([]:η)+aj x) 8) (Z (([]:η)++x))))
def At (x:η):M η:=chk (bg (aj x) 8) λ_=>Z x
abbrev X?:=Int×Y η
def AD (it:D6) (x:Y η):M (Y η):=
 (bV (cX 0 (aZ x)&&cX (aZ x) (aZ x)&&bg (aO (aZ x)) 24) (it X? _ (λx1=>(bQ x1.1 (aZ x) (wT x1.1 x (ax (At (aI ((.sl aN)) x x1.1)) λz=>(ck (ef x1.1 (aj x1.2)) (cP ((cL x1.1),(ca x1.2 x1.1 z)))))) (aH x1.2))) (0,(aE (aO (aZ x)) ([]:η)))))
def E7 (x:Y η):M (Y η):=AD @iter x
def iK (x:Y η):M (Y η):=AD @hZ x
def MJ (x:η):M η:=
 (aJ (aA (aj x) 0) (I7 (Z ([]:η)) (bV (bg (aj ([]:η)+aj x) 8) (Z (([]:η)++x)))) (bV (bg (aj ([]:η)+aj x) 8) (Z (([]:η)++x))))
def qQ (x:η):M η:=chk (bg (aj x) 8) λ_=>Z x
abbrev d?:=(Y η)×(Y η)×(Y η)×(Y η)×(Y η)×(Y η)×(Y η)×η
def tH (x:(Y η)×t?):M (η×d?):=
 (ax (iK x.1) λy1=>(ax (iK x.2.1) λy2=>(ax (iK x.a) λy3=>(ax (iK x.b) λy4=>(ax (iK x.c) λy5=>(ax (iK x.e) λL=>(ax (qQ x.f) λI=>(ax (iK x.i) λA=>(ax (qQ x.o) λz=>(Z (I,y1,y2,y3,y4,y5,L,A,z)))))))))))
def vN (x:X?):M (η×Y η):=
 (jn (bQ x.1 0 (aH (J,x.2)) (aH ((cX (aZ x.2) x.1),x.2))) λx1=>(aJ x1.1 (Z (([]:η),x1.2)) (ck (ef x.1 (aj x1.2)) (Z ((aI ((.sl aN)) x1.2 x.1),x1.2)))))
def tI (x:lZ×(η)×gk×d?):M ((Y η)×lZ×(η)×gk×d?):=
 (bj x.1.2.1 1 (ck (ef x.1.1 (aj x.c)) (Z ([(aI ((.sl aN)) x.c x.1.1)],(x.1.1,x.1.2.1,x.1.a,x.1.b,x.1.c,x.1.e,x.1.j),x.2.1,(x.a.1,x.a.2.1,x.a.a,x.a.b,x.a.c,x.a.h),x.b,x.c,x.e,x.f,x.i,x.k,x.l,x.p))) (bj x.1.2.1 21 (ck (ef x.1.a (aj x.b)) (Z ([(aI ((.sl aN)) x.b x.1.a)],(x.1.1,x.1.2.1,x.1.a,x.1.b,x.1.c,x.1.e,x.1.j),x.2.1,(x.a.1,x.a.2.1,x.a.a,x.a.b,x.a.c,x.a.h),x.b,x.c,x.e,x.f,x.i,x.k,x.l,x.p))) (jn (bj x.1.2.1 6 (aH ((decide ((x.1.2.1:Int)=6)),(x.1.1,x.1.2.1,x.1.a,x.1.b,x.1.c,x.1.e,x.1.j),x.2.1,(x.a.1,x.a.2.1,x.a.a,x.a.b,x.a.c,x.a.h),x.b,x.c,x.e,x.f,x.i,x.k,x.l,x.p)) (aH ((decide ((x.1.2.1:Int)=10)),(x.1.1,x.1.2.1,x.1.a,x.1.b,x.1.c,x.1.e,x.1.j),x.2.1,(x.a.1,x.a.2.1,x.a.a,x.a.b,x.a.c,x.a.h),x.b,x.c,x.e,x.f,x.i,x.k,x.l,x.p))) λx1=>(aJ x1.1 (ck (ef x1.2.1.a (aj x1.f)) (ck (ef x1.2.1.a (aj x1.i)) (Z ([(aI ((.sl aN)) x1.f x1.2.1.a),(aI ((.sl aN)) x1.i x1.2.1.a)],(x1.2.1.1,x1.2.1.2.1,x1.2.1.a,x1.2.1.b,x1.2.1.c,x1.2.1.e,x1.2.1.j),x1.a,(x1.b.1,x1.b.2.1,x1.b.a,x1.b.b,x1.b.c,x1.b.h),x1.c,x1.e,x1.f,x1.i,x1.k,x1.l,x1.m,x1.q)))) (bj x.1.2.1 8 (ck (ef x1.2.1.a (aj x1.f)) (Z ([(aI ((.sl aN)) x1.f x1.2.1.a)],(x1.2.1.1,x1.2.1.2.1,x1.2.1.a,x1.2.1.b,x1.2.1.c,x1.2.1.e,x1.2.1.j),x1.a,(x1.b.1,x1.b.2.1,x1.b.a,x1.b.b,x1.b.c,x1.b.h),x1.c,x1.e,x1.f,x1.i,x1.k,x1.l,x1.m,x1.q))) (bj x.1.2.1 17 (wT x1.2.1.a x1.b.a (ax (vN ((aI itK x1.b.a x1.2.1.a).2,x1.f)) λA=>(bV (aA (aj x1.f) (aj A.2)&&J) (ax (vN ((aI itK x1.b.a x1.2.1.a).2,x1.i)) λz=>(bV (aA (aj x1.i) (aj z.2)&&J) (ck (ef x1.2.1.1 (aj x1.m)) (Z ([A.1,z.1,(aI ((.sl aN)) x1.m x1.2.1.1)],(x1.2.1.1,x1.2.1.2.1,x1.2.1.a,x1.2.1.b,x1.2.1.c,x1.2.1.e,x1.2.1.j),x1.a,(x1.b.1,x1.b.2.1,x1.b.a,x1.b.b,x1.b.c,x1.b.h),x1.c,x1.e,A.2,z.2,x1.k,x1.l,x1.m,x1.q)))))))) (bj x.1.2.1 3 (ck (ef x1.2.1.a (aj x1.k)) (Z ([(aI ((.sl aN)) x1.k x1.2.1.a)],(x1.2.1.1,x1.2.1.2.1,x1.2.1.a,x1.2.1.b,x1.2.1.c,x1.2.1.e,x1.2.1.j),x1.a,(x1.b.1,x1.b.2.1,x1.b.a,x1.b.b,x1.b.c,x1.b.h),x1.c,x1.e,x1.f,x1.i,x1.k,x1.l,x1.m,x1.q))) (bj x.1.2.1 23 (ck (ef x1.2.1.a (aj x1.l)) (Z ([(aI ((.sl aN)) x1.l x1.2.1.a)],(x1.2.1.1,x1.2.1.2.1,x1.2.1.a,x1.2.1.b,x1.2.1.c,x1.2.1.e,x1.2.1.j),x1.a,(x1.b.1,x1.b.2.1,x1.b.a,x1.b.b,x1.b.c,x1.b.h),x1.c,x1.e,x1.f,x1.i,x1.k,x1.l,x1.m,x1.q))) (bj x.1.2.1 12 (Z ([x1.a],(x1.2.1.1,x1.2.1.2.1,x1.2.1.a,x1.2.1.b,x1.2.1.c,x1.2.1.e,x1.2.1.j),x1.a,(x1.b.1,x1.b.2.1,x1.b.a,x1.b.b,x1.b.c,x1.b.h),x1.c,x1.e,x1.f,x1.i,x1.k,x1.l,x1.m,x1.q)) (Z (([]:Y η),(x1.2.1.1,x1.2.1.2.1,x1.2.1.a,x1.2.1.b,x1.2.1.c,x1.2.1.e,x1.2.1.j),x1.a,(x1.b.1,x1.b.2.1,x1.b.a,x1.b.b,x1.b.c,x1.b.h),x1.c,x1.e,x1.f,x1.i,x1.k,x1.l,x1.m,x1.q)))))))))))
def Dn (it:D6) (x:b?):M Yd0:=
 (ck (cX 0 (aZ x.c)&&cX (aZ x.c) (aZ x.c)&&bg (aO (aZ x.c)) 24) (ck (cX 0 (aZ x.2.1)&&cX (aZ x.2.1) (aZ x.2.1)&&bg (aO (aZ x.2.1)) 24) (bV (cX 0 (aZ x.1)&&cX (aZ x.1) (aZ x.1)&&bg (aO (aZ x.1)) 24) (bV (cX 0 (aZ x.b)&&cX (aZ x.b) (aZ x.b)&&bg (aO (aZ x.b)) 24) (bV (cX 0 (aZ x.c)&&cX (aZ x.c) (aZ x.c)&&bg (aO (aZ x.c)) 24) (bV (cX 0 (aZ x.c)&&cX (aZ x.c) (aZ x.c)&&bg (aO (aZ x.c)) 8) (it (Int×d?) _ (λx1=>(bQ x1.1 (aS (aj (aE (aO (aZ x.c)) (0:Int)))) (ck (ef x1.1 (aj x1.o)) (cP ((cL x1.1),x1.2.1,x1.a,x1.b,x1.c,x1.e,x1.f,x1.i,(ca x1.o x1.1 (-1))))) (aH (x1.2.1,x1.a,x1.b,x1.c,x1.e,x1.f,([]:η),x1.i,x1.o)))) (0,(aE (aO (aZ x.c)) ([]:η)),(aE (aO (aZ x.c)) ([]:η)),(aE (aO (aZ x.2.1)) ([]:η)),(aE (aO (aZ x.2.1)) ([]:η)),(aE (aO (aZ x.1)) ([]:η)),(aE (aO (aZ x.b)) ([]:η)),(aE (aO (aZ x.c)) ([]:η)),(aE (aO (aZ x.c)) (0:Int))))))))))
def Ig (x:b?):M Yd0:=Dn @iter x
def pq (x:b?):M Yd0:=Dn @hZ x
def rJ (x:n!):M η:=
 (jn (kw 0 x.2 (aH (gI x.2 4)) (aH af)) λx1=>(jn (aJ x1 (aH (kA (aZ x.1) (cL x.2))) (aH (aZ x.1))) λz=>(bV (cX 0 z&&cX z z&&bg (aO z) 8) (jn (jn (aJ x1 (ck (ef x.2 (aj (YO (aE (aO z) (0:Int)) x.1))) (aH ((gI (aI aN (YO (aE (aO z) (0:Int)) x.1) x.2) 9223372036854775807),(YO (aE (aO z) (0:Int)) x.1)))) (aH (af,(YO (aE (aO z) (0:Int)) x.1)))) λA=>(aJ A.1 (ck (ef x.2 (aj A.2)) (ck (ef x.2 (aj A.2)) (aH (ca A.2 x.2 (a_ .i64 ((aI aN A.2 x.2)+1)))))) (aH A.2))) λI=>(Z I)))))
def yO (x:η):M x!:=
 (bV (bg (aj ([]:η)+aj x) 8) (Z ((([]:η)++x),x)))
def xt (x:η):M η:=ax (yO x) λy=>Q4 y.2 x (Z y.1)
def LS (it:D6) (x:x!):M x!:=
 (bV (cX 0 (kA (aZ x.1) (aZ x.2))&&cX (kA (aZ x.1) (aZ x.2)) (kA (aZ x.1) (aZ x.2))&&bg (aO (kA (aZ x.1) (aZ x.2))) 8) (it (Int×N?) _ (λx1=>(bQ x1.1 (aS (aj (aE (aO (kA (aZ x.1) (aZ x.2))) (0:Int)))) (ax (kl (x.1,x1.1)) λA=>(ax (kl (x1.2.1,x1.1)) λz=>(ck (ef x1.1 (aj x1.2.2)) (cP ((cL x1.1),x1.2.1,(ca x1.2.2 x1.1 (kA A z))))))) (aH (x1.2.2,x1.2.1)))) (0,x.2,(aE (aO (kA (aZ x.1) (aZ x.2))) (0:Int)))))
def S_ (x:x!):M x!:=LS @iter x
def vB (x:x!):M x!:=LS @hZ x
def Fe (x:x!):M η:=ax (vB x) λy=>Q4 y.2 x.2 (Z y.1)
def mK (x:Int×(Y η)×η):M ((Y η)×η):=
 (jn (kw 0 x.1 (aH ((gI x.1 (aZ x.2.1)),x.2.1,x.2.2)) (aH (af,x.2.1,x.2.2))) λx1=>(aJ x1.1 (ck (ef x.1 (aj x1.2.1)) (ax (Fe ((aI ((.sl aN)) x1.2.1 x.1),x1.2.2)) λz=>(ck (ef x.1 (aj x1.2.1)) (Z ((ca x1.2.1 x.1 z),x1.2.2))))) (Z (x1.2.1,x1.2.2))))
abbrev U!:=(η)×e!
def yL (x:Int×U!):M Yd1:=
 (ax (xt x.p) λz=>(ck (ef x.1 (aj x.k)) (ck (ef x.1 (aj x.l)) (Z (x.2.1,x.a,x.b,x.c,x.e,x.f,x.i,(ca x.k x.1 z),(ca x.l x.1 (-1)),x.p)))))
def Dl (it:D6) (x:Yd4×U!):M Yd1:=
 (ax (xt x.p) λy1=>(ck (ef x.1.2.1 (aj x.a)) (jn (α:=U!) (bj x.1.a 20 (ax (xt x.p) λy3=>(ck (ef x.1.b (aj x.b)) (aH (x.2.1,(ca x.a x.1.2.1 y1),(ca x.b x.1.b y3),x.c,x.e,x.f,x.i,x.k,x.l,x.p)))) (jn (bj x.1.a 7 (aH ((decide ((x.1.a:Int)=7)),x.2.1,(ca x.a x.1.2.1 y1),x.b,x.c,x.e,x.f,x.i,x.k,x.l,x.p,(x.1.1.1,x.1.1.2.1,x.1.1.a,x.1.1.b,x.1.1.c,x.1.1.h),x.1.2.1,x.1.a,x.1.b,x.1.c,x.1.e,x.1.f,x.1.n)) (aH ((decide ((x.1.a:Int)=11)),x.2.1,(ca x.a x.1.2.1 y1),x.b,x.c,x.e,x.f,x.i,x.k,x.l,x.p,(x.1.1.1,x.1.1.2.1,x.1.1.a,x.1.1.b,x.1.1.c,x.1.1.h),x.1.2.1,x.1.a,x.1.b,x.1.c,x.1.e,x.1.f,x.1.n))) λz=>(aJ z.1 (ax (mK (z.u,z.c,z.m)) λy5=>(bV (aA (aj z.m) (aj y5.2)&&(aA (aj z.c) (aj y5.1)&&J)) (aH (z.2.1,z.a,z.b,y5.1,z.e,z.f,z.i,z.k,z.l,y5.2)))) (bj x.1.a 9 (ax (mK (z.u,z.e,z.m)) λy6=>(bV (aA (aj z.m) (aj y6.2)&&(aA (aj z.e) (aj y6.1)&&J)) (aH (z.2.1,z.a,z.b,z.c,y6.1,z.f,z.i,z.k,z.l,y6.2)))) (bj x.1.a 16 (ck (ef z.r (aj z.l)) (wT z.u z.s.a (ax (mK ((aI itK z.s.a z.u).2,z.c,z.m)) λy7=>(bV (aA (aj z.m) (aj y7.2)&&(aA (aj z.c) (aj y7.1)&&J)) (aH (z.2.1,z.a,z.b,y7.1,z.e,z.f,z.i,z.k,(ca z.l z.r z.u),y7.2)))))) (bj x.1.a 4 (wT z.u z.s.1 (aJ (((((aI kF z.s.1 z.u).2).2).2).1) (ax (mK (z.u,z.f,z.m)) λy8=>(bV (aA (aj z.m) (aj y8.2)&&(aA (aj z.f) (aj y8.1)&&J)) (aH (z.2.1,z.a,z.b,z.c,z.e,y8.1,z.i,z.k,z.l,y8.2)))) (aH (z.2.1,z.a,z.b,z.c,z.e,z.f,z.i,z.k,z.l,z.m)))) (bj x.1.a 22 (ax (mK (z.u,z.i,z.m)) λy9=>(bV (aA (aj z.m) (aj y9.2)&&(aA (aj z.i) (aj y9.1)&&J)) (aH (z.2.1,z.a,z.b,z.c,z.e,z.f,y9.1,z.k,z.l,y9.2)))) (bj x.1.a 13 (ax (Fe (z.2.1,z.m)) λy10=>(aH (y10,z.a,z.b,z.c,z.e,z.f,z.i,z.k,z.l,z.m))) (bj x.1.a 18 (jn (kw 0 z.w (aH ((gI z.w (aZ z.k)),z.2.1,z.a,z.b,z.c,z.e,z.f,z.i,z.k,z.l,z.m,z.r,z.y,z.u,z.w,z.z,z.B,z.C)) (aH (af,z.2.1,z.a,z.b,z.c,z.e,z.f,z.i,z.k,z.l,z.m,z.r,z.y,z.u,z.w,z.z,z.B,z.C))) λI=>(aJ I.1 (ax (yL (I.u,I.2.1,I.a,I.b,I.c,I.e,I.f,I.i,I.k,I.l,I.m)) λy12=>(bV (aA (aj I.m) (aj y12.v)&&(aA (aj I.l) (aj y12.k)&&(aA (aj I.k) (aj y12.i)&&(aA (aj I.i) (aj y12.f)&&(aA (aj I.f) (aj y12.e)&&(aA (aj I.e) (aj y12.c)&&(aA (aj I.c) (aj y12.b)&&(aA (aj I.b) (aj y12.a)&&(aA (aj I.a) (aj y12.2.1)&&J))))))))) (aH (y12.1,y12.2.1,y12.a,y12.b,y12.c,y12.e,y12.f,y12.i,y12.k,y12.v)))) (aH (I.2.1,I.a,I.b,I.c,I.e,I.f,I.i,I.k,I.l,I.m)))) (bj x.1.a 19 (it (Int×(η)×(Y η)×(Y η)×(Y η)×(Y η)×(Y η)×(Y η)×(Y η)×(η)×(η)×b!) _ (λA=>(bQ A.1 (aZ z.l) (jn (ck (ef A.1 (aj A.l)) (bj (aI aN A.l A.1) A.y (ax (yL (A.1,A.2.1,A.a,A.b,A.c,A.e,A.f,A.i,A.k,A.l,A.m)) λL=>(bV (aA (aj A.m) (aj L.v)&&(aA (aj A.l) (aj L.k)&&(aA (aj A.k) (aj L.i)&&(aA (aj A.i) (aj L.f)&&(aA (aj A.f) (aj L.e)&&(aA (aj A.e) (aj L.c)&&(aA (aj A.c) (aj L.b)&&(aA (aj A.b) (aj L.a)&&(aA (aj A.a) (aj L.2.1)&&J))))))))) (aH (L.1,L.2.1,L.a,L.b,L.c,L.e,L.f,L.i,L.k,L.v,A.s,A.r,A.y,A.u,A.w,A.z,A.E)))) (aH (A.2.1,A.a,A.b,A.c,A.e,A.f,A.i,A.k,A.l,A.m,A.s,A.r,A.y,A.u,A.w,A.z,A.E)))) λx14=>(cP ((cL A.1),x14.1,x14.2.1,x14.a,x14.b,x14.c,x14.e,x14.f,x14.i,x14.k,x14.l,x14.m,x14.s,x14.r,x14.y,x14.u,x14.w,x14.F))) (aH (bL (A.2.1,A.a,A.b,A.c,A.e,A.f,A.i,A.k,A.l,A.m))))) (0,z.2.1,z.a,z.b,z.c,z.e,z.f,z.i,z.k,z.l,z.m,z.r,z.y,z.u,z.w,z.z,z.B,z.C)) (aH (z.2.1,z.a,z.b,z.c,z.e,z.f,z.i,z.k,z.l,z.m)))))))))))) λx2=>(Z (x2.1,x2.2.1,x2.a,x2.b,x2.c,x2.e,x2.f,x2.i,x2.k,x2.v)))))
def Ie (x:Yd4×U!):M Yd1:=Dl @iter x
def rG (x:Yd4×U!):M Yd1:=Dl @hZ x
abbrev F?:=gk×Yd0×b!
abbrev R?:=Int×gk×lZ×(η)×(η)×d?
def Gz (it:D6) (x:F?):M (Yd0×η):=
 (ax (tH (x.2.1.1,x.2.1.2.1,x.2.1.a,x.2.1.b,x.2.1.c,x.2.1.e,x.2.1.f,x.2.1.i,x.2.1.o)) λL=>(ck (ef x.a (aj L.2.1)) (ax (tI ((x.a,x.b,x.c,x.e,x.f,x.i,x.o),L.1,(x.1.1,x.1.2.1,x.1.a,x.1.b,x.1.c,x.1.h),L.2.1,L.a,L.b,L.c,L.e,L.f,L.i,L.o)) λA=>(bV (aA (aj L.o) (aj A.q)&&(aA (aj L.i) (aj A.m)&&(aA (aj L.f) (aj A.l)&&(aA (aj L.e) (aj A.k)&&(aA (aj L.c) (aj A.i)&&(aA (aj L.b) (aj A.f)&&(aA (aj L.a) (aj A.e)&&(aA (aj L.2.1) (aj A.c)&&J)))))))) (it R? _ (λz=>(bQ z.1 (aZ A.1) (wT z.1 A.1 (ax (j_ (z.c,(aI ((.sl aN)) A.1 z.1))) λy4=>(cP ((cL z.1),(z.2.1.1,z.2.1.2.1,z.2.1.a,z.2.1.b,z.2.1.c,z.2.1.h),(z.a.1,z.a.2.1,z.a.a,z.a.b,z.a.c,z.a.e,z.a.j),z.b,y4,z.e,z.f,z.i,z.k,z.l,z.m,z.s,z.t)))) (ax (ax (rJ (z.c,z.a.1)) λy5=>(ax (rG (((z.2.1.1,z.2.1.2.1,z.2.1.a,z.2.1.b,z.2.1.c,z.2.1.h),z.a.1,z.a.2.1,z.a.a,z.a.b,z.a.c,z.a.e,z.a.j),z.b,z.e,z.f,z.i,z.k,z.l,z.m,z.s,z.t,y5)) λI=>(bV (aA (aj y5) (aj I.v)&&(aA (aj z.t) (aj I.k)&&(aA (aj z.s) (aj I.i)&&(aA (aj z.m) (aj I.f)&&(aA (aj z.l) (aj I.e)&&(aA (aj z.k) (aj I.c)&&(aA (aj z.i) (aj I.b)&&(aA (aj z.f) (aj I.a)&&(aA (aj z.e) (aj I.2.1)&&J))))))))) (Z ((I.2.1,I.a,I.b,I.c,I.e,I.f,I.1,I.i,I.k),I.v))))) λr=>Z (bL r)))) (0,(A.b.1,A.b.2.1,A.b.a,A.b.b,A.b.c,A.b.h),(A.2.1.1,A.2.1.2.1,A.2.1.a,A.2.1.b,A.2.1.c,A.2.1.e,A.2.1.j),A.a,(aI ((.sl aN)) L.2.1 x.a),A.c,A.e,A.f,A.i,A.k,A.l,A.m,A.q))))))
def MC (x:F?):M (Yd0×η):=Gz @iter x
def uA (x:F?):M (Yd0×η):=Gz @hZ x
def tN (it:D6) (x:ζ):M (Bool):=
 (lt (aI ((.st (.pr .str (.pr .str (.pr .str (.pr .str (.pr .str (.pr .str (.pr .str (.pr .str (.pr .str (.pr .str (.pr .str (.pr .str (.pr .str (.pr .str (.pr .str (.pr .str (.pr .str (.pr .str (.pr .str (.pr .str (.pr .str .str))))))))))))))))))))))) ([kwV]) 0) λz=>(it (Int) _ (λA=>(bQ A 22 (bV (cX 0 A&&gI A 22) (lt (aI (.str) [z.1,z.2.1,z.a,z.b,z.c,z.e,z.f,z.i,z.k,z.l,z.m,z.s,z.r,z.y,z.u,z.w,z.z,z.B,z.G,z.H,z.I,z.K] A) λI=>(aJ (decide ((x:ζ)=I)) (aH J) (cP (cL A))))) (aH af))) 0))
def tw (x:ζ):M (Bool):=tN @iter x
def l_ (x:ζ):M (Bool):=tN @hZ x
def yc (it:D6) (x:ζ):M (Bool):=
 (jn (bQ (aZ x) 1 (aH J) (bQ 12 (aZ x) (aH J) (ax (l_ x) λL=>(aH L)))) λx1=>(aJ x1 (Z af) (it (Y (jT×Unit)) _ (λz=>(aJ (eK (MV z) (aj (Pt z))) (jn (α:=Y (jT×Unit)) (jn (α:=Bool×Y (jT×Unit)) (kw 97 (rnP (Pt z) (MV z)) (kw (rnP (Pt z) (MV z)) 122 (aH (J,[(((Pt z),(aS ((MV z)+wdP (Pt z) (MV z)))),())])) (kw 65 (rnP (Pt z) (MV z)) (aH ((cX (rnP (Pt z) (MV z)) 90),[(((Pt z),(aS ((MV z)+wdP (Pt z) (MV z)))),())])) (aH (af,[(((Pt z),(aS ((MV z)+wdP (Pt z) (MV z)))),())])))) (kw 65 (rnP (Pt z) (MV z)) (aH ((cX (rnP (Pt z) (MV z)) 90),[(((Pt z),(aS ((MV z)+wdP (Pt z) (MV z)))),())])) (aH (af,[(((Pt z),(aS ((MV z)+wdP (Pt z) (MV z)))),())])))) λA=>(aJ A.1 (aH A.2) (jn (bQ 0 (aS (MV z)) (bj (rnP (Pt z) (MV z)) 95 (aH (J,A.2)) (kw 48 (rnP (Pt z) (MV z)) (aH ((cX (rnP (Pt z) (MV z)) 57),A.2)) (aH (af,A.2)))) (aH (af,A.2))) λI=>(aJ I.1 (aH I.2) (cP (bL af)))))) λx4=>(cP x4)) (aH J))) ([((x,0),())]))))
def xV (x:ζ):M (Bool):=yc @iter x
def qB (x:ζ):M (Bool):=yc @hZ x
def AG (it:D6) (x:n!):M (Int):=
 (it (Int) _ (λx1=>(bQ x1 (aZ x.1) (bJ aN x.1 x1 λz=>(bj x.2 z (aH x1) (cP (cL x1)))) (aH (-1)))) 0)
def E9 (x:n!):M (Int):=AG @iter x
def tJ (x:n!):M (Int):=AG @hZ x
def lD (x:n!):M (Bool):=
 (ax (tJ x) λz=>(Z (cX 0 z)))
def nL (x:η×g?):M (Bool):=
 (ax (kl (x.1,x.2.2)) λz=>(Z (cX x.2.1 z)))
def uS (x:ν):M (Bool):=
 (jn (kw 0 x.1 (aH (gI x.1 x.2)) (aH af)) λx1=>(Z x1))
def uT (x:gk×j!):M (Bool):=
 (jn (ax (uS (x.2.1,(aZ x.1.2.1))) λA=>(aJ A (bJ tU x.1.2.1 x.2.1 λz=>(aH ((z.2==x.2.2) !=af))) (aH af))) λx1=>(Z x1))
def pU (it:D6) (x:Y Ym):M (dl×Bool):=
 (it (Int×Y ζ) _ (λx1=>(bQ x1.1 (aZ x) (jn (α:=Int×Y ζ) (bJ kF x x1.1 λz=>(bV (bg (aj x1.2+aj ([z.1])) 16) (bj z.a 0 (gO z.2.1 0 (cP (bL (([]:Y ζ),af))) (aH ((cL x1.1),(x1.2++([z.1]))))) (jn (α:=Bool×N!) (bQ z.a 1 (aH (J,(x1.2++([z.1])),z)) (bQ 4 z.a (aH (J,(x1.2++([z.1])),z)) (aJ z.b (aH (J,(x1.2++([z.1])),z)) (aH ((gI (a_ .i64 ((aZ x)-x1.1)) z.a),(x1.2++([z.1])),z))))) λL=>(aJ L.1 (cP (bL (([]:Y ζ),af))) (it (Int×N!) _ (λA=>(bQ A.1 L.c (bJ kF x (a_ .i64 (x1.1+A.1)) λI=>(aJ (UX (.pr .str (.pr aN (.pr aN (.pr .bool (.pr aN .un))))) (I.1,I.2.1,I.a,I.b,I.g,()) (A.a,A.1,A.c,A.e,A.j,()) !=J) (aH (lP (bL (([]:Y ζ),af)))) (cP ((cL A.1),A.2.1,A.a,A.1,A.g)))) (aH (bL ((a_ .i64 (x1.1+A.c)),A.2.1))))) (0,L.2))))))) λx2=>(cP x2)) (aH (x1.2,J)))) (0,([]:Y ζ)))
def pM (x:Y Ym):M (dl×Bool):=pU @iter x
def ip (x:Y Ym):M (dl×Bool):=pU @hZ x
def pR (it:D6) (x:gk×Y ζ):M (Bool):=
 (bV (bg (aj (x.2:Y ζ)) 16) (it B! _ (λx1=>(bQ x1.1 (aZ x.1.2.1) (bJ tU x.1.2.1 x1.1 λz2=>(bV (bg (aj x1.2.2+aj ([z2.1])) 16) (cP ((cL x1.1),x1.2.1,(x1.2.2++([z2.1])))))) (ax (it B! _ (λz=>(bQ z.1 (aZ x1.2.1.a) (bJ itK x1.2.1.a z.1 λz4=>(bV (bg (aj z.2.2+aj ([z4.1])) 16) (cP ((cL z.1),z.2.1,(z.2.2++([z4.1])))))) (ax (bV (bg (aj z.2.2+aj z.2.1.b) 16) (bV (bg (aj (z.2.2++z.2.1.b)+aj z.2.1.c) 16) (it (Int×mV×Y ζ) _ (λA=>(bQ A.1 (aS (aj ((z.2.2++z.2.1.b)++z.2.1.c))) (lx (.str) A.2.2 A.1 λI=>(jn (ax (qB I) λy8=>(aJ (!y8) (aH (J,A.2)) (aH ((Bh (K:=.str) (V:=.bool) I A.2.1 af),A.2)))) λL=>(aJ L.1 (aH af) (cP ((cL A.1),(Cc (K:=.str) (V:=.bool) I J L.2.1),L.2.2))))) (aH J))) (0,([]:Y H!),((z.2.2++z.2.1.b)++z.2.1.c))))) λr=>Z (bL r)))) (0,x1.2)) λr=>Z (bL r)))) (0,x)))
def pK (x:gk×Y ζ):M (Bool):=pR @iter x
def ec (x:gk×Y ζ):M (Bool):=pR @hZ x
def lX (it:D6) (x:b?):M (Bool):=
 (it (π×b?) _ (λx1=>(bQ x1.1.2.2 (aZ x.h) (bJ qG x.h x1.1.2.2 λI=>(jn (bQ I.1 x1.1.1 (aH (J,x1.2,I)) (aH ((cX (aZ x1.e) I.1),x1.2,I))) λA=>(aJ A.1 (aH af) (jn (α:=(ν)×gk×Int×g?) (bQ x1.1.1 A.a (aH ((A.a,0),A.2)) (aH ((x1.1.1,x1.1.2.1),A.2))) λz=>(gO z.b z.1.2 (aH af) (cP ((z.1.1,(cL z.1.2),(cL x1.1.2.2)),z.2.1))))))) (aH J))) ((0,0,0),x))
def pJ (x:b?):M (Bool):=lX @iter x
def gw (x:b?):M (Bool):=lX @hZ x
def pV (it:D6) (x:b?):M (Bool):=
 (jn (bQ 12 (aZ x.1) (aH (J,x)) (bQ 4 (aZ x.2.1) (aH (J,x)) (bQ 2 (aZ x.a) (aH (J,x)) (bQ 2 (aZ x.b) (aH (J,x)) (aH ((gI 60 (aZ x.h)),x)))))) λx1=>(aJ x1.1 (Z af) (jn (bQ (aZ x1.e) 1 (aH (J,x1.2)) (aH ((gI 4 (aZ x1.e)),x1.2))) λA=>(aJ A.1 (Z af) (ax (ip A.2.1) λL=>(jn (aJ (!L.2) (aH (J,A.2)) (ax (ec (A.2,L.1)) λy5=>(aH ((!y5),A.2)))) λI=>(aJ I.1 (Z af) (it E? _ (λz=>(bQ z.1 (aZ I.b) (bJ itK I.b z.1 λz7=>(ax (uT (z.2,z7.2,af)) λy8=>(aJ (!y8) (aH af) (cP ((cL z.1),z.2))))) (ax (ax (gw z.2) λy9=>(Z y9)) λr=>Z (bL r)))) (0,I.2)))))))))
def pN (x:b?):M (Bool):=pV @iter x
def iu (x:b?):M (Bool):=pV @hZ x
def yd (it:D6) (x:b?):M rq:=
 (bV (cX 0 (aZ x.2.1)&&cX (aZ x.2.1) (aZ x.2.1)&&bg (aO (aZ x.2.1)) 32) (bV (cX 0 (aZ x.b)&&cX (aZ x.b) (aZ x.b)&&bg (aO (aZ x.b)) 1) (bV (cX 0 (aZ x.c)&&cX (aZ x.c) (aZ x.c)&&bg (aO (aZ x.c)) 24) (it Y? _ (λx1=>(bQ x1.1 (aS (aj (aE (aO (aZ x.2.1)) ((0,[]):f?)))) (ck (ef x1.1 (aj x1.b)) (cP ((cL x1.1),x1.2.1,x1.a,(ca x1.b x1.1 ((-1),(aI dO x1.b x1.1).2)),x1.g))) (ax (jn (α:=r?) (bQ 0 (aZ x1.h) (ck (ef 0 (aj x1.h)) (aH (x1.2.1,x1.a,x1.b,x1.c,(ca x1.h 0 (1,(aI hP x1.h 0).2))))) (aH x1.2)) λz=>(Z (z.a,z.2.1,z.d))) λr=>Z (bL r)))) (0,0,(-1),(aE (aO (aZ x.2.1)) ((0,[]):f?)),(aE (aO (aZ x.b)) (af:Bool)),(aE (aO (aZ x.c)) ((0,(0,af)):c!)))))))
def xX (x:b?):M rq:=yd @iter x
def qE (x:b?):M rq:=yd @hZ x
def sH (it:D6) (x:b?):M iV:=
 (ax (qE x) λI=>(bV (cX 0 0&&cX 0 (aZ x.1)&&bg (aO (aZ x.1)) 8) (bV (cX 0 (aZ x.b)&&cX (aZ x.b) (aZ x.b)&&bg (aO (aZ x.b)) 8) (bV (cX 0 (aZ x.c)&&cX (aZ x.c) (aZ x.c)&&bg (aO (aZ x.c)) 8) (it (Int×Int×L?) _ (λz=>(bQ z.1 (aZ x.1) (bJ kF x.1 z.1 λA=>(bV (bg (aj z.b+aj ([A.g])) 8) (cP ((cL z.1),z.2.1,z.a,(z.b++([A.g])),z.g)))) (aH z.2.2))) (0,0,I,(aE (aO 0) (0:Int)),(aE (aO (aZ x.b)) (0:Int)),(aE (aO (aZ x.c)) (0:Int))))))))
def sd (x:b?):M iV:=sH @iter x
def fg (x:b?):M iV:=sH @hZ x
def fA (x:ν):M (Bool):=
 (jn (kw 0 x.1 (aH (gI x.1 x.2)) (aH af)) λx1=>(Z x1))
def ng (x:gk×g?):M (Bool):=
 (jn (bj x.2.1 1 (aH ((decide ((x.2.1:Int)=1)),x.1)) (bj x.2.1 2 (aH ((decide ((x.2.1:Int)=2)),x.1)) (bj x.2.1 5 (aH ((decide ((x.2.1:Int)=5)),x.1)) (bj x.2.1 12 (aH ((decide ((x.2.1:Int)=12)),x.1)) (bj x.2.1 13 (aH ((decide ((x.2.1:Int)=13)),x.1)) (bj x.2.1 14 (aH ((decide ((x.2.1:Int)=14)),x.1)) (aH ((decide ((x.2.1:Int)=15)),x.1)))))))) λx1=>(aJ x1.1 (Z (decide ((x.2.2:Int)=(-1)))) (jn (bj x.2.1 3 (aH ((decide ((x.2.1:Int)=3)),x1.2)) (aH ((decide ((x.2.1:Int)=4)),x1.2))) λx2=>(aJ x2.1 (ax (fA (x.2.2,(aZ x2.2.1))) λy3=>(Z y3)) (jn (bj x.2.1 6 (aH ((decide ((x.2.1:Int)=6)),x2.2)) (aH ((decide ((x.2.1:Int)=7)),x2.2))) λL=>(aJ L.1 (jn (ax (fA (x.2.2,(aZ L.a))) λy6=>(aJ y6 (bJ tU L.a x.2.2 λz7=>(aH (!z7.2))) (aH af))) λx5=>(Z x5)) (jn (bj x.2.1 8 (aH ((decide ((x.2.1:Int)=8)),L.2)) (bj x.2.1 9 (aH ((decide ((x.2.1:Int)=9)),L.2)) (bj x.2.1 10 (aH ((decide ((x.2.1:Int)=10)),L.2)) (aH ((decide ((x.2.1:Int)=11)),L.2))))) λI=>(aJ I.1 (jn (ax (fA (x.2.2,(aZ I.a))) λy10=>(aJ y10 (bJ tU I.a x.2.2 λz11=>(aH z11.2)) (aH af))) λx9=>(Z x9)) (jn (bj x.2.1 16 (aH ((decide ((x.2.1:Int)=16)),I.2)) (bj x.2.1 17 (aH ((decide ((x.2.1:Int)=17)),I.2)) (bj x.2.1 18 (aH ((decide ((x.2.1:Int)=18)),I.2)) (aH ((decide ((x.2.1:Int)=19)),I.2))))) λA=>(aJ A.1 (ax (fA (x.2.2,(aZ A.b))) λy13=>(Z y13)) (jn (bj x.2.1 20 (aH ((decide ((x.2.1:Int)=20)),A.2)) (aH ((decide ((x.2.1:Int)=21)),A.2))) λz=>(aJ z.1 (ax (fA (x.2.2,(aZ z.e))) λy15=>(Z y15)) (jn (bj x.2.1 22 (aH ((decide ((x.2.1:Int)=22)),z.2)) (aH ((decide ((x.2.1:Int)=23)),z.2))) λx16=>(aJ x16.1 (ax (fA (x.2.2,(aZ x16.c))) λy17=>(Z y17)) (Z af)))))))))))))))
def vD (it:D6) (x:gk×v?):M (Bool):=
 (jn (gO (aZ x.2.1) (aZ x.1.2.1) (aH (J,x.1)) (gO (aZ x.b) (aZ x.1.b) (aH (J,x.1)) (aH ((!decide (((aZ x.g):Int)=(aZ x.1.c))),x.1)))) λx1=>(aJ x1.1 (Z af) (it E? _ (λz=>(bQ z.1 (aZ x1.b) (bJ itK x1.b z.1 λA=>(ax (fA (A.2,(aZ z.a))) λI=>(aJ (!I) (aH af) (cP ((cL z.1),z.2))))) (aH J))) (0,x1.2))))
def An (x:gk×v?):M (Bool):=vD @iter x
def lq (x:gk×v?):M (Bool):=vD @hZ x
def qD (x:Q!):M (Bool):=
 (bj x.b 6 (bJ dO x.2.1.1 x.g λz1=>(Z (decide ((z1.1:Int)=(-1))))) (bj x.b 10 (jn (α:=Bool) (bJ dO x.2.1.1 x.g λz3=>(bj z3.1 (-1) (bJ dO x.2.1.1 x.g λz4=>(aH (decide (((aZ z4.2):Int)=0)))) (aH af))) λx2=>(Z x2)) (bj x.b 8 (jn (α:=Bool) (bJ dO x.2.1.1 x.g λz6=>(bj z6.1 (-1) (bJ dO x.2.1.1 x.g λz7=>(ax (lD (z7.2,x.a)) λy8=>(aH (!y8)))) (aH af))) λx5=>(Z x5)) (jn (bj x.b 7 (aH ((decide ((x.b:Int)=7)),x.1,x.2.1)) (aH ((decide ((x.b:Int)=11)),x.1,x.2.1))) λA=>(aJ A.1 (bJ dO A.a x.g λz10=>(Z (decide ((z10.1:Int)=x.a)))) (bj x.b 9 (bJ dO A.a x.g λz11=>(ax (lD (z11.2,x.a)) λy12=>(Z y12))) (bj x.b 12 (Z (decide ((A.b:Int)=(-1)))) (bj x.b 13 (Z (decide ((A.b:Int)=x.a))) (bj x.b 14 (bJ hP A.h x.a λz13=>(Z (!z13.2.2))) (bj x.b 15 (bJ hP A.h x.a λz14=>(Z z14.2.2)) (jn (bj x.b 16 (aH ((decide ((x.b:Int)=16)),A.2)) (bj x.b 18 (aH ((decide ((x.b:Int)=18)),A.2)) (aH ((decide ((x.b:Int)=19)),A.2)))) λz=>(aJ z.1 (bJ itK z.2.1.a x.g λz16=>(bJ dO z.a z16.2 λz17=>(Z (decide ((z17.1:Int)=x.a))))) (bj x.b 20 (jn (gO x.g x.a (bJ hP z.h x.g λz19=>(aH (decide ((z19.1:Int)=0)))) (aH af)) λx18=>(Z x18)) (bj x.b 21 (jn (gO x.g x.a (bJ hP z.h x.g λz21=>(aH (decide ((z21.1:Int)=5)))) (aH af)) λx20=>(Z x20)) (bj x.b 22 (bJ (.bool) z.c x.g λL=>(Z (!L))) (bj x.b 23 (bJ (.bool) z.c x.g λI=>(Z I)) (Z J)))))))))))))))))
def kV (x:Q!):M (Bool):=
 (jn (ax (lq (x.1,x.2.1)) λy2=>(aJ (!y2) (aH (J,x.1,x.2.1)) (ax (fA (x.a,(aZ x.1.c))) λy3=>(aJ (!y3) (aH (J,x.1,x.2.1)) (ax (ng (x.1,x.d)) λy4=>(aH ((!y4),x.1,x.2.1))))))) λx1=>(aJ x1.1 (Z af) (bJ hP x1.h x.a λz=>(bj x.b 1 (Z (decide ((z.1:Int)=1))) (bj x.b 17 (jn (α:=Bool) (bj z.1 4 (bj z.2.1 x.g (bJ itK x1.2.1.a x.g λL=>(bJ dO x1.a L.2 λI=>(aH (decide ((I.1:Int)=(-1)))))) (aH af)) (aH af)) λx6=>(Z x6)) (jn (bj z.1 2 (ax (qD (x1.2.1,x1.2.2,x.2.2)) λA=>(aH A)) (aH af)) λx9=>(Z x9)))))))
def l8 (x:gk×L?):M (Bool):=
 (jn (ax (lq (x.1,x.2.1)) λz=>(aJ z (bj (aZ x.a) (aZ x.1.1) (bj (aZ x.b) (aZ x.1.b) (aH (decide (((aZ x.g):Int)=(aZ x.1.c)))) (aH af)) (aH af)) (aH af))) λx1=>(Z x1))
def mH (x:gk×b!):M (Bool):=
 (jn (bj x.a 1 (aH (J,x)) (aH ((decide ((x.a:Int)=2)),x))) λx1=>(aJ x1.1 (Z (decide ((x1.f:Int)=(-1)))) (jn (kw 0 x1.f (bQ x1.f (aZ x1.2.1.h) (bJ qG x1.2.1.h x1.f λz=>(aH (decide ((z.1:Int)=x1.a)))) (aH af)) (aH af)) λA=>(Z A))))
def mO (it:D6) (x:gk×M?):M (Bool):=
 (jn (bj x.b 3 (bJ kF x.1.1 x.c λz2=>(aH ((!decide ((z2.2.2.1:Int)=0)),x.2))) (bj x.b 4 (bJ kF x.1.1 x.c λz3=>(aH ((!decide ((z3.2.2.1:Int)=0)),x.2))) (aH (af,x.2)))) λx1=>(jn (bj x1.b 5 (bj x1.b 4 (aH (x1.2.1,x1.2.2,J,J)) (aH (x1.2.1,x1.2.2,J,(decide ((x1.b:Int)=22))))) (bj x1.b 4 (aH (x1.2.1,x1.2.2,x1.1,J)) (aH (x1.2.1,x1.2.2,x1.1,(decide ((x1.b:Int)=22)))))) λx4=>(it (Int×iV×lZ×L!) _ (λz=>(bQ z.1 2 (bV (cX 0 z.1&&gI z.1 2) (lt (aI ((.sl aN)) [x4.2.1.e,x4.2.1.j] z.1) λz6=>(jn (α:=Bool×iV×lZ×L!) (bQ 0 (aZ z6) (bV (cX 0 z.1&&gI z.1 2) (bV (ef z.1 2) (lt (aI (.bool) [z.b,z.g] z.1) λz8=>(aH ((!z8),z.2))))) (aH (af,z.2))) λx7=>(aJ x7.1 (aH af) (it (ν×iV×lZ×L!) _ (λA=>(bQ A.1.2 (aZ z6) (bJ aN z6 A.1.2 λI=>(jn (kw I A.1.1 (aH (J,A.2)) (bJ aN A.2.1.d A.a.1 λz12=>(aH ((cX z12 I),A.2)))) λL=>(aJ L.1 (aH (bL af)) (cP ((I,(cL A.1.2)),L.2))))) (aH (lP ((cL z.1),A.2))))) ((0,0),x7.2)))))) (aH J))) (0,x4))))
def mF (x:gk×M?):M (Bool):=mO @iter x
def gh (x:gk×M?):M (Bool):=mO @hZ x
def mN (it:D6) (x:M?):M (Bool):=
 (bj x.a 3 (bJ aN x.1.2.1 x.b λz1=>(Z (decide ((x.c:Int)=z1)))) (bj x.a 23 (bJ aN x.1.a x.b λz2=>(Z (decide ((x.c:Int)=z2)))) (bj x.a 5 (jn (bj x.c 0 (aH J) (aH (decide ((x.c:Int)=1)))) λx3=>(Z x3)) (jn (bj x.a 4 (aH ((decide ((x.a:Int)=4)),x)) (aH ((decide ((x.a:Int)=22)),x))) λI=>(aJ I.1 (Z J) (bj x.a 18 (it ((Int×Bool×Int)×b!) _ (λA=>(bQ A.1.2.2 (aZ I.2.1.1.d) (jn (bJ hP I.2.1.1.d A.1.2.2 λz7=>(jn (bj z7.1 3 (aH ((decide ((z7.2.1:Int)=A.b)),A.2)) (aH (af,A.2))) λx8=>(aJ x8.1 (aJ A.1.2.1 (aH (((cL A.1.1),J),x8.2)) (aH (((cL A.1.1),(decide ((x8.c:Int)=A.1.2.2))),x8.2))) (aH ((A.1.1,A.1.2.1),x8.2))))) λx6=>(cP ((x6.1.1,x6.1.2,(cL A.1.2.2)),x6.2))) (ax (jn (α:=Bool) (aJ A.1.2.1 (aH J) (bj A.1.1 0 (aH (decide ((A.c:Int)=(-1)))) (aH af))) λx9=>(Z x9)) λr=>Z (bL r)))) ((0,af,0),I.2.2)) (bj x.a 19 (it Yd3 _ (λz=>(bQ z.1.2 (aZ I.2.1.1.d) (jn (bJ hP I.2.1.1.d z.1.2 λz12=>(jn (bj z12.1 3 (aH ((decide ((z12.2.1:Int)=z.b)),z.2)) (aH (af,z.2))) λL=>(aJ L.1 (aH ((cL z.1.1),L.2)) (aH (z.1.1,L.2))))) λx11=>(cP ((x11.1,(cL z.1.2)),x11.2))) (aH (decide ((z.c:Int)=z.1.1))))) ((0,0),I.2.2)) (Z (decide ((I.e:Int)=0))))))))))
def qW (x:M?):M (Bool):=mN @iter x
def gJ (x:M?):M (Bool):=mN @hZ x
def nJ (x:eh×Int):M (Bool):=
 (jn (bj x.1.1 3 (aH (decide ((x.1.2.1:Int)=x.2))) (aH af)) λx1=>(Z x1))
def MM (x:θ):M θ:=
 (aJ (aA (aj x) 0) (I7 (Z ([]:θ)) (bV (bg (aj ([]:θ)+aj x) 1) (Z (([]:θ)++x)))) (bV (bg (aj ([]:θ)+aj x) 1) (Z (([]:θ)++x))))
def Tg (x:θ):M θ:=chk (bg (aj x) 1) λ_=>Z x
def Im (x:θ):M θ:=
 (aJ (aA (aj x) 0) (I7 (Z ([]:θ)) (bV (bg (aj ([]:θ)+aj x) 1) (Z (([]:θ)++x)))) (bV (bg (aj ([]:θ)+aj x) 1) (Z (([]:θ)++x))))
def ML (x:θ):M θ:=chk (bg (aj x) 1) λ_=>Z x
def MI (x:Y eh):M (Y eh):=
 (aJ (aA (aj x) 0) (I7 (Z ([]:Y eh)) (bV (bg (aj ([]:Y eh)+aj x) 24) (Z (([]:Y eh)++x)))) (bV (bg (aj ([]:Y eh)+aj x) 24) (Z (([]:Y eh)++x))))
def Tf (x:Y eh):M (Y eh):=chk (bg (aj x) 24) λ_=>Z x
def Ik (x:Y eh):M (Y eh):=
 (aJ (aA (aj x) 0) (I7 (Z ([]:Y eh)) (bV (bg (aj ([]:Y eh)+aj x) 24) (Z (([]:Y eh)++x)))) (bV (bg (aj ([]:Y eh)+aj x) 24) (Z (([]:Y eh)++x))))
def MH (x:Y eh):M (Y eh):=chk (bg (aj x) 24) λ_=>Z x
def Il (x:η):M η:=
 (aJ (aA (aj x) 0) (I7 (Z ([]:η)) (bV (bg (aj ([]:η)+aj x) 8) (Z (([]:η)++x)))) (bV (bg (aj ([]:η)+aj x) 8) (Z (([]:η)++x))))
def Cd (x:η):M η:=chk (bg (aj x) 8) λ_=>Z x
def ub (it:D6) (x:v?):M Yd2:=
 (bV (cX 0 (aZ x.1)&&cX (aZ x.1) (aZ x.1)&&bg (aO (aZ x.1)) 32) (it (Int×rq×Int×Y (Int×η)) _ (λx1=>(bQ x1.1 (aZ x.1) (bJ dO x.1 x1.1 λz=>(ax (At z.2) λL=>(ck (ef x1.1 (aj x1.d)) (cP ((cL x1.1),x1.2.1,x1.a,(ca x1.d x1.1 (z.1,L))))))) (ax (ax (ML x1.2.1.a) λI=>(ax (MH x1.2.1.d) λA=>(Z (x1.2.1.2.1,x1.d,I,A)))) λr=>Z (bL r)))) (0,x,0,(aE (aO (aZ x.1)) ((0,[]):f?)))))
def xW (x:v?):M Yd2:=ub @iter x
def lB (x:v?):M Yd2:=ub @hZ x
abbrev J!:=jE×(θ)×(Y eh)×Int
def sJ (it:D6) (x:π×D!):M Yd2:=
 (it (ν×J!) _ (λx1=>(bQ x1.1.2 (aZ x.d) (jn (lx hP x1.b x1.1.2 λI=>(jn (ax (nJ (I,x.1.2.1)) λL=>(aJ L (bQ x1.1.1 0 (aH (J,x1.2)) (aH ((decide ((x1.1.2:Int)=x.1.2.2)),x1.2))) (aH (af,x1.2)))) λz=>(aJ z.1 (aH (x1.1.2,z.2)) (aH (x1.1.1,z.2))))) λA=>(cP ((A.1,(cL x1.1.2)),A.2))) (ax (jn (α:=D!) (kw 0 x1.1.1 (ck (ef x1.1.1 (aj x1.b)) (aH (x1.2.1,x1.a,(ca x1.b x1.1.1 (4,(aI hP x1.b x1.1.1).2))))) (aH (x1.2.1,x1.a,x1.b))) λx6=>(Z (x1.1.1,x6))) λr=>Z (bL r)))) (((-1),0),x.2.1,x.a,x.d,x.1.1))
def vX (x:π×D!):M Yd2:=sJ @iter x
def kz (x:π×D!):M Yd2:=sJ @hZ x
def nZ (it:D6) (x:ν×D!):M Yd2:=
 (it (ν×J!) _ (λx1=>(bQ x1.1.2 (aZ x.d) (jn (α:=Int×J!) (lx hP x1.b x1.1.2 λA=>(ax (nJ (A,x.1.2)) λI=>(aJ I (ck (ef x1.1.2 (aj x1.b)) (aH ((cL x1.1.1),x1.2.1,x1.a,(ca x1.b x1.1.2 (4,(aI hP x1.b x1.1.2).2)),x1.g))) (aH (x1.1.1,x1.2))))) λz=>(cP ((z.1,(cL x1.1.2)),z.2))) (aH (x1.1.1,x1.2.1,x1.a,x1.b)))) ((0,0),x.2.1,x.a,x.d,x.1.1))
def sh (x:ν×D!):M Yd2:=nZ @iter x
def ie (x:ν×D!):M Yd2:=nZ @hZ x
def sD (x:Int):M (Bool):=
 (Z (!decide ((x:Int)=x)))
def x_ (x:ν):M (Bool):=
 (jn (ax (sD x.1) λA=>(aJ A (ax (sD x.2) λz=>(aJ (!z) (aH J) (aH (gI x.1 x.2)))) (aH (gI x.1 x.2)))) λx1=>(Z x1))
def tF (x:Int):M (Int):=
 (kw 4294967296 x U (kw 65536 x U (kw 256 x U (wT (a_ .u8 x) ([0,1,2,2,3,3,3,3,4,4,4,4,4,4,4,4,5,5,5,5,5,5,5,5,5,5,5,5,5,5,5,5,6,6,6,6,6,6,6,6,6,6,6,6,6,6,6,6,6,6,6,6,6,6,6,6,6,6,6,6,6,6,6,6,7,7,7,7,7,7,7,7,7,7,7,7,7,7,7,7,7,7,7,7,7,7,7,7,7,7,7,7,7,7,7,7,7,7,7,7,7,7,7,7,7,7,7,7,7,7,7,7,7,7,7,7,7,7,7,7,7,7,7,7,7,7,7,7,8,8,8,8,8,8,8,8,8,8,8,8,8,8,8,8,8,8,8,8,8,8,8,8,8,8,8,8,8,8,8,8,8,8,8,8,8,8,8,8,8,8,8,8,8,8,8,8,8,8,8,8,8,8,8,8,8,8,8,8,8,8,8,8,8,8,8,8,8,8,8,8,8,8,8,8,8,8,8,8,8,8,8,8,8,8,8,8,8,8,8,8,8,8,8,8,8,8,8,8,8,8,8,8,8,8,8,8,8,8,8,8,8,8,8,8,8,8,8,8,8,8,8,8,8,8,8,8]) (Z (a_ .i64 (0+(a_ .i64 (aoc ([0,1,2,2,3,3,3,3,4,4,4,4,4,4,4,4,5,5,5,5,5,5,5,5,5,5,5,5,5,5,5,5,6,6,6,6,6,6,6,6,6,6,6,6,6,6,6,6,6,6,6,6,6,6,6,6,6,6,6,6,6,6,6,6,7,7,7,7,7,7,7,7,7,7,7,7,7,7,7,7,7,7,7,7,7,7,7,7,7,7,7,7,7,7,7,7,7,7,7,7,7,7,7,7,7,7,7,7,7,7,7,7,7,7,7,7,7,7,7,7,7,7,7,7,7,7,7,7,8,8,8,8,8,8,8,8,8,8,8,8,8,8,8,8,8,8,8,8,8,8,8,8,8,8,8,8,8,8,8,8,8,8,8,8,8,8,8,8,8,8,8,8,8,8,8,8,8,8,8,8,8,8,8,8,8,8,8,8,8,8,8,8,8,8,8,8,8,8,8,8,8,8,8,8,8,8,8,8,8,8,8,8,8,8,8,8,8,8,8,8,8,8,8,8,8,8,8,8,8,8,8,8,8,8,8,8,8,8,8,8,8,8,8,8,8,8,8,8,8,8,8,8,8,8,8,8]) (a_ .u8 x))))))))))
def ww (x:Int):M (Int):=
 (ax (tF x) λz=>(Z z))
def kS (it:D6) (x:ν×η):M η:=
 (it f? _ (λx1=>(bQ x1.1 x.1.2 (it f? _ (λz=>(jn (bQ x.1.1 z.1 (lx aN z.2 z.1 λz4=>(lx aN z.2 (a_ .i64 (z.1-1)) λz5=>(ax (x_ (z4,z5)) λy6=>(aH (y6,z.2))))) (aH (af,z.2))) λA=>(aJ A.1 (lx aN A.2 (a_ .i64 (z.1-1)) λI=>(lx aN A.2 z.1 λL=>(ck (ef z.1 (aj A.2)) (ck (ef (a_ .i64 (z.1-1)) (aj (ca A.2 z.1 I))) (cP ((a_ .i64 (z.1-1)),(ca (ca A.2 z.1 I) (a_ .i64 (z.1-1)) L))))))) (aH (lP ((cL x1.1),A.2)))))) x1) (aH x1.2))) ((cL x.1.1),x.2))
def kR (x:ν×η):M η:=kS @iter x
def gp (x:ν×η):M η:=kS @hZ x
def pP (it:D6) (x:π×η):M η:=
 (it ((Int×Int×Int×Bool×Bool)×η) _ (λx1=>(kw (a_ .i64 (x1.1.2.1-x1.1.1)) 12 (ax (gp ((x1.1.1,x1.1.2.1),x1.2)) λz=>(bV (aA (aj x1.2) (aj z)&&J) (aH z))) (bj x1.1.a 0 U (aJ (!x1.1.b) U U)))) ((x.1.1,x.1.2.1,x.1.2.2,J,J),x.2))
def pH (x:π×η):M η:=pP @iter x
def jQ (x:π×η):M η:=pP @hZ x
def yN (x:η):M η:=
 (ax (ww (a_ .u64 (aZ x))) λA=>(ax (jQ ((0,(aZ x),A),x)) λz=>(bV (aA (aj x) (aj z)&&J) (Z z))))
def AH (it:D6) (x:η):M η:=
 (bQ (aZ x) 2 (Z x) (it f? _ (λx1=>(bQ x1.1 (aZ x1.2) (lx aN x1.2 x1.1 λA=>(lx aN x1.2 (a_ .i64 (x1.1-1)) λz=>(bj A z (bV (cX 0 x1.1&&gI x1.1 (aj x1.2)) U) (cP ((cL x1.1),x1.2))))) (aH x1.2))) (1,x)))
def Ao (x:η):M η:=AH @iter x
def mL (x:η):M η:=AH @hZ x
def qP (x:ν):M (Bool×Int):=
 (Z ((decide ((x.1:Int)=x.2)),x.2))
def wJ (it:D6) (x:n!):M K!:=
 (it K! _ (λx1=>(bQ x1.1 (aZ x.1) (lx aN x1.2.1 x1.1 λA=>(ax (qP (A,x1.2.2)) λz=>(aJ z.1 (aH (x1.1,x1.2.1,z.2)) (cP ((cL x1.1),x1.2.1,z.2))))) (aH ((-1),x1.2)))) (0,x))
def vY (x:n!):M K!:=wJ @iter x
def oP (x:n!):M K!:=wJ @hZ x
def uW (it:D6) (x:n!):M f?:=
 (ax (oP x) λA=>(bV (aA (aj x.1) (aj A.2.1)&&J) (bj A.1 (-1) U (it (ν×u?) _ (λz=>(bQ z.1.2 (aZ z.2.1) (jn (lx aN z.2.1 z.1.2 λL=>(ax (qP (L,z.2.2)) λI=>(aJ (!I.1) (ck (ef z.1.1 (aj z.2.1)) (aH ((cL z.1.1),(ca z.2.1 z.1.1 L),I.2))) (aH (z.1.1,z.2.1,I.2))))) λx3=>(cP ((x3.1,(cL z.1.2)),x3.2))) (ax (ck (cX 0 z.1.1&&gI z.1.1 (aj z.2.1)) (bV (cX 0 z.1.1&&gI z.1.1 (aj (dy (aO z.1.1) z.2.1++aE (aj z.2.1-aO z.1.1) (0:Int)))) (Z (z.2.2,(dy (aO z.1.1) (dy (aO z.1.1) z.2.1++aE (aj z.2.1-aO z.1.1) (0:Int))))))) λr=>Z (bL r)))) ((A.1,(cL A.1)),A.2)))))
def uR (x:n!):M f?:=uW @iter x
def jN (x:n!):M f?:=uW @hZ x
def ig (x:T!):M (rq×j!):=
 (ax (kV (x.1,x.2.1,x.a,x.b,x.c)) λy1=>(aJ (!y1) (Z ((([]:Y f?),0,([]:θ),([]:Y eh)),0,af)) (ax (lB x.2.1) λA=>(jn (α:=Y?) (bj x.b 1 (ck (ef x.a (aj A.d)) (aH (0,A.1,0,A.2.1,A.a,(ca A.d x.a (2,(aI hP A.d x.a).2))))) (bj x.b 2 (ck (ef x.a (aj A.d)) (aH (0,A.1,0,A.2.1,A.a,(ca A.d x.a (5,(aI hP A.d x.a).2))))) (jn (α:=Bool×gk×Y?) (bj x.b 6 (aH ((decide ((x.b:Int)=6)),x.1,A.1,x.a,0,A.2)) (aH ((decide ((x.b:Int)=10)),x.1,A.1,x.a,0,A.2))) λx4=>(aJ x4.1 (ck (ef x.c (aj x4.e)) (aH (0,x4.a,x4.c,(ca x4.e x.c (x4.b,(aI dO x4.e x.c).2)),x4.j))) (jn (bj x.b 7 (aH ((decide ((x.b:Int)=7)),x4.2)) (aH ((decide ((x.b:Int)=11)),x4.2))) λz=>(aJ z.1 (ck (ef x.c (aj z.e)) (aH (0,z.a,z.c,(ca z.e x.c ((-1),(aI dO z.e x.c).2)),z.j))) (bj x.b 8 (lx dO z.e x.c λz6=>U) (bj x.b 9 (lx dO z.e x.c λz7=>U) (bj x.b 12 (aH (0,z.d)) (bj x.b 13 (aH (0,(-1),z.g)) (bj x.b 14 (ck (ef z.b (aj z.n)) (aH (0,z.a,z.c,z.e,z.f,(ca z.n z.b ((aI hP z.n z.b).1,((aI hP z.n z.b).2).1,J))))) (bj x.b 15 (ck (ef z.b (aj z.n)) (aH (0,z.a,z.c,z.e,z.f,(ca z.n z.b ((aI hP z.n z.b).1,((aI hP z.n z.b).2).1,af))))) (bj x.b 16 (bJ itK z.2.1.a x.c λz8=>(ck (ef z8.2 (aj z.e)) (ck (ef z.b (aj z.n)) (ck (ef z.b (aj (ca z.n z.b (3,(aI hP z.n z.b).2)))) (aH (0,z.a,z.c,(ca z.e z8.2 ((-1),(aI dO z.e z8.2).2)),z.f,(ca (ca z.n z.b (3,(aI hP z.n z.b).2)) z.b ((aI hP (ca z.n z.b (3,(aI hP z.n z.b).2)) z.b).1,x.c,((aI hP (ca z.n z.b (3,(aI hP z.n z.b).2)) z.b).2).2)))))))) (bj x.b 17 (bJ itK z.2.1.a x.c λz9=>(ck (ef z9.2 (aj z.e)) (ck (ef z.b (aj z.n)) (ck (ef z.b (aj (ca z.n z.b (2,(aI hP z.n z.b).2)))) (aH (0,z.a,z.c,(ca z.e z9.2 (z.b,(aI dO z.e z9.2).2)),z.f,(ca (ca z.n z.b (2,(aI hP z.n z.b).2)) z.b ((aI hP (ca z.n z.b (2,(aI hP z.n z.b).2)) z.b).1,0,((aI hP (ca z.n z.b (2,(aI hP z.n z.b).2)) z.b).2).2)))))))) (bj x.b 18 (ax (kz ((z.a,x.g),z.h)) λL=>(bV (aA (aj z.n) (aj L.d)&&(aA (aj z.f) (aj L.a)&&(aA (aj z.e) (aj L.2.1)&&J))) (aH (L.1,z.a,z.c,L.2)))) (bj x.b 19 (ax (ie ((z.a,x.c),z.h)) λI=>(bV (aA (aj z.n) (aj I.d)&&(aA (aj z.f) (aj I.a)&&(aA (aj z.e) (aj I.2.1)&&J))) (aH (I.1,z.a,z.c,I.2)))) (bj x.b 20 (ck (ef x.c (aj z.n)) (aH (0,z.a,z.c,z.e,z.f,(ca z.n x.c (1,(aI hP z.n x.c).2))))) (bj x.b 22 (ck (ef x.c (aj z.f)) (aH (0,z.a,z.c,z.e,(ca z.f x.c J),z.n))) (aH (0,z.a,z.g)))))))))))))))))))) λx3=>(Z ((x3.b,x3.2.1,x3.g),x3.1,J))))))
def sB (x:v?):M (Yd5×(π)×d!):=
 (bV (cX 0 (aZ x.1)&&cX (aZ x.1) (aZ x.1)&&bg (aO (aZ x.1)) 32&&decide (((aZ x.1):Int)=3)) (jn (α:=rq×Int×(π)×d!) (bQ 0 (aZ x.1) (bJ dO x.1 0 λz=>(ax (qQ z.2) λI=>(bQ 1 (aZ x.1) (bJ dO x.1 1 λA=>(ax (qQ A.2) λy5=>(bQ 2 (aZ x.1) (bJ dO x.1 2 λz6=>(ax (qQ z6.2) λy7=>(bQ 3 (aZ x.1) (bJ dO x.1 3 λz8=>(ax (qQ z8.2) λy9=>U)) (aH (x,0,(z.1,A.1,z6.1),I,y5,y7))))) (aH (x,0,(z.1,A.1,0),I,y5,([]:η)))))) (aH (x,0,(z.1,0,0),I,([]:η),([]:η)))))) (aH (x,0,(0,0,0),([]:η),([]:η),([]:η)))) λx1=>(ax (Tg x1.1.a) λy10=>(ax (Tf x1.1.d) λL=>(Z ((x1.1.2.1,y10,L),x1.2.2))))))
def md (x:T!):M (rq×j!):=
 (ax (kV (x.1,x.2.1,x.a,x.b,x.c)) λy1=>(aJ (!y1) (Z ((([]:Y f?),0,([]:θ),([]:Y eh)),0,af)) (ax (sB x.2.1) λI=>(jn (α:=Int×Yd5×Int×((Int×η)×(Int×η)×Int)×Bool×η) (bj x.b 1 (wT x.a I.1.2.2 U) (bj x.b 2 (wT x.a I.1.2.2 U) (jn (α:=Bool×gk×Yd5×Int×Int×(π)×d!) (bj x.b 6 (aH ((decide ((x.b:Int)=6)),x.1,I.1,x.a,0,I.2)) (aH ((decide ((x.b:Int)=10)),x.1,I.1,x.a,0,I.2))) λA=>(aJ A.1 U (jn (bj x.b 7 (aH ((decide ((x.b:Int)=7)),A.2.1,A.a,A.b,A.c,(A.e.1,A.f,A.e.2.1,A.i,A.e.2.2),A.o)) (aH ((decide ((x.b:Int)=11)),A.2.1,A.a,A.b,A.c,(A.e.1,A.f,A.e.2.1,A.i,A.e.2.2),A.o))) λz=>(aJ z.1 U (bj x.b 8 (bj x.c 0 U (bj x.c 1 U (bj x.c 2 (bV (bg (aj z.j+aj ([z.b])) 8) (ax (yN (z.j++([z.b]))) λy6=>(bV (aA (aj (z.j++([z.b]))) (aj y6)&&J) (ax (mL y6) λy7=>(bV (aA (aj y6) (aj y7)&&J) (aH (0,z.a,z.c,((z.e.1,z.e.2.1),(z.e.a,z.e.b),z.e.g),J,y7))))))) U))) (bj x.b 9 (bj x.c 0 U (bj x.c 1 U (bj x.c 2 (ax (jN (z.j,z.b)) λy8=>(bV (aA (aj z.j) (aj z.j)&&J) (aH (0,z.a,z.c,((z.e.1,z.e.2.1),(z.e.a,z.e.b),z.e.g),af,y8.2)))) U))) (bj x.b 12 (aH (0,(z.b,z.a.2),z.c,((z.e.1,z.e.2.1),(z.e.a,z.e.b),z.e.g),J,z.j)) (bj x.b 13 (aH (0,((-1),z.a.2),z.c,((z.e.1,z.e.2.1),(z.e.a,z.e.b),z.e.g),J,z.j)) (bj x.b 14 (wT z.b z.a.2.2 U) (bj x.b 15 (wT z.b z.a.2.2 U) (bj x.b 16 U (bj x.b 17 U (bj x.b 18 U (bj x.b 19 U (bj x.b 20 (wT x.c z.a.2.2 U) (bj x.b 22 (wT x.c z.a.2.1 U) (aH (0,z.a,z.c,((z.e.1,z.e.2.1),(z.e.a,z.e.b),z.e.g),J,z.j)))))))))))))))))))) λL=>(Z (([L.b.1,L.b.2.1,(L.b.2.2,L.h)],L.2.1),L.1,J))))))
def tY (x:T!):M (rq×j!):=orE (ig x) (md x)
def l9 (x:gk×M?):M (iV×Bool):=
 (jn (α:=Bool×I?) (ax (l8 (x.1,x.2.1)) λy2=>(aJ (!y2) (aH (J,x.1,x.2.1,x.2.2,0)) (bQ x.a 0 (aH (J,x.1,x.2.1,x.2.2,0)) (kw (aZ x.1.c) x.a (aH (J,x.1,x.2.1,x.2.2,0)) (bQ x.b 1 (aH (J,x.1,x.2.1,x.2.2,0)) (aH ((gI 23 x.b),x.1,x.2.1,x.2.2,0))))))) λx1=>(aJ x1.1 (Z (((([]:Y f?),0,([]:θ),([]:Y eh)),([]:η),([]:η),([]:η)),af)) (jn (ax (kV (x1.2.1,x1.a.1,x1.b.1,x1.b.2.1,x1.b.a)) λy4=>(aJ (!y4) (aH (J,x1.2)) (ax (mH (x1.2.1,x1.b)) λy5=>(aJ (!y5) (aH (J,x1.2)) (ax (gh (x1.2.1,x1.a,x1.b)) λy6=>(aJ (!y6) (aH (J,x1.2)) (ax (gJ (x1.a,x1.b)) λy7=>(aH ((!y7),x1.2))))))))) λx3=>(aJ x3.1 (Z (((([]:Y f?),0,([]:θ),([]:Y eh)),([]:η),([]:η),([]:η)),af)) (jn (α:=Int×I?) (bj x3.b.2.1 18 (aH (x3.b.b,x3.2)) (aH ((-1),x3.2))) λz=>(ax (tY (z.2.1,z.a.1,z.b.1,z.b.2.1,z.b.a,z.1)) λy9=>(aJ (!y9.2.2) (Z (((([]:Y f?),0,([]:θ),([]:Y eh)),([]:η),([]:η),([]:η)),af)) (ax (Cd z.a.2.1) λL=>(ax (Cd z.a.a) λI=>(ax (qQ z.a.d) λy12=>(jn (bj z.b.2.1 4 (ck (ef z.b.a (aj L)) (aH (z.b,z.g,y9.1,(ca L z.b.a z.b.b),I,y12))) (bj z.b.2.1 22 (ck (ef z.b.a (aj I)) (aH (z.b,z.g,y9.1,L,(ca I z.b.a z.b.b),y12))) (aH (z.b,z.g,y9.1,L,I,y12)))) λA=>(lx aN A.h A.1.1 λz14=>(ck (ef A.1.1 (aj A.h)) (Z ((A.a,A.b,A.c,(ca A.h A.1.1 (cL z14))),J)))))))))))))))
def kL (it:D6) (x:Yd3×Y θ):M (Bool×Y θ):=
 (it ((ν×Int)×Y θ) _ (λx1=>(bQ x1.1.2 2 (bV (cX 0 x1.1.2&&gI x1.1.2 2) (lt (aI ((.sl aN)) [x.1.f,x.1.n] x1.1.2) λL=>(it ((ν×Int)×Y θ) _ (λz=>(bQ z.1.2 (aZ L) (bJ aN L z.1.2 λI=>(jn (bQ I 0 (aH (((z.1.1.1,aS (aO z.1.1.2)),J),z.2)) (kw (aS (aO z.1.1.2)) I (aH (((z.1.1.1,aS (aO z.1.1.2)),J),z.2)) (bV (ef I (aO z.1.1.2)) (wT z.1.1.1 z.2 (bJ (.bool) (BG (T:=.bool) z.2 z.1.1.1) I λz6=>(aH (((z.1.1.1,aS (aO z.1.1.2)),(!z6)),z.2))))))) λA=>(aJ A.1.2 (aH (bL (af,A.2))) (cP (((A.1.1.1,aS (aO A.1.1.2)),(cL z.1.2)),A.2))))) (aH (lP (((z.1.1.1,aS (aO z.1.1.2)),(cL x1.1.2)),z.2))))) (((x1.1.1.1,aS (aO x1.1.1.2)),0),x1.2)))) (aH (J,x1.2)))) (((x.1.1.1,aS (aO x.1.1.2)),0),x.2))
def nQ (x:Yd3×Y θ):M (Bool×Y θ):=kL @iter x
def eU (x:Yd3×Y θ):M (Bool×Y θ):=kL @hZ x
def nW (it:D6) (x:u!):M ν:=
 (bQ 400 (aZ x.2) (Z (0,2)) (ax (iu x.1) λy1=>(aJ (!y1) (Z (0,1)) (ax (fg x.1) λy2=>(bV (cX 0 (aZ x.1.c)&&cX (aZ x.1.c) (aZ x.1.c)&&bg (aO (aZ x.1.c)) 24) (it (Int×(gk×Y lZ)×iV×(η)×Y θ) _ (λA=>(bQ A.1 (aZ x.2) (bJ gm x.2 A.1 λI=>(ax (l9 (A.2.1.1,A.a,I)) λy5=>(jn (aJ (!y5.2) (aH (J,A.2.1,A.a,A.b,I,y5.1,A.g)) (ck (ef I.1 (aj A.b)) (ax (eU (((I.1,aS (aO (Zz A.b I.1))),I),A.g)) λy7=>(aH ((!y7.1),A.2.1,A.a,A.b,I,y5.1,y7.2))))) λz=>(aJ z.1 (aH (A.1,12)) (jn (α:=(gk×Y lZ)×iV×(η)×iV×Y θ) (ck (ef z.c.1 (aj z.b)) (bj z.c.2.1 3 (wT z.c.1 z.j (bV (aA (aO (Zz z.b z.c.1)) (aj (BG (T:=.bool) z.j z.c.1))&&bg ((aO (Zz z.b z.c.1))+aj ([J]:θ)) 1) (ck (ef z.c.1 (aj z.b)) (aH (z.2.1,z.a,(zX z.b (aO z.c.1) (aS (aj ((BG (T:=.bool) z.j z.c.1)++([J]))))),z.e,(EX (T:=.bool) (EX (T:=.bool) z.j z.c.1 []) z.c.1 ((BG (T:=.bool) z.j z.c.1)++([J])))))))) (wT z.c.1 z.j (bV (aA (aO (Zz z.b z.c.1)) (aj (BG (T:=.bool) z.j z.c.1))&&bg ((aO (Zz z.b z.c.1))+aj ([(decide ((z.c.2.1:Int)=23))]:θ)) 1) (ck (ef z.c.1 (aj z.b)) (aH (z.2.1,z.a,(zX z.b (aO z.c.1) (aS (aj ((BG (T:=.bool) z.j z.c.1)++([(decide ((z.c.2.1:Int)=23))]))))),z.e,(EX (T:=.bool) (EX (T:=.bool) z.j z.c.1 []) z.c.1 ((BG (T:=.bool) z.j z.c.1)++([(decide ((z.c.2.1:Int)=23))])))))))))) λL=>(cP ((cL A.1),L.1,L.b,L.a,L.g))))))) (aH (0,0)))) (0,x,y2,(aE (aO (aZ x.1.c)) (0:Int)),(aE (aO (aZ x.1.c)) ([]:θ)))))))))
def sg (x:u!):M ν:=nW @iter x
def ib (x:u!):M ν:=nW @hZ x
abbrev P?:=(Y η)×Int
def AE (it:D6) (x:u!):M P?:=
 (ax (ib x) λy1=>(gO y1.2 0 (Z (([]:Y η),12)) (ax (pq x.1) λL=>(bV (cX 0 (aZ x.2)&&cX (aZ x.2) (aZ x.2)&&bg (aO (aZ x.2)) 24) (it (Int×(gk×Y lZ)×Yd0×Y η) _ (λz=>(bQ z.1 (aZ x.2) (bJ gm x.2 z.1 λI=>(ax (uA (z.2.1.1,z.a,I)) λA=>(ck (ef z.1 (aj z.d)) (cP ((cL z.1),z.2.1,A.1,(ca z.d z.1 A.2)))))) (aH (z.d,0)))) (0,x,L,(aE (aO (aZ x.2)) ([]:η))))))))
def E8 (x:u!):M P?:=AE @iter x
def rm (x:u!):M P?:=AE @hZ x
def BN:Nat:=1000000000
def jl (a b:η):η:=(dA (max (l! a) (l! b))).map λi=>kA (a.getD i 0) (b.getD i 0)
def rK (a b:η):l! (jl a b)=max (l! a) (l! b):=by simp[jl]
def tK (a b:η) (i:Nat):(jl a b).getD i 0=kA (a.getD i 0) (b.getD i 0):=by
 unfold jl;simp[aD,bE];by_cases h:i<max (l! a) (l! b)
 .grind
 .rw[eA (by grind),eA (l:=a) (by omega),eA (l:=b) (by omega)];rfl
def Pj (c:η) (i:Nat):kl (c,(i:Int))=Z (c.getD i 0):=by
 unfold kl bQ wT aZ aH;rw[Bi (by omega)];by_cases h:i<l! c
 .rw[VZ (by grind)];rw[cH (dc h),yX];rfl
 .rw[s_ (by grind)];simp_all
def af4 (a b:η) (L:l! a<=BN) (I:l! b<=BN):j_ (a,b)=Z (jl a b):=by
 unfold BN at L I;unfold j_ xD ck bQ bV aZ cP aH cL;rw[cH (by simp only[Cj];rw[s_ (by omega),s_ (by omega),Ai (by omega) (by omega)];rfl)];simp only[Cj,cR,ey];have:=Cg (σ:=f?) (R:=η) (max (l! a) (l! b)) (by omega) (λi=>((i:Int),(dA (max (l! a) (l! b))).map λk=>if k<i then kA (a.getD k 0) (b.getD k 0) else 0)) (f:=(λx1=>(aJ (gI x1.1 (aS (max (l! a) (l! b)))) (ax (kl (a,x1.1)) λA=>(ax (kl (b,x1.1)) λz=>(chk (ef x1.1 (aj x1.2)) λ_=>(chk (ef x1.1 (aj x1.2)) λ_=>(Z (lP ((a_ .i64 (x1.1+1)),(ca x1.2 x1.1 (kA A z))))))))) (Z (bL x1.2))))) (r:=jl a b) ?_ ?_
 .refine Eq.trans ?_ this;congr 1;simp[Int.natCast_zero,qe,dZ,aQ,EO];apply em<;>simp
 .intro i hi;rw[xw (by grind),ep,Pj,Pj,dm,dm,cH (dc (by grind)),cH (dc (by grind)),rx hi (by omega),eR];congr 3;apply em
  .simp
  .grind
 .simp[];rw[Bi (by simp),eY];unfold jl;simp_all
def ai4 (a b:η) (ha:l! a<=BN) (L:l! b<=BN):vB (a,b)=Z (jl a b,b):=by
 unfold BN at ha L;unfold vB LS ck bQ bV aZ cP aH cL;have hm:max (l! a) (l! b)<=1000000000:=by omega
 rw[cH (by simp only[Cj];rw[s_ (by omega),s_ (by omega),Ai (by simp;omega) (by simp;omega)];rfl)];simp only[Cj,cR,ey];have:=Cg (σ:=Int×x!) (R:=x!) (max (l! a) (l! b)) (by omega) (λi=>((i:Int),b,(dA (max (l! a) (l! b))).map λk=>if k<i then kA (a.getD k 0) (b.getD k 0) else 0)) (f:=(λx1=>(aJ (gI x1.1 (aS (max (l! a) (l! b)))) (ax (kl (a,x1.1)) λA=>(ax (kl (x1.2.1,x1.1)) λz=>(chk (ef x1.1 (aj x1.2.2)) λ_=>(chk (ef x1.1 (aj x1.2.2)) λ_=>(Z (lP ((a_ .i64 (x1.1+1)),x1.2.1,(ca x1.2.2 x1.1 (kA A z))))))))) (Z (bL (x1.2.2,x1.2.1)))))) (r:=(jl a b,b)) ?_ ?_
 .refine Eq.trans ?_ this;congr 1;simp only[Int.natCast_zero,qe,dZ,aQ,EO];apply em<;>simp
 .intro i hi;simp only[];rw[xw (by simp;omega),ep,Pj,Pj,dm,dm,cH (dc (by simpa using hi)),cH (dc (by simpa using hi)),rx hi (by omega),eR];congr 4;apply em
  .simp
  .intro k h1 h2;simp only[bx,qK]at h2;simp only[List.getElem_set,List.getElem_map,List.getElem_range];by_cases e:i=k
   .subst e;simp
   .by_cases h:k<i
    .rw[av e,aC h,aC (by omega)]
    .rw[av e,av h,av (by omega)]
 .simp only[];rw[Bi (by simp),eY];congr 3;unfold jl;apply nu;intro k I;rw[aC (oX.1 I)]
def YD (a b:η) (A:l! a<=BN) (z:l! b<=BN):Fe (a,b)=Z (jl a b):=by
 unfold Fe;rw[ai4 a b A z,dm];exact Vg rfl _
def tk (c:η) (t:Nat):η:=(c++aE (t+1-l! c) 0).set t (c.getD t 0+1)
def QZ (c:η) (t:Nat):l! (tk c t)=max (l! c) (t+1):=by simp[tk];omega
def padD (c:η) (n i:Nat):(c++aE n 0).getD i 0=c.getD i 0:=by grind
def BV (c:η) (t i:Nat):(tk c t).getD i 0=if i=t then c.getD t 0+1 else c.getD i 0:=by
 unfold tk
 grind
def alp (c:η) (n:Nat) (h:l! c<=n):YO (aE n 0) c=c++aE (n-l! c) 0:=by
 unfold YO;rw[ey,fE h,List.drop_replicate]
def aex (c:η) (t:Nat) (A:l! c<=BN) (ht:t<4) (h0:0<=c.getD t 0) (h1:c.getD t 0<9223372036854775807):rJ (c,(t:Int))=Z (tk c t):=by
 unfold BN at A;unfold rJ ck kw bV aZ aH cL;rw[s_ (by omega),ep,ov,xw (by omega)];simp only[ep,ov];have e1:kA (aS (l! c)) (a_ .i64 ((t:Int)+1))=((max (l! c) (t+1):Nat):Int):=by
  rw[rx ht (by omega)];exact Cj _ _
 rw[e1];rw[cH (by rw[s_ (by omega),s_ (by omega),Ai (by omega) (by omega)];rfl)];rw[cR];have e2:YO (aE (max (l! c) (t+1)) (0:Int)) c=c++aE (t+1-l! c) 0:=by
  rw[alp c _ (by omega)]
  grind
 rw[e2];have z:t<l! (c++aE (t+1-l! c) (0:Int)):=by simp;omega
 rw[cH (dc z),cH (dc z),ov];have I:aI aN (c++aE (t+1-l! c) (0:Int)) (t:Int)=c.getD t 0:=by
  exact padD c _ t
 rw[I,xw h1,ep,cH (dc z),cH (dc z),cH (dc z),cH (dc z),ov,as4 (by omega) (by omega),eR];rfl
def HK (c:η) (z:l! c<=BN):At c=Z c:=by
 unfold BN at z;unfold At;rw[cH (Ai (by omega) (by omega))]
def Sh (c:η) (z:l! c<=BN):xt c=Z c:=by
 unfold BN at z;unfold xt yO bV;rw[cH (Ai (by simp;omega) (by simp;omega)),dm];exact Vg rfl _
def Si (c:η) (z:l! c<=BN):qQ c=Z c:=HK c z
def GL (l:Y η):Prop:=l! l<=BN/\∀c∈l,l! c<=BN
abbrev I!:=Y η×Y η×Y η×Y η×Y η×η×Y η×η
abbrev HTp:Type:=Y η×I!
def GH (h:HTp):Prop:=GL h.1/\GL h.2.1/\GL h.2.2.1/\GL h.2.2.2.1/\GL h.2.2.2.2.1/\GL h.2.2.2.2.2.1/\l! h.2.2.2.2.2.2.1<=BN/\GL h.2.2.2.2.2.2.2.1/\l! h.2.2.2.2.2.2.2.2<=BN
def GF {l:Y η} (h:i<l! l):l.getD i []∈l:=by grind
def GL.at {l:Y η} (h:GL l) (i:Nat):l! (l.getD i [])<=BN:=by
 by_cases hi:i<l! l
 .exact h.2 _ (GF hi)
 .grind
def ahd (g:η->M η) (l:Y η) (A:l! l<=BN) (I:∀c∈l,g c=Z c):
 hZ (σ:=X?) (λx1=>(aJ (gI x1.1 (aS (aj l))) (chk (ef x1.1 (aj l)) λ_=>(ax (g (aI ((.sl (.int .i64))) l x1.1)) λz=>(chk (ef x1.1 (aj x1.2)) λ_=>(chk (ef x1.1 (aj x1.2)) λ_=>(Z (lP ((a_ .i64 (x1.1+1)),(ca x1.2 x1.1 z)))))))) (Z (bL x1.2)))) (0,(aE (aO (aS (aj l))) ([]:η)))=Z l:=by
 unfold BN at A;have:=Cg (σ:=X?) (R:=Y η) (l! l) (by omega) (λi=>((i:Int),(dA (l! l)).map λk=>if k<i then l.getD k [] else [])) (f:=(λx1=>(aJ (gI x1.1 (aS (aj l))) (chk (ef x1.1 (aj l)) λ_=>(ax (g (aI ((.sl (.int .i64))) l x1.1)) λz=>(chk (ef x1.1 (aj x1.2)) λ_=>(chk (ef x1.1 (aj x1.2)) λ_=>(Z (lP ((a_ .i64 (x1.1+1)),(ca x1.2 x1.1 z)))))))) (Z (bL x1.2))))) (r:=l) ?_ ?_
 .refine Eq.trans ?_ this;congr 1;simp[Int.natCast_zero,qe,dZ,aQ,EO,aw,cR];apply em<;>simp
 .intro i hi;rw[xw (by grind),ep,cH (dc hi),yX,show (l.getD i (Ty.zero (.sl (.int .i64))))=l.getD i [] from rfl,I _ (GF hi),dm,cH (dc (by grind)),cH (dc (by grind)),rx hi (by omega),eR];congr 3;apply em
  .simp
  .grind
 .simp[];rw[Bi (by simp),eY];congr 2;apply em
  .simp
  .grind
def tQ (l:Y η) (h:GL l):iK l=Z l:=by
 have z:=h.1;unfold BN at z;unfold iK AD ck bQ wT bV aZ cP aH cL;rw[cH (by rw[s_ (by simp),s_ (by omega),Ai (by grind) (by grind)];rfl)];exact ahd At l h.1 λc A=>HK c (h.2 c A)
def R5 (h:HTp) (g:GH h):tH h=Z (h.2.2.2.2.2.2.1,h.1,h.2.1,h.2.2.1,h.2.2.2.1,h.2.2.2.2.1,h.2.2.2.2.2.1,h.2.2.2.2.2.2.2.1,h.2.2.2.2.2.2.2.2):=by
 let⟨g1,g2,g3,g4,g5,L,I,A,z⟩:=g;unfold tH be bA bM cE fe kZ rY;rw[tQ _ g1,dm,tQ _ g2,dm,tQ _ g3,dm,tQ _ g4,dm,tQ _ g5,dm,tQ _ L,dm,Si _ I,dm,tQ _ A,dm,Si _ z,dm]
abbrev z!:=Y (ζ×Int×Int×Bool×Int)×Y (ζ×Bool)×Y (ζ×Int)×Y ζ×Y ζ×Y π
abbrev xR:Type:=z!
def h0 (w:xR):HTp:=(aE (l! w.2.2.2.2.1) [],aE (l! w.2.2.2.2.1) [],aE (l! w.2.1) [],aE (l! w.2.1) [],aE (l! w.1) [],aE (l! w.2.2.2.1) [],[],aE (l! w.2.2.2.2.1) [],aE (l! w.2.2.2.2.1) (-1))
def amu (w:xR) (h1:l! w.1<=BN) (A:l! w.2.1<=BN) (I:l! w.2.2.2.1<=BN) (z:l! w.2.2.2.2.1<=BN):pq w=Z (h0 w):=by
 unfold BN at h1 A I z;have c:∀n b:Nat,n<=1000000000->b<=24->(cX 0 (aS n)&&cX (aS n) (aS n)&&bg (aO (aS n)) b)=J:=λn b hn L=>by
  have:n*b<=n*24:=Nat.mul_le_mul_left n L;rw[s_ (by simp),s_ (by omega),Ai (by grind) (by grind)];rfl
 unfold pq Dn be bA bM cE fe kZ rY ck bQ bV aZ cP aH cL;rw[cH (c _ 24 z (by omega)),cH (c _ 24 z (by omega)),cH (c _ 24 A (by omega)),cH (c _ 24 A (by omega)),cH (c _ 24 h1 (by omega)),cH (c _ 24 I (by omega)),cH (c _ 24 z (by omega)),cH (c _ 8 z (by omega))];simp[aw,cR,ey];have:=Cg (σ:=Int×d?) (R:=HTp) (l! w.2.2.2.2.1) (by omega) (λi=>((i:Int),aE (l! w.2.2.2.2.1) [],aE (l! w.2.2.2.2.1) [],aE (l! w.2.1) [],aE (l! w.2.1) [],aE (l! w.1) [],aE (l! w.2.2.2.1) [],aE (l! w.2.2.2.2.1) [],(dA (l! w.2.2.2.2.1)).map λk=>if k<i then -1 else 0)) (f:=(λx1=>(aJ (gI x1.1 (l! w.2.2.2.2.1:Int)) (chk (ef x1.1 (aj x1.2.2.2.2.2.2.2.2)) λ_=>(chk (ef x1.1 (aj x1.2.2.2.2.2.2.2.2)) λ_=>(Z (lP ((a_ .i64 (x1.1+1)),x1.2.1,x1.2.2.1,x1.2.2.2.1,x1.2.2.2.2.1,x1.2.2.2.2.2.1,x1.2.2.2.2.2.2.1,x1.2.2.2.2.2.2.2.1,(ca x1.2.2.2.2.2.2.2.2 x1.1 (-1))))))) (Z (bL (x1.2.1,x1.2.2.1,x1.2.2.2.1,x1.2.2.2.2.1,x1.2.2.2.2.2.1,x1.2.2.2.2.2.2.1,([]:η),x1.2.2.2.2.2.2.2.1,x1.2.2.2.2.2.2.2.2)))))) (r:=h0 w) ?_ ?_
 .refine Eq.trans ?_ this;congr 1;simp[Int.natCast_zero,qe,dZ,aQ,EO];apply em<;>simp
 .intro i hi;rw[xw (by omega),ep,cH (dc (by grind)),cH (dc (by grind)),rx hi (by omega),eR];congr 3;simp[aQ,EO];apply em
  .simp
  .grind
 .simp[];rw[Bi (by omega),eY];congr 3;simp[aQ,EO];apply em
  .simp
  .grind
end
end Go.Proofs.YtocjfbiifiaagaaGreatDoor.AI
