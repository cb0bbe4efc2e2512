/-
  Texts of the proof, part 3 of 6: what is used to prove the statement. No condition.
-/
import Derived.Test.YtpjhicegjenpeaaGreatDoorWeakBelowQ1
import Derived.Test.YtpjhicegjenpeaaGreatDoorProg
import Derived.KernelRfl
import Derived.Recover
namespace Go.Proofs.YtpjhicegjenpeaaGreatDoor.AI
open Go.RowKit
set_option maxRecDepth 100000
set_option maxHeartbeats 4000000
set_option linter.unusedVariables false
set_option linter.unusedSimpArgs false
set_option linter.defProp false
open Act renaming put→Sc
open _root_.Array renaming replicate→uG
open _root_.Bool renaming true→J,false→af
open _root_.Int renaming ofNat_eq_natCast→aB,toNat→aN,ofNat→aQ,reduceEq→bF,reduceNeg→em,tmod→Db
open _root_.List renaming length→l!,length→aj,replicate→aC,length_singleton→cO,take→dP,range→e_,map→gL,cons_append→gP,getElem?_cons_zero→hZ,length_cons→kn,nil_append→lq,getElem?_concat_length→nY,length_nil→pI,set→sH,take_succ_cons→yw,foldl_cons→Am,getElem?_cons_succ→BQ,map_nil→C'
open _root_.Nat renaming beq→ax,testBit→aK,ble→dN,blt→ey,mod_eq_of_lt→xh,le_succ→R8
open Oper renaming wp→Lx
open _root_.Option renaming some→Z,none→U,bind_some→aF,map_some→bh,map→il,getD_some→sG
open _root_.Prod renaming a→bf,b→bA,c→bH,d→cF,e→c_,f→dM,h→dT,g→eR,n→ic,p→xg
open Region renaming wanted→jJ
open Result renaming andThen_ok→cW
open Sem renaming run_bind→fH,run_pure→xf
open _root_.Sum renaming inr→b8,inl→rB
noncomputable section
def fR (am:Nat) (e e':h_):Prop:=∀k,aK am k=af->∀z,e'.get k=Z z->∃v,e.get k=Z v/\(wA v=J->z=v)
def fR.refl (am:Nat) (e:h_):fR am e e:=λ_ _ z h=>⟨z,h,λ_=>rfl⟩
variable {i:Nat}
def fR.trans {a b c:h_} (h1:fR i a b) (h2:fR i b c):fR i a c:=λk z D L=>by
 let⟨A,g1,g2⟩:=h2 k z D L;let⟨v,g3,g4⟩:=h1 k z A g1
 grind
variable {j:Nat}
def fR.mono {a b:h_} (h:fR i a b) (hm:∀k,aK i k=J->aK j k=J):fR j a b:=λk z=>h k (by
 cases A:aK i k with
 |false=>rfl
 |true=>rw[hm k A]at z;cases z)
structure alh (P:Program) (ops:Array Oper) (rest:List Oper) (sl:List uC) (am:Nat) (s s':TS) (fs:List FPm) (l:List (Oper×EG)):Prop where
 ops_:l.map (·.1)=rest
 chain:C8 P ops l (fU s.e s.h) (erHF s.h) (fU s'.e s'.h) (erHF s'.h)
 fsl:l! fs=l! l
 sll:l! sl=l! l
 fp:∀(j:Nat) o f q,l[j]? =Z (o,f)->fs[j]? =Z q->(∀n∈f.rd,aK q.rd (ow n)=J)/\∀n∈f.wr,aK q.wr (ow n)=J
 still:∀(j:Nat) o f so,l[j]? =Z (o,f)->sl[j]? =Z so->so.op.still=J->f.rd=[]/\f.wr=[]
 names:∀(j:Nat) o f,l[j]? =Z (o,f)->∀n∈f.N,s.nx<=ow n/\ow n<s'.nx
 xw:∀(i j:Nat) oi fi oj fj,i<j->l[i]? =Z (oi,fi)->l[j]? =Z (oj,fj)->∀n∈fi.N,n∉fj.N
 jd:s.nx<=s'.nx
 qz:g_ s'.h s'.nx
 qm:sN s'.e s'.h
 keeps:fR am s.e s'.e
variable {h:aX} {y:AV} {u:TV}
def an7 {e:h_} {h':aX} (hi:sN e h) (D:bV h h') (d:M Nat) (L:bW h' u=Z y):PA (fU e h) d y=fU (H_ e d u) h':=by
 funext t;have old:(e.get t).bind (bW h)=(e.get t).bind (bW h'):=by
  cases ht:e.get t with
  |none=>rfl
  |some x=>
   let⟨z,A⟩:=pl h x (hi t x ht);simp[aF,A,fP D x z A]
 cases d with
 |none=>simp[PA,H_,fU];exact old
 |some d=>
  simp[PA,H_,fU,PT.get_set,ah]
  grind
def sN.put {e:h_} {h':aX} (hi:sN e h) (A:bV h h') (d:M Nat) (D:PI h' u=J):sN (H_ e d u) h':=λt x z=>by
 cases d with
 |none=>exact nB A x (hi t x z)
 |some d=>
  simp[H_,PT.get_set]at z;split at z
  .cases z;exact D
  .exact nB A x (hi t x z)
def WA {e:h_} (ht:e.get i=Z u):fU (e.set i (Z u)) h=fU e h:=by
 funext k;simp[fU,PT.get_set]
 grind
def sN.set {e:h_} (hi:sN e h) (ht:e.get i=Z u):sN (e.set i (Z u)) h:=λk x z=>by
 rw[PT.get_set]at z;split at z
 next A=>cases z;exact hi _ _ ht
 .exact hi k x z
variable {R:Type}
def Yr {e:h_} {g:M (Nat×Bool)} {K:Bool->h_->M R} {r:R} (h:ah2 e g K=Z r):
 (g=U/\K J e=Z r)\/(∃t want b,g=Z (t,want)/\e.get t=Z (.f .bool b)/\K (b==want) (e.set t (Z (.f .bool b)))=Z r)\/∃t want,g=Z (t,want)/\e.get t=Z .undef/\K af e=Z r:=by
 unfold ah2 at h;split at h
 .exact .inl ⟨rfl,h⟩
 .rename_i t want;split at h
  .rename_i b z;refine .inr (.inl ⟨t,want,b,rfl,z,?_⟩);cases want with
   |_=>rcases lQ h with ⟨rfl,h⟩|⟨rfl,h⟩<;>exact h
  .grind
  .cases h
variable {T:Program} {X:FuncId->M co} {W:TypeId->M Ty} {B:Array Oper}
def Mr (hcon:HP T X) (ham:∀(j:Nat) (o:Oper) (d:Nat),B[j]? =Z o->o.dst=Z d->aK i d=J):
 ∀(rest:Y Oper) (sl:Y uC) (s:TS) (fs:Y FPm) (K:TS->Y FPm->M R) (r:R),(∀o∈rest,∃j:Nat,B[j]? =Z o)->tX T B rest=Z sl->PD X W sl s fs K=Z r->g_ s.h s.nx->sN s.e s.h->∃s' fs' l,K s' (fs.reverse++fs')=Z r/\alh T B rest sl i s s' fs' l
 |[],sl,s,fs,K,r,hin,hc,z,hH,hE=>by
  simp only[tX,ah]at hc;subst hc;simp only[PD]at z;exact⟨s,[],[],by simpa using z,rfl,.nil _ _,rfl,rfl,by simp,by simp,by simp,by simp,bJ _,hH,hE,fR.refl _ _⟩
 |o::rest,sl,s,fs,K,r,hin,hc,z,hH,hE=>by
  simp only[tX]at hc;split at hc
  .rename_i sl' hsl';have hso:∃g,sl=⟨o.dst,xQ T o.op,g⟩::sl'/\((g=U/\o.guard=U)\/∃j want t,g=Z (t,want)/\o.guard=Z (j,want)/\(B[j]?).bind (·.dst)=Z t):=by grind
   obtain⟨g,rfl,hg⟩:=hso;simp only[PD]at z;have hdst:∀d,o.dst=Z d->aK i d=J:=λd hd=>by
    let⟨j,hj⟩:=hin o (cV ..);exact ham j o d hj hd
   have hgs:∀t want,g=Z (t,want)->aK i t=J:=λt want hgt=>by grind
   have kput:∀(e:h_) (v:TV),fR i s.e e->fR i s.e (H_ e o.dst v):=λe v hke k z v' D=>by
    cases hd:o.dst with
    |none=>rw[hd]at D;exact hke k z v' D
    |some d=>
     rw[hd]at D;simp only[H_,PT.get_set]at D;split at D
     next e2=>rw[e2,hdst d hd]at z;cases z
     .exact hke k z v' D
   have done:∀(f:EG) (v:TV) (h':aX) (nx' rd wr:Nat) (e:h_),fU e s.h=fU s.e s.h->sN e s.h->fR i s.e e->O5 T B o f (fU s.e s.h) (erHF s.h)->(∃y,bW h' v=Z y/\f.val=y)->fx (erHF s.h) f.wr f.nw=erHF h'->(∀n∈f.rd,aK rd (ow n)=J)->(∀n∈f.wr,aK wr (ow n)=J)->(∀n∈f.N,s.nx<=ow n/\ow n<nx')->bV s.h h'->g_ h' nx'->s.nx<=nx'->((xQ T o.op).still=J->f.rd=[]/\f.wr=[])->
    PD X W sl' ⟨H_ e o.dst v,h',nx'⟩ (⟨rd,wr⟩::fs) K=Z r->∃s' fs' l,K s' (fs.reverse++fs')=Z r/\alh T B (o::rest) (⟨o.dst,xQ T o.op,g⟩::sl') i s s' fs' l:=by
    intro f v h' nx' rd wr e hee hiE hke hst hval hheap hrd hwr hN hrows hinv' hgr hstill hrun;let⟨y,hy1,hy2⟩:=hval;let⟨s',fs',l,hK,L⟩:=Mr hcon ham rest sl' _ _ K r (λo' ho'=>hin o' (bP _ ho')) hsl' hrun hinv' (hiE.put hrows o.dst (IQ _ _ _ hy1));have hg2:nx'<=s'.nx:=L.jd;refine ⟨s',⟨rd,wr⟩::fs',(o,f)::l,by simpa using hK,by simp[L.ops_],.cons hst ?_,by simp[L.fsl],by simp[L.sll],?_,?_,?_,?_,c6 hgr hg2,L.qz,L.qm,(kput e v hke).trans L.keeps⟩
    .have e1:PA (fU s.e s.h) o.dst f.val=fU (H_ e o.dst v) h':=by rw[<- hee,hy2];exact an7 hiE hrows o.dst hy1
     rw[e1,hheap];exact L.chain
    .intro j o' f' q' h1 A;cases j with
     |zero=>simp at h1 A;obtain⟨rfl,rfl⟩:=h1;subst A;exact⟨hrd,hwr⟩
     |succ j=>exact L.fp j o' f' q' (by simpa using h1) (by simpa using A)
    .intro j o' f' so h1 A h3;cases j with
     |zero=>simp at h1 A;obtain⟨rfl,rfl⟩:=h1;subst A;exact hstill h3
     |succ j=>exact L.still j o' f' so (by simpa using h1) (by simpa using A) h3
    .intro j o' f' h1 n hn;cases j with
     |zero=>
      simp at h1;obtain⟨rfl,rfl⟩:=h1;have:=hN n hn;exact⟨this.1,by omega⟩
     |succ j=>
      have:=L.names j o' f' (by simpa using h1) n hn;exact⟨c6 hgr this.1,this.2⟩
    .intro am j oi fi oj fj hij h1 A n hn hn';cases j with
     |zero=>omega
     |succ j=>
      have hj:=L.names j oj fj (by simpa using A) n hn';cases am with
      |zero=>
       simp at h1;obtain⟨rfl,rfl⟩:=h1;have h3:=(hN n hn).2;have h4:nx'<=ow n:=hj.1;omega
      |succ am=>exact L.xw am j oi fi oj fj (by omega) (by simpa using h1) (by simpa using A) n hn hn'
   have runs:∀(e:h_),fU e s.h=fU s.e s.h->sN e s.h->fR i s.e e->(∀f,gF T o (fU s.e s.h) (erHF s.h) f->O5 T B o f (fU s.e s.h) (erHF s.h))->opK X W (xQ T o.op) e s.h s.nx (λv rd wr h nx=>if PI h v then PD X W sl' ⟨H_ e o.dst v,h,nx⟩ (⟨rd,wr⟩::fs) K else U)=Z r->∃s' fs' l,K s' (fs.reverse++fs')=Z r/\alh T B (o::rest) (⟨o.dst,xQ T o.op,g⟩::sl') i s s' fs' l:=by
    intro e hee hiE hke hstep z;let⟨v,rd,wr,h',nx',hK,P⟩:=awl hcon hH hiE rfl z;simp only[]at hK;split at hK
    .rename_i hok;let⟨f,t1,t2,t3,t4,t5,t6⟩:=P.ex;rw[hee]at t1;let⟨y,hy⟩:=pl h' v hok;refine done f v h' nx' rd wr e hee hiE hke (hstep f t1) ⟨y,hy,t2 y hy⟩ t3 t4 t5 t6 P.H P.inv P.jd (λhs=>?_) hK;let⟨r0,w0⟩:=P.st hs;subst r0 w0;constructor
     .cases hl:f.rd with
      |nil=>rfl
      |cons n q=>have:=t4 n (by rw[hl];simp);simp at this
     .cases hl:f.wr with
      |nil=>rfl
      |cons n q=>have:=t5 n (by rw[hl];simp);simp at this
    .cases hK
   have skips:∀(e:h_),fU e s.h=fU s.e s.h->sN e s.h->fR i s.e e->O5 T B o tO (fU s.e s.h) (erHF s.h)->PD X W sl' ⟨H_ e o.dst .undef,s.h,s.nx⟩ (⟨0,0⟩::fs) K=Z r->∃s' fs' l,K s' (fs.reverse++fs')=Z r/\alh T B (o::rest) (⟨o.dst,xQ T o.op,g⟩::sl') i s s' fs' l:=by
    intro e hee hiE hke hstep z;exact done tO .undef s.h s.nx 0 0 e hee hiE hke hstep ⟨_,rfl,rfl⟩ (by funext am;simp[fx,tO]) (by simp[tO]) (by simp[tO]) (by simp[tO]) (bV.refl _) hH (bJ _) (λ_=>⟨rfl,rfl⟩) z
   rcases Yr z with ⟨h1,z⟩|⟨t,want,b,h1,hb,z⟩|⟨t,want,h1,hb,z⟩
   .refine runs s.e rfl hE (fR.refl _ _) (λf hf=>?_) z;rcases hg with ⟨_,hg⟩|⟨j,want,t,A,_,_⟩
    .exact .run hg hf
    .rw[h1]at A;cases A
   .rcases hg with ⟨A,_⟩|⟨j,want',t',A,h3,h4⟩
    .rw[h1]at A;cases A
    .rw[h1]at A;cases A;have hgt:=hgs t want h1;have heb:fU s.e s.h t=Z (.f (.raw (.bool b))):=by simp only[fU,hb,aF,bW];rfl
     have hke:fR i s.e (s.e.set t (Z (.f .bool b))):=λk z v' D=>by
      rw[PT.get_set]at D;split at D
      next ek=>rw[ek,hgt]at z;cases z
      .exact⟨v',D,λ_=>rfl⟩
     cases hbw:(b==want) with
     |true=>
      rw[hbw]at z;have:b=want:=by simpa using hbw
      subst this;exact runs _ (WA hb) (hE.set hb) hke (λf hf=>.runG j t b h3 h4 heb hf) z
     |false=>
      rw[hbw]at z;refine skips _ (WA hb) (hE.set hb) hke (.skip j t want h3 h4 (.bool b) heb ?_ rfl) z;intro D;cases D;simp at hbw
   .rcases hg with ⟨A,_⟩|⟨j,want',t',A,h3,h4⟩
    .rw[h1]at A;cases A
    .rw[h1]at A;cases A;exact skips _ rfl hE (fR.refl _ _) (.skip j t want h3 h4 undef (by simp only[fU,hb,aF,bW]) (by unfold undef;simp) rfl) z
  .cases hc
def anm {sl:Y uC} {s s':TS} {fs:Y FPm} {l:Y w?} {prs:Y q!} (A:alh T B B.toList sl i s s' fs l) (hp:Q6 B sl=Z prs) (hok:Jw fs prs=J):NIP B l:=by
 unfold Q6 at hp;simp only[]at hp;split at hp
 .rename_i hall;simp only[iJ,oO,al]at hall;simp only[ah]at hp;have hop:∀(j:Nat) o f,l[j]? =Z (o,f)->B[j]? =Z o:=λj o f D=>by
   have h1:(l.map (·.1))[j]? =Z o:=by rw[bB,D];rfl
   rw[A.ops_]at h1;simpa using h1
  have hsize:∀(j:Nat) o,B[j]? =Z o->j<B.size:=λj o h=>(dz.1 h).1
  have hprs:∀am j,(am,j)∈prs->∃a b,fs[am]? =Z a/\fs[j]? =Z b/\Ks a.wr b.rd=J/\Ks a.wr b.wr=J/\Ks b.wr a.rd=J:=by
   clear hp hall;induction prs with
   |nil=>intro am j h;cases h
   |cons p prs ih=>
    let⟨i0,j0⟩:=p;simp only[Jw,al,ach]at hok
    grind
  refine ⟨λj o ho e he hb=>?_,λam j oi fi oj fj hij hi D=>?_,A.xw⟩
  .grind
  .have h1:=hop am oi fi hi;have h2:=hop j oj fj D;have hcase:=(hall j (hsize j oj h2)).2 am hij;rw[h1,h2]at hcase;simp only[nz]at hcase;by_cases hB:aK ((OT B.toList []).getD j 0) am=J
   .left;rw[aw]at hB;cases L:(OT B.toList [])[j]? with
    |none=>rw[L]at hB;simp at hB
    |some ops=>
     rw[L]at hB;exact RQ (ops:=B) B.toList [] (λj o D=>by simpa using D) (λj ops D=>by simp at D) j ops L am (by simpa using hB)
   .right;have hap:=hcase.resolve_left hB;refine ⟨hap,?_⟩;have hil:am<l! l:=(bz.1 hi).1;have hjl:j<l! l:=(bz.1 D).1;have hsi:=aG (show am<l! sl by rw[A.sll];exact hil);have hsj:=aG (show j<l! sl by rw[A.sll];exact hjl);by_cases hst:(sl[am]'(by rw[A.sll];exact hil)).op.still=J
    .obtain⟨q1,q2⟩:=A.still am oi fi _ hi hsi hst
     grind
    .by_cases hst2:(sl[j]'(by rw[A.sll];exact hjl)).op.still=J
     .obtain⟨q1,q2⟩:=A.still j oj fj _ D hsj hst2
      grind
     .have hmem:(am,j)∈prs:=by
       rw[<- hp,xk];refine ⟨j,oO.2 (hsize j oj h2),?_⟩
       grind
      let⟨a,b,ha,hb,d1,d2,d3⟩:=hprs am j hmem;let⟨f1,f2⟩:=A.fp am oi fi a hi ha;let⟨g1,g2⟩:=A.fp j oj fj b D hb;refine ⟨λx L=>⟨λz=>?_,λz=>?_⟩,λx L z=>?_⟩
      .have:=Bd d1 (ow x) (f2 x L);rw[g1 x z]at this;cases this
      .have:=Bd d2 (ow x) (f2 x L);rw[g2 x z]at this;cases this
      .have:=Bd d3 (ow x) (g2 x L);rw[f1 x z]at this;cases this
 .cases hp
structure jI (P:Program) (E:Nat->Prop) (nt np:Nat) (φ:PM) (s:TS) (a:Act) (w:World):Prop where
 zq:sC φ E (erHF s.h) w
 env:R3 φ (tot E φ (erHF s.h)) w (fU s.e s.h) a
 dom:∀n k,φ n=Z k->ow n<s.nx
 low:np<=s.nx
 qz:g_ s.h s.nx
 qm:sN s.e s.h
 inert:∀d∈a.defers,Yg P d
 size:a.tmps.size=nt
structure xU (np:Nat) (φ φ':PM) (H H':HF) (w w':World):Prop where
 ext:HY (own φ H) w w'
 ql:∀k,k<w.heap.size->own φ' H' k->own φ H k
 par:∀n,ow n<np->φ' n=φ n
def xU.refl (np:Nat) (φ:PM) (H:HF) (w:World):xU np φ φ H H w w:=⟨HY.refl _ _,λ_ _ h=>h,λ_ _=>rfl⟩
variable {w:World} {V:PM} {S:HF}
def xU.trans {φ' φ'':PM} {H' H'':HF} {w' w'':World} (a:xU i V φ' S H' w w') (b:xU i φ' φ'' H' H'' w' w''):xU i V φ'' S H'' w w'' where
 ext:=⟨b.ext.os.trans a.ext.os,b.ext.tape.trans a.ext.tape,b.ext.output.trans a.ext.output,c6 a.ext.size b.ext.size,
  λk z A=>(b.ext.jp k (dy z a.ext.size) (λh=>A (a.ql k z h))).trans (a.ext.jp k z A),
  λk z=>(b.ext.xz k (dy z a.ext.size)).trans (a.ext.xz k z)⟩
 ql:=λk z h=>a.ql k z (b.ql k (dy z a.ext.size) h)
 par:=λnp hi=>(b.par np hi).trans (a.par np hi)
variable {O:Nat->Prop} {z:Act} {b:Bool} {d:Exit->Act->World->Prop}
def ahx {s:TS} (hm:T.follows .mixedOrders=J) (hcon:HP T X) (c:jI T O i j V s z w) {id:Nat} {sl:Y uC} {prs:Y q!} {am:Nat} (ham:∀(np:Nat) (o:Oper) (Q:Nat),B[np]? =Z o->o.dst=Z Q->aK am Q=J)
 (hd:(B.toList.all λo=>match o.dst with|some Q=>decide (Q<i)|none=>J)=J) (hc:tX T B B.toList=Z sl) (hp:Q6 B sl=Z prs) {K:TS->M R} {r:R} (hr:PD X W sl s [] (λs' fs=>if Jw fs prs then K s' else U)=Z r) 
 (hQ:∀a' w' s' φ',K s'=Z r->jI T O i j φ' s' a' w'->xU j V φ' (erHF s.h) (erHF s'.h) w w'->fR am s.e s'.e->d .normal a' w'):(Code.region id B b).wp T d z w:=by
 let⟨s',fs',l,hK,L⟩:=Mr hcon ham B.toList sl s [] _ r (λo ho=>by
  let⟨np,D⟩:=fI ho;exact⟨np,by simpa using D⟩) hc hr c.qz c.qm
 have hK:(if Jw fs' prs then K s' else U)=Z r:=hK;by_cases hok:Jw fs' prs=J
 .rw[aD hok]at hK;refine Vh (φ0:=V) (E:=O) hm L.ops_ L.chain (anm L hp hok) ?_ ?_ c.zq c.env ?_
  .intro n A;let⟨p,a,A⟩:=xk.1 A;let⟨np,D⟩:=fI a;have:=L.names np p.1 p.2 D n A;cases hx:V n with
   |none=>rfl
   |some k=>have:=c.dom n k hx;omega
  .intro np o ho Q hd';have:=iJ.1 hd o (by grind);rw[hd']at this;rw[c.size];simpa using this
  .rintro a' w' ⟨φ',m',d',r',en',df',sz'⟩;have hnm:∀n k,φ' n=Z k->V n=Z k\/(s.nx<=ow n/\ow n<s'.nx):=λn k hik=>by
    rcases d' n k hik with h|h
    .exact .inl h
    .obtain⟨p,a,A⟩:=xk.1 h;let⟨np,D⟩:=fI a;exact .inr (L.names np p.1 p.2 D n A)
   have hg:=L.jd;have hlow:=c.low;refine hQ a' w' s' φ' hK ⟨r',en',λn k hik=>?_,by omega,L.qz,L.qm,by rw[df'];exact c.inert,by rw[sz'];exact c.size⟩ ⟨m'.ext,m'.ql,λnt hi=>?_⟩ L.keeps
   .rcases hnm n k hik with h|h
    .have:=c.dom n k h;omega
    .exact h.2
   .cases hx:V nt with
    |some k=>exact m'.sub _ _ hx
    |none=>
     cases hy:φ' nt with
     |none=>rfl
     |some k=>grind
 .grind
section ren
variable {P:Program} {E:Nat->Prop} {nt np:Nat}
def LF {s:TS} (c:jI P E nt np V s z w) (src:Nat->Nat) (hsrc:∀n,ow n≠s.nx->src n=n) (hr:bV s.h h) (hinv:g_ h (s.nx+1))
 (L:∀n b',erHF h n=Z b'->∃b,erHF s.h (src n)=Z b/\∀(φ':PM) (O':Nat->Prop),(∀n,φ' n=V (src n))->(∀x v,cf V (tot E V (erHF s.h)) w x v->cf φ' O' w x v)->∀o,ij V (tot E V (erHF s.h)) w b o->ij φ' O' w b' o)
 (inj:∀n m b b',erHF h n=Z b->erHF h m=Z b'->src n=src m->n=m):∃φ',jI P E nt np φ' ⟨s.e,h,s.nx+1⟩ z w/\xU np V φ' (erHF s.h) (erHF h) w w:=by
 have sub:∀n k,V n=Z k->V (src n)=Z k:=λn k A=>by
  have:=c.dom n k A
  grind
 have own_:∀k,own (λn=>V (src n)) (erHF h) k->own V (erHF s.h) k:=by
  rintro k ⟨i,b,h1,h2⟩;let⟨b0,h3,_⟩:=L i b h1;exact⟨src i,b0,h3,h2⟩
 have tot_:∀k,tot E (λn=>V (src n)) (erHF h) k->tot E V (erHF s.h) k:=λk A=>A.imp id (own_ k)
 have keep:∀x v,cf V (tot E V (erHF s.h)) w x v->cf (λn=>V (src n)) (tot E (λn=>V (src n)) (erHF h)) w x v:=λx v h'=>h'.ext sub (HY.refl _ w) λk _ A=>tot_ k A
 refine ⟨λn=>V (src n),⟨⟨λi j b b' k h1 h2 h3 h4=>?_,λn b' hb=>?_,c.zq.el,λg cells hg=>(c.zq.gl g cells hg).ext (HY.refl _ w) λk _ A=>tot_ k A⟩,λt x D=>?_,λn k A=>?_,gg c.low,hinv,λt x D=>nB hr x (c.qm t x D),c.inert,c.size⟩,⟨HY.refl _ _,λk _ A=>own_ k A,λn hn=>?_⟩⟩
 .obtain⟨b0,q1,_⟩:=L i b h1;let⟨b1,q2,_⟩:=L j b' h2;exact inj i j b b' h1 h2 (c.zq.inj _ _ b0 b1 k q1 q2 h3 h4)
 .obtain⟨b,q1,q2⟩:=L n b' hb;let⟨k,p1,p2,o,p3,p4⟩:=c.zq.at_ _ b q1;exact⟨k,p1,p2,o,p3,q2 _ _ (λ_=>rfl) keep o p4⟩
 .simp[fU]at D;cases he:s.e.get t with
  |none=>rw[he]at D;cases D
  |some q=>
   rw[he]at D;let⟨a,hz⟩:=pl s.h q (c.qm t q he);simp[aF,fP hr q a hz,ah]at D;subst D;exact keep _ _ (c.env t _ (by simp[fU,he,aF,hz]))
 .have A:V (src n)=Z k:=A;by_cases e:ow n=s.nx
  .grind
  .rw[hsrc n e]at A;have:=c.dom n k A
   grind
 .have:=c.low
  grind
variable {s:TypeId} {r:Y AV}
def yP {φ':PM} {O':Nat->Prop} {l':Y AV} {o:Obj} (hlen:l! l'=l! r) (L:∀(j:Nat) z,l'[j]? =Z z->z.isCell=J/\∃x,r[j]? =Z x/\∀v,cf V O w x v->cf φ' O' w z v) (h:ij V O w ⟨s,.mx r⟩ o):ij φ' O' w ⟨s,.mx l'⟩ o:=by
 let⟨arr,h1,h2,h3⟩:=h;refine ⟨arr,h1,by simp[BC.len]at h2 ⊢;omega,λj z D=>?_⟩;let⟨A,x,p2,p3⟩:=L j z D;let⟨_,v,p4,p5⟩:=h3 j x p2;exact⟨A,v,p4,p3 v p5⟩
def Mw {φ':PM} {O':Nat->Prop} {l l':Y n!} {o:Obj} (D:l'.map (·.1)=l.map (·.1)) (hl:∀(j:Nat) z,l'[j]? =Z z->∃x,l[j]? =Z x/\x.1=z.1/\∀v,cf V O w x.2 v->cf φ' O' w z.2 v) (h:ij V O w ⟨0,.mp l⟩ o):ij φ' O' w ⟨0,.mp l'⟩ o:=by
 let⟨ents,clock,h1,A,h3⟩:=h;refine ⟨ents,clock,h1,?_,λj z L=>?_⟩
 .unfold MpK at A ⊢;rw[D];exact A
 .grind
def ae0 (n:Nat) (j:Int):(shf n j).toNat=if j.toNat<n then j.toNat else j.toNat+1:=by
 unfold shf;by_cases h:j.toNat<n
 .simp_all
 .rw[av h,av (λe=>h (Um e))];rfl
def uK (nx a p m1 m2 len n:Nat):Nat:=if ow n=nx then (match ix n with
 |0=>n
 |k+1=>if k/3<len then jQ a (k+1) else if k/3=len then (if k%3=0 then nm p else if k%3=1 then nm m1 else nm m2) else jQ a (k+1-3)) else n
def yJ (nx a p m1 m2 len k:Nat):uK nx a p m1 m2 len (jQ nx (k+1))=if k/3<len then jQ a (k+1) else if k/3=len then (if k%3=0 then nm p else if k%3=1 then nm m1 else nm m2) else jQ a (k+1-3):=by
 unfold uK;rw[iR,wy,aD rfl]
def ab2 {p m1 m2 len k:Nat} (h:k/3<len):uK i j p m1 m2 len (jQ i (k+1))=jQ j (k+1):=by rw[yJ,aD h]
def Mb (nx a p m1 m2 len:Nat) (j:Int):uK nx a p m1 m2 len (pK nx (shf len j))=pK a j:=by
 unfold pK;rw[yJ,ae0]
 grind
def ac0 {e:Y u!} (hm:anv (h.get i)=Z e):erHF h (nm i)=Z ⟨0,.mp (Ik e)⟩/\∃K V es,h.get i=Z (.mp K V es):=by
 unfold anv at hm;split at hm
 next es z=>simp[ah]at hm;subst hm;exact⟨by rw[bG,z];rfl,_,_,_,z⟩
 next z=>simp[ah]at hm;subst hm;exact⟨by rw[bG,z];rfl,_,_,_,z⟩
 .cases hm
def EnR (R:AV->AV->Prop):Y n!->Y n!->Prop
 |[],[]=>True
 |x::l,y::l'=>x.1=y.1/\R x.2 y.2/\EnR R l l'
 |_,_=>False
def EnR.get {R:AV->AV->Prop}:∀{l l':Y n!},EnR R l l'->l'.map (·.1)=l.map (·.1)/\∀(j:Nat) z,l'[j]? =Z z->∃x,l[j]? =Z x/\x.1=z.1/\R x.2 z.2
 |[],[],_=>⟨rfl,λj z A=>by simp at A⟩
 |[],_::_,h|_::_,[],h=>h.elim
 |x::l,y::l',h=>by
  let⟨L,D⟩:=EnR.get h.2.2;refine ⟨by simp[b9,L,h.1],λj z A=>?_⟩;cases j with
  |zero=>simp[hZ,ah]at A;subst A;exact⟨x,rfl,h.1,h.2.1⟩
  |succ j=>exact D j z A
def NF {R:AV->AV->Prop} {a nx len:Nat} (z:∀j,R (.P (pK a j) 0) (.P (pK nx (shf len j)) 0)):∀es:Y e!,EnR R (w7 a es) (w7 nx (Md len es))
 |[]=>trivial
 |e::r=>⟨rfl,z e.2,NF z r⟩
def WG {R:AV->AV->Prop} {a nx len:Nat} (D:∀j,R (.P (pK a j) 0) (.P (pK nx (shf len j)) 0)) {v:AV} (A:R v (.P (pK nx (aQ len)) 0)) (k:ν):∀es:Y e!,EnR R (ND a k v es) (w7 nx (yQ k (aQ len) (Md len es)))
 |[]=>⟨rfl,A,trivial⟩
 |e::r=>by
  have L:=WG D A k r;show EnR R (ND a k v (e::r)) (w7 nx (yQ k (aQ len) ((e.1,shf len e.2)::Md len r)));simp[ND,yQ];by_cases z:k=e.1
  .rw[aD z,LM.2 z];exact⟨rfl,A,NF D r⟩
  .rw[av z];cases hq:PP k e.1 with
   |true=>exact cq (LM.1 hq) z
   |false=>exact⟨rfl,D e.2,L⟩
variable {v:Value}
def Df {φ':PM} {O':Nat->Prop} {off:Nat} (h:φ' j=V i) (A:cf V O w (.P i off) v):cf φ' O' w (.P j off) v:=by
 cases A with
 |P D=>exact .P (h.trans D)
def SM {φ':PM} {O':Nat->Prop} (h:φ' j=V i) (A:cf V O w (.mp i) v):cf φ' O' w (.mp j) v:=by
 cases A with
 |mp D=>exact .mp (h.trans D)
def LC {φ':PM} {O':Nat->Prop} {sz m:Nat} (h:φ' j=V i) (A:cf V O w (.I i sz m) v):cf φ' O' w (.I j sz m) v:=by
 cases A with
 |I D h1 h2 L=>exact .I (h.trans D) h1 h2 L
def ahr (a n len:Nat) (B:e9):iM (rnF a n len B)=iM B:=by
 cases B with
 |Q F b x=>
  simp[rnF];split
  .cases F with
   |qn ty=>
    show Z (J,1,aj (gL (shf len) (x:η)))=Z (J,1,aj (α:=Int) x)
    grind
   |_=>rfl
  .rfl
 |_=>rfl
def yo (φ:PM) (O:Nat->Prop) (w:World) (src:Nat->Nat) (b b':kH):Prop:=∀(φ':PM) (O':Nat->Prop),(∀n,φ' n=φ (src n))->(∀x v,cf φ O w x v->cf φ' O' w x v)->∀o,ij φ O w b o->ij φ' O' w b' o
variable {g:Nat->Nat}
def yo.refl (b:kH):yo V O w g b b:=λ_ _ _ keep _ h=>h.mono keep
variable {K:Ty}
def Wv {k:Nat} {ob:C6 K} (h1:k%3=0->g (jQ i (k+2))=jQ j (k+2)) (h2:k%3=0->g (jQ i (k+3))=jQ j (k+3)):yo V O w g (wJ j k s K ob) (wJ i k s K ob):=by
 intro φ' O' hφ keep oo hoo;unfold wJ at hoo ⊢;by_cases D:k%3=0
 .rw[aD D]at hoo ⊢;refine yP (by simp) (λai L z=>?_) hoo;by_cases hj:ai<l! (bD K ob.1)
  .rw[bI (by grind)]at z ⊢;refine ⟨?_,L,z,λv A=>keep _ _ A⟩;obtain⟨y,hy,rfl⟩:=cr.1 (a8 z);exact mD K [ob.1] y (by grind)
  .rw[b_ (by grind)]at z ⊢;generalize ai-l! (gL AV.f (bD K ob.1))=q at z ⊢
   match q with
   |0=>
    simp only[hZ,ah]at z ⊢;subst z;exact⟨rfl,_,rfl,λv A=>SM (by grind) A⟩
   |1=>
    simp only[BQ,hZ,ah]at z ⊢;subst z;exact⟨rfl,_,rfl,λv A=>SM (by grind) A⟩
   |q+2=>simp at z
 .rw[av D]at hoo ⊢;exact hoo.mono keep
def ajx {E:Nat->Prop} (rep:sC V E S w) {m1 m2:Nat} {H:Ty} {ob:C6 H} (k0:j%3=0) (hle:gZ S S r ((bD H ob.1).map .f)) (h1:g (jQ i (j+2))=nm m1) (h2:g (jQ i (j+3))=nm m2):yo V (tot E V S) w g ⟨s,.mx (r++[.mp (nm m1),.mp (nm m2)])⟩ (wJ i j s H ob):=by
 intro φ' O' hφ keep oo hoo;unfold wJ;rw[aD k0];have hll:=hle.length;refine yP (by grind) (λk x' z=>?_) hoo;by_cases hj:k<(bD H ob.1).length
 .rw[bI (by grind)]at z;rw[bI (by grind)];let⟨x,L,D⟩:=hle.get k x' z;refine ⟨?_,x,L,λv A=>keep _ _ (D V E w v rep A)⟩;obtain⟨y,hy,rfl⟩:=cr.1 (a8 z);exact mD H [ob.1] y (by grind)
 .rw[b_ (by grind)]at z;rw[b_ (by grind),<-hll];generalize k-(gL AV.f (bD H ob.1)).length=q at z ⊢
  match q with
  |0=>
   simp only[hZ,ah]at z ⊢;subst z;exact⟨rfl,_,rfl,λv A=>SM (by grind) A⟩
  |1=>
   simp only[BQ,hZ,ah]at z ⊢;subst z;exact⟨rfl,_,rfl,λv A=>SM (by grind) A⟩
  |q+2=>simp at z
variable {A:η} {N:kH}
def anc {p m1 m2 len:Nat} (D:uw i (.qn s) (rnX len (.qn s) A)=Z N):∃b,uw j (.qn s) A=Z b/\yo V O w (uK i j p m1 m2 len) b N:=by
 have D:(if aj (gL (shf len) A)==0 then U else Z (kH.mk s (.mx (gL (λa=>AV.P (pK i a) 0) (gL (shf len) A)))))=Z N:=D;rw[bQ]at D;show ∃b,(if aj A==0 then U else Z (kH.mk s (.mx (gL (λa=>AV.P (pK j a) 0) A))))=Z b/\_;split at D
 .cases D
 .rename_i L;rw[av L];cases D;refine ⟨_,rfl,λφ' O' hφ keep oo hoo=>yP (by simp) (λa x' z=>?_) hoo⟩;rw[kX,bB]at z;rw[bB];cases hjx:A[a]? with
  |none=>rw[hjx]at z;cases z
  |some nx=>
   rw[hjx]at z;simp[bh,Function.comp,ah]at z;subst z;exact⟨rfl,_,rfl,λv hv=>Df (by rw[hφ,Mb]) hv⟩
def and {p m1 m2 len:Nat} {es:Y e!} (L:uw i .qr (rnX len .qr es)=Z N):∃b,uw j .qr es=Z b/\yo V O w (uK i j p m1 m2 len) b N:=by
 cases L;refine ⟨_,rfl,λφ' O' hφ keep oo hoo=>?_⟩;let⟨A,z⟩:=EnR.get (NF (R:=λx y=>∀v,cf V O w x v->cf φ' O' w y v) (a:=j) (nx:=i) (len:=len) (λa v D=>Df (by rw[hφ,Mb]) D) es);exact Mw A z hoo
def Ap {nx a p m1 m2:Nat} (z:j/3<=i):(j/3<i/\uK nx a p m1 m2 i (jQ nx (j+1))=jQ a (j+1))\/(j/3=i/\j%3=0/\uK nx a p m1 m2 i (jQ nx (j+1))=nm p)\/(j/3=i/\j%3=1/\uK nx a p m1 m2 i (jQ nx (j+1))=nm m1)\/(j/3=i/\j%3=2/\uK nx a p m1 m2 i (jQ nx (j+1))=nm m2):=by
 rw[yJ]
 grind
structure Ac (s:TS) (h':aX) (o ai p m1 m2 len:Nat) (ty:TypeId) (S:Ty) (xs:List (C6 S)) (new:C6 S) (kk:ν) (es:List (ν×Int)):Prop where
 ho:s.h.get o=Z (.qd .qr ai es kk (Z (p,af,0)))
 ha:∃a0,s.h.get ai=Z (.Q (.ar ty S) a0 xs)
 hp:∃l,s.h.get p=Z (.G (Z ty) l)
 g1:∃K V es,s.h.get m1=Z (.mp K V es)
 g2:∃K V es,s.h.get m2=Z (.mp K V es)
 hmm:m1≠m2
 hlen:l! xs=len
 hg:∀i,h'.get i=if i=s.nx then Z (.Q (.ar ty S) 0 (xs++[new]:List (C6 S))) else if i=m2\/i=m1\/i=p\/i=ai then Z (.qj J 0 0) else if i=o then Z (.Q .qr s.nx (yQ kk (aQ len) (Md len es))) else (s.h.get i).map (rnF ai s.nx len)
section ahd
variable {s:TS} {h':aX} {o ai p m1 m2 len:Nat} {ty:TypeId} {S:Ty} {xs:Y (C6 S)} {new:C6 S} {kk:ν} {es:Y e!} (t:Ac s h' o ai p m1 m2 len ty S xs new kk es)
include t
def Ac.ne:o≠ai/\o≠p/\o≠m1/\o≠m2/\p≠m1/\p≠m2:=by
 let⟨z,ha⟩:=t.ha;let⟨l,hp⟩:=t.hp;let⟨_,_,_,g1⟩:=t.g1;let⟨_,_,_,g2⟩:=t.g2;have ho:=t.ho
 grind
def Ac.H (hi:g_ s.h s.nx):bV s.h h':=λi r z=>by
 let⟨a0,ha⟩:=t.ha;let⟨l,hp⟩:=t.hp;let⟨_,_,_,g1⟩:=t.g1;let⟨_,_,_,g2⟩:=t.g2;have hfr:=hi.fresh;rw[bx]at z ⊢;rw[t.hg];by_cases f0:i=s.nx
 .grind
 .rw[av f0];by_cases L:i=m2\/i=m1\/i=p\/i=ai
  .rcases L with rfl|rfl|rfl|rfl
   .rw[g2]at z;cases z
   .rw[g1]at z;cases z
   .rw[hp]at z;cases z
   .rw[ha]at z;cases z
  .rw[av L];by_cases D:i=o
   .rw[D,t.ho]at z;cases z
   .rw[av D];cases A:s.h.get i with
    |none=>rw[A]at z;cases z
    |some B=>rw[A]at z;simp[bh,aF]at z ⊢;rw[ahr];exact z
def Ac.lows (hi:g_ s.h s.nx):o<s.nx/\ai<s.nx/\p<s.nx/\m1<s.nx/\m2<s.nx:=by
 let⟨z,ha⟩:=t.ha;let⟨l,hp⟩:=t.hp;let⟨_,_,_,g1⟩:=t.g1;let⟨_,_,_,g2⟩:=t.g2;exact⟨hi.low o _ t.ho,hi.low ai _ ha,hi.low p _ hp,hi.low m1 _ g1,hi.low m2 _ g2⟩
def Ac.inv (hi:g_ s.h s.nx):g_ h' (s.nx+1):=by
 have D:=t.H hi;let⟨lo,la,L,l1,l2⟩:=t.lows hi;refine ⟨λi ty l hil=>?_,λi c' hic=>?_⟩
 .rw[t.hg]at hil;split at hil
  .cases hil
  .split at hil
   .cases hil
   .split at hil
    .cases hil
    .cases z:s.h.get i with
     |none=>rw[z]at hil;cases hil
     |some B=>
      rw[z]at hil;simp[bh,ah]at hil;cases B with
      |G ty2 A=>
       simp[rnF,e9.G.injEq]at hil;obtain⟨_,rfl⟩:=hil;exact fy D A (hi.G i _ A z)
      |Q F b x=>simp[rnF]at hil;split at hil<;>cases hil
      |_=>cases hil
 .rw[t.hg]at hic;split at hic
  .omega
  .split at hic
   .omega
   .split at hic
    .omega
    .cases z:s.h.get i with
     |none=>rw[z]at hic;cases hic
     |some B=>have:=hi.low i B z;omega
def Ac.qj (hi:g_ s.h s.nx) (z:ow i=m2\/ow i=m1\/ow i=p\/ow i=ai):erHF h' i=U:=by
 let⟨D,la,A,l1,L⟩:=t.lows hi;unfold erHF;rw[t.hg,av (by omega),aD z];cases ix i<;>rfl
def Ac.new0:erHF h' (nm s.nx)=U:=by rw[bG,t.hg,aD rfl];rfl
def Ac.newN (k:Nat):erHF h' (jQ s.nx (k+1))=rm s.nx k ty S (xs++[new]):=by rw[kR,t.hg,aD rfl];rfl
def Ac.oldN (k:Nat):erHF s.h (jQ ai (k+1))=rm ai k ty S xs:=by
 let⟨z,ha⟩:=t.ha;rw[kR,ha];rfl
def Ac.gt (z:len<i/3):erHF h' (jQ s.nx (i+1))=U:=by
 rw[t.newN];unfold rm;rw[c7 (by rw[bK,t.hlen];exact z)];rfl
def Ac.lt (L:i/3<len) (z:erHF h' (jQ s.nx (i+1))=Z N):∃b,erHF s.h (jQ ai (i+1))=Z b/\yo V O w (uK s.nx ai p m1 m2 len) b N:=by
 rw[t.newN]at z;rw[t.oldN];unfold rm at z ⊢;rw[bI (by rw[t.hlen];exact L)]at z;cases A:xs[i/3]? with
 |none=>rw[A]at z;cases z
 |some ob=>
  rw[A]at z;simp[bh,ah]at z;subst z;exact⟨_,rfl,Wv (λD=>ab2 (k:=i+1) (by omega)) (λD=>ab2 (k:=i+2) (by omega))⟩
def Ac.eqB (z:i/3=len):erHF h' (jQ s.nx (i+1))=Z (wJ s.nx i ty S new):=by
 rw[t.newN];unfold rm;rw[z,<-t.hlen,nY];rfl
def Ac.mapB (hi:g_ s.h s.nx) (z:erHF h' (nm o)=Z N):∃b,erHF s.h (nm o)=Z b/\yo V O w (uK s.nx ai p m1 m2 len) b N:=by
 let⟨lo,_⟩:=t.lows hi;let⟨n1,n2,n3,n4,_⟩:=t.ne;rw[bG,t.hg,av (by omega),av (by omega),aD rfl]at z;cases z;rw[bG,t.ho];refine ⟨_,rfl,λφ' O' hφ keep oo hoo=>?_⟩;let⟨L,D⟩:=EnR.get (WG (R:=λx y=>∀v,cf V O w x v->cf φ' O' w y v) (a:=ai) (nx:=s.nx) (len:=len) (λj v A=>Df (by rw[hφ,Mb]) A) (v:=.P (nm p) 0) (λv A=>Df (by
  rw[hφ];show V (uK s.nx ai p m1 m2 len (jQ s.nx (3*len+1)))=_;rw[yJ,av (by omega),aD (by omega),aD (by omega)]) A) kk es)
 exact Mw L D hoo
def Ac.oth (hi:g_ s.h s.nx) (f0:ow i≠s.nx) (f1:¬(ow i=m2\/ow i=m1\/ow i=p\/ow i=ai)) (f2:ow i≠o) (A:erHF h' i=Z N):∃b,erHF s.h i=Z b/\yo V O w (uK s.nx ai p m1 m2 len) b N:=by
 have hr:=t.H hi;cases L:s.h.get (ow i) with
 |none=>
  unfold erHF at A;rw[t.hg,av f0,av f1,av f2,L]at A;cases A
 |some B=>
  have z:Pq h' (ow i) (ix i) (rnF ai s.nx len B)=Z N:=by
   unfold erHF at A;rw[t.hg,av f0,av f1,av f2,L]at A;exact A
  have same:rnF ai s.nx len B=B->∃b,erHF s.h i=Z b/\yo V O w (uK s.nx ai p m1 m2 len) b N:=λe=>by
   rw[e,mF hr (λty l e=>hi.G _ _ l (by rw[L,e]))]at z;exact⟨N,by unfold erHF;rw[L];exact z,yo.refl N⟩
  cases B with
  |Q F b x=>
   by_cases D:(awt F&&ax b ai)=J
   .have e0:rnF ai s.nx len (.Q F b x)= .Q F s.nx (rnX len F x):=by simp only[rnF];rw[aD D]
    rw[e0]at z;simp only[al]at D;have hba:=au D.2;subst hba;cases hix:ix i with
    |succ k=>rw[hix]at z;cases F<;>first|cases z|cases D.1
    |zero=>
     rw[hix]at z;have hsrc:erHF s.h i=uw b F x:=by unfold erHF;rw[L,hix];rfl
     rw[hsrc];cases F with
     |qn tyo=>exact anc z
     |qr=>exact and z
     |_=>cases D.1
   .exact same (by simp only[rnF];rw[av D])
  |_=>exact same rfl
def Ac.key (z:erHF h' i=Z N) (D:ow i=s.nx):∃k,i=jQ s.nx (k+1)/\k/3<=len:=by
 cases hix:ix i with
 |zero=>rw[pn hix,D,t.new0]at z;cases z
 |succ k=>
  have en:i=jQ s.nx (k+1):=by rw[<- D,<-hix,kZ]
  refine ⟨k,en,?_⟩;subst en;rcases cC len (k/3) with A|A
  .rw[t.gt A]at z;cases z
  .exact A
def Ac.dS (hi:g_ s.h s.nx) (z:i/3<=len):erHF h' (uK s.nx ai p m1 m2 len (jQ s.nx (i+1)))=U:=by
 refine t.qj hi ?_;rcases Ap (nx:=s.nx) (a:=ai) (p:=p) (m1:=m1) (m2:=m2) z with ⟨_,e⟩|⟨_,_,e⟩|⟨_,_,e⟩|⟨_,_,e⟩<;>rw[e]
 .rw[iR];exact .inr (.inr (.inr rfl))
 .rw[dh];exact .inr (.inr (.inl rfl))
 .rw[dh];exact .inr (.inl rfl)
 .rw[dh];exact .inl rfl
def Ac.inj1 (A:i/3<=len) (z:j/3<=len) (he:uK s.nx ai p m1 m2 len (jQ s.nx (i+1))=uK s.nx ai p m1 m2 len (jQ s.nx (j+1))):i=j:=by
 let⟨_,_,_,_,n5,L⟩:=t.ne;have D:=t.hmm;rcases Ap (nx:=s.nx) (a:=ai) (p:=p) (m1:=m1) (m2:=m2) A with ⟨_,e⟩|⟨_,_,e⟩|⟨_,_,e⟩|⟨_,_,e⟩<;>rcases Ap (nx:=s.nx) (a:=ai) (p:=p) (m1:=m1) (m2:=m2) z with ⟨_,e'⟩|⟨_,_,e'⟩|⟨_,_,e'⟩|⟨_,_,e'⟩<;>rw[e,e']at he<;>clear e e'<;>first|omega|(have:=(vp he).2;omega)|(have:=uM he;omega)
def Ac.inj (hi:g_ s.h s.nx) {b':kH} (z:erHF h' i=Z N) (hm:erHF h' j=Z b') (he:uK s.nx ai p m1 m2 len i=uK s.nx ai p m1 m2 len j):i=j:=by
 have L:∀i,ow i≠s.nx->uK s.nx ai p m1 m2 len i=i:=λi z=>by unfold uK;rw[av z]
 by_cases f0:ow i=s.nx
 .obtain⟨k,rfl,hk⟩:=t.key z f0;by_cases A:ow j=s.nx
  .obtain⟨q,rfl,D⟩:=t.key hm A;rw[t.inj1 hk D he]
  .rw[L j A]at he;rw[<- he,t.dS hi hk]at hm;cases hm
 .rw[L i f0]at he;by_cases A:ow j=s.nx
  .obtain⟨q,rfl,D⟩:=t.key hm A;rw[he,t.dS hi D]at z;cases z
  .grind
def Ac.cfg (c:jI P E nt np V s z w) (bp:erHF s.h (nm p)=Z ⟨ty,.mx (r++[.mp (nm m1),.mp (nm m2)])⟩) (hle:gZ (erHF s.h) (erHF s.h) r ((bD S new.1).map .f)) (b1:erHF s.h (nm m1)=Z ⟨0,.mp (Ik new.2.1)⟩) (b2:erHF s.h (nm m2)=Z ⟨0,.mp (Ik new.2.2)⟩):∃φ',jI P E nt np φ' ⟨s.e,h',s.nx+1⟩ z w/\xU np V φ' (erHF s.h) (erHF h') w w:=by
 have hi:=c.qz;have hs:∀n,ow n≠s.nx->uK s.nx ai p m1 m2 len n=n:=λn L=>by unfold uK;rw[av L]
 refine LF c (uK s.nx ai p m1 m2 len) hs (t.H hi) (t.inv hi) (λn b' a=>?_) λn m b b' L hm he=>t.inj hi L hm he
 by_cases D:ow n=s.nx
 .obtain⟨k,rfl,hk⟩:=t.key a D;rcases Ap (nx:=s.nx) (a:=ai) (p:=p) (m1:=m1) (m2:=m2) hk with ⟨g,e⟩|⟨g,A,e⟩|⟨g,A,e⟩|⟨g,A,e⟩<;>rw[e]
  .exact t.lt g a
  .rw[t.eqB g,ah]at a;subst a;refine ⟨_,bp,ajx c.zq A hle ?_ ?_⟩
   .rw[yJ,av (by omega),aD (by omega),av (by omega),aD (by omega)]
   .rw[yJ,av (by omega),aD (by omega),av (by omega),av (by omega)]
  .rw[t.eqB g,ah]at a;subst a;refine ⟨_,b1,?_⟩;unfold wJ;rw[av (by omega),aD A];exact yo.refl _
  .rw[t.eqB g,ah]at a;subst a;refine ⟨_,b2,?_⟩;unfold wJ;rw[av (by omega),av (by omega)];exact yo.refl _
 .rw[hs n D];by_cases f1:ow n=m2\/ow n=m1\/ow n=p\/ow n=ai
  .rw[t.qj hi f1]at a;cases a
  .by_cases f2:ow n=o
   .cases hix:ix n with
    |succ k=>
     unfold erHF at a;rw[t.hg,av D,av f1,aD f2,hix]at a;cases a
    |zero=>
     have en:n=nm o:=by rw[<- f2];exact pn hix
     subst en;exact t.mapB hi a
   .exact t.oth hi D f1 f2 a
end ahd
def aso {s:TS} (c:jI P E nt np V s z w) {p:Nat} {kk:ν} {es:Y e!} (ho:s.h.get i=Z (.qd .qr j es kk (Z (p,af,0)))) {s':TS} (h:ahd s i j p kk es=Z s'):s'.e=s.e/\∃φ',jI P E nt np φ' s' z w/\xU np V φ' (erHF s.h) (erHF s'.h) w w:=by
 unfold ahd at h;split at h
 .rename_i ty S a0 xs ty' l ha hp;split at h
  .rename_i hty;have hty:=eq_of_beq hty;subst hty;split at h
   .rename_i a m m1 m2 hpk;split at h
    .rename_i e1 e2 hm1 L;split at h
     .rename_i hq;simp only[al,cR]at hq;let⟨D,q2⟩:=hq;have D:=au D;subst D;have hmm:m1≠m2:=λe=>by simp_all
      let⟨b1,K1,V1,es1,g1⟩:=ac0 hm1;let⟨b2,K2,V2,es2,g2⟩:=ac0 L;simp[ah]at h;subst h;refine ⟨rfl,?_⟩;let⟨l',A⟩:=fJ s.h l (c.qz.G p _ l hp);let⟨la1,la2,hlap,hla2,hle⟩:=rG (rA.refl (erHF s.h)) 40 S l a 0 _ l' hpk A Fu.zero;have hla2:la2=[.mp (nm m1),.mp (nm m2)]:=by simp[cJ,bW,ah]at hla2;exact hla2.symm
      have bp:erHF s.h (nm p)=Z ⟨ty',.mx (la1++[.mp (nm m1),.mp (nm m2)])⟩:=by rw[bG,hp];simp[aF,kJ,A];rw[hlap,hla2]
      refine Ac.cfg (o:=i) (ai:=j) (p:=p) (m1:=m1) (m2:=m2) (len:=aj (α:=C6 S) xs) (ty:=ty') (S:=S) (xs:=xs) (new:=(a,e1,e2)) (kk:=kk) (es:=es) ⟨ho,⟨a0,ha⟩,⟨l,hp⟩,⟨_,_,_,g1⟩,⟨_,_,_,g2⟩,hmm,rfl,λo=>?_⟩ c bp hle b1 b2;rw[PT.get_set,PT.get_set,PT.get_set,PT.get_set,PT.get_set,PT.get_set,PT.get_updI];by_cases f0:o=s.nx
      .rw[aD f0,aD f0];rfl
      .grind
     .cases h
    .cases h
   .cases h
  .cases h
 .cases h
def Zy {n:Nat} {ty:TypeId} {T:Ty} {xss:Y (Y T.den)} {xs:Y T.den} (h:l! xss<=i):rk i ty T (xss.set n xs)=U:=by
 unfold rk
 grind
def H5 (nx a r j n:Nat):Nat:=if ow n=nx then (match ix n with
 |0=>n
 |k+1=>if k=j then nm r else jQ a (k+1)) else n
def yI (nx a r j k:Nat):H5 nx a r j (jQ nx (k+1))=if k=j then nm r else jQ a (k+1):=by
 unfold H5;rw[iR,wy,aD rfl]
def asm {ty:TS} (c:jI P E nt np V ty z w) {r n:Nat} {kk:ν} {a:Nat} (ho:ty.h.get i=Z (.qd (.rr s a) j A kk (Z (r,J,n)))) {s':TS} (h:asn ty i j r n kk.1 s a A=Z s'):s'.e=ty.e/\∃φ',jI P E nt np φ' s' z w/\xU np V φ' (erHF ty.h) (erHF s'.h) w w:=by
 unfold asn at h;split at h
 .rename_i ty2 T a0 xss ty3 p S xs ha hrr;split at h
  .rename_i xs' hxs;split at h
   .rename_i hty;have hty:=eq_of_beq hty;subst hty;cases h;refine ⟨rfl,?_⟩;let⟨ee,exs⟩:=iO hxs;cases ee;have exs:xs'=xs:=exs;subst exs;have hfr:=c.qz.fresh;have lo:=c.qz.low i _ ho;have la:=c.qz.low j _ ha;have lr:=c.qz.low r _ hrr;have n1:i≠j:=λe=>by rw[e,ha]at ho;cases ho
    have n2:i≠r:=λe=>by rw[e,hrr]at ho;cases ho
    have n3:j≠r:=λe=>by rw[e,hrr]at ha;cases ha
    generalize hjj:kk.1.toNat=ai;generalize hh':(((ty.h.set i (Z (.Q (.rr s a) ty.nx (sH (α:=Int) A ai (aQ n))))).set j (Z (.qj J 0 0))).set r (Z (.qj p T.size (aj xs')))).set ty.nx (Z (.Q (.ir ty3 T) 0 (vT (T:=T) xss kk.1 xs')))=h';have hg:∀o,h'.get o=if o=ty.nx then Z (.Q (.ir ty3 T) 0 (vT (T:=T) xss kk.1 xs')) else if o=r then Z (.qj p T.size (aj xs')) else if o=j then Z (.qj J 0 0) else if o=i then Z (.Q (.rr s a) ty.nx (sH (α:=Int) A ai (aQ n))) else ty.h.get o:=λo=>by
     rw[<- hh',PT.get_set,PT.get_set,PT.get_set,PT.get_set]
    have hdead:∀n,ow n=r\/ow n=j->erHF h' n=U:=λn hn=>by
     unfold erHF;rcases hn with e|e
     .rw[hg,av (by omega),aD e];simp only[aF];cases ix n<;>rfl
     .rw[hg,av (by omega),av (by omega),aD e];simp only[aF];cases ix n<;>rfl
    have hr:bV ty.h h':=λo q hi=>by
     rw[bx]at hi ⊢;rw[hg];by_cases L:o=ty.nx
     .rw[L,hfr]at hi;cases hi
     .rw[av L];by_cases f1:o=r
      .rw[aD f1];rw[f1,hrr]at hi;exact hi
      .rw[av f1];by_cases f2:o=j
       .rw[f2,ha]at hi;cases hi
       .rw[av f2];by_cases f3:o=i
        .rw[aD f3];rw[f3,ho]at hi;simp only[aF,iM,sk,dt]at hi ⊢;exact hi
        .rw[av f3];exact hi
    have hinv:g_ h' (ty.nx+1):=by
     refine ⟨λo s l hil=>?_,λo c' hic=>?_⟩
     .rw[hg]at hil;split at hil
      .cases hil
      .split at hil
       .cases hil
       .split at hil
        .cases hil
        .split at hil
         .cases hil
         .exact fy hr l (c.qz.G o _ l hil)
     .rw[hg]at hic;split at hic
      .omega
      .split at hic
       .omega
       .split at hic
        .omega
        .split at hic
         .omega
         .have:=c.qz.low o c' hic;omega
    have hmN:∀k,erHF h' (jQ ty.nx (k+1))=rk k ty3 T (sH xss ai xs'):=λk=>by
     rw[kR,hg,aD rfl,<-hjj];rfl
    have hmO:∀k,erHF ty.h (jQ j (k+1))=rk k ty3 T xss:=λk=>by rw[kR,ha];rfl
    have hn0:erHF h' (nm ty.nx)=U:=by rw[bG,hg,aD rfl];rfl
    refine LF c (H5 ty.nx j r ai) (λn hn=>by unfold H5;rw[av hn]) hr hinv ?_ ?_
    .intro q b' ls;by_cases L:ow q=ty.nx
     .cases hix:ix q with
      |zero=>rw[pn hix,L,hn0]at ls;cases ls
      |succ k=>
       have en:q=jQ ty.nx (k+1):=by rw[<- L,<-hix,kZ]
       subst en;rw[hmN]at ls;rw[yI];by_cases hk:k=ai
       .rw[aD hk];subst hk;refine ⟨b',?_,λφ' O' hφ keep oo hoo=>hoo.mono keep⟩;rw[bG,hrr];have hl:k<aj (α:=Y T.den) xss:=by
         rcases cC k (aj (α:=Y T.den) xss) with h1|h1
         .exact h1
         .have ls:=(Zy (ty:=ty3) (T:=T) (xss:=xss) (xs:=xs') (n:=k) h1).symm.trans ls;cases ls
        have ls:=(Nx (ty:=ty3) (T:=T) (xss:=xss) (xs:=xs') hl).symm.trans ls;unfold Zx at ls;split at ls
        .cases ls
        next hz=>simp only[aF,kJ];rw[av (by rw[al];exact λe=>hz e.2)];exact ls
       .rw[av hk,hmO];exact⟨b',(IK (ty:=ty3) (T:=T) (xss:=xss) (xs:=xs') hk).symm.trans ls,λφ' O' hφ keep oo hoo=>hoo.mono keep⟩
     .have hs:H5 ty.nx j r ai q=q:=by unfold H5;rw[av L]
      rw[hs];by_cases f1:ow q=r\/ow q=j
      .rw[hdead q f1]at ls;cases ls
      .have f1a:ow q≠r:=λe=>f1 (.inl e)
       have f1b:ow q≠j:=λe=>f1 (.inr e)
       by_cases f2:ow q=i
       .cases hix:ix q with
        |succ k=>
         unfold erHF at ls;rw[hg,av L,av f1a,av f1b,aD f2,hix]at ls;cases ls
        |zero=>
         have en:q=nm i:=by rw[<- f2];exact pn hix
         subst en;rw[dh]at f1a f1b;rw[bG,hg,av (by omega),av f1a,av f1b,aD rfl]at ls;have ls:Z (kH.mk s (.mx (lX ty.nx a 0 (sH (α:=Int) A ai (aQ n)))))=Z b':=ls;cases ls;rw[bG,ho];refine ⟨⟨s,.mx ((lX j a 0 A).set kk.1.toNat (dw J r a n))⟩,rfl,λφ' O' hφ keep oo hoo=>?_⟩;rw[hjj]at hoo;have cl:∀(z k l:Nat),(uL z k a l).isCell=J:=λz k l=>by unfold uL;split<;>rfl
         refine yP (by rw[dt,lD,lD,dt]) (λo x' D=>?_) hoo;have D:=D.symm.trans (yN ty.nx a (sH (α:=Int) A ai (aQ n)) 0 o);rw[bX,eh]at D;by_cases hij:ai=o
         .subst hij;rw[aD rfl]at D;by_cases hl:ai<aj (α:=Int) A
          .rw[aD hl]at D;simp only[bh,ah]at D;subst D;refine ⟨cl _ _ _,_,by rw[eh,aD rfl,aD (by rw[lD];exact hl)],λv hv=>?_⟩;have hn2:(aQ n).toNat=n:=rfl;rw[hn2];unfold dw at hv;unfold uL;by_cases hz:n=0
           .rw[aD (by simpa using hz)]at hv ⊢;exact keep _ _ hv
           .rw[av (by simpa using hz)]at hv ⊢;exact LC (by rw[hφ,yI,aD rfl]) hv
          .rw[av hl]at D;cases D
         .rw[av hij]at D;cases hli:(A:η)[o]? with
          |none=>
           have D:Z x'=il _ ((A:η)[o]?):=D;rw[hli]at D;cases D
          |some l=>
           have D:Z x'=il _ ((A:η)[o]?):=D;rw[hli]at D;simp only[bh,ah]at D;subst D;refine ⟨cl _ _ _,uL j o a l.toNat,?_,λv hv=>?_⟩
           .rw[eh,av hij];have:=yN j a A 0 o;rw[bX]at this;refine this.trans ?_;show il _ ((A:η)[o]?)=_;rw[hli];rfl
           .unfold uL at hv ⊢;by_cases hz:l.toNat=0
            .rw[aD (by simpa using hz)]at hv ⊢;exact keep _ _ hv
            .rw[av (by simpa using hz)]at hv ⊢;exact LC (by rw[hφ,yI,av (λe=>hij e.symm)]) hv
       .have hb2:(ty.h.get (ow q)).bind (Pq h' (ow q) (ix q))=Z b':=by
         unfold erHF at ls;rw[hg,av L,av f1a,av f1b,av f2]at ls;exact ls
        cases hx:ty.h.get (ow q) with
        |none=>rw[hx]at hb2;cases hb2
        |some B=>
         rw[hx]at hb2;simp only[aF]at hb2;rw[mF hr (λs l e=>c.qz.G _ _ l (by rw[hx,e]))]at hb2;exact⟨b',by unfold erHF;rw[hx];exact hb2,λφ' O' hφ keep oo hoo=>hoo.mono keep⟩
    .intro q m b b' hn hm he;have key:∀n b,erHF h' n=Z b->ow n=ty.nx->∃k,n=jQ ty.nx (k+1):=λn b hn L=>by
      cases hix:ix n with
      |zero=>rw[pn hix,L,hn0]at hn;cases hn
      |succ k=>exact⟨k,by rw[<- L,<-hix,kZ]⟩
     have dS:∀k,erHF h' (H5 ty.nx j r ai (jQ ty.nx (k+1)))=U:=λk=>by
      refine hdead _ ?_;rw[yI];split
      .rw[dh];exact .inl rfl
      .rw[iR];exact .inr rfl
     by_cases L:ow q=ty.nx
     .obtain⟨k,rfl⟩:=key q b hn L;by_cases f1:ow m=ty.nx
      .obtain⟨k2,rfl⟩:=key m b' hm f1;rw[yI,yI]at he;have:k=k2:=by
        split at he<;>split at he
        .omega
        .have:=(vp he).2;omega
        .have:=(vp he).2;omega
        .have:=(vp he).2;omega
       rw[this]
      .rw[show H5 ty.nx j r ai m=m from by unfold H5;rw[av f1]]at he;rw[<- he,dS k]at hm;cases hm
     .rw[show H5 ty.nx j r ai q=q from by unfold H5;rw[av L]]at he;by_cases f1:ow m=ty.nx
      .obtain⟨k2,rfl⟩:=key m b' hm f1;rw[he,dS k2]at hn;cases hn
      .rw[show H5 ty.nx j r ai m=m from by unfold H5;rw[av f1]]at he;exact he
   .cases h
  .cases h
 .cases h
def BS (nx a n:Nat):Nat:=if ow n=nx then jQ a (ix n) else n
def yK (nx a k:Nat):BS nx a (jQ nx k)=jQ a k:=by
 unfold BS;rw[iR,wy,aD rfl]
def ahq (a n:Nat) (B:e9):iM (rnG a n B)=iM B:=by
 cases B with
 |Q F b x=>
  simp[rnG];split<;>rfl
 |_=>rfl
def MW {F:uE} (h:aj3 F=J):(∃ty S,F= .ar ty S)\/∃ty T,F= .ir ty T:=by
 cases F with
 |ar ty S=>exact .inl ⟨ty,S,rfl⟩
 |ir ty T=>exact .inr ⟨ty,T,rfl⟩
 |_=>cases h
def af6 {k:Nat} {F:uE} {x:F.ty.den} (z:K7 i k F x=Z N):∃b,K7 j k F x=Z b/\yo V O w (BS i j) b N:=by
 cases F with
 |ar ty S=>
  let⟨ob,h1,A⟩:=gA.1 z;subst A;exact⟨_,gA.2 ⟨ob,h1,rfl⟩,Wv (λ_=>yK i j _) (λ_=>yK i j _)⟩
 |ir ty T=>exact⟨N,z,yo.refl _⟩
 |_=>cases z
def Rt {R:AV->AV->Prop} {a nx:Nat} (z:∀j,R (.P (pK a j) 0) (.P (pK nx j) 0)):∀es:Y e!,EnR R (w7 a es) (w7 nx es)
 |[]=>trivial
 |e::r=>⟨rfl,z e.2,Rt z r⟩
def ai6 (D:uw i (.qn s) A=Z N):∃b,uw j (.qn s) A=Z b/\yo V O w (BS i j) b N:=by
 have hob:∀a,BS i j (pK i a)=pK j a:=λa=>yK i j _
 have D:(if aj A==0 then U else Z (kH.mk s (.mx (gL (λa=>AV.P (pK i a) 0) A))))=Z N:=D;show ∃b,(if aj A==0 then U else Z (kH.mk s (.mx (gL (λa=>AV.P (pK j a) 0) A))))=Z b/\_;split at D
 .cases D
 .rename_i L;rw[av L];simp[ah]at D;subst D;refine ⟨_,rfl,λφ' O' hφ keep oo hoo=>yP (by simp) (λa x' z=>?_) hoo⟩;rw[bB]at z ⊢;cases hjx:A[a]? with
  |none=>rw[hjx]at z;cases z
  |some nx=>
   rw[hjx]at z;simp[bh,ah]at z;subst z;exact⟨rfl,_,rfl,λv hv=>Df (by grind) hv⟩
def aib {es:Y e!} (L:uw i .qr es=Z N):∃b,uw j .qr es=Z b/\yo V O w (BS i j) b N:=by
 have hob:∀a,BS i j (pK i a)=pK j a:=λa=>yK i j _
 cases L;refine ⟨_,rfl,λφ' O' hφ keep oo hoo=>?_⟩;let⟨A,z⟩:=EnR.get (Rt (R:=λx y=>∀v,cf V O w x v->cf φ' O' w y v) (a:=j) (nx:=i) (λa v D=>Df (by grind) D) es);exact Mw A z hoo
def an2 {z:Nat} (L:uw i (.rr s z) A=Z N):∃b,uw j (.rr s z) A=Z b/\yo V O w (BS i j) b N:=by
 have L:Z (kH.mk s (.mx (lX i z 0 A)))=Z N:=L;simp[ah]at L;subst L;refine ⟨_,rfl,λφ' O' hφ keep oo hoo=>yP (by rw[lD,lD]) (λa x' D=>?_) hoo⟩;rw[yN]at D ⊢;cases hjx:A[a]? with
 |none=>rw[hjx]at D;cases D
 |some l=>
  rw[hjx]at D;simp only[bh,ah]at D;subst D;refine ⟨by unfold uL;split<;>rfl,uL j (0+a) z l.toNat,rfl,λv hv=>?_⟩;unfold uL at hv ⊢;by_cases hz:(l.toNat==0)=J
  .grind
  .rw[av hz]at hv ⊢;exact LC (by rw[hφ,yK]) hv
def af9 {F:uE} {x:F.ty.den} (A:uw i F x=Z N):∃b,uw j F x=Z b/\yo V O w (BS i j) b N:=by
 cases F with
 |qn ty=>exact ai6 A
 |qr=>exact aib A
 |rr ty z=>exact an2 A
 |_=>cases A
def asp {s:TS} (c:jI P E nt np V s z w) {s':TS} (h:asq s i=Z s'):s'.e=s.e/\∃φ',jI P E nt np φ' s' z w/\xU np V φ' (erHF s.h) (erHF s'.h) w w:=by
 unfold asq at h;split at h
 .rename_i F a0 x ha;split at h
  .rename_i hF;cases h;refine ⟨rfl,?_⟩;have hfr:=c.qz.fresh;have la:=c.qz.low i _ ha;have hi:=c.qz;generalize hh':((PT.updI (λ_ b=>rnG i s.nx b) 1 0 s.h).set i (Z (.qj J 0 0))).set s.nx (Z (.Q F 0 x))=h';have hg:∀ai,h'.get ai=if ai=s.nx then Z (.Q F 0 x) else if ai=i then Z (.qj J 0 0) else (s.h.get ai).map (rnG i s.nx):=λai=>by
    rw[<- hh',PT.get_set,PT.get_set,PT.get_updI]
   have hF0:sk F x=U:=by rcases MW hF with ⟨_,_,rfl⟩|⟨_,_,rfl⟩<;>rfl
   have hFB:∀q,uw q F x=U:=λq=>by rcases MW hF with ⟨_,_,rfl⟩|⟨_,_,rfl⟩<;>rfl
   have hr:bV s.h h':=λai q hq=>by
    rw[bx]at hq ⊢;rw[hg];by_cases L:ai=s.nx
    .grind
    .rw[av L];by_cases f1:ai=i
     .rw[f1,ha]at hq;simp only[aF,iM,hF0]at hq;cases hq
     .rw[av f1];cases A:s.h.get ai with
      |none=>rw[A]at hq;cases hq
      |some B=>rw[A]at hq;simp only[bh,aF]at hq ⊢;rw[ahq];exact hq
   have hinv:g_ h' (s.nx+1):=by
    refine ⟨λai ty l hil=>?_,λai c' hic=>?_⟩
    .rw[hg]at hil;split at hil
     .cases hil
     .split at hil
      .cases hil
      .cases A:s.h.get ai with
       |none=>rw[A]at hil;cases hil
       |some B=>
        rw[A]at hil;simp only[bh,ah]at hil;cases B with
        |G ty2 l3=>
         simp only[rnG,e9.G.injEq]at hil;obtain⟨_,rfl⟩:=hil;exact fy hr l3 (hi.G ai _ l3 A)
        |Q F b x=>simp only[rnG]at hil;split at hil<;>cases hil
        |_=>cases hil
    .rw[hg]at hic;split at hic
     .omega
     .split at hic
      .omega
      .cases A:s.h.get ai with
       |none=>rw[A]at hic;cases hic
       |some B=>have:=hi.low ai B A;omega
   have hdead:∀n,ow n=i->erHF h' n=U:=λn hn=>by
    unfold erHF;rw[hg,av (by omega),aD hn];simp only[aF];cases ix n<;>rfl
   have hn0:erHF h' (nm s.nx)=U:=by
    rw[bG,hg,aD rfl];exact hFB _
   have hmN:∀k,erHF h' (jQ s.nx (k+1))=K7 s.nx k F x:=λk=>by rw[kR,hg,aD rfl];rfl
   have hmO:∀k,erHF s.h (jQ i (k+1))=K7 i k F x:=λk=>by rw[kR,ha];rfl
   refine LF c (BS s.nx i) (λn hn=>by unfold BS;rw[av hn]) hr hinv (λn b' D=>?_) λn m b b' hn hm he=>?_
   .by_cases L:ow n=s.nx
    .cases hix:ix n with
     |zero=>rw[pn hix,L,hn0]at D;cases D
     |succ k=>
      have en:n=jQ s.nx (k+1):=by rw[<- L,<-hix,kZ]
      subst en;rw[hmN]at D;rw[yK,hmO];exact af6 D
    .have hs:BS s.nx i n=n:=by unfold BS;rw[av L]
     rw[hs];by_cases f1:ow n=i
     .grind
     .cases A:s.h.get (ow n) with
      |none=>
       unfold erHF at D
       grind
      |some B=>
       have a:Pq h' (ow n) (ix n) (rnG i s.nx B)=Z b':=by
        unfold erHF at D
        grind
       have same:rnG i s.nx B=B->∃b,erHF s.h n=Z b/\yo V (tot E V (erHF s.h)) w (BS s.nx i) b b':=λe=>by
        rw[e,mF hr (λty l e=>hi.G _ _ l (by rw[A,e]))]at a;exact⟨b',by unfold erHF;rw[A];exact a,yo.refl b'⟩
       cases B with
       |Q G b y=>
        by_cases hc:(!(aj3 G)&&ax b i)=J
        .have e0:rnG i s.nx (.Q G b y)= .Q G s.nx y:=by simp only[rnG];rw[aD hc]
         rw[e0]at a;simp only[al,cR]at hc;have hba:=au hc.2;subst hba;cases hix:ix n with
         |succ k=>
          rw[hix]at a;cases G with
          |ar ty S|ir ty T=>cases hc.1
          |_=>cases a
         |zero=>
          rw[hix]at a;have hsrc:erHF s.h n=uw b G y:=by unfold erHF;rw[A,hix];rfl
          rw[hsrc];exact af9 a
        .exact same (by simp only[rnG];rw[av hc])
       |_=>exact same rfl
   .have hs:∀n,ow n≠s.nx->BS s.nx i n=n:=λn hn=>by unfold BS;rw[av hn]
    have key:∀n b,erHF h' n=Z b->ow n=s.nx->BS s.nx i n=jQ i (ix n):=λn b hn L=>by unfold BS;rw[aD L]
    by_cases L:ow n=s.nx
    .rw[key n b hn L]at he;by_cases f1:ow m=s.nx
     .rw[key m b' hm f1]at he;rw[<- kZ n,<-kZ m,L,f1,(vp he).2]
     .rw[hs m f1]at he;rw[<- he,hdead _ (iR ..)]at hm;cases hm
    .rw[hs n L]at he;by_cases f1:ow m=s.nx
     .rw[key m b' hm f1]at he;rw[he,hdead _ (iR ..)]at hn;cases hn
     .grind
  .cases h
 .cases h
variable {m:Y TV}
def asv {cty:TS} (c:jI P E nt np V cty z w) {id:Nat} (hb:cty.h.get i=Z (.G (Z s) m)) (hv:m[j]? =Z (.I id)) {ty:TypeId} {ai:Nat} (L:cty.h.get id=Z (.Q (.qn ty) ai A)):∃φ',jI P E nt np φ' ⟨cty.e,((cty.h.set id (Z (.qj J 1 (aj A)))).set cty.nx (Z (.Q (.qn ty) ai A))).set i (Z (.G (Z s) (splice m j [.I cty.nx]))),cty.nx+1⟩ z w/\xU np V φ' (erHF cty.h) (erHF (((cty.h.set id (Z (.qj J 1 (aj A)))).set cty.nx (Z (.Q (.qn ty) ai A))).set i (Z (.G (Z s) (splice m j [.I cty.nx]))))) w w:=by
 have hfr:=c.qz.fresh;have hidlt:=c.qz.low id _ L;have hblt:=c.qz.low i _ hb;have hbid:i≠id:=λe=>by rw[e,L]at hb;cases hb
 have hbn:i≠cty.nx:=by omega
 have hin:id≠cty.nx:=by omega
 generalize hh2:(((cty.h.set id (Z (.qj J 1 (aj A)))).set cty.nx (Z (.Q (.qn ty) ai A))).set i (Z (.G (Z s) (splice m j [.I cty.nx]))))=h2;have kx:∀b,h2.get b=if b=i then Z (.G (Z s) (splice m j [.I cty.nx])) else if b=cty.nx then Z (.Q (.qn ty) ai A) else if b=id then Z (.qj J 1 (aj A)) else cty.h.get b:=λb=>by
  rw[<- hh2,PT.get_set,PT.get_set,PT.get_set]
 have hr:bV cty.h h2:=λb r hi=>by
  rw[bx]at hi ⊢;rw[kx];by_cases e1:b=i
  .subst e1;rw[hb]at hi;cases hi
  .rw[av e1];by_cases e2:b=cty.nx
   .subst e2;rw[hfr]at hi;cases hi
   .rw[av e2];by_cases e3:b=id
    .subst e3;rw[aD rfl];rw[L]at hi;exact hi
    .rw[av e3];exact hi
 have hlo:=c.qz.G i _ m hb;let⟨l',hl'⟩:=fJ cty.h m hlo;have hrow:bW h2 (.I cty.nx)=Z (dw J cty.nx 1 (l! A)):=by
  simp only[bW,bx,kx];rw[av hbn.symm];simp only[bk,aF,iM,sk]
 have hsp:cJ h2 (splice m j [.I cty.nx])=Z (splice l' j [dw J cty.nx 1 (l! A)]):=rn _ (gX hr _ _ hl') (by simp only[cJ,hrow]);let⟨y,hy,hey⟩:=mE hl' _ _ hv;have hy0:y=dw J id 1 (l! A):=by
  simp only[bW,bx,L,aF,iM,sk,ah]at hey;exact hey.symm
 subst hy0;have hinv:g_ h2 (cty.nx+1):=by
  refine ⟨λb ty2 l2 hil=>?_,λb q hiq=>?_⟩
  .rw[kx]at hil;split at hil
   .simp only[ah,e9.G.injEq]at hil;obtain⟨_,rfl⟩:=hil;exact mc _ _ _ hsp
   .split at hil
    .cases hil
    .split at hil
     .cases hil
     .exact fy hr l2 (c.qz.G b _ l2 hil)
  .rw[kx]at hiq;split at hiq
   .omega
   .split at hiq
    .omega
    .split at hiq
     .omega
     .have:=c.qz.low b q hiq;omega
 have hdead:∀n,ow n=id->erHF h2 n=U:=λn hn=>by
  unfold erHF;rw[kx,av (by omega),av (by omega),aD hn];simp only[aF];cases ix n<;>rfl
 have hm0:∀n k,ow n=cty.nx->ix n=k+1->erHF h2 n=U:=λn k hn hk=>by
  unfold erHF;rw[kx,av (by omega),aD hn,hk];rfl
 refine LF c (λn=>if n=nm cty.nx then nm id else n) (λn hn=>by rw[av (λe=>hn (by rw[e,dh]))]) hr hinv (λn b' a=>?_) λn l p q hn hm he=>?_
 .show ∃i,erHF cty.h (if n=nm cty.nx then nm id else n)=Z i/\_;by_cases f0:ow n=cty.nx
  .cases hix:ix n with
   |succ k=>rw[hm0 n k f0 hix]at a;cases a
   |zero=>
    have en:n=nm cty.nx:=by rw[<- f0];exact pn hix
    rw[aD en];subst en;rw[bG,kx,av hbn.symm,aD rfl]at a;rw[bG,L];exact⟨b',a,λφ' O' hφ keep oo hoo=>hoo.mono keep⟩
  .have en:n≠nm cty.nx:=λe=>f0 (by rw[e,dh])
   rw[av en];by_cases f1:ow n=id
   .rw[hdead n f1]at a;cases a
   .by_cases f2:ow n=i
    .cases hix:ix n with
     |succ k=>
      unfold erHF at a;rw[kx,aD f2,hix]at a;cases a
     |zero=>
      have eb:n=nm i:=by rw[<- f2];exact pn hix
      subst eb;rw[bG,kx,aD rfl]at a;simp only[aF,kJ,hsp,ah]at a;subst a;refine ⟨⟨s,.mx l'⟩,by rw[bG,hb];simp only[aF,kJ,hl'],λφ' O' hφ keep oo hoo=>?_⟩;have hlt:j<l! l':=(bz.1 hy).1;have hφ0:φ' (nm cty.nx)=V (nm id):=by rw[hφ];simp
      rw[qV rfl]at hoo ⊢;let⟨arr,a1,a2⟩:=hoo;refine ⟨arr,a1,?_⟩;unfold vE at a2 ⊢;refine ⟨by simp only[BC.len]at a2 ⊢;rw[nI (by simp;omega)];exact a2.1,λo x D=>?_⟩;simp only[BC.get]at D a2;rw[oz (by simp;omega)]at D;split at D
      .grind
      .split at D
       .rename_i h3 h4;simp only[cO]at h4;have hj:o=j:=by omega
        subst hj;simp only[Ly,hZ,ah]at D;subst D;let⟨_,v,a3,a4⟩:=a2.2 _ _ hy;refine ⟨by unfold dw;split<;>rfl,v,a3,?_⟩;unfold dw at a4 ⊢;by_cases hz:l! A=0
        .grind
        .rw[av (by simpa using hz)]at a4 ⊢;exact LC hφ0 a4
       .grind
    .cases D:cty.h.get (ow n) with
     |none=>
      unfold erHF at a;rw[kx,av f2,av f0,av f1,D]at a;cases a
     |some B=>
      unfold erHF at a;rw[kx,av f2,av f0,av f1,D]at a;simp only[aF]at a;rw[mF hr (λty m e=>c.qz.G _ _ m (by rw[D,e]))]at a;exact⟨b',by unfold erHF;rw[D];exact a,λφ' O' hφ keep oo hoo=>hoo.mono keep⟩
 .have he:(if n=nm cty.nx then nm id else n)=(if l=nm cty.nx then nm id else l):=he;by_cases f0:n=nm cty.nx
  .rw[aD f0]at he;by_cases f1:l=nm cty.nx
   .rw[f0,f1]
   .rw[av f1]at he;rw[<- he,hdead _ (dh id)]at hm;cases hm
  .rw[av f0]at he;by_cases f1:l=nm cty.nx
   .rw[aD f1]at he;rw[he,hdead _ (dh id)]at hn;cases hn
   .rw[av f1]at he;exact he
def ask {s:TS} (c:jI P E nt np V s z w) {s':TS} (h:asl s i=Z s'):s'.e=s.e/\∃φ',jI P E nt np φ' s' z w/\xU np V φ' (erHF s.h) (erHF s'.h) w w:=by
 unfold asl at h;split at h
 next a=>exact aso c a h
 next a=>exact asm c a h
 .split at h
  .cases h
  .exact asp c h
 .cases h
def X0 {s:TS} (c:jI P E nt np V s z w) (hr:bV s.h h) (D:erHF h=erHF s.h) (hinv:g_ h (s.nx+1)):jI P E nt np V ⟨s.e,h,s.nx+1⟩ z w/\xU np V V (erHF s.h) (erHF h) w w:=by
 refine ⟨⟨by rw[D];exact c.zq,λt x A=>?_,λn k hk=>vo (c.dom n k hk),gg c.low,hinv,λt x A=>nB hr x (c.qm t x A),c.inert,c.size⟩,by rw[D];exact xU.refl _ _ _ _⟩;rw[D];simp[fU]at A;cases he:s.e.get t with
 |none=>rw[he]at A;cases A
 |some q=>
  rw[he]at A;let⟨a,L⟩:=pl s.h q (c.qm t q he);simp[aF,fP hr q a L,ah]at A;subst A;exact c.env t _ (by simp[fU,he,aF,L])
def ax3 {s:TS} (c:jI P E nt np V s z w) {φ:Ty} {es:Y (K.den×φ.den)} (hb:s.h.get i=Z (.mp K φ es)) (hE:mpE K φ es=J) (ty:TypeId) (S:Ty):jI P E nt np V ⟨s.e,(s.h.set i (Z (.Q .qr s.nx []))).set s.nx (Z (.Q (.ar ty S) 0 [])),s.nx+1⟩ z w/\xU np V V (erHF s.h) (erHF ((s.h.set i (Z (.Q .qr s.nx []))).set s.nx (Z (.Q (.ar ty S) 0 [])))) w w:=by
 have hfr:=c.qz.fresh;have hlt:=c.qz.low i _ hb;generalize hh':(s.h.set i (Z (.Q .qr s.nx []))).set s.nx (Z (.Q (.ar ty S) 0 []))=h';have D:∀id,h'.get id=if id=s.nx then Z (.Q (.ar ty S) 0 []) else if id=i then Z (.Q .qr s.nx []) else s.h.get id:=λid=>by
  rw[<- hh',PT.get_set,PT.get_set]
 have L:bV s.h h':=λid q hi=>by
  rw[bx]at hi ⊢;rw[D];by_cases A:id=s.nx
  .grind
  .rw[av A];by_cases a:id=i
   .rw[a,hb]at hi;cases hi
   .grind
 refine X0 c L ?_ ⟨λid ty l hil=>?_,λid c' hic=>?_⟩
 .funext n;unfold erHF;rw[D];by_cases A:ow n=s.nx
  .rw[aD A,A,hfr];cases ix n<;>rfl
  .rw[av A];by_cases a:ow n=i
   .rw[aD a,a,hb];simp[aF];cases ix n with
    |succ k=>rfl
    |zero=>
     simp[Pq,kJ,Ci (aio hE),SS hE,C'];rfl
   .rw[av a];cases hx:s.h.get (ow n) with
    |none=>rfl
    |some B=>exact mF L (λty l e=>c.qz.G _ _ l (by rw[hx,e])) _ _
 .rw[D]at hil;split at hil
  .cases hil
  .split at hil
   .cases hil
   .exact fy L l (c.qz.G id _ l hil)
 .rw[D]at hic;split at hic
  .omega
  .split at hic
   .omega
   .have:=c.qz.low id c' hic;omega
def awz {s:TS} (c:jI P E nt np V s z w) (ai:Nat) (ty:TypeId):jI P E nt np V ⟨s.e,s.h.set s.nx (Z (.Q (.qn ty) ai [])),s.nx+1⟩ z w/\erHF (s.h.set s.nx (Z (.Q (.qn ty) ai [])))=erHF s.h:=by
 have hfr:=c.qz.fresh;have a:bV s.h (s.h.set s.nx (Z (.Q (.qn ty) ai []))):=bV.set λr a=>by rw[bx,hfr]at a;cases a
 have D:erHF (s.h.set s.nx (Z (.Q (.qn ty) ai [])))=erHF s.h:=by
  funext n;unfold erHF;rw[PT.get_set];by_cases A:ow n=s.nx
  .rw[aD A,A,hfr];cases ix n<;>rfl
  .rw[av A];cases L:s.h.get (ow n) with
   |none=>rfl
   |some B=>exact mF a (λty l e=>c.qz.G _ _ l (by rw[L,e])) _ _
 exact⟨(X0 c a D (c.qz.set a (xi _) (R8 _) (λ_ _ he=>by cases he))).1,D⟩
end ren
def C5:∀(l:Y uC) (acc:Nat),Un l acc=acc|||Un l 0
 |[],acc=>by simp[Un]
 |o::r,acc=>by
  simp only[Un];cases o.dst with
  |none=>exact C5 r acc
  |some d=>simp only[];rw[C5 r (acc|||gG d),C5 r (0|||gG d),wS,kW]
def Dl:∀(l:ι) (acc:Nat),PL l acc=acc|||PL l 0
 |[],acc=>by simp[PL]
 |k::r,acc=>by simp only[PL];rw[Dl r (acc|||gG k),Dl r (0|||gG k),wS,kW]
def kS:∀(l:Y Adj) (acc:Nat),nj l acc=acc|||nj l 0
 |[],acc=>by simp[nj]
 |.nil k _ _::r,acc=>by simp only[nj];rw[kS r (acc|||gG k),kS r (0|||gG k),wS,kW]
 |.qh _ _ _ _::r,acc|.mpt _ _ _::r,acc=>by exact kS r acc
 |.qx k _::r,acc=>by simp only[nj];rw[kS r (acc|||gG k),kS r (0|||gG k),wS,kW]
 |.pk _ _ _::r,acc|.fmp _ _ _ _::r,acc|.frw _ _ _ _::r,acc|.jm _ _::r,acc=>by exact kS r acc
def hX:∀(c:TC) (acc:Nat),c.asg acc=acc|||c.asg 0
 |.jw ops _,acc=>C5 ops acc
 |.seq a b,acc=>by simp[TC.asg];rw[hX b (a.asg acc),hX b (a.asg 0),hX a acc,kW]
 |.jq A a b,acc=>by simp[TC.asg];rw[hX b (a.asg _),hX b (a.asg (PL A.ks 0)),hX a (PL A.ks acc),hX a (PL A.ks 0),Dl A.ks acc,kW,kW,kW]
 |.cond _ a b,acc=>by simp[TC.asg];rw[hX b (a.asg acc),hX b (a.asg 0),hX a acc,kW]
 |.block _ b,acc=>hX b acc
 |.zk A _ b,acc|.loop A b,acc=>by simp[TC.asg];rw[hX b (PL A.ks acc),hX b (PL A.ks 0),Dl A.ks acc,kW]
 |.defer _ _ t,acc=>by simp[TC.asg]
 |.adj l c,acc=>by simp[TC.asg];rw[hX c (nj l acc),hX c (nj l 0),kS l acc,kW]
 |.split _ _ _ _ c,acc=>hX c acc
 |.bsp _ a b,acc=>by simp[TC.asg];rw[hX b (a.asg acc),hX b (a.asg 0),hX a acc,kW]
 |.unl _ b,acc=>hX b acc
 |.skip,acc|.exit _,acc|.ret,acc|.zn,acc=>by simp[TC.asg]
def vC {c:TC} (h:aK (c.asg 0) j=J):aK (c.asg i) j=J:=by rw[hX,bu,h];simp
def kG {c:TC} (h:aK i j=J):aK (c.asg i) j=J:=by rw[hX,bu,h];rfl
def ac1:∀{l:ι} {acc k:Nat},k∈l->aK (PL l acc) k=J
 |[],_,_,h=>by cases h
 |x::r,acc,k,h=>by
  simp[PL];rcases aV.1 h with rfl|h
  .rw[Dl,bu,bu,bn.2 rfl];simp
  .exact ac1 h
def XU:∀{l:Y uC} {acc:Nat} {o:uC} {d:Nat},o∈l->o.dst=Z d->aK (Un l acc) d=J
 |[],_,_,_,h,_=>by cases h
 |x::r,acc,o,d,h,hd=>by
  simp[Un];rcases aV.1 h with rfl|h
  .rw[hd];rw[C5,bu,bu,bn.2 rfl];simp
  .exact XU h hd
def ace:∀{e:h_} {z:ι} {vs:Y TV},kx e z=Z vs->l! vs=l! z/\∀(j k:Nat),z[j]? =Z k->∃v,vs[j]? =Z v/\e.get k=Z v
 |e,[],vs,h=>by simp[kx,ah]at h;subst h;exact⟨rfl,by simp⟩
 |e,k::r,vs,h=>by
  simp[kx]at h;split at h
  .rename_i v L;split at h
   .rename_i l hl;simp[ah]at h;subst h;let⟨h1,h2⟩:=ace hl;refine ⟨by simp[h1],λj D A=>?_⟩;cases j with
    |zero=>simp at A;subst A;exact⟨v,rfl,L⟩
    |succ j=>simpa using h2 j D (by grind)
   .cases h
  .cases h
def Mv {e:h_} (hi:sN e h):∀{A:ι} {vs:Y TV},kx e A=Z vs->lY h vs=J
 |[],vs,z=>by simp[kx,ah]at z;subst z;rfl
 |k::r,vs,z=>by
  simp[kx]at z;split at z
  .rename_i v D;split at z
   next l L=>simp[ah]at z;subst z;simp[lY,al];exact⟨hi k v D,Mv hi L⟩
   .cases z
  .cases z
def FO:∀{e:h_} {z:ι} {vs:Y TV},l! vs=l! z->∀t v,(ae1 e z vs).get t=Z v->(∃j:Nat,z[j]? =Z t/\vs[j]? =Z v)\/(t∉z/\e.get t=Z v)
 |e,[],[],_,t,v,h=>.inr ⟨by simp,h⟩
 |e,[],_::_,A,t,v,h|e,_::_,[],A,t,v,h=>by simp at A
 |e,k::r,u::l,A,t,v,h=>by
  simp[ae1,PT.get_set]at h;split at h
  next L=>subst L;cases h;exact .inl ⟨0,rfl,rfl⟩
  .rename_i L;rcases FO (by grind) t v h with ⟨j,h1,D⟩|⟨h1,D⟩
   .exact .inl ⟨j+1,by simpa using h1,by simpa using D⟩
   .grind
def vK {e:h_}:∀{A:ι} {k:Nat} {v:TV},(Gn i e A).get k=Z v->k∈A/\e.get k=Z v/\wA v=J/\aK i k=af
 |[],k,v,h=>by simp[Gn,PT.get]at h
 |x::r,k,v,h=>by
  simp[Gn]at h;split at h
  .rename_i u D;split at h
   .rename_i L;rw[PT.get_set]at h;split at h
    .grind
    .obtain⟨h1,z⟩:=vK h;exact⟨by simp[h1],z⟩
   .obtain⟨h1,z⟩:=vK h;exact⟨by simp[h1],z⟩
  .obtain⟨h1,z⟩:=vK h;exact⟨by simp[h1],z⟩
def MT {e0 e:h_}:∀{z:ι},LN i e0 e z=J->∀k v,k∈z->e0.get k=Z v->wA v=J->aK i k=af->∃D,e.get k=Z D
 |[],_,k,v,h,_,_,_=>by cases h
 |x::r,A,k,v,h,L,hf,ha=>by
  simp[LN,al]at A;rcases aV.1 h with rfl|h
  .grind
  .exact MT A.2 k v h L hf ha
section walk
variable {P:Program} {E:Nat->Prop} {nt np:Nat}
def Wy (A:aj1 u=J) (z:bW h u=Z y):Le y .emp:=by
 cases u with
 |nil=>simp[bW,ah]at z;subst z;exact Le.nilEmp
 |emp=>simp[bW,ah]at z;subst z;exact Le.refl _
 |_=>cases A
def ade {s:TS} (c:jI P E nt np V s z w) (ty:TypeId) (T:Ty):jI P E nt np V ⟨s.e,s.h.set s.nx (Z (.H ty J T [])),s.nx+1⟩ z w/\erHF (s.h.set s.nx (Z (.H ty J T [])))=erHF s.h/\bV s.h (s.h.set s.nx (Z (.H ty J T []))):=by
 have hfr:=c.qz.fresh;have D:bV s.h (s.h.set s.nx (Z (.H ty J T []))):=bV.set λr D=>by rw[bx,hfr]at D;cases D
 have L:erHF (s.h.set s.nx (Z (.H ty J T [])))=erHF s.h:=by
  funext n;by_cases hn:n=nm s.nx
  .subst hn;rw[bG,bG,PT.get_set,aD rfl,hfr];rfl
  .refine m_ c.qz D (iP.set (by rw[hfr];rfl) rfl) λi e=>?_
   subst e;rw[PT.get_set,av (λe=>hn (by rw[e]))]
 refine ⟨⟨by rw[L];exact c.zq,?_,λn k hk=>vo (c.dom n k hk),gg c.low,c.qz.set D (xi _) (R8 _) (λ_ _ he=>by cases he),?_,c.inert,c.size⟩,L,D⟩
 .intro t x A;rw[L];simp[fU]at A;cases he:s.e.get t with
  |none=>rw[he]at A;cases A
  |some q=>
   rw[he]at A;let⟨a,hz⟩:=pl s.h q (c.qm t q he);simp[aF,fP D q a hz,ah]at A;subst A;exact c.env t _ (by simp[fU,he,aF,hz])
 .intro t x A;exact nB D x (c.qm t x A)
def Cf :∀{a b:Y TV},lY h a=J->lY h b=J->lY h (a++b)=J
 |[],_,_,z=>z
 |x::r,b,A,z=>by
  simp[lY,al]at A;simp[gP,lY,al];exact⟨A.1,Cf A.2 z⟩
def Q9 :∀{a:Y TV} (n:Nat),lY h a=J->lY h (a.take n)=J
 |[],n,_=>by simp[lY]
 |x::r,0,_=>rfl
 |x::r,n+1,z=>by
  simp[lY,al]at z;simp[yw,lY,al];exact⟨z.1,Q9 n z.2⟩
def Q_ :∀{a:Y TV} (n:Nat),lY h a=J->lY h (a.drop n)=J
 |[],n,_=>by simp[lY]
 |x::r,0,z=>z
 |x::r,n+1,z=>by
  simp[lY,al]at z;exact Q_ n z.2
def B_ {l:Y R} {x:R} (h:l[j]? =Z x):splice l j [x]=l:=by
 have z:j<l! l:=by grind
 rw[aG z,ah]at h;unfold splice;subst h;simp
def X1 {s:TS} (c:jI P E nt np V s z w) {id:Nat} {cty:M TypeId} {l:Y TV} {v:TV} (hb:s.h.get id=Z (.G cty l)) (hv:l[j]? =Z v) (hn:aj1 v=J) (hu:bW s.h u=Z .emp) (huo:PI s.h u=J):
 jI P E nt np V ⟨s.e,s.h.set id (Z (.G cty (splice l j [u]))),s.nx⟩ z w/\xU np V V (erHF s.h) (erHF (s.h.set id (Z (.G cty (splice l j [u]))))) w w:=by
 have D:bV s.h (s.h.set id (Z (.G cty (splice l j [u])))):=bV.set λr D=>by rw[bx,hb]at D;cases D
 have hlo:=c.qz.G id _ l hb;let⟨l',L⟩:=fJ s.h l hlo;have hsp:cJ s.h (splice l j [u])=Z (splice l' j [.emp]):=rn j L (by simp[cJ,hu]);have hsp':cJ (s.h.set id (Z (.G cty (splice l j [u])))) (splice l j [u])=Z (splice l' j [.emp]):=gX D _ _ hsp;let⟨y,hy,hey⟩:=mE L j v hv;have hold:erHF s.h (nm id)=Z (aku cty l'):=by rw[bG,hb];cases cty<;>(simp [aF,kJ,L];rfl)
 have hnew:erHF (s.h.set id (Z (.G cty (splice l j [u])))) (nm id)=Z (aku cty (splice l' j [.emp])):=by
  rw[bG,PT.get_set,aD rfl];cases cty<;>(simp [aF,kJ,hsp'];rfl)
 have hoth:∀n,n≠nm id->erHF (s.h.set id (Z (.G cty (splice l j [u])))) n=erHF s.h n:=λn hn'=>by
  refine m_ c.qz D (iP.set (by rw[hb];rfl) rfl) λi e=>?_
  subst e;rw[PT.get_set,av (λe=>hn' (by rw[e]))]
 have hdom:rA (erHF s.h) (erHF (s.h.set id (Z (.G cty (splice l j [u]))))):=λn b hb'=>by grind
 have hcell:∀ty,cty=Z ty->∀x∈l',x.isCell=J:=λty hty x A=>by
  subst hty;let⟨k,hk⟩:=fI A;let⟨q,_,_,hat⟩:=c.zq.at_ _ _ hold;let⟨ob,_,hob⟩:=hat;let⟨arr,_,hca⟩:=hob;exact (hca.2 k x hk).1
 have hV:O4 (erHF s.h) (erHF (s.h.set id (Z (.G cty (splice l j [u]))))):=⟨hdom,λn b b' h1 h2=>by
  by_cases e:n=nm id
  .subst e;rw[hold]at h1;cases h1;rw[hnew]at h2;cases h2;have hle:gZ (erHF s.h) (erHF (s.h.set id (Z (.G cty (splice l j [u]))))) l' (splice l' j [.emp]):=by
    have:=gZ.splice j (gZ.refl hdom l') (b:=[y]) (b':=[.emp]) ⟨(Wy hn hey).toH hdom,trivial⟩;rw[B_ hy]at this;exact this
   cases cty with
   |none=>exact gw.none
   |some ty=>
    refine gw.G rfl rfl hle λx A=>?_
    have A:x∈splice l' j [.emp]:=A;unfold splice at A;rw[bL,bL,aE]at A;rcases A with (A|A)|A
    .grind
    .subst A;rfl
    .grind
  .rw[hoth n e,h1]at h2;cases h2;exact gw.refl hdom b⟩
 refine ⟨⟨hV.zq c.zq,?_,c.dom,c.low,c.qz.set D (c.qz.low id _ hb) (bJ _) (λty l2 he=>?_),?_,c.inert,c.size⟩,⟨HY.refl _ _,λk _ ho=>hdom.own ho,λ_ _=>rfl⟩⟩
 .intro t x A;simp[fU]at A;cases he:s.e.get t with
  |none=>rw[he]at A;cases A
  |some q=>
   rw[he]at A;let⟨a,hz⟩:=pl s.h q (c.qm t q he);simp[aF,fP D q a hz,ah]at A;subst A;exact (c.env t _ (by simp[fU,he,aF,hz])).dom hdom
 .simp[e9.G.injEq]at he;obtain⟨_,rfl⟩:=he;refine fy D _ ?_;exact Cf (Cf (Q9 _ hlo) (by simp only[lY,huo,fw])) (Q_ _ hlo)
 .intro t x A;exact nB D x (c.qm t x A)
def jI.congr {s s':TS} (c:jI P E nt np V s z w) (he:∀t,s'.e.get t=s.e.get t) (hh:∀i,s'.h.get i=s.h.get i) (hn:s'.nx=s.nx):jI P E nt np V s' z w/\erHF s'.h=erHF s.h:=by
 have L:bV s.h s'.h:=λi r hi=>by rw[bx]at hi ⊢;rw[hh];exact hi
 have hH:erHF s'.h=erHF s.h:=by funext n;exact m_ c.qz L (λi k=>by rw[hh]) λi _=>hh i
 refine ⟨⟨by rw[hH];exact c.zq,?_,by rw[hn];exact c.dom,by rw[hn];exact c.low,⟨λi ty l A=>?_,λi b A=>?_⟩,λt v hv=>?_,c.inert,c.size⟩,hH⟩
 .intro t x D;rw[hH];simp[fU,he]at D;cases A:s.e.get t with
  |none=>rw[A]at D;cases D
  |some v=>
   rw[A]at D;let⟨a,hz⟩:=pl s.h v (c.qm t v A);simp[aF,fP L v a hz,ah]at D;subst D;exact c.env t _ (by simp[fU,A,aF,hz])
 .rw[hh]at A;exact fy L l (c.qz.G i _ l A)
 .rw[hh]at A;rw[hn];exact c.qz.low i b A
 .rw[he]at hv;exact nB L v (c.qm t v hv)
variable {a:Int}
def UY {f:Nat->M R} {r:R}:∀{m i:Nat},spl a f i m=Z r->∃j,a=aQ j/\f j=Z r
 |0,i,h=>by cases h
 |m+1,i,h=>by
  rcases lQ h with ⟨h1,z⟩|⟨_,z⟩
  .grind
  .exact UY z
def ahm {s s':TS} (c:jI P E nt np V s z w) {kd:IntKind} {v:Int} (h1:aj7 s i j=Z (kd,v)) (a:YC s i j kd v=Z s'):jI P E nt np V s' z w/\erHF s'.h=erHF s.h/\∀t,s'.e.get t=s.e.get t:=by
 unfold aj7 at h1;unfold YC at a;cases hk:s.e.get i with
 |none=>rw[hk]at h1;cases h1
 |some x=>
  rw[hk]at h1 a;cases x with
  |f T q=>
   cases T with
   |int kd'=>
    simp[ah,aR]at h1;obtain⟨rfl,rfl⟩:=h1;simp[ah]at a;subst a;have he:∀t,(s.e.set i (Z (.f (.int kd') q))).get t=s.e.get t:=λt=>by
     rw[PT.get_set];split
     .grind
     .rfl
    let⟨g1,g2⟩:=c.congr (s':=⟨s.e.set i (Z (.f (.int kd') q)),s.h,s.nx⟩) he (λ_=>rfl) rfl;exact⟨g1,g2,he⟩
   |_=>cases h1
  |P a0 A=>
   simp[]at h1 a;cases L:s.h.get a0 with
   |none=>rw[L]at h1;cases h1
   |some b=>
    rw[L]at h1 a;cases b with
    |G ty l=>
     cases ty with
     |none=>cases h1
     |some ty=>
     simp only[]at h1 a;cases D:l[A+j]? with
     |none=>rw[D]at h1;cases h1
     |some y=>
      rw[D]at h1;cases y with
      |f T q=>
       cases T with
       |int kd'=>
        simp[ah,aR]at h1;obtain⟨rfl,rfl⟩:=h1;simp[ah]at a;subst a;have hh:∀k,(s.h.set a0 (Z (.G (Z ty) (splice l (A+j) [.f (.int kd') q])))).get k=s.h.get k:=λk=>by
         rw[PT.get_set];split
         next e=>subst e;rw[L,B_ D]
         .rfl
        let⟨g1,g2⟩:=c.congr (s':=⟨s.e,s.h.set a0 (Z (.G (Z ty) (splice l (A+j) [.f (.int kd') q]))),s.nx⟩) (λ_=>rfl) hh rfl;exact⟨g1,g2,λ_=>rfl⟩
       |_=>cases h1
      |_=>cases h1
    |_=>cases h1
  |_=>cases h1
mutual
def QV (id sz n:Nat):∀v:TV,wA v=J->Pw id sz n v=v
 |.f _ _,_|.zf _ _ _ _ _,_|.emp,_|.nil,_|.undef,_|.np,_|.qw,_=>rfl
 |.agg l,h|.qb l,h=>by simp[Pw];rw[EP id sz n l h]
 |.zj _ _ _ _,h|.P _ _,h|.qg _ _ _,h|.I _,h|.zh _ _,h|.mp _,h|.qc _ _,h|.qy _ _,h|.sb _,h=>by cases h
def EP (id sz n:Nat):∀l:Y TV,r8 l=J->Jo id sz n l=l
 |[],_=>rfl
 |x::r,h=>by
  simp[r8,al]at h;simp only[Jo];rw[QV id sz n x h.1,EP id sz n r h.2]
end
section subs
variable {id sz n:Nat} {h h':aX}
mutual
def Sj (hr:bV h h') (hid:eM h' id=Z (af,sz,n)):∀(v:TV) (y:AV),bW h v=Z y->bW h' (Pw id sz n v)=Z y
 |.qg i s m,y,he=>by
  simp[bW,ah]at he;subst he;simp only[Pw];split
  .rename_i hq;simp only[al]at hq;have e1:=au hq.1.1;have e2:=au hq.1.2;have e3:=au hq.2;subst e1 e2 e3;simp[bW,hid,dw,jN,cQ,dE]
  .rfl
 |.agg l,y,he|.qb l,y,he|.qy g l,y,he=>by
  simp[bW]at he;cases hl:cJ h l with
  |none=>rw[hl]at he;cases he
  |some l'=>rw[hl]at he;simp only[Pw,bW,yH hr hid l l' hl];exact he
 |.f T v,y,he|.zf T xs j hj off,y,he|.zj _ _ _ _,y,he|.P _ _,y,he|.I _,y,he|.zh _ _,y,he|.emp,y,he|.nil,y,he|.mp _,y,he|.undef,y,he|.np,y,he|.qw,y,he|.qc _ _,y,he|.sb _,y,he=>fP hr _ _ he
def yH (hr:bV h h') (hid:eM h' id=Z (af,sz,n)):∀(l:Y TV) (l':Y AV),cJ h l=Z l'->cJ h' (Jo id sz n l)=Z l'
 |[],l',he=>by simp[cJ,ah]at he;subst he;rfl
 |x::r,l',he=>by
  obtain⟨y,l2,rfl,h1,h2⟩:=c4 he;exact qC (Sj hr hid x y h1) (yH hr hid r l2 h2)
end
end subs
variable {K:Ty}
def awk {s:TS} (c:jI P E nt np V s z w) {n:Nat} {s':TS} (hp:pkS s K i j n=Z s'):jI P E nt np V s' z w/\xU np V V (erHF s.h) (erHF s'.h) w w/\fR 0 s.e s'.e:=by
 unfold pkS at hp;split at hp
 .rename_i ty l hb;split at hp
  .rename_i hs;have hs:=au hs;subst hs;split at hp
   .rename_i xs m hpk;split at hp
    .cases hp
    .rename_i hmid;cases hp;have hm:dI s.h m:=Ss n l xs m hpk;let⟨l',hl⟩:=fJ s.h l (c.qz.G i _ l hb);have hidlt:=c.qz.low i _ hb;have kx:∀id,((PT.updI (λ_ b=>Yx i K.size n b) 1 0 (dK m s.h)).set i (Z (.H ty af K xs))).get id=if id=i then Z (.H ty af K xs) else if aK m id then (s.h.get id).map u_ else (s.h.get id).map (Yx i K.size n):=λid=>by
      rw[PT.get_set];by_cases e:id=i
      .rw[aD e,aD e]
      .rw[av e,av e,PT.get_updI,iV];split
       .cases A:s.h.get id with
        |none=>rfl
        |some b=>
         let⟨p1,s1,n1,e1⟩:=MR b;simp only[bh,e1,Yx]
       .rfl
     generalize hH2:((PT.updI (λ_ b=>Yx i K.size n b) 1 0 (dK m s.h)).set i (Z (.H ty af K xs)))=h2 at kx ⊢;have hr:bV s.h h2:=λid r hi=>by
      rw[bx]at hi ⊢;rw[kx];by_cases e:id=i
      .subst e;rw[hb]at hi;cases hi
      .rw[av e];cases A:s.h.get id with
       |none=>rw[A]at hi;cases hi
       |some b=>
        rw[A]at hi;split
        .exact Q3 hi
        .cases b<;>first|exact hi|cases hi
     have hnone:∀id,aK m id=J->erHF h2 (nm id)=U:=λid hi=>by
      have e:id≠i:=λe=>by subst e;exact hmid hi
      let⟨ty',p',T',xs',L⟩:=hm id hi;rw[bG,kx,av e,aD hi,L];rfl
     have hme:iP s.h h2:=λid k=>by
      rw[kx];by_cases e:id=i
      .rw[aD e,e,hb];rfl
      .rw[av e];split
       next hmi=>let⟨ty',p',T',xs',L⟩:=hm id hmi;rw[L];rfl
       .cases A:s.h.get id with
        |none=>rfl
        |some b=>cases b<;>rfl
     have hdom:rA (erHF s.h) (erHF h2):=λq b hq=>by
      rcases NA hme hq with h0|⟨id,cc,rfl,D,h4⟩
      .exact⟨b,h0⟩
      rw[bG];rw[kx]at D;by_cases e:id=i
      .subst e;rw[hb];simp only[aF,kJ,hl];exact⟨_,rfl⟩
      .rw[av e]at D;cases A:s.h.get id with
       |none=>rw[A]at D;split at D<;>cases D
       |some b0=>
        rw[A]at D;split at D
        .grind
        .simp only[bh,ah]at D;subst D;simp only[aF];cases b0 with
         |G ty0 l0=>
          let⟨l0',hl0⟩:=fJ s.h l0 (c.qz.G id _ l0 A);exact⟨aku ty0 l0',by cases ty0<;>(simp only[kJ,hl0];rfl)⟩
         |_=>exact⟨_,h4⟩
     have giv:Fu s.h (erHF s.h) (erHF h2) m:=λid hi=>⟨rfl,hnone id hi⟩
     let⟨hle,hlen⟩:=F6 hdom n l xs m l' hpk hl giv;have hrow:eM h2 i=Z (af,K.size,n):=by rw[bx,kx,aD rfl,<-hlen];rfl
     have hV:O4 (erHF s.h) (erHF h2):=⟨hdom,λq b b' D h4=>by
      rcases NA hme h4 with h0|⟨id,cc,rfl,h5,h6⟩
      .rw[D]at h0;cases h0;exact gw.refl hdom _
      rw[bG]at D;rw[kx]at h5;by_cases e:id=i
      .subst e;rw[aD rfl]at h5;cases h5;rw[hb]at D;simp only[aF,kJ,hl,ah]at D;subst D;simp only[kJ,jN,cQ,dE,ah]at h6;subst h6;refine gw.G rfl rfl hle λx L=>?_
       simp only[BC.toMx]at L;obtain⟨q,hq,rfl⟩:=cr.1 L;exact mD K _ q hq
      .rw[av e]at h5;cases A:s.h.get id with
       |none=>rw[A]at h5;split at h5<;>cases h5
       |some b0=>
        rw[A]at h5 D;split at h5
        .grind
        .simp only[bh,ah]at h5;subst h5;have:b=b':=by
          simp only[aF]at D;cases b0 with
          |G ty0 l0=>
           let⟨l0',hl0⟩:=fJ s.h l0 (c.qz.G id _ l0 A);cases ty0<;>
            (simp only[kJ,hl0,ah]at D
             simp only[Yx,kJ,yH hr hrow l0 l0' hl0,ah]at h6;rw[<- D,<-h6])
          |H ty1 p1 T1 xs1=>
           have h3':kJ h2 (.H ty1 p1 T1 xs1)=Z b:=D;exact fX (h3'.symm.trans h6)
          |qj p1 s1 n1=>
           have h3':kJ h2 (.qj p1 s1 n1)=Z b:=D;exact fX (h3'.symm.trans h6)
          |mp K1 V1 es1=>
           have h3':kJ h2 (.mp K1 V1 es1)=Z b:=D;exact fX (h3'.symm.trans h6)
          |Q F1 a1 x1=>
           have h3':kJ h2 (.Q F1 a1 x1)=Z b:=D;exact fX (h3'.symm.trans h6)
          |qd F1 a1 x1 k1 p1=>
           have h3':kJ h2 (.qd F1 a1 x1 k1 p1)=Z b:=D;exact fX (h3'.symm.trans h6)
         subst this;exact gw.refl hdom b⟩
     refine ⟨⟨hV.zq c.zq,?_,c.dom,c.low,⟨λid ty' l2 A=>?_,λid b A=>?_⟩,?_,c.inert,c.size⟩,⟨HY.refl _ _,λk _ hk=>hdom.own hk,λ_ _=>rfl⟩,?_⟩
     .intro t x L;simp only[fU,PT.get_updI]at L;cases he:s.e.get t with
      |none=>rw[he]at L;cases L
      |some v=>
       rw[he]at L;let⟨a,hz⟩:=pl s.h v (c.qm t v he);simp only[bh,aF,Sj hr hrow v a hz,ah]at L;subst L;exact (c.env t _ (by simp only[fU,he,aF,hz])).dom hdom
     .rw[kx]at A;by_cases e:id=i
      .rw[aD e]at A;cases A
      .rw[av e]at A;cases hg0:s.h.get id with
       |none=>rw[hg0]at A;split at A<;>cases A
       |some b0=>
        rw[hg0]at A;split at A
        .simp only[bh,ah]at A;exact (Cl A).elim
        .simp only[bh,ah]at A;cases b0 with
         |G ty0 l0=>
          simp only[Yx,e9.G.injEq]at A;obtain⟨_,rfl⟩:=A;let⟨l0',hl0⟩:=fJ s.h l0 (c.qz.G id _ l0 hg0);exact mc _ _ _ (yH hr hrow l0 l0' hl0)
         |_=>cases A
     .rw[kx]at A;by_cases e:id=i
      .subst e;exact hidlt
      .rw[av e]at A;cases hg0:s.h.get id with
       |none=>rw[hg0]at A;split at A<;>cases A
       |some b0=>exact c.qz.low id b0 hg0
     .intro t x L;simp only[PT.get_updI]at L;cases he:s.e.get t with
      |none=>rw[he]at L;cases L
      |some v=>
       rw[he]at L;simp only[bh,ah]at L;subst L;let⟨a,hz⟩:=pl s.h v (c.qm t v he);exact IQ _ _ _ (Sj hr hrow v a hz)
     .intro k _ v' hv';simp only[PT.get_updI]at hv';cases he:s.e.get k with
      |none=>rw[he]at hv';cases hv'
      |some v=>
       rw[he]at hv';simp only[bh,ah]at hv';subst hv';exact⟨v,rfl,λhf=>QV _ _ _ v hf⟩
   .cases hp
  .cases hp
 .cases hp
def awg {s:TS} (c:jI P E nt np V s z w) {s':TS} (h:Ln s (.qx i j)=Z s'):∃φ',jI P E nt np φ' s' z w/\xU np V φ' (erHF s.h) (erHF s'.h) w w/\fR (nj [.qx i j] 0) s.e s'.e:=by
 simp only[Ln]at h;split at h
 .rename_i b o hk;split at h
  .rename_i cty l hb;split at h
   .rename_i id hv;split at h
    .rename_i ty p T xs D;cases h;have hfr:=c.qz.fresh;have hidlt:=c.qz.low id _ D;have hblt:=c.qz.low b _ hb;have hbid:b≠id:=λe=>by rw[e,D]at hb;cases hb
     have hbn:b≠s.nx:=by omega
     have hin:id≠s.nx:=by omega
     generalize hh2:(((s.h.set id (Z (.qj p T.size (l! xs)))).set s.nx (Z (.H ty p T xs))).set b (Z (.G (Z cty) (splice l (o+j) [.I s.nx]))))=L;have kx:∀k,L.get k=if k=b then Z (.G (Z cty) (splice l (o+j) [.I s.nx])) else if k=s.nx then Z (.H ty p T xs) else if k=id then Z (.qj p T.size (l! xs)) else s.h.get k:=λk=>by
      rw[<- hh2,PT.get_set,PT.get_set,PT.get_set]
     have hr:bV s.h L:=λk r hi=>by
      rw[bx]at hi ⊢;rw[kx];by_cases e1:k=b
      .subst e1;rw[hb]at hi;cases hi
      .rw[av e1];by_cases e2:k=s.nx
       .subst e2;rw[hfr]at hi;cases hi
       .rw[av e2];by_cases e3:k=id
        .subst e3;rw[aD rfl];rw[D]at hi;exact hi
        .rw[av e3];exact hi
     have hlo:=c.qz.G b _ l hb;let⟨l',hl'⟩:=fJ s.h l hlo;have hrow:bW L (.I s.nx)=Z (dw p s.nx T.size (l! xs)):=by
      simp only[bW,bx,kx];rw[av hbn.symm];simp only[bk,aF,iM]
     have hsp:cJ L (splice l (o+j) [.I s.nx])=Z (splice l' (o+j) [dw p s.nx T.size (l! xs)]):=rn _ (gX hr _ _ hl') (by simp only[cJ,hrow]);let⟨y,hy,hey⟩:=mE hl' _ _ hv;have hy0:y=dw p id T.size (l! xs):=by
      simp only[bW,bx,D,aF,iM,ah]at hey;exact hey.symm
     subst hy0;have hold:erHF s.h (nm b)=Z ⟨cty,.mx l'⟩:=by rw[bG,hb];simp only[aF,kJ,hl']
     have hnew:erHF L (nm b)=Z ⟨cty,.mx (splice l' (o+j) [dw p s.nx T.size (l! xs)])⟩:=by
      rw[bG,kx,aD rfl];simp only[aF,kJ,hsp]
     have hdead:erHF L (nm id)=U:=by rw[bG,kx,av hbid.symm,av hin,aD rfl];rfl
     have hnx2:erHF L (nm s.nx)=if p&&l! xs==0 then U else Z ⟨ty,.fz (xs.flatMap (bD T))⟩:=by rw[bG,kx,av hbn.symm,aD rfl];rfl
     have hid0:erHF s.h (nm id)=if p&&l! xs==0 then U else Z ⟨ty,.fz (xs.flatMap (bD T))⟩:=by rw[bG,D];rfl
     have hoth:∀n,n≠nm b->n≠nm s.nx->n≠nm id->erHF L n=erHF s.h n:=λn e1 e2 e3=>m_ c.qz hr (iP.of λk=>by
      rw[kx];by_cases f1:k=b
      .rw[aD f1,f1,hb];exact .inr ⟨rfl,rfl⟩
      .rw[av f1];by_cases f2:k=s.nx
       .rw[aD f2,f2,hfr];exact .inr ⟨rfl,rfl⟩
       .rw[av f2];by_cases f3:k=id
        .rw[aD f3,f3,D];exact .inr ⟨rfl,rfl⟩
        .rw[av f3];exact .inl rfl) λk e=>by
      subst e;rw[kx,av (λe=>e1 (by rw[e])),av (λe=>e2 (by rw[e])),av (λe=>e3 (by rw[e]))]
     have hnb:nm b≠nm s.nx:=λe=>hbn (uM e)
     have hbi:nm b≠nm id:=λe=>hbid (uM e)
     have hni:nm s.nx≠nm id:=λe=>hin (uM e).symm
     have hinv:g_ L (s.nx+1):=by
      refine ⟨λk ty2 l2 hil=>?_,λk q hiq=>?_⟩
      .rw[kx]at hil;split at hil
       .simp only[ah,e9.G.injEq]at hil;obtain⟨_,rfl⟩:=hil;exact mc _ _ _ hsp
       .split at hil
        .cases hil
        .split at hil
         .cases hil
         .exact fy hr l2 (c.qz.G k _ l2 hil)
      .rw[kx]at hiq;split at hiq
       .omega
       .split at hiq
        .omega
        .split at hiq
         .omega
         .have:=c.qz.low k q hiq;omega
     have hE:∀t x,fU s.e L t=Z x->fU s.e s.h t=Z x:=λt x A=>by
      simp only[fU]at A ⊢;cases he:s.e.get t with
      |none=>rw[he]at A;cases A
      |some q=>
       rw[he]at A;let⟨a,hz⟩:=pl s.h q (c.qm t q he);simp only[aF,fP hr q a hz,ah]at A;subst A;simp only[aF,hz]
     by_cases hp:(p&&l! xs==0)=J
     ·
      have hH:erHF L=erHF s.h:=by
       funext n;by_cases e1:n=nm b
       .subst e1;rw[hold,hnew];have:dw p s.nx T.size (l! xs)=dw p id T.size (l! xs):=by unfold dw;rw[aD hp,aD hp]
        rw[this,B_ hy]
       .by_cases e2:n=nm s.nx
        .subst e2;rw[hnx2,aD hp,bG,hfr];rfl
        .by_cases e3:n=nm id
         .subst e3;rw[hdead,hid0,aD hp]
         .exact hoth n e1 e2 e3
      refine ⟨V,⟨by rw[hH];exact c.zq,λt x A=>by rw[hH];exact c.env t x (hE t x A),λn q hq=>vo (c.dom n q hq),gg c.low,hinv,λt x A=>nB hr x (c.qm t x A),c.inert,c.size⟩,by rw[hH];exact xU.refl _ _ _ _,fR.refl _ _⟩
     .have hid1:erHF s.h (nm id)=Z ⟨ty,.fz (xs.flatMap (bD T))⟩:=by rw[hid0,av hp]
      let⟨kk,k1,k2,ob,k3,k4⟩:=c.zq.at_ _ _ hid1;have hφn:V (nm s.nx)=U:=by
       cases hq:V (nm s.nx) with
       |none=>rfl
       |some q=>have:=c.dom _ q hq;rw[dh]at this;omega
      let nw:HF:=λn=>if n=nm s.nx then Z ⟨ty,.fz (xs.flatMap (bD T))⟩ else U
      have hsh:Jc w w kk ob:=⟨rfl,rfl,rfl,rfl,k3,λ_ _=>rfl,λ_=>rfl⟩
      let⟨φ',p1,p2,p3,p4⟩:=c.zq.wren hid1 k1 hφn hsh k4 nw (by simp[nw]) (by simp only[nw];rw[av hni.symm]);have hb1:fx (erHF s.h) [nm s.nx,nm id] nw (nm b)=Z ⟨cty,.mx l'⟩:=by
       unfold fx;rw[av (by simp[hnb,hbi]),hold]
      let⟨kb,b1,b2,ob2,b3,b4⟩:=p4.at_ _ _ hb1;have hlt:o+j<l! l':=by
       rcases cC (o+j) (l! l') with h'|h'
       .exact h'
       .rw[c7 h']at hy;cases hy
      have hob:ij φ' (tot E φ' (fx (erHF s.h) [nm s.nx,nm id] nw)) w ⟨cty,.mx (splice l' (o+j) [dw p s.nx T.size (l! xs)])⟩ ob2:=by
       rw[qV rfl]at b4 ⊢;let⟨arr,a1,a2⟩:=b4;refine ⟨arr,a1,?_⟩;unfold vE at a2 ⊢;refine ⟨by simp only[BC.len]at a2 ⊢;rw[nI (by simp;omega)];exact a2.1,λoff x A=>?_⟩;simp only[BC.get]at A a2;rw[oz (by simp;omega)]at A;split at A
       .exact a2.2 off x A
       .split at A
        .rename_i h3 h4;simp only[cO]at h4;have hj:off=o+j:=by omega
         subst hj;simp only[Ly,hZ,ah]at A;subst A;let⟨_,v,a3,a4⟩:=a2.2 _ _ hy;unfold dw at a4 ⊢;rw[av hp]at a4 ⊢;refine ⟨rfl,v,a3,?_⟩;cases a4 with
         |@I _ _ _ cc q hφq hn hc hs2=>
          have:=p2.sub _ _ k1;rw[this,ah]at hφq;subst hφq;exact .I p1 hn hc hs2
        .exact a2.2 off x A
      let⟨q1,q2⟩:=p4.wset hb1 b1 (⟨rfl,rfl,rfl,rfl,b3,λ_ _=>rfl,λ_=>rfl⟩:Jc w w kb ob2) hob (λn=>if n=nm b then Z ⟨cty,.mx (splice l' (o+j) [dw p s.nx T.size (l! xs)])⟩ else U) (by simp);have hH:fx (fx (erHF s.h) [nm s.nx,nm id] nw) [nm b] (λn=>if n=nm b then Z ⟨cty,.mx (splice l' (o+j) [dw p s.nx T.size (l! xs)])⟩ else U)=erHF L:=by
       funext n;by_cases e1:n=nm b
       .subst e1;rw[hnew];simp[fx]
       .by_cases e2:n=nm s.nx
        .subst e2;rw[hnx2,av hp];simp[fx,nw,hnb.symm]
        .by_cases e3:n=nm id
         .subst e3;rw[hdead];simp[fx,nw,hbi.symm,hni.symm]
         .rw[hoth n e1 e2 e3];simp[fx,e1,e2,e3]
      rw[hH]at q1 q2;have m:=p2.trans q1;refine ⟨φ',⟨q2,λt x A=>m.zw (c.env t x (hE t x A)),λn q hq=>?_,gg c.low,hinv,λt x A=>nB hr x (c.qm t x A),c.inert,c.size⟩,⟨HY.refl _ _,m.ql,λk hi=>?_⟩,fR.refl _ _⟩
      .rcases p3 n q hq with h4|h4
       .exact vo (c.dom n q h4)
       .simp only[aE]at h4;subst h4;rw[dh];exact xi _
      .cases hq:φ' k with
       |none=>
        cases hq2:V k with
        |none=>rfl
        |some a=>rw[p2.sub _ _ hq2]at hq;cases hq
       |some a=>
        rcases p3 _ _ hq with h4|h4
        .exact h4.symm
        .simp only[aE]at h4;subst h4;rw[dh]at hi;have:=c.low;omega
    next ty ai js D=>cases h;let⟨φ',p1,p2⟩:=asv c hb hv D;exact⟨φ',p1,p2,fR.refl _ _⟩
    .cases h
   .cases h
  .cases h
 .rename_i id hk;split at h
  .rename_i ty p T xs D;cases h;have hfr:=c.qz.fresh;have hidlt:=c.qz.low id _ D;have hin:id≠s.nx:=by omega
   generalize hh2:((s.h.set id (Z (.qj p T.size (l! xs)))).set s.nx (Z (.H ty p T xs)))=L;have kx:∀k,L.get k=if k=s.nx then Z (.H ty p T xs) else if k=id then Z (.qj p T.size (l! xs)) else s.h.get k:=λk=>by
    rw[<- hh2,PT.get_set,PT.get_set]
   have hr:bV s.h L:=λk r hi=>by
    rw[bx]at hi ⊢;rw[kx];by_cases e2:k=s.nx
    .subst e2;rw[hfr]at hi;cases hi
    .rw[av e2];by_cases e3:k=id
     .subst e3;rw[aD rfl];rw[D]at hi;exact hi
     .rw[av e3];exact hi
   have hrow:bW L (.I s.nx)=Z (dw p s.nx T.size (l! xs)):=by
    simp only[bW,bx,kx,bk,aF,iM]
   have hrow0:bW s.h (.I id)=Z (dw p id T.size (l! xs)):=by
    simp only[bW,bx,D,aF,iM]
   have hdead:erHF L (nm id)=U:=by rw[bG,kx,av hin,aD rfl];rfl
   have hnx2:erHF L (nm s.nx)=if p&&l! xs==0 then U else Z ⟨ty,.fz (xs.flatMap (bD T))⟩:=by rw[bG,kx,aD rfl];rfl
   have hid0:erHF s.h (nm id)=if p&&l! xs==0 then U else Z ⟨ty,.fz (xs.flatMap (bD T))⟩:=by rw[bG,D];rfl
   have hoth:∀n,n≠nm s.nx->n≠nm id->erHF L n=erHF s.h n:=λn e2 e3=>m_ c.qz hr (iP.of λk=>by
    rw[kx];by_cases f2:k=s.nx
    .rw[aD f2,f2,hfr];exact .inr ⟨rfl,rfl⟩
    .rw[av f2];by_cases f3:k=id
     .rw[aD f3,f3,D];exact .inr ⟨rfl,rfl⟩
     .rw[av f3];exact .inl rfl) λk e=>by
    subst e;rw[kx,av (λe=>e2 (by rw[e])),av (λe=>e3 (by rw[e]))]
   have hni:nm s.nx≠nm id:=λe=>hin (uM e).symm
   have hinv:g_ L (s.nx+1):=by
    refine ⟨λk ty2 l2 hil=>?_,λk q hiq=>?_⟩
    .rw[kx]at hil;split at hil
     .cases hil
     .split at hil
      .cases hil
      .exact fy hr l2 (c.qz.G k _ l2 hil)
    .rw[kx]at hiq;split at hiq
     .omega
     .split at hiq
      .omega
      .have:=c.qz.low k q hiq;omega
   have hE:∀t x,t≠i->fU (s.e.set i (Z (.I s.nx))) L t=Z x->fU s.e s.h t=Z x:=λt x ht A=>by
    simp only[fU,PT.get_set]at A ⊢;rw[av ht]at A;cases he:s.e.get t with
    |none=>rw[he]at A;cases A
    |some q=>
     rw[he]at A;let⟨a,hz⟩:=pl s.h q (c.qm t q he);simp only[aF,fP hr q a hz,ah]at A;subst A;simp only[aF,hz]
   have hIE:sN (s.e.set i (Z (.I s.nx))) L:=λt x A=>by
    simp only[PT.get_set]at A;split at A
    .cases A;exact IQ _ _ _ hrow
    .exact nB hr x (c.qm t x A)
   have hKp:fR (nj [.qx i j] 0) s.e (s.e.set i (Z (.I s.nx))):=λt ht v' hv'=>by
    simp only[PT.get_set]at hv';split at hv'
    next et=>subst et;simp only[nj]at ht;rw[bu,bn.2 rfl]at ht;simp at ht
    .exact⟨v',hv',λ_=>rfl⟩
   have hk0:=c.env i (dw p id T.size (l! xs)) (by simp only[fU,hk,aF,hrow0]);by_cases hp:(p&&l! xs==0)=J
   .have hH:erHF L=erHF s.h:=by
     funext n;by_cases e2:n=nm s.nx
     .subst e2;rw[hnx2,aD hp,bG,hfr];rfl
     .by_cases e3:n=nm id
      .subst e3;rw[hdead,hid0,aD hp]
      .exact hoth n e2 e3
    have hsame:dw p s.nx T.size (l! xs)=dw p id T.size (l! xs):=by unfold dw;rw[aD hp,aD hp]
    refine ⟨V,⟨by rw[hH];exact c.zq,λt x A=>?_,λn q hq=>vo (c.dom n q hq),gg c.low,hinv,hIE,c.inert,c.size⟩,by rw[hH];exact xU.refl _ _ _ _,hKp⟩;rw[hH];by_cases ht:t=i
    .subst ht;simp only[fU,PT.get_set,bk,aF,hrow,ah]at A;subst A;rw[hsame];exact hk0
    .exact c.env t x (hE t x ht A)
   .have hid1:erHF s.h (nm id)=Z ⟨ty,.fz (xs.flatMap (bD T))⟩:=by rw[hid0,av hp]
    let⟨kk,k1,k2,ob,k3,k4⟩:=c.zq.at_ _ _ hid1;have hφn:V (nm s.nx)=U:=by
     cases hq:V (nm s.nx) with
     |none=>rfl
     |some q=>have:=c.dom _ q hq;rw[dh]at this;omega
    let nw:HF:=λn=>if n=nm s.nx then Z ⟨ty,.fz (xs.flatMap (bD T))⟩ else U
    have hsh:Jc w w kk ob:=⟨rfl,rfl,rfl,rfl,k3,λ_ _=>rfl,λ_=>rfl⟩
    let⟨φ',p1,p2,p3,p4⟩:=c.zq.wren hid1 k1 hφn hsh k4 nw (by simp[nw]) (by simp only[nw];rw[av hni.symm]);have hH:fx (erHF s.h) [nm s.nx,nm id] nw=erHF L:=by
     funext n;by_cases e2:n=nm s.nx
     .subst e2;rw[hnx2,av hp];simp[fx,nw]
     .by_cases e3:n=nm id
      .subst e3;rw[hdead];simp[fx,nw,hni.symm]
      .rw[hoth n e2 e3];simp[fx,e2,e3]
    rw[hH]at p2 p4;refine ⟨φ',⟨p4,λt x A=>?_,λn q hq=>?_,gg c.low,hinv,hIE,c.inert,c.size⟩,⟨HY.refl _ _,p2.ql,λk hi=>?_⟩,hKp⟩
    .by_cases ht:t=i
     .subst ht;simp only[fU,PT.get_set,bk,aF,hrow,ah]at A;subst A;unfold dw at hk0 ⊢;rw[av hp]at hk0 ⊢;generalize z.tmps.getD t undef=a at hk0;cases hk0 with
      |@I _ _ _ cc q hφq hn hc hs2=>
       rw[k1,ah]at hφq;subst hφq;exact .I p1 hn hc hs2
     .exact p2.zw (c.env t x (hE t x ht A))
    .rcases p3 n q hq with h4|h4
     .exact vo (c.dom n q h4)
     .simp only[aE]at h4;subst h4;rw[dh];exact xi _
    .cases hq:φ' k with
     |none=>
      cases hq2:V k with
      |none=>rfl
      |some a=>rw[p2.sub _ _ hq2]at hq;cases hq
     |some a=>
      rcases p3 _ _ hq with h4|h4
      .exact h4.symm
      .simp only[aE]at h4;subst h4;rw[dh]at hi;have:=c.low;omega
  .cases h
 .cases h
def aty {s:TS} (c:jI P E nt np V s z w) {ad:Adj} {s':TS} (h:Ln s ad=Z s') (hnr:∀k off,ad≠ .qx k off) (hnt:∀k off,ad≠ .jm k off):jI P E nt np V s' z w/\xU np V V (erHF s.h) (erHF s'.h) w w/\fR (nj [ad] 0) s.e s'.e:=by
 cases ad with
 |qx k off=>exact cq rfl (hnr k off)
 |jm k off=>exact cq rfl (hnt k off)
 |fmp k off ty S=>
  simp only[Ln]at h;split at h
  .split at h
   .rename_i K' V' es D;split at h
    next hE=>cases h;let⟨h1,h2⟩:=ax3 c D hE ty S;exact⟨h1,h2,fR.refl _ _⟩
    .cases h
   .cases h;exact⟨c,xU.refl _ _ _ _,fR.refl _ _⟩
   .cases h
  .cases h
 |frw k off off2 ty=>
  simp only[Ln]at h;split at h
  .rename_i o id q _ _;split at h
   .rename_i ai es cty l ho D;split at h
    .rename_i v hv;split at h
     .rename_i hn;cases h;let⟨L,hH⟩:=awz c ai ty;have hid:id≠s.nx:=λe=>by have:=c.qz.low id _ D;omega
      let⟨c2,t2⟩:=X1 L (id:=id) (cty:=cty) (l:=l) (v:=v) (u:=.I s.nx) (by show (s.h.set s.nx _).get id=_;rw[PT.get_set,av hid];exact D) hv hn (by simp only[bW,bx,PT.get_set,bk,aF,iM,sk,dw];rfl) (by simp only[PI,bx,PT.get_set,bk];rfl);exact⟨c2,by rw[<- hH];exact t2,fR.refl _ _⟩
     .cases h;exact⟨c,xU.refl _ _ _ _,fR.refl _ _⟩
    .cases h
   .cases h
  .cases h
 |nil k ty T=>
  simp only[Ln]at h;split at h
  .rename_i v hv;split at h
   .rename_i hn;cases h;let⟨L,hH,hr⟩:=ade c ty T;refine ⟨⟨L.zq,?_,L.dom,L.low,L.qz,?_,L.inert,L.size⟩,by rw[hH];exact xU.refl _ _ _ _,?_⟩
    .intro t x A;simp only[fU,PT.get_set]at A;split at A
     next et=>subst et;simp only[aF,bW,bx,PT.get_set,bk,iM,dw,pI,ch,fw,ah]at A;subst A;let⟨a,hz⟩:=pl s.h v (c.qm _ v hv);rw[hH];exact Wy hn hz _ _ _ _ (c.env _ _ (by simp only[fU,hv,aF,hz]))
     .exact L.env t x A
    .intro t x A;simp only[PT.get_set]at A;split at A
     .cases A;simp only[PI,bx,PT.get_set,bk];rfl
     .exact L.qm t x A
    .intro t ht v' hv';simp only[PT.get_set]at hv';split at hv'
     next et=>subst et;simp only[nj]at ht;rw[bu,bn.2 rfl]at ht;simp at ht
     .exact⟨v',hv',λ_=>rfl⟩
   .cases h;exact⟨c,xU.refl _ _ _ _,fR.refl _ _⟩
  .cases h
 |qh k off ty T=>
  simp only[Ln]at h;split at h
  .rename_i id o hk;split at h
   .rename_i cty l D;split at h
    .rename_i v hv;split at h
     .rename_i hn;cases h;let⟨L,hH,hr⟩:=ade c ty T;have hid:id≠s.nx:=λe=>by have:=c.qz.low id _ D;omega
      let⟨c2,t2⟩:=X1 L (id:=id) (cty:=cty) (l:=l) (v:=v) (u:=.I s.nx) (by show (s.h.set s.nx _).get id=_;rw[PT.get_set,av hid];exact D) hv hn (by simp only[bW,bx,PT.get_set,bk,aF,iM,dw,pI,ch,fw]) (by simp only[PI,bx,PT.get_set,bk];rfl);exact⟨c2,by rw[<- hH];exact t2,fR.refl _ _⟩
     .cases h;exact⟨c,xU.refl _ _ _ _,fR.refl _ _⟩
    .cases h
   .cases h
  .cases h
 |mpt k K φ=>
  simp only[Ln]at h;split at h
  .rename_i id hk;split at h
   .rename_i K' V' es D;split at h
    .rename_i hE;cases h;have hr:bV s.h (s.h.set id (Z (.mp K φ []))):=bV.set λr hr=>by rw[bx,D]at hr;cases hr
     have hH:erHF (s.h.set id (Z (.mp K φ [])))=erHF s.h:=by
      funext n;by_cases hn:n=nm id
      .subst hn;rw[bG,bG,PT.get_set,aD rfl,D];simp only[aF,kJ,Ci (aio (wU.1 hE).1),Ci (wU.1 hE).2,SS (wU.1 hE).1,C']
      .refine m_ c.qz hr (iP.set (by rw[D];rfl) rfl) λi e=>?_
       subst e;rw[PT.get_set,av (λe=>hn (by rw[e]))]
     refine ⟨⟨by rw[hH];exact c.zq,?_,c.dom,c.low,c.qz.set hr (c.qz.low id _ D) (bJ _) (λ_ _ he=>by cases he),λt x A=>nB hr x (c.qm t x A),c.inert,c.size⟩,by rw[hH];exact xU.refl _ _ _ _,fR.refl _ _⟩;intro t x A;rw[hH];simp only[fU]at A;cases he:s.e.get t with
     |none=>rw[he]at A;cases A
     |some q=>
      rw[he]at A;let⟨a,hz⟩:=pl s.h q (c.qm t q he);simp only[aF,fP hr q a hz,ah]at A;subst A;exact c.env t _ (by simp only[fU,he,aF,hz])
    .cases h;exact⟨c,xU.refl _ _ _ _,fR.refl _ _⟩
   .cases h
  .cases h
 |pk k off T=>
  simp only[Ln]at h;split at h
  .obtain⟨h1,h2,h3⟩:=awk c h;exact⟨h1,h2,h3.mono λk hk=>by simp at hk⟩
  .cases h
def atx {s:TS} (c:jI P E nt np V s z w) {ad:Adj} {s':TS} (h:Ln s ad=Z s'):∃φ',jI P E nt np φ' s' z w/\xU np V φ' (erHF s.h) (erHF s'.h) w w/\fR (nj [ad] 0) s.e s'.e:=by
 by_cases A:∃k off,ad= .qx k off
 .obtain⟨k,off,rfl⟩:=A;exact awg c h
 .by_cases a:∃k off,ad= .jm k off
  .obtain⟨k,off,rfl⟩:=a;simp[Ln]at h;split at h
   .obtain⟨he,φ',h1,D⟩:=ask c h;exact⟨φ',h1,D,by rw[he];exact fR.refl _ _⟩
   .cases h
  .exact⟨V,aty c h (λk off e=>A ⟨k,off,e⟩) λk off e=>a ⟨k,off,e⟩⟩
def Us {φ:PM} {a:Act} {w:World}:∀{l:Y Adj} {s s':TS},jI P E nt np φ s a w->XZ s l=Z s'->∃φ',jI P E nt np φ' s' a w/\xU np φ φ' (erHF s.h) (erHF s'.h) w w/\fR (nj l 0) s.e s'.e
 |[],s,s',c,h=>by simp[XZ,ah]at h;subst h;exact⟨φ,c,xU.refl _ _ _ _,fR.refl _ _⟩
 |ad::r,s,s',c,h=>by
  simp[XZ]at h;split at h
  .rename_i s1 h1;let⟨φ1,c1,D,k1⟩:=atx c h1;let⟨φ2,c2,A,k2⟩:=Us c1 h;refine ⟨φ2,c2,D.trans A,(k1.mono ?_).trans (k2.mono ?_)⟩
   .intro k z;cases ad with
    |nil q ty T|qx q off=>simp[nj]at z ⊢;rw[kS,bu,z];rfl
    |_=>simp[nj]at z
   .intro k z;cases ad with
    |nil q ty T|qx q off=>simp[nj];rw[kS,bu,z];simp
    |_=>simp[nj];exact z
  .cases h
mutual
def Wm {h:aX}:∀(v:TV) (y:AV),wA v=J->bW h v=Z y->y.all (λ_=>af)=J
 |.f _ _,y,_,he|.zf _ _ _ _ _,y,_,he|.emp,y,_,he|.nil,y,_,he|.undef,y,_,he|.np,y,_,he|.qw,y,_,he=>by simp[bW,ah]at he;subst he;rfl
 |.agg l,y,hl,he|.qb l,y,hl,he=>by
  simp[bW]at he;split at he
  .rename_i l' hl';simp[ah]at he;subst he;exact II l l' hl hl'
  .cases he
 |.zj _ _ _ _,_,h,_|.P _ _,_,h,_|.qg _ _ _,_,h,_|.I _,_,h,_|.zh _ _,_,h,_|.mp _,_,h,_|.qc _ _,_,h,_|.qy _ _,_,h,_=>by cases h
def II {h:aX}:∀(l:Y TV) (l':Y AV),r8 l=J->cJ h l=Z l'->AV.allL (λ_=>af) l'=J
 |[],l',_,he=>by simp[cJ,ah]at he;subst he;rfl
 |x::r,l',hl,he=>by
  obtain⟨y,l2,rfl,e1,e2⟩:=c4 he;simp[r8,al]at hl;simp[AV.allL,al];exact⟨Wm x y hl.1 e1,II r l2 hl.2 e2⟩
end
mutual
def acg (h:aX):∀(v:TV),wA v=J->PI h v=J
 |.f _ _,_|.zf _ _ _ _ _,_|.emp,_|.nil,_|.undef,_|.np,_|.qw,_=>rfl
 |.agg l,hl|.qb l,hl=>Np h l hl
 |.zj _ _ _ _,h|.P _ _,h|.qg _ _ _,h|.I _,h|.zh _ _,h|.mp _,h|.qc _ _,h|.qy _ _,h=>by cases h
def Np (h:aX):∀(l:Y TV),r8 l=J->lY h l=J
 |[],_=>rfl
 |x::r,hl=>by
  simp[r8,al]at hl;simp[lY,al];exact⟨acg h x hl.1,Np h r hl.2⟩
end
structure Seen (np:Nat) (t:Tm) (x:t.ty.den) (us:List TV) (h1:aX) (φ φ':PM) (H:HF) (E:Nat->Prop) (w:World) (la lu:List AV):Prop where
 zq:sC φ' E (erHF h1) w
 val:∀(j:Nat) y v,lu[j]? =Z y->∃z,la[j]? =Z z/\(cf φ (tot E φ H) w z v->cf φ' (tot E φ' (erHF h1)) w y v)
 len:l! lu=l! la
 tot_:∀k,tot E φ' (erHF h1) k->tot E φ H k
 ql:∀k,own φ' (erHF h1) k->own φ H k
 dom:∀n k,φ' n=Z k->ow n<l! t.bs
 par:∀n,ow n<np->ow n<l! t.bs->φ' n=φ n
variable {m:Y TV} {r:Y AV}
def Py {t:Tm} {x:t.ty.den} {h1:aX} {l1:Y (M e9)} (I:pD t x m h1 l1) (hinv:g_ h i) {vs:Y TV} {us:Nat} {σ:PT Nat} (A:L2 np t vs h x us σ j) (hla:cJ h vs=Z r) (la:sC V E (erHF h) w):∃φ' lu,cJ h1 m=Z lu/\Seen np t x m h1 V φ' (erHF h) E w r lu:=by
 let⟨x1,m1,x2,m2,hx,hmm,gv,gb⟩:=A.ex;have pvg:rD (iw σ) t.vs x1=Z (lE (iw σ) m):=by
  have h3:=vH (iw σ) t.vs x1;have L:=I.pv;rw[hx,vA]at L;rw[h3,L];rfl
 have pbg:qT (iw σ) t.bs x2=Z (l1.map (il (lm (iw σ)))):=by
  have h3:=yO (iw σ) t.bs x2;have L:=I.pb;rw[hx,xp]at L;rw[h3,L];rfl
 have hbm:∀nx b,l1[nx]? =Z (Z b)->∃b0,h.get (iw σ nx)=Z b0/\BM (iw σ) h us b0 (lm (iw σ) b):=λnx b D=>by
  let⟨b0,q1,q2⟩:=Nn t.bs 0 x2 m2 _ gb pbg nx (lm (iw σ) b) (by grind);rw[bX]at q1;exact⟨b0,q1,q2.mono λsm hj=>by rw[hmm,bu,hj];simp⟩
 let hv:aX:=DK (iw σ) 0 (l1.map (il (lm (iw σ)))) PT.leaf
 have hv_at:∀nx b,l1[nx]? =Z (Z b)->hv.get (iw σ nx)=Z (lm (iw σ) b):=λnx b D=>by
  have:=xC (iw σ) (l1.map (il (lm (iw σ)))) 0 PT.leaf (λa b ha D=>by
   simp only[bQ,I.len]at ha D;simp only[bX];exact A.inj a b ha D) nx (Z (lm (iw σ) b)) (by grind)
  grind
 have hv_ex:∀sm c,hv.get sm=Z c->∃nx b,l1[nx]? =Z (Z b)/\sm=iw σ nx/\c=lm (iw σ) b:=λsm c hj=>by
  by_cases hex:∃nx,nx<l1.length/\sm=iw σ nx
  .obtain⟨nx,hi,rfl⟩:=hex;have hcc:=aG hi;cases hcv:l1[nx] with
   |some b=>rw[hcv]at hcc;rw[hv_at nx b hcc]at hj;cases hj;exact⟨nx,b,hcc,rfl,rfl⟩
   |none=>
    rw[hcv]at hcc;have:=xC (iw σ) (l1.map (il (lm (iw σ)))) 0 PT.leaf (λa b ha D=>by
     simp only[bQ,I.len]at ha D;simp only[bX];exact A.inj a b ha D) nx U (by grind)
    rw[bX]at this;have hj':(DK (iw σ) 0 (l1.map (il (lm (iw σ)))) PT.leaf).get (iw σ nx)=Z c:=hj;rw[this]at hj';simp[PT.get]at hj'
  .have:hv.get sm=(PT.leaf:aX).get sm:=xB (iw σ) _ 0 _ sm λk hk=>by
    grind
   rw[this]at hj;simp[PT.get]at hj
 have rows_in:Bk hv h:=λsm q hq=>by
  rw[bx]at hq ⊢;cases hc:hv.get sm with
  |none=>rw[hc]at hq;cases hq
  |some c=>
   rw[hc]at hq;obtain⟨nx,b,q1,rfl,rfl⟩:=hv_ex sm c hc;let⟨b0,q2,q3⟩:=hbm nx b q1;rw[q2];simp only[aF]at hq ⊢;rw[<- q3.I];exact hq
 have rows_h1:∀nx q,eM h1 nx=Z q->eM hv (iw σ nx)=Z q:=λnx q hq=>by
  rw[bx]at hq ⊢;cases D:h1.get nx with
  |none=>rw[D]at hq;cases hq
  |some b=>
   rw[D]at hq;rw[hv_at nx b ((I.at_ nx b).1 D)];simp only[aF,Mg]at hq ⊢;exact hq
 have hd:rA (erHF h) (erHF hv):=λn y hy=>by
  let⟨c,h3,L⟩:=iW hy;obtain⟨nx,b,q1,e,rfl⟩:=hv_ex _ c h3;let⟨b0,q2,q3⟩:=hbm nx b q1;unfold erHF;rw[e,q2];rw[e]at L;cases hk:ix n with
  |zero=>
   rw[hk]at L;exact BM.erB_some hinv q2 q3 L
  |succ k=>
   rw[hk]at L;exact⟨y,(q3.mem _ _).trans L⟩
 have gvv:Fu h (erHF h) (erHF hv) us:=λnx hi=>⟨rfl,by
  cases hc:erHF hv (nm nx) with
  |none=>rfl
  |some y=>
   let⟨c,h3,L⟩:=iW hc;rw[dh]at h3;obtain⟨k,b,q1,rfl,rfl⟩:=hv_ex nx c h3;have hk:k<t.bs.length:=by rw[<- I.len];exact (bz.1 q1).1
   have h5:=A.disj _ hi;rw[(A.sig _).2 ⟨k,hk,rfl⟩]at h5;cases h5⟩
 have φ:O4 (erHF h) (erHF hv):=⟨hd,λn b b' D hb'=>by
  let⟨c,h3,L⟩:=iW hb';obtain⟨nx,bb,q1,e,rfl⟩:=hv_ex _ c h3;let⟨b0,q2,q3⟩:=hbm nx bb q1;unfold erHF at D;rw[e,q2]at D;rw[e]at L;have D:Pq h (iw σ nx) (ix n) b0=Z b:=D;cases hk:ix n with
  |zero=>
   rw[hk]at L D;exact BM.view hd gvv rows_in q3 D L
  |succ k=>
   rw[hk]at L D;have:=(q3.mem _ _).symm.trans D;have L:wX (iw σ nx) k (lm (iw σ) bb)=Z b':=L;rw[L]at this;cases this;exact gw.refl hd _⟩
 have rv:=φ.zq la;have T:apo t x m h1 (iw σ) V E E (erHF hv) w:=by
  have hat:∀n y,erHF h1 n=Z y->erHF hv (pH (iw σ) n)=Z (y.qx (pH (iw σ))):=λn y hn=>by
   let⟨b,D,hyb⟩:=iW hn;unfold erHF;rw[xX,AH,hv_at _ b ((I.at_ _ b).1 D)];exact Dr rows_h1 hyb
  refine sC.toId I A.inj rv hat (λk hk=>.inl hk) (λn k y hn L hE=>?_) rv.el;let⟨k',p1,p2,_⟩:=rv.at_ _ _ (hat n y hn)
  grind
 let⟨lu,hlu⟩:=fJ h1 m I.ok;have hlug:cJ hv (lE (iw σ) m)=Z (AV.renL (pH (iw σ)) lu):=qB rows_h1 m lu hlu;have hle:=GR hd rows_in t.vs vs x1 m1 _ r _ gv pvg hla hlug (λnx hi=>gvv nx (by grind));have hall:=vx m lu I.lt hlu;refine ⟨_,lu,hlu,T.zq,λsm y v hy=>?_,?_,λk hk=>hd.tot (T.tot_ k hk),λk hk=>hd.own (T.ql k hk),λn k hk=>?_,λnx hi D=>?_⟩
 .rw[oC]at hle;let⟨z,hz,hlz⟩:=hle.get sm (y.qx (pH (iw σ))) (by grind);exact⟨z,hz,λhr=>T.val y v (nH hall y (a8 hy)) (hlz _ _ _ _ la hr)⟩
 .have:=hle.length;rw[oC,bQ]at this;exact this
 .exact (An hk).1
 .rw[agz D];unfold pH;rw[A.fix _ hi,kZ]
def S5 {s':TS} (c:jI P E nt np V s' z w) {A:Ann} {s0 s1:TS} {x:A.D} (L:Qf np A i s0 s'=Z x) (hs:KJ A i s0 x=Z s1)
 (hk:∀k,k∈A.zw->k∉A.ks->∀v,s0.e.get k=Z v->wA v=J->aK i k=af->∀v',s'.e.get k=Z v'->v'=v):∃φ',jI P E nt np φ' s1 z w/\xU np V φ' (erHF s'.h) (erHF s1.h) w w:=by
 unfold Qf at L;split at L
 .rename_i hc;simp only[al]at hc;have hnp:=aT hc.1;split at L
  .rename_i s2 h2;let⟨φ2,c2,t2,_⟩:=Us c h2;split at L
   .rename_i vs hvs;split at L
    .rename_i a m σ sm hM;simp[ah]at L;subst L;have φ:=yX hM;unfold KJ at hs;split at hs
     .rename_i us h1 hi;let⟨l1,I⟩:=zu hi;split at hs
      .rename_i hlen;have hlen:=au hlen;simp[ah]at hs;subst hs;let⟨g1,g2⟩:=ace hvs;have hvok:lY s2.h vs=J:=Mv c2.qm hvs;let⟨la,hla⟩:=fJ s2.h vs hvok;let⟨φ',lu,hlu,S⟩:=Py (E:=E) I c2.qz φ hla c2.zq;refine ⟨φ',⟨S.zq,?_,S.dom,hnp,⟨λam ty l hl=>(I.G am _ l hl).1,λam b hb=>I.lt_len hb⟩,?_,c.inert,c.size⟩,t2.trans ⟨HY.refl _ _,λk _ h=>S.ql k h,λam hi=>S.par am hi (by omega)⟩⟩
       .intro t y hy;simp[fU]at hy;cases ht:(ae1 (Gn i s0.e A.zw) A.ks us).get t with
        |none=>rw[ht]at hy;cases hy
        |some v=>
         rw[ht]at hy;simp[aF]at hy;rcases FO hlen t v ht with ⟨j,q1,q2⟩|⟨q1,q2⟩
         .obtain⟨y',p1,p2⟩:=mE hlu j v q2;rw[hy]at p2;cases p2;let⟨a,p3,p4⟩:=S.val j y (z.tmps.getD t undef) p1;refine p4 ?_;let⟨v0,p5,p6⟩:=g2 j t q1;let⟨z',p7,p8⟩:=mE hla j v0 p5;rw[p3]at p7;cases p7;exact c2.env t _ (by simp[fU,p6,aF,p8])
         .obtain⟨k1,k2,k3,k4⟩:=vK q2;let⟨v',k5⟩:=MT hc.2 t v k1 k2 k3 k4;have:=hk t k1 q1 v k2 k3 k4 v' k5;subst this;have h3:=c.env t y (by simp[fU,k5,aF];rw[Wz s'.h h1 v' k3];exact hy);exact h3.restrict (p:=λ_=>af) (λam k hi _=>by cases hi) (λk hk=>by
           have h4:=S.tot_ k hk;rcases h4 with h4|h4
           .exact .inl h4
           .exact .inr (by
             have hkl:k<w.heap.size:=by
              let⟨n,b,e1,e2⟩:=h4;let⟨k',p1,_,ob,p3,_⟩:=c2.zq.at_ n b e1
              grind
             exact t2.ql k hkl h4)) (Wm v' y k3 hy)
       .intro t v hv;rcases FO hlen t v hv with ⟨j,q1,q2⟩|⟨q1,q2⟩
        .obtain⟨y',_,p2⟩:=mE hlu j v q2;exact IQ _ _ _ p2
        .exact acg _ v (vK q2).2.2.1
      .cases hs
     .cases hs
    .cases L
   .cases L
  .cases L
 .cases L
def H6 {A:Ann} {L s1:TS} {x:A.D} (z:KJ A i L x=Z s1):fR (PL A.ks 0) L.e s1.e/\∀k,k∉A.ks->∀v,s1.e.get k=Z v->L.e.get k=Z v:=by
 unfold KJ at z;split at z
 .rename_i us h1 hi;split at z
  .rename_i hlen;have hlen:=au hlen;simp[ah]at z;subst z;have key:∀k,k∉A.ks->∀v,(ae1 (Gn i L.e A.zw) A.ks us).get k=Z v->L.e.get k=Z v:=λk hk v hv=>by
    rcases FO hlen k v hv with ⟨j,q1,_⟩|⟨_,q2⟩
    .grind
    .exact (vK q2).2.1
   refine ⟨λk hk v' hv=>?_,key⟩;have hnk:k∉A.ks:=λhm=>by rw[ac1 hm]at hk;cases hk
   grind
  .cases z
 .cases z
end walk
inductive Er:TC->SC->Prop
 |skip:Er .skip .skip
 |jw (ops:List uC) (prs:List (Nat×Nat)):Er (.jw ops prs) (.jw ops prs)
 |seq {a b:TC} {a' b':SC}:Er a a'->Er b b'->Er (.seq a b) (.seq a' b')
 |jq (A:Ann) {a b:TC} {a' b':SC}:Er a a'->Er b b'->Er (.jq A a b) (.seq a' b')
 |cond (c:Nat) {a b:TC} {a' b':SC}:Er a a'->Er b b'->Er (.cond c a b) (.cond c a' b')
 |block (id:Nat) {b:TC} {b':SC}:Er b b'->Er (.block id b) (.block id b')
 |zk (A:Ann) (id:Nat) {b:TC} {b':SC}:Er b b'->Er (.zk A id b) (.block id b')
 |loop (A:Ann) {b:TC} {b':SC}:Er b b'->Er (.loop A b) (.loop b')
 |exit (id:Nat):Er (.exit id) (.exit id)
 |ret:Er .ret .ret
 |defer (f:FuncId) (c:List Operand) (t:Nat):Er (.defer f c t) (.defer f c t)
 |adj (l:List Adj) {c:TC} {c':SC}:Er c c'->Er (.adj l c) c'
 |split (k off lo n:Nat) {c:TC} {c':SC}:Er c c'->Er (.split k off lo n c) c'
 |bsp (t:Nat) {a b:TC} {c':SC}:Er a c'->Er b c'->Er (.bsp t a b) c'
 |unl (n:Nat) {b:TC} {b':SC}:Er b b'->Er (.unl n b) (.loop b')
 |zn (c:SC):Er .zn c
def FD {H:PT am2} {c:TC} {z:SC} (h:Er c z):Er (L5 H i c) z:=by
 unfold L5;split
 .exact .adj _ h
 .exact .split _ _ _ _ h
 .exact .bsp _ (.split _ _ _ _ h) h
 .exact h
def Be (H:PT am2):∀(c:SC) (n:Nat),Er (IW H c n).1 c
 |.skip,n=>FD .skip
 |.jw o p,n=>FD (.jw o p)
 |.seq a b,n=>by
  have h1:=Be H a (n+1);have z:=Be H b (IW H a (n+1)).2;simp[IW];split
  .exact .jq _ h1 z
  .exact .seq h1 z
 |.cond c a b,n=>by
  have h1:=Be H a (n+1);have z:=Be H b (IW H a (n+1)).2;exact FD (.cond c h1 z)
 |.block id b,n=>by
  have h1:=Be H b (n+1);simp[IW];split
  .exact .zk _ id h1
  .exact .block id h1
 |.loop b,n=>by
  have h1:=Be H b (n+1);simp[IW];split
  .exact .loop _ h1
  .exact .unl _ h1
  .exact .zn _
 |.exit id,n=>FD (.exit id)
 |.ret,n=>FD .ret
 |.defer f c t,n=>.defer f c t
 |.zn,n=>.zn _
def aei {σ:Type} {step:σ->M (σ⊕R)} {x:σ} {r:R} (h:iter step x=Z r):∃n,iterN step n x=Z r:=by
 unfold iter at h;split at h
 .exact⟨_,h⟩
 .cases h
def ac5 {α:Type} {o:M (R⊕α)} {k:α->M R} {r:R} (h:jn o k=Z r):(∃x,o=Z (.inr x)/\k x=Z r)\/o=Z (.inl r):=by
 unfold jn at h
 grind
section inv
variable {P:Program} {nt:Nat}
def CY (id:Nat) (ops:Array Oper) (z:Bool):cz P nt (.region id ops z)= .zn\/
 ((ops.toList.all λo=>match o.dst with|some d=>decide (d<nt)|none=>J)=J/\
   ((∃f caps t,Hn ops z=Z (f,caps,t)/\cz P nt (.region id ops z)= .defer f caps t)\/
    ∃l prs,tX P ops ops.toList=Z l/\Q6 ops l=Z prs/\cz P nt (.region id ops z)= .jw l prs)):=by
 simp[cz]
 grind
def Ig:Code->Bool
 |.cond (.const (.bool _)) _ _=>af
 |_=>J
def lB (P:Program) (nt:Nat) (c:Code):∃z,Ig z=J/\cz P nt z=cz P nt c/\∀Q a w,z.wp P Q a w->c.wp P Q a w:=by
 have self:∀c:Code,Ig c=J->∃z,Ig z=J/\cz P nt z=cz P nt c/\∀Q a w,z.wp P Q a w->c.wp P Q a w:=λc h=>⟨c,h,rfl,λ_ _ _ h=>h⟩
 induction c with
 |cond o x y ihx ihy=>
  cases o with
  |const v=>
   cases v with
   |bool b=>
    cases b with
    |true=>
     let⟨z,h1,D,A⟩:=ihx;exact⟨z,h1,D,λQ a w h=>wp_cond_true rfl (A Q a w h)⟩
    |false=>
     let⟨z,h1,D,A⟩:=ihy;exact⟨z,h1,D,λQ a w h=>wp_cond_false rfl (A Q a w h)⟩
   |_=>exact self _ rfl
  |_=>exact self _ rfl
 |_=>exact self _ rfl
variable {c:Operand}
def JE {α:Prop} {x y:Code} {sc:SC} (z:Ig (.cond c x y)=J) (h:cz P nt (.cond c x y)=sc) (h1:sc≠ .zn) (A:∀t a b,sc≠ .cond t a b):α:=by
 cases c with
 |tmp q=>exact (A _ _ _ h.symm).elim
 |const v=>cases v<;>first|exact (h1 h.symm).elim|cases z
 |_=>exact (h1 h.symm).elim
def ao2 {c:Code} {sl:Y uC} {prs:Y q!} (A:Ig c=J) (h:cz P nt c= .jw sl prs):∃id ops z,c= .region id ops z/\(ops.toList.all λo=>match o.dst with|some d=>decide (d<nt)|none=>J)=J/\tX P ops ops.toList=Z sl/\Q6 ops sl=Z prs:=by
 cases c with
 |region id ops z=>
  rcases CY (P:=P) (nt:=nt) id ops z with h1|⟨hd,⟨f,caps,t,_,h1⟩|⟨l,p,L,D,h1⟩⟩
  .rw[h1]at h;cases h
  .rw[h1]at h;cases h
  .grind
 |cond o x y=>exact JE A h (by simp) (by simp)
 |_=>simp[cz]at h
variable {f:FuncId}
def aej {c:Code} {caps:Y Operand} (A:Ig c=J) (h:cz P nt c= .defer f caps i):∃id ops z,c= .region id ops z/\(ops.toList.all λo=>match o.dst with|some d=>decide (d<nt)|none=>J)=J/\Hn ops z=Z (f,caps,i):=by
 cases c with
 |region id ops z=>
  rcases CY (P:=P) (nt:=nt) id ops z with h1|⟨hd,⟨f',caps',L,D,h1⟩|⟨l,p,D,h3,h1⟩⟩
  .rw[h1]at h;cases h
  .grind
  .rw[h1]at h;cases h
 |cond o x y=>exact JE A h (by simp) (by simp)
 |_=>simp[cz]at h
def qI {c:Code} {sc:SC} (h:cz P nt c=sc) (h1:sc≠ .zn) (L:∀a b,sc≠ .jw a b) (D:∀a b t,sc≠ .defer a b t):∀id ops A,c≠ .region id ops A:=by
 rintro id ops A rfl;rcases CY (P:=P) (nt:=nt) id ops A with z|⟨_,⟨f,caps,t,_,z⟩|⟨l,p,_,_,z⟩⟩<;>rw[z]at h
 .exact h1 h.symm
 .exact D _ _ _ h.symm
 .exact L _ _ h.symm
def aj4 {c:Code} (z:Ig c=J) (h:cz P nt c= .skip):c= .skip:=by
 have nr:=qI h (by simp) (by simp) (by simp);cases c with
 |skip=>rfl
 |region id ops A=>exact cq rfl (nr id ops A)
 |cond o x y=>exact JE z h (by simp) (by simp)
 |_=>simp[cz]at h
def ao1 {c:Code} (z:Ig c=J) (h:cz P nt c= .ret):c= .ret:=by
 have nr:=qI h (by simp) (by simp) (by simp);cases c with
 |ret=>rfl
 |region id ops A=>exact cq rfl (nr id ops A)
 |cond o x y=>exact JE z h (by simp) (by simp)
 |_=>simp[cz]at h
def aj5 {c:Code} (z:Ig c=J) (h:cz P nt c= .exit i):c= .exit i:=by
 have nr:=qI h (by simp) (by simp) (by simp);cases c with
 |exit id=>simp[cz]at h;rw[h]
 |region id ops A=>exact cq rfl (nr id ops A)
 |cond o x y=>exact JE z h (by simp) (by simp)
 |_=>simp[cz]at h
def ac8 {c:Code} {a b:SC} (z:Ig c=J) (h:cz P nt c= .seq a b):∃x y,c= .seq x y/\cz P nt x=a/\cz P nt y=b:=by
 have nr:=qI h (by simp) (by simp) (by simp);cases c with
 |seq x y=>simp[cz]at h;exact⟨x,y,rfl,h.1,h.2⟩
 |region id ops A=>exact cq rfl (nr id ops A)
 |cond o x y=>exact JE z h (by simp) (by simp)
 |_=>simp[cz]at h
def aj6 {c:Code} {a b:SC} (z:Ig c=J) (h:cz P nt c= .cond i a b):∃x y,c= .cond (.tmp i) x y/\cz P nt x=a/\cz P nt y=b:=by
 have nr:=qI h (by simp) (by simp) (by simp);cases c with
 |cond o x y=>
  cases o with
  |tmp q=>simp[cz]at h;obtain⟨rfl,h1,A⟩:=h;exact⟨x,y,rfl,h1,A⟩
  |const v=>cases v<;>first|(simp [cz]at h;done)|cases z
  |_=>simp[cz]at h
 |region id ops D=>exact cq rfl (nr id ops D)
 |_=>simp[cz]at h
def Ri {c:Code} {b:SC} (z:Ig c=J) (h:cz P nt c= .block i b):∃y,c= .block i y/\cz P nt y=b:=by
 have nr:=qI h (by simp) (by simp) (by simp);cases c with
 |block id y=>simp[cz]at h;obtain⟨rfl,h1⟩:=h;exact⟨y,rfl,h1⟩
 |region i ops A=>exact cq rfl (nr i ops A)
 |cond o x y=>exact JE z h (by simp) (by simp)
 |_=>simp[cz]at h
def VG {c:Code} {b:SC} (z:Ig c=J) (h:cz P nt c= .loop b):∃y,c= .loop y/\cz P nt y=b:=by
 have nr:=qI h (by simp) (by simp) (by simp);cases c with
 |loop y=>simp[cz]at h;exact⟨y,rfl,h⟩
 |region id ops A=>exact cq rfl (nr id ops A)
 |cond o x y=>exact JE z h (by simp) (by simp)
 |_=>simp[cz]at h
end inv
def arx (P:Program) (E:Nat->Prop) (nt np:Nat) (φ:PM) (s:TS) (w:World) (am:Nat) (K:Ex->TS->M R) (r:R):Exit->Act->World->Prop:=
 λe z w'=>∃ex s' φ',e=ex.to/\K ex s'=Z r/\jI P E nt np φ' s' z w'/\xU np φ φ' (erHF s.h) (erHF s'.h) w w'/\fR am s.e s'.e
def jI.bool {s:TS} (c:jI T O i j V s z w) {t:Nat} (ht:s.e.get t=Z (.f .bool b)):z.eval (.tmp t)= .bool b:=
 fE (c.env t _ (by simp[fU,ht,aF,bW];rfl))
def jI.qw {s:TS} (c:jI T O i j V s z w) {t:Nat} (ht:s.e.get t=Z .qw):∃b,z.eval (.tmp t)= .bool b:=by
 have:=c.env t .qw (by simp[fU,ht,aF,bW]);show ∃b,z.tmps.getD t undef= .bool b;generalize z.tmps.getD t undef=a at this;cases this with
 |qw=>exact⟨_,rfl⟩
def ag0 {a b:M R} {r:R} (h:zW a b=Z r):a=Z r/\b=Z r:=by
 unfold zW at h
 grind
variable {f:FuncId}
def aos {inert:FuncId->Bool} (hin:Pd T inert) (ha:∀Q∈z.defers,Yg T Q) (hs:z.tmps.size=i) {caps:Y Operand} {t:Nat} (hd:(B.toList.all λo=>match o.dst with|some Q=>decide (Q<i)|none=>J)=J) (hdf:Hn B b=Z (f,caps,t)) (hi:inert f=J) 
 (hQ:∀L,(∀u,u≠t->L.tmps.getD u undef=z.tmps.getD u undef)->(∀Q∈L.defers,Yg T Q)->L.tmps.size=i->d .normal L w):(Code.region j B b).wp T d z w:=by
 unfold Hn at hdf;split at hdf
 .rename_i p q hops;split at hdf
  .rename_i D first caps' t1 cl hpo hpg hpd hqo hqg hqd
   split at hdf
   .rename_i t2 hcl hca;split at hdf
    .rename_i hcond;simp only[al]at hcond;let⟨h1,h2⟩:=hcond;have h1:=au h1;have h2:first=#[]:=by grind
     simp only[ah,aR]at hdf;obtain⟨rfl,rfl,rfl⟩:=hdf;subst h1 h2;have hops':B=#[p,q]:=by grind
     let⟨hcb,hincalls⟩:=hin D hi;have htn:t1<i:=by grind
     let a:Value:=.func (.func D) #[] (caps'.map z.eval)
     refine wp_region ?_;have hr2:e_ B.size=[0,1]:=by rw[hops'];rfl
     rw[hr2];have e0:B[0]? =Z p:=by grind
     have e1:B[1]? =Z q:=by grind
     rw[wpOps_cons];have hexec1:(execOp z.eval p).run T w= .ok (.value a) w:=by
      unfold execOp;rw[hpo];simp[Instr.makeFunc,a]
     have w1:jJ p (yielded B z.tmps)=J:=by unfold jJ;rw[hpg]
     unfold wpOp;simp only[e0,w1,bk];left;unfold Lx;rw[hexec1];show wpOps T B d [1] (z.put p.dst a) w;rw[wpOps_cons];unfold wpOp;have w2:jJ q (yielded B (z.put p.dst a).tmps)=J:=by unfold jJ;rw[hqg]
     simp only[e1,w2,bk];left;have pg:∀u,(z.put p.dst a).tmps.getD u undef=if p.dst=Z u then a else z.tmps.getD u undef:=λu=>Vl (by intro Q A;rw[hpd]at A;cases A;rw[hs];exact htn)
     have heval:(z.put p.dst a).eval (.tmp t1)=a:=by
      show (z.put p.dst a).tmps.getD t1 undef=a;rw[pg,aD hpd]
     have hargs:cl.args=#[]:=by grind
     have hexec2:(execOp (z.put p.dst a).eval q).run T w= .ok (.defer {target:=.fn (.func D) (caps'.map z.eval),args:=#[]}) w:=by
      unfold execOp;rw[hqo];simp[resolve,hcl,heval,a,Deferred.ofValue,hargs]
     unfold Lx;rw[hexec2];show wpOps T B d [] _ w;refine hQ _ (λu hu=>?_) (λQ A=>?_) ?_
     .rw[hqd];show (z.put p.dst a).tmps.getD u undef=_;rw[pg,av (by rw[hpd];intro e;cases e;exact hu rfl)]
     .rw[hqd]at A;have hd'':Q={target:=.fn (.func D) (caps'.map z.eval),args:=#[]}\/Q∈(z.put p.dst a).defers:=by
       simpa[Sc] using A
      rcases hd'' with rfl|hd''
      .intro w0;refine ⟨_,_,D,caps'.map z.eval,rfl,?_,hincalls _ w0⟩;simp[invoke,Aq hcb]
      .rw[Mi]at hd'';exact ha Q hd''
     .rw[hqd];show (z.put p.dst a).tmps.size=i;rw[Vk];exact hs
    .cases hdf
   .cases hdf
  .cases hdf
 .cases hdf
def asf {E:Nat->Prop} {inert:FuncId->Bool} (hm:T.follows .mixedOrders=J) (hcon:HP T X) (hin:Pd T inert):
 ∀{tc:TC} {sc:SC},Er tc sc->∀(c:Code),cz T i c=sc->∀(R:Type) (s:TS) (K:Ex->TS->M R) (r:R),oR j X W inert tc s K=Z r->∀(φ:PM) (a:Act) (w:World),jI T E i j φ s a w->c.wp T (arx T E i j φ s w (tc.asg 0) K r) a w:=by
 intro tc sc hE;induction hE with
 |skip=>
  intro c hc R s K r h φ a w g;let⟨c',hn,L,hsim⟩:=lB T i c;refine hsim _ _ _ ?_;rw[<- L]at hc;rw[aj4 hn hc];exact wp_skip ⟨.normal,s,φ,rfl,h,g,xU.refl _ _ _ _,fR.refl _ _⟩
 |jw ops prs=>
  intro c hc R s K r h φ a w g;let⟨c',hn,L,hsim⟩:=lB T i c;refine hsim _ _ _ ?_;rw[<- L]at hc;obtain⟨id,os,dr,rfl,h1,h2,h3⟩:=ao2 hn hc;simp only[oR]at h;refine ahx (K:=λs'=>K .normal s') hm hcon g (am:=Un ops 0) (λnp o d ho hd=>?_) h1 h2 h3 h λa' w' s' φ' q1 q2 q3 q4=>⟨.normal,s',φ',rfl,q1,q2,q3,q4⟩
  have hmem:o∈os.toList:=by have:=Array.mem_of_getElem? ho;simpa using this
  have key:∀(rest:Y Oper) (sl:Y uC),tX T os rest=Z sl->∀o∈rest,∃so∈sl,so.dst=o.dst:=by
   intro rest;induction rest with
   |nil=>intro sl _ o ho;cases ho
   |cons x rest ih=>
    intro sl hsl o ho;simp only[tX]at hsl;split at hsl
    .rename_i l hl;have:∃so,sl=so::l/\so.dst=x.dst:=by
      split at hsl
      .simp only[ah]at hsl;exact⟨_,hsl.symm,rfl⟩
      .split at hsl
       .simp only[ah]at hsl;exact⟨_,hsl.symm,rfl⟩
       .cases hsl
     obtain⟨so,rfl,hso⟩:=this;rcases aV.1 ho with rfl|ho
     .exact⟨so,by simp,hso⟩
     .obtain⟨q,hq,hq2⟩:=ih l hl o ho;exact⟨q,by simp[hq],hq2⟩
    .cases hsl
  let⟨so,hso,hd2⟩:=key os.toList ops h2 o hmem;exact XU hso (by rw[hd2];exact hd)
 |@seq x y x' y' _ _ ihx ihy=>
  intro c hc R s K r h φ a w g;let⟨c',hn,L,hsim⟩:=lB T i c;refine hsim _ _ _ ?_;rw[<- L]at hc;obtain⟨cx,cy,rfl,h1,h2⟩:=ac8 hn hc;simp only[oR]at h;refine wp_seq (wp_mono (ihx cx h1 R s _ r h φ a w g) ?_);rintro e a' w' ⟨ex,s',φ',rfl,z,g',st,kp⟩;have kp':fR ((TC.seq x y).asg 0) s.e s'.e:=kp.mono λk z=>by simp only[TC.asg];exact kG z
  cases ex with
  |normal=>
   refine wp_mono (ihy cy h2 R s' K r z φ' a' w' g') ?_;rintro e2 a2 w2 ⟨ex2,s2,φ2,rfl,hk2,g2,st2,kp2⟩;exact⟨ex2,s2,φ2,rfl,hk2,g2,st.trans st2,kp'.trans (kp2.mono λk z=>by simp only[TC.asg];exact vC z)⟩
  |exit id=>exact⟨.exit id,s',φ',rfl,z,g',st,kp'⟩
  |ret=>exact⟨.ret,s',φ',rfl,z,g',st,kp'⟩
 |@jq A x y x' y' _ _ ihx ihy=>
  intro c hc R s K r h φ a w g;let⟨c',hn,L,hsim⟩:=lB T i c;refine hsim _ _ _ ?_;rw[<- L]at hc;obtain⟨cx,cy,rfl,h1,h2⟩:=ac8 hn hc;simp only[oR]at h;have sub1:∀k,aK (x.asg 0) k=J->aK ((TC.jq A x y).asg 0) k=J:=λk z=>by simp only[TC.asg];exact kG (vC z)
  have sub2:∀k,aK (y.asg 0) k=J->aK ((TC.jq A x y).asg 0) k=J:=λk z=>by simp only[TC.asg];exact vC z
  have sub3:∀k,aK (PL A.ks 0) k=J->aK ((TC.jq A x y).asg 0) k=J:=λk z=>by simp only[TC.asg];exact kG (kG z)
  rcases ac5 h with ⟨d,h3,h4⟩|h3
  .refine wp_seq (wp_mono (ihx cx h1 _ s _ _ h3 φ a w g) ?_);rintro e a' w' ⟨ex,s',φ',rfl,z,g',st,kp⟩;cases ex with
   |normal=>
    simp only[]at z;let⟨d',q1,q2⟩:=dY z;simp only[ah,Sum.inr.injEq]at q2;subst q2;split at h4
    .rename_i s1 hs1;let⟨φ1,g1,Pm⟩:=S5 g' q1 hs1 λk _ _ v hv hf ha v' hv'=>by
      let⟨v0,e1,e2⟩:=kp k ha v' hv';rw[hv]at e1;cases e1;exact e2 hf
     refine wp_mono (ihy cy h2 R s1 K r h4 φ1 a' w' g1) ?_;rintro e2 a2 w2 ⟨ex2,s2,φ2,rfl,hk2,g2,st2,kp2⟩;exact⟨ex2,s2,φ2,rfl,hk2,g2,(st.trans Pm).trans st2,((H6 hs1).1.mono sub3).trans (kp2.mono sub2)⟩
    .cases h4
   |_=>simp only[]at z;let⟨_,_,q2⟩:=dY z;simp at q2
  .refine wp_seq (wp_mono (ihx cx h1 _ s _ _ h3 φ a w g) ?_);rintro e a' w' ⟨ex,s',φ',rfl,z,g',st,kp⟩;cases ex with
   |normal=>simp only[]at z;let⟨_,_,q2⟩:=dY z;simp at q2
   |exit id=>
    simp only[]at z;let⟨r',q1,q2⟩:=dY z;simp only[ah,Sum.inl.injEq]at q2;subst q2;exact⟨.exit id,s',φ',rfl,q1,g',st,kp.mono sub1⟩
   |ret=>
    simp only[]at z;let⟨r',q1,q2⟩:=dY z;simp only[ah,Sum.inl.injEq]at q2;subst q2;exact⟨.ret,s',φ',rfl,q1,g',st,kp.mono sub1⟩
 |@cond t x y x' y' _ _ ihx ihy=>
  intro c hc R s K r h φ a w g;let⟨c',hn,L,hsim⟩:=lB T i c;refine hsim _ _ _ ?_;rw[<- L]at hc;obtain⟨cx,cy,rfl,h1,h2⟩:=aj6 hn hc;simp only[oR]at h;split at h
  .rename_i b hb;rcases lQ h with ⟨rfl,h⟩|⟨rfl,h⟩
   .refine wp_cond_true (g.bool hb) (wp_mono (ihx cx h1 R s K r h φ a w g) ?_);rintro e a' w' ⟨ex,s',φ',rfl,z,g',st,kp⟩;exact⟨ex,s',φ',rfl,z,g',st,kp.mono λk z=>by simp only[TC.asg];exact kG z⟩
   .refine wp_cond_false (g.bool hb) (wp_mono (ihy cy h2 R s K r h φ a w g) ?_);rintro e a' w' ⟨ex,s',φ',rfl,z,g',st,kp⟩;exact⟨ex,s',φ',rfl,z,g',st,kp.mono λk z=>by simp only[TC.asg];exact vC z⟩
  .rename_i hb;let⟨ha,hbb⟩:=ag0 h;let⟨bv,hbv⟩:=g.qw hb;cases bv with
   |true=>
    refine wp_cond_true hbv (wp_mono (ihx cx h1 R s K r ha φ a w g) ?_);rintro e a' w' ⟨ex,s',φ',rfl,z,g',st,kp⟩;exact⟨ex,s',φ',rfl,z,g',st,kp.mono λk z=>by simp only[TC.asg];exact kG z⟩
   |false=>
    refine wp_cond_false hbv (wp_mono (ihy cy h2 R s K r hbb φ a w g) ?_);rintro e a' w' ⟨ex,s',φ',rfl,z,g',st,kp⟩;exact⟨ex,s',φ',rfl,z,g',st,kp.mono λk z=>by simp only[TC.asg];exact vC z⟩
  .cases h
 |@block id b b' _ ih=>
  intro c hc R s K r h φ a w g;let⟨c',hn,L,hsim⟩:=lB T i c;refine hsim _ _ _ ?_;rw[<- L]at hc;obtain⟨cb,rfl,h1⟩:=Ri hn hc;simp only[oR]at h;refine wp_block (wp_mono (ih cb h1 R s _ r h φ a w g) ?_);rintro e a' w' ⟨ex,s',φ',rfl,z,g',st,kp⟩;cases ex with
  |normal=>exact⟨.normal,s',φ',rfl,z,g',st,kp⟩
  |ret=>exact⟨.ret,s',φ',rfl,z,g',st,kp⟩
  |exit nt=>
   simp only[Ex.to,Exit.inBlock];simp only[]at z;split at z
   next hb=>rw[aD (au hb)];exact⟨.normal,s',φ',rfl,z,g',st,kp⟩
   next hb=>rw[av (λe=>hb (by rw[e];exact fV id))];exact⟨.exit nt,s',φ',rfl,z,g',st,kp⟩
 |@zk A id b b' _ ih=>
  intro c hc R s K r h φ a w g;let⟨c',hn,L,hsim⟩:=lB T i c;refine hsim _ _ _ ?_;rw[<- L]at hc;obtain⟨cb,rfl,h1⟩:=Ri hn hc;simp only[oR]at h;have sub1:∀k,aK (b.asg 0) k=J->aK ((TC.zk A id b).asg 0) k=J:=λk z=>by simp only[TC.asg];exact vC z
  have sub3:∀k,aK (PL A.ks 0) k=J->aK ((TC.zk A id b).asg 0) k=J:=λk z=>by simp only[TC.asg];exact kG z
  rcases ac5 h with ⟨d,h3,h4⟩|h3
  .refine wp_block (wp_mono (ih cb h1 _ s _ _ h3 φ a w g) ?_);rintro e a' w' ⟨ex,s',φ',rfl,z,g',st,kp⟩;have fin:aA (Qf j A (b.asg 0) s s') (λx=>Z (b8 (α:=R) x))=Z (b8 d)->arx T E i j φ s w ((TC.zk A id b).asg 0) K r .normal a' w':=by
    intro z;let⟨d',q1,q2⟩:=dY z;simp only[ah,Sum.inr.injEq]at q2;subst q2;split at h4
    .rename_i s1 hs1;let⟨φ1,g1,Pm⟩:=S5 g' q1 hs1 λk _ _ v hv hf ha v' hv'=>by
      let⟨v0,e1,e2⟩:=kp k ha v' hv';rw[hv]at e1;cases e1;exact e2 hf
     exact⟨.normal,s1,φ1,rfl,h4,g1,st.trans Pm,(H6 hs1).1.mono sub3⟩
    .cases h4
   cases ex with
   |normal=>exact fin z
   |ret=>simp only[]at z;let⟨_,_,q2⟩:=dY z;simp at q2
   |exit nt=>
    simp only[Ex.to,Exit.inBlock];simp only[]at z;split at z
    next hb=>rw[aD (au hb)];exact fin z
    .obtain⟨_,_,q2⟩:=dY z;simp at q2
  .refine wp_block (wp_mono (ih cb h1 _ s _ _ h3 φ a w g) ?_);rintro e a' w' ⟨ex,s',φ',rfl,z,g',st,kp⟩;cases ex with
   |normal=>simp only[]at z;let⟨_,_,q2⟩:=dY z;simp at q2
   |ret=>
    simp only[]at z;let⟨r',q1,q2⟩:=dY z;simp only[ah,Sum.inl.injEq]at q2;subst q2;exact⟨.ret,s',φ',rfl,q1,g',st,kp.mono sub1⟩
   |exit nt=>
    simp only[Ex.to,Exit.inBlock];simp only[]at z;split at z
    .obtain⟨_,_,q2⟩:=dY z;simp at q2
    next hb=>rw[av (λe=>hb (by rw[e];exact fV id))];let⟨r',q1,q2⟩:=dY z;simp only[ah,Sum.inl.injEq]at q2;subst q2;exact⟨.exit nt,s',φ',rfl,q1,g',st,kp.mono sub1⟩
 |@loop A b b' _ ih=>
  intro c hc R s K r h φ a w g;let⟨c',hn,L,hsim⟩:=lB T i c;refine hsim _ _ _ ?_;rw[<- L]at hc;obtain⟨cb,rfl,h1⟩:=VG hn hc;simp only[oR]at h;let⟨x0,hx0,h⟩:=dY h;let⟨n,hn⟩:=aei h;have sub1:∀k,aK (b.asg 0) k=J->aK ((TC.loop A b).asg 0) k=J:=λk z=>by simp only[TC.asg];exact vC z
  have sub3:∀k,aK (PL A.ks 0) k=J->aK ((TC.loop A b).asg 0) k=J:=λk z=>by simp only[TC.asg];exact kG z
  obtain⟨step,hstep⟩:∃step:A.D->M (A.D⊕R),step=λx=>(match KJ A (b.asg 0) s x with
   |some s'=>oR j X W inert b s' λex s'=>(match ex with
    |.normal=>aA (Qf j A (b.asg 0) s s') λy=>Z (rB y)
    |ex=>aA (K ex s') λr=>Z (b8 r))
   |none=>U):=⟨_,rfl⟩
  have hn:iterN step n x0=Z r:=by rw[hstep];exact hn
  have stepEq:∀x,step x=(match KJ A (b.asg 0) s x with
   |some s'=>oR j X W inert b s' λex s'=>(match ex with
    |.normal=>aA (Qf j A (b.asg 0) s s') λy=>Z (rB y)
    |ex=>aA (K ex s') λr=>Z (b8 r))
   |none=>U):=λx=>by rw[hstep]
  let Inv:Nat->Act->World->Prop:=λn a w'=>∃x s1 φ1,iterN step n x=Z r/\KJ A (b.asg 0) s x=Z s1/\jI T E i j φ1 s1 a w'/\xU j φ φ1 (erHF s.h) (erHF s1.h) w w'
  have head:∀(n:Nat) (x:A.D),iterN step n x=Z r->∃s1,KJ A (b.asg 0) s x=Z s1:=by
   intro n x hn;cases n with
   |zero=>cases hn
   |succ n=>
    simp only[iterN]at hn;cases hr:KJ A (b.asg 0) s x with
    |some s1=>exact⟨s1,rfl⟩
    |none=>rw[stepEq,hr]at hn;cases hn
  refine FE Inv ?_ (n:=n) ?_
  .rintro n a1 w1 ⟨x,s1,φ1,hi,hr,g1,Pm⟩;cases n with
   |zero=>cases hi
   |succ n=>
    simp only[iterN]at hi;have hse:=stepEq x;rw[hr]at hse;simp only[]at hse;let⟨kp1,kp1'⟩:=H6 hr;split at hi
    .rename_i y hy;rw[hy]at hse;refine wp_mono (ih cb h1 _ s1 _ _ hse.symm φ1 a1 w1 g1) ?_;rintro e a' w' ⟨ex,s',φ',rfl,z,g',st,kp⟩;cases ex with
     |normal=>
      simp only[]at z;let⟨d',q1,q2⟩:=dY z;simp only[ah,Sum.inl.injEq]at q2;subst q2;let⟨s2,hs2⟩:=head n d' hi;let⟨φ2,g2,st2⟩:=S5 g' q1 hs2 λk hkk hks v hv hf ha v' hv'=>by
       let⟨v0,e1,e2⟩:=kp k ha v' hv';have:=kp1' k hks v0 e1;rw[hv]at this;cases this;exact e2 hf
      exact⟨n,by omega,d',s2,φ2,hi,hs2,g2,(Pm.trans st).trans st2⟩
     |_=>simp only[]at z;let⟨_,_,q2⟩:=dY z;simp at q2
    .rename_i r' hy;cases hi;rw[hy]at hse;refine wp_mono (ih cb h1 _ s1 _ _ hse.symm φ1 a1 w1 g1) ?_;rintro e a' w' ⟨ex,s',φ',rfl,z,g',st,kp⟩;cases ex with
     |normal=>simp only[]at z;let⟨_,_,q2⟩:=dY z;simp at q2
     |exit id=>
      simp only[]at z;let⟨r',q1,q2⟩:=dY z;simp only[ah,Sum.inr.injEq]at q2;subst q2;exact⟨.exit id,s',φ',rfl,q1,g',Pm.trans st,(kp1.mono sub3).trans (kp.mono sub1)⟩
     |ret=>
      simp only[]at z;let⟨r',q1,q2⟩:=dY z;simp only[ah,Sum.inr.injEq]at q2;subst q2;exact⟨.ret,s',φ',rfl,q1,g',Pm.trans st,(kp1.mono sub3).trans (kp.mono sub1)⟩
    .cases hi
  .obtain⟨s1,hs1⟩:=head n x0 hn;let⟨φ1,g1,Pm⟩:=S5 g hx0 hs1 λk _ _ v hv _ _ v' hv'=>by rw[hv]at hv';cases hv';rfl
   exact⟨x0,s1,φ1,hn,hs1,g1,Pm⟩
 |exit id=>
  intro c hc R s K r h φ a w g;let⟨c',hn,L,hsim⟩:=lB T i c;refine hsim _ _ _ ?_;rw[<- L]at hc;rw[aj5 hn hc];exact wp_exit ⟨.exit id,s,φ,rfl,h,g,xU.refl _ _ _ _,fR.refl _ _⟩
 |ret=>
  intro c hc R s K r h φ a w g;let⟨c',hn,L,hsim⟩:=lB T i c;refine hsim _ _ _ ?_;rw[<- L]at hc;rw[ao1 hn hc];exact wp_ret ⟨.ret,s,φ,rfl,h,g,xU.refl _ _ _ _,fR.refl _ _⟩
 |defer f caps t=>
  intro c hc R s K r h φ a w g;let⟨c',hn,L,hsim⟩:=lB T i c;refine hsim _ _ _ ?_;rw[<- L]at hc;obtain⟨id,ops,dr,rfl,h1,h2⟩:=aej hn hc;simp only[oR]at h;split at h
  .rename_i hi;refine aos hin g.inert g.size h1 h2 hi λa' d1 d2 d3=>⟨.normal,_,φ,rfl,h,⟨g.zq,λu x hx=>?_,g.dom,g.low,g.qz,λu x hx=>?_,d2,d3⟩,xU.refl _ _ _ _,λk z v' hv'=>?_⟩
   .simp only[fU,PT.get_set]at hx;split at hx
    .cases hx
    next hu=>rw[d1 u hu];exact g.env u x hx
   .simp only[PT.get_set]at hx;split at hx
    .cases hx
    .exact g.qm u x hx
   .simp only[PT.get_set]at hv';split at hv'
    .cases hv'
    .exact⟨v',hv',λ_=>rfl⟩
  .cases h
 |@adj l tc' sc' _ ih=>
  intro c hc R s K r h φ a w g;let⟨c',hn,L,hsim⟩:=lB T i c;refine hsim _ _ _ ?_;rw[<- L]at hc;simp only[oR]at h;split at h
  next s1 hs1=>let⟨φ1,g1,Pm,kp1⟩:=Us g hs1;refine wp_mono (ih c' hc R s1 K r h φ1 a w g1) ?_;rintro e a' w' ⟨ex,s',φ',rfl,z,g',st,kp⟩;exact⟨ex,s',φ',rfl,z,g',Pm.trans st,(kp1.mono λk z=>by simp only[TC.asg];exact kG z).trans (kp.mono λk z=>by simp only[TC.asg];exact vC z)⟩
  .cases h
 |@split k off lo n tc' sc' _ ih=>
  intro c hc R s K r h φ a w g;let⟨c',hn,L,hsim⟩:=lB T i c;refine hsim _ _ _ ?_;rw[<- L]at hc;simp only[oR]at h;split at h
  .rename_i kd v hv;let⟨np,hj,h2⟩:=UY h;subst hj;split at h2
   .rename_i s1 hs1;let⟨g1,hH,he⟩:=ahm g hv hs1;refine wp_mono (ih c' hc R s1 K r h2 φ a w g1) ?_;rintro e a' w' ⟨ex,s',φ',rfl,z,g',st,kp⟩;exact⟨ex,s',φ',rfl,z,g',by rw[<- hH];exact st,λk z v' hv'=>by
     let⟨v,q1,q2⟩:=kp k z v' hv';exact⟨v,by rw[<- he];exact q1,q2⟩⟩
   .cases h2
  .cases h
 |@bsp t x y sc' _ _ ihx ihy=>
  intro c hc R s K r h φ a w g;simp only[oR]at h;split at h
  .rename_i v hv;rcases lQ h with ⟨rfl,h⟩|⟨rfl,h⟩
   .have he:∀q,(s.e.set t (Z (.f .bool J))).get q=s.e.get q:=λq=>by
     rw[PT.get_set];split
     next e=>subst e;exact hv.symm
     .rfl
    let⟨g1,hH⟩:=g.congr (s':=⟨s.e.set t (Z (.f .bool J)),s.h,s.nx⟩) he (λ_=>rfl) rfl;refine wp_mono (ihx c hc R _ K r h φ a w g1) ?_;rintro e a' w' ⟨ex,s',φ',rfl,z,g',st,kp⟩;exact⟨ex,s',φ',rfl,z,g',by rw[<- hH];exact st,λk z v' hv'=>by
     let⟨v,q1,q2⟩:=(kp.mono λk z=>by simp only[TC.asg];exact kG z) k z v' hv';exact⟨v,by rw[<- he];exact q1,q2⟩⟩
   .have he:∀q,(s.e.set t (Z (.f .bool af))).get q=s.e.get q:=λq=>by
     rw[PT.get_set];split
     next e=>subst e;exact hv.symm
     .rfl
    let⟨g1,hH⟩:=g.congr (s':=⟨s.e.set t (Z (.f .bool af)),s.h,s.nx⟩) he (λ_=>rfl) rfl;refine wp_mono (ihy c hc R _ K r h φ a w g1) ?_;rintro e a' w' ⟨ex,s',φ',rfl,z,g',st,kp⟩;exact⟨ex,s',φ',rfl,z,g',by rw[<- hH];exact st,λk z v' hv'=>by
     let⟨v,q1,q2⟩:=(kp.mono λk z=>by simp only[TC.asg];exact vC z) k z v' hv';exact⟨v,by rw[<- he];exact q1,q2⟩⟩
  .cases h
 |@unl n b b' _ ih=>
  intro c hc R s K r h φ a w g;let⟨c',hn,L,hsim⟩:=lB T i c;refine hsim _ _ _ ?_;rw[<- L]at hc;obtain⟨cb,rfl,h1⟩:=VG hn hc;simp only[oR]at h
  let Inv:Nat->Act->World->Prop:=λm a w'=>∃s1 φ1,amq (λs K=>oR j X W inert b s K) m s1 K=Z r/\jI T E i j φ1 s1 a w'/\xU j φ φ1 (erHF s.h) (erHF s1.h) w w'/\fR (b.asg 0) s.e s1.e
  refine FE Inv ?_ (n:=n) ⟨s,φ,h,g,xU.refl _ _ _ _,fR.refl _ _⟩;rintro m a1 w1 ⟨s1,φ1,hi,g1,Pm,kp1⟩;cases m with
  |zero=>cases hi
  |succ m=>
   simp only[amq]at hi;refine wp_mono (ih cb h1 R s1 _ r hi φ1 a1 w1 g1) ?_;rintro e a' w' ⟨ex,s',φ',rfl,z,g',st,kp⟩;cases ex with
   |normal=>exact⟨m,xi m,s',φ',z,g',Pm.trans st,kp1.trans kp⟩
   |exit id=>exact⟨.exit id,s',φ',rfl,z,g',Pm.trans st,kp1.trans kp⟩
   |ret=>exact⟨.ret,s',φ',rfl,z,g',Pm.trans st,kp1.trans kp⟩
 |zn sc'=>
  intro c hc R s K r h;simp[oR]at h
def Sp {s:TS} (hinv:g_ s.h s.nx) (hiE:sN s.e s.h) (r:sC V O (erHF s.h) w) (en:R3 V (tot O V (erHF s.h)) w (fU s.e s.h) z):∀(rs:Y ResultVar) (rvs:Y RV) (l:Y TV),xP T rs=Z rvs->U9 s rvs=Z l->
 ∃la vs,cJ s.h l=Z la/\(rs.mapM (ahu z.tmps)).run T w= .ok vs w/\lV V (tot O V (erHF s.h)) w la vs
 |[],rvs,l,A,a=>by
  simp[xP,ah]at A;subst A;simp[U9,ah]at a;subst a;exact⟨[],[],rfl,by simp,trivial⟩
 |.tmp t::rs,rvs,l,A,a=>by
  simp[xP]at A;split at A
  .rename_i rvs' hrs;simp[ah]at A;subst A;simp[U9]at a;split at a
   .rename_i v D;split at a
    next l' L=>simp[ah]at a;subst a;let⟨la,vs,h0,h1,h2⟩:=Sp hinv hiE r en rs rvs' l' hrs L;simp[rvT]at D;let⟨y,hy⟩:=pl s.h v (hiE t v D);refine ⟨y::la,z.tmps.getD t undef::vs,qC hy h0,?_,en t y (by simp[fU,D,aF,hy]),h2⟩;simp[List.mapM_cons,fH,ahu,xf,cW];simp_all
    .cases a
   .cases a
  .cases A
 |.cell ad t::rs,rvs,l,A,a=>by
  simp[xP]at A;split at A
  .rename_i rvs' sz ag hrs hsz hag;simp[ah]at A;subst A;simp[U9]at a;split at a
   .rename_i v D;split at a
    .rename_i l' L;simp[ah]at a;subst a;let⟨la,vs,h0,h1,h2⟩:=Sp hinv hiE r en rs rvs' l' hrs L;simp[rvT]at D;split at D
     .rename_i id off hp;split at D
      .rename_i ty q hb;let⟨q',hq'⟩:=fJ s.h q (hinv.G id _ q hb);let⟨y,e1,e2⟩:=ab0 hq' D;let⟨H,hH⟩:=gI s.h;have hR:xT H sz ag (.P (nm id) off)=Z ⟨y,[nm id],[],[],[]⟩:=by
        have hg:H.get (nm id)=Z ⟨ty,.mx q'⟩:=by rw[hH,bG,hb];simp[aF,kJ,hq']
        simp[xT,hg,e2]
       let⟨_,_,_,h3⟩:=XX (P:=T) hsz hag hR;let⟨qq,v',h4,h5,h6⟩:=h3 V O (erHF s.h) w _ (λi _=>by rw[hH]) r (en ad _ (by simp[fU,hp,aF,bW]));refine ⟨y::la,v'::vs,qC e1 h0,?_,h6,h2⟩;have hone:(ahu z.tmps (.cell ad t)).run T w= .ok v' w:=by
        simp[ahu,fH,h4,asAddr,xf,cW,h5]
       simp_all
      .cases D
     .cases D
    .cases a
   .cases a
  .cases A
def I_:∀(args:Y TV) (k t:Nat) (x:TV),(OX k args).get t=Z x->k<=t/\args[t-k]? =Z x
 |[],k,t,x,h=>by simp[OX,PT.get]at h
 |y::args,k,t,x,h=>by
  rw[OX,PT.get_set]at h;split at h
  .grind
  .obtain⟨h1,z⟩:=I_ args (k+1) t x h
   grind
variable {m:Y TV}
def aif (A:lY h m=J) (L:m[j]? =Z u):PI h u=J:=by
 let⟨l',D⟩:=fJ h m A;let⟨y,_,z⟩:=mE D j u L;exact IQ _ _ _ z
def Yv {inert:FuncId->Bool} (hm:T.follows .mixedOrders=J) (hcon:HP T X) (hin:Pd T inert) {sf:SF} (hf:CZ T f=Z sf) (D:FT) (m:D.pre.ty.den->M D.post.ty.den) (hmod:∀x y,m x=Z y->ahc X W inert (Z sf) D x=Z y):ru T f ⟨D.pre,D.post,m⟩:=by
 let⟨fn,c,hfn,hb,hnm,hcode,hres,hnt⟩:=XJ hf;refine ⟨⟨fn,hfn,by rw[hb];rfl,hnm⟩,λx y hxy vs hp l1 rs hq l2 la lr I V hla hlr φ E w us hrep hrel hdom=>?_⟩;have ht:=hmod x y hxy;unfold ahc at ht;simp only[]at ht;split at ht
 .rename_i args h hins;let⟨l1',I'⟩:=zu hins;have e1:args=vs:=by have h1:=I.pv;have h2:=I'.pv;rw[h1]at h2;cases h2;rfl
  have e2:l1'=l1:=by have h1:=I.pb;have h2:=I'.pb;rw[h1]at h2;cases h2;rfl
  subst e1 e2;have hget:∀i,h.get i=hp.get i:=λi=>by
   cases h3:hp.get i with
   |some b=>exact (I'.at_ i b).2 ((I.at_ i b).1 h3)
   |none=>
    cases h4:h.get i with
    |none=>rfl
    |some b=>have:=(I.at_ i b).2 ((I'.at_ i b).1 h4);rw[h3]at this;cases this
  have hrow:∀i,eM h i=eM hp i:=λi=>by rw[bx,bx,hget]
  have herH:erHF h=erHF hp:=by
   funext n;unfold erHF;rw[hget];cases h3:hp.get (ow n) with
   |none=>rfl
   |some b=>
    simp only[aF];refine mF (λi r hr=>by rw[hrow];exact hr) (λty l e=>?_) _ _;exact (I.G _ _ l (by rw[h3,e])).1
  have hla':cJ h args=Z la:=gX (λi r hr=>by rw[hrow];exact hr) args la hla;split at ht
  .rename_i hle;simp only[al]at hle;have hle2:=aT hle.2;have hle:=aT hle.1;have hlen:=hrel.length;have hargl:args.length=la.length:=(iE hla).symm;refine calls_of_wp_defers hfn hb ?_;have hcfg:jI T E fn.ntmps D.pre.bs.length φ ⟨OX 0 args,h,D.pre.bs.length⟩ {tmps:=us.toArray++uG (fn.ntmps-us.toArray.size) undef,defers:=[]} w:=by
    refine ⟨by rw[herH];exact hrep,?_,hdom,bJ _,⟨λi ty l hl=>(I'.G i _ l hl).1,λi b hbb=>I'.lt_len hbb⟩,?_,by simp,by simp;omega⟩
    .intro t z hz;simp only[fU]at hz;cases hx:(OX 0 args).get t with
     |none=>rw[hx]at hz;cases hz
     |some v0=>
      rw[hx]at hz;let⟨_,h2⟩:=I_ args 0 t v0 hx;rw[Nat.sub_zero]at h2;let⟨y0,q1,q2⟩:=mE hla' t v0 h2;simp only[aF]at hz;rw[hz]at q2;cases q2;let⟨v,h3,h4⟩:=hrel.get t z q1;have hlt:t<us.length:=(bz.1 h3).1;have:(us.toArray++uG (fn.ntmps-us.toArray.size) undef).getD t undef=v:=by
       rw[ko,Array.getElem?_append]
       grind
      grind
    .intro t v0 hv0;let⟨_,h2⟩:=I_ args 0 t v0 hv0;exact aif I'.ok h2
   refine wp_mono (asf (E:=E) hm hcon hin (Be D.hints sf.code 0) c hcode.symm _ _ _ _ ht φ _ w hcfg) ?_;rintro e a' w' ⟨ex,s',φ',rfl,L,g',st,_⟩;have fin:∀(s':TS) (φ':PM),jI T E fn.ntmps D.pre.bs.length φ' s' a' w'->xU D.pre.bs.length φ φ' (erHF h) (erHF s'.h) w w'->(match U9 s' sf.res with
    |some l=>(match E_ D.pre.bs.length D.post l s'.h with
     |some ⟨y,_,_,_⟩=>(match D' D.post y with|some _=>Z y|none=>U)
     |none=>U)
    |none=>U)=Z y->Leaves T fn a'.tmps (λen w'=>∃v φ',en= .returned v/\HY (own φ (erHF hp)) w w'/\(∀k,k<w.heap.size->own φ' (erHF hq) k->own φ (erHF hp) k)/\(∀n,ow n<D.pre.bs.length->φ' n=φ n)/\sC φ' E (erHF hq) w'/\cf φ' (tot E φ' (erHF hq)) w' (FK lr) v) a'.defers .returning w':=by
    intro s' φ' g' st L;split at L
    .rename_i l hl;split at L
     .rename_i y' m' σ sm hM;split at L
      .cases L;let⟨lo,rvs,q0,q1,q2⟩:=Sp g'.qz g'.qm g'.zq g'.env fn.results.toList sf.res l hres hl;have A:=yX hM;let⟨φ2,lu,hlu,S⟩:=Py (np:=D.pre.bs.length) (E:=E) V g'.qz A q0 g'.zq;rw[hlr]at hlu;cases hlu;have hresults:(results fn a'.tmps).run T w'= .ok (if h:rvs.toArray.size=1 then rvs.toArray[0] else .tuple rvs.toArray) w':=by
        rw[YJ,Array.mapM_eq_mapM_toList];simp only[fH,Sem.run_map,q1,cW,xf]
       have hrl:lV φ2 (tot E φ2 (erHF hq)) w' lr rvs:=by
        refine lV.of (by rw[q2.length,S.len]) λj z v hz hv=>?_
        let⟨z0,p1,p2⟩:=S.val j z v hz;let⟨v',p3,p4⟩:=q2.get j z0 p1;rw[hv]at p3;cases p3;exact p2 p4
       have hval:cf φ2 (tot E φ2 (erHF hq)) w' (FK lr) (if h:rvs.toArray.size=1 then rvs.toArray[0] else .tuple rvs.toArray):=by
        have hll:=hrl.length;clear hlr S;cases lr with
        |nil=>
         cases rvs with
         |nil=>exact cf.qb (vs:=[]) rfl (by intro j x v hx;simp at hx)
         |cons _ _=>exact hrl.elim
        |cons z lr=>
         cases rvs with
         |nil=>exact hrl.elim
         |cons v rvs=>
          cases lr with
          |nil=>
           cases rvs with
           |nil=>exact hrl.1
           |cons _ _=>exact hrl.2.elim
          |cons y l=>
           cases rvs with
           |nil=>exact hrl.2.elim
           |cons u rvs=>
            rw[dif_neg (by simp)];refine cf.qb (vs:=v::u::rvs) (by simpa using hll) λj x' v' hx hv=>?_
            let⟨v'',q1,q2⟩:=hrl.get j x' hx;rw[hv]at q1;cases q1;exact q2
       have st':xU D.pre.bs.length φ φ' (erHF hp) (erHF s'.h) w w':=by rw[<- herH];exact st
       refine Gi hresults ⟨_,φ2,rfl,st'.ext,λk L ho=>st'.ql k L (S.ql k ho),λi hi=>?_,S.zq,hval⟩ a'.defers g'.inert;rw[S.par i hi (dy hi hle2),st'.par i hi]
      .cases L
     .cases L
    .cases L
   have fin2:(match XZ s' (ax5 D) with
    |some s=>(match U9 s sf.res with
     |some l=>(match E_ D.pre.bs.length D.post l s.h with
      |some ⟨y,_,_,_⟩=>(match D' D.post y with|some _=>Z y|none=>U)
      |none=>U)
     |none=>U)
    |none=>U)=Z y->Leaves T fn a'.tmps (λen w'=>∃v φ',en= .returned v/\HY (own φ (erHF hp)) w w'/\(∀k,k<w.heap.size->own φ' (erHF hq) k->own φ (erHF hp) k)/\(∀n,ow n<D.pre.bs.length->φ' n=φ n)/\sC φ' E (erHF hq) w'/\cf φ' (tot E φ' (erHF hq)) w' (FK lr) v) a'.defers .returning w':=by
    intro L;split at L
    next s2 ha=>let⟨φ3,c3,t3,_⟩:=Us g' ha;exact fin s2 φ3 c3 (st.trans t3) L
    .cases L
   cases ex with
   |exit id=>cases L
   |_=>exact fin2 L
  .cases ht
 .cases ht
abbrev B?:=FuncId×co
def Z8:Y B?->FuncId->M co
 |[],_=>U
 |(g,c)::r,f=>if ax g f then Z c else Z8 r f
def QN (P:Program):Y B?->Prop
 |[]=>True
 |p::r=>aJ P (p.1%65536) p.2/\QN P r
def acz :∀{l:Y B?},QN T l->HP T (Z8 l)
 |[],_,f,c,h=>by simp[Z8]at h
 |(g,d)::r,z,f,c,h=>by
  simp only[Z8]at h;split at h
  next A=>have:=au A;subst this;cases h;exact z.1
  .exact acz z.2 f c h
def Wg {inert:FuncId->Bool} (hm:T.follows .mixedOrders=J) (hin:Pd T inert) {l:Y B?} (A:QN T l) {D:FT} {m:D.pre.ty.den->M D.post.ty.den} (z:(CZ T f).isSome=J) (he:∀x,ahc (Z8 l) W inert (CZ T f) D x=m x):ru T f ⟨D.pre,D.post,m⟩:=by
 let⟨L,hf⟩:=jL.1 z;exact Yv hm (acz A) hin hf D m λx y hxy=>by rw[<- hf,he];exact hxy
def ru.sub {pre post:Tm} {m m':pre.ty.den->M post.ty.den} (h:ru T f ⟨pre,post,m⟩) (z:∀x y,m' x=Z y->m x=Z y):ru T f ⟨pre,post,m'⟩:=
 ⟨h.zg,λx y hxy=>h.calls x y (z x y hxy)⟩
def aJ.sub {P:Program} {f:FuncId} {pre post:Tm} {m m':pre.ty.den->M post.ty.den} (h:aJ P f ⟨pre,post,m⟩) (z:dN (l! pre.bs) (l! post.bs)=J) (A:∀x y,m' x=Z y->m x=Z y):aJ P f ⟨pre,post,m'⟩:=
 ((h.holds z).sub A).toC z
def tJ {b:Nat}:∀(x y:Y R),chk (bc (aj x) b) (λ_=>Z x)=Z y->aI (ax (aj x) 0) (zW (Z ([]:Y R)) (chk (bc (aj ([]:Y R)+aj x) b) λ_=>(Z (([]:Y R)++x)))) (chk (bc (aj ([]:Y R)+aj x) b) λ_=>(Z (([]:Y R)++x)))=Z y:=by
 intro x y h;rw[lq,pI,bX,h];cases x with
 |nil=>
  let⟨_,h⟩:=cG h;cases h;show zW (Z []) (Z [])=_;unfold zW;rw[aD rfl]
 |cons a r=>rfl
def Zn {pre post:Tm} (z:(CZ T f).isSome=J):ru T f ⟨pre,post,λ_=>U⟩:=by
 let⟨D,hf⟩:=jL.1 z;let⟨fn,c,hfn,A,hnm,_⟩:=XJ hf;exact⟨⟨fn,hfn,by rw[A];rfl,hnm⟩,λx y h=>by cases h⟩
def ru.orElse {pre post:Tm} {m m':pre.ty.den->M post.ty.den} (h:ru T f ⟨pre,post,m⟩) (h':ru T f ⟨pre,post,m'⟩):ru T f ⟨pre,post,λx=>match m x with|some y=>Z y|none=>m' x⟩:=
 ⟨h.zg,λx y hxy=>by
   cases hm:m x with
   |some z=>rw[show (co.m ⟨pre,post,λx=>match m x with|some y=>Z y|none=>m' x⟩ x)=Z z by show (match m x with|some y=>Z y|none=>m' x)=Z z;rw[hm]]at hxy;cases hxy;exact h.calls x _ hm
   |none=>rw[show (co.m ⟨pre,post,λx=>match m x with|some y=>Z y|none=>m' x⟩ x)=m' x by show (match m x with|some y=>Z y|none=>m' x)=m' x;rw[hm]]at hxy;exact h'.calls x y hxy⟩
def aJ.orE {pre post:Tm} {m m':pre.ty.den->M post.ty.den} (z:dN (l! pre.bs) (l! post.bs)=J) (h:aJ T f ⟨pre,post,m⟩) (h':aJ T f ⟨pre,post,m'⟩):aJ T f ⟨pre,post,λx=>AI.orE (m x) (m' x)⟩:=by
 have e:(λx=>AI.orE (m x) (m' x))=λx=>match m x with|some y=>Z y|none=>m' x:=by funext x;cases m x<;>rfl
 rw[e];exact ((h.holds z).orElse (h'.holds z)).toC z
def inert (f:FuncId):Bool:=ax f 40
def VK:∃z,Tryz.prog.underlying 20=Z (.interface z):=⟨#[],by kernel_rfl⟩
def aj9 (w:World):(Op.equal 20 .nilIface .nilIface).run Tryz.prog w= .ok J w:=by
 let⟨A,z⟩:=VK;have key:∀d,(Op.equalIn (d+1) 20 .nilIface .nilIface).run Tryz.prog w= .ok J w:=λd=>by simp[Op.equalIn,run_underlying z]
 exact key 9999
def ai9 {Q:Exit->Act->Y Frame->World->Prop} {rest:ι} {cs:Y Frame} {w':World} {o:Oper} (D:B[i]? =Z o) (a:o.guard=U) (A:(execOp z.eval o).run T w= .ok .recover w') (L:recoverD cs=U) (h:wpOpsS T B Q rest (z.put o.dst .nilIface) cs w'):wpOpsS T B Q (i::rest) z cs w:=by
 have a:jJ o (yielded B z.tmps)=J:=by unfold jJ;rw[a]
 simp only[wpOpsS,D,a,bk,A,L];exact h
variable {v:Value}
def ai8 {Q:Exit->Act->Y Frame->World->Prop} {rest:ι} {cs:Y Frame} {w':World} {o:Oper} (D:B[i]? =Z o) (a:o.guard=U) (A:(execOp z.eval o).run T w= .ok (.value v) w') (h:wpOpsS T B Q rest (z.put o.dst v) cs w'):wpOpsS T B Q (i::rest) z cs w:=by
 have a:jJ o (yielded B z.tmps)=J:=by unfold jJ;rw[a]
 simp only[wpOpsS,D,a,bk,A];exact h
def VH:Pd Tryz.prog inert:=by
 intro f hf;have hf:f=40:=au hf;subst hf;refine ⟨⟨Tryz.f40,Tryz.func40,by kernel_rfl,by kernel_rfl⟩,λargs w=>?_⟩;refine callsD_of_wpS Tryz.func40 rfl λc₀ cs z=>?_
 refine wpS_seq (wpS_region ?_);generalize ht:(args++uG (Tryz.f40.ntmps-args.size) undef)=T;have hs:5<=T.size:=by
  rw[<- ht];simp only[Array.size_append,Array.size_replicate];have:Tryz.f40.ntmps=5:=rfl;omega
 have D:recoverD (c₀::cs)=U:=by simp[recoverD,z]
 refine ai9 (i:=0) (rest:=[1]) rfl rfl (w':=w) ?_ D ?_
 .simp[execOp,resolve,invoke,builtin]
 refine ai8 (v:=.bool af) rfl rfl (w':=w) ?_ ?_
 .have A:Act.eval (Sc {tmps:=T,defers:=[]} (Z 2) .nilIface) (.tmp 2)= .nilIface:=by
   simp[Act.eval,Sc,show 2<T.size by omega]
  have L:=aj9 w;have hcst:Act.eval (Sc {tmps:=T,defers:=[]} (Z 2) .nilIface) (.const .nilIface)= .nilIface:=rfl;show (execOp (Act.eval (Sc {tmps:=T,defers:=[]} (Z 2) .nilIface)) _).run _ w=_;simp[execOp,A,hcst,eqGuard,binOp,L]
 show Exit.thenS _ _ .normal _ _ _;refine wpS_cond (t:=af) ?_ ?_
 .simp[Act.eval,Sc,show 3<T.size by omega]
 refine wpS_of_wp (wp_skip ?_);have hres:Tryz.f40.results=#[]:=rfl;exact⟨rfl,c₀.mode,rfl,.tuple #[],by simp[results,hres],⟨_,rfl⟩,z,rfl⟩
def d_ :Y (Nat×R)->PT R
 |[]=>.leaf
 |p::r=>(d_ r).set p.1 (Z p.2)
noncomputable abbrev Pg:Program:=Tryz.prog
def cn (D:FT) (m:D.pre.ty.den->M D.post.ty.den):co:=⟨D.pre,D.post,m⟩
def awy:Pg.follows .mixedOrders=J:=by kernel_rfl
def ac {c:co} {l:Y B?} (h:aJ Pg f c) (t:QN Pg l) (hf:ey f 65536=J:=by rfl):QN Pg ((f,c)::l):=⟨by rw[xh (Um hf)];exact h,t⟩
def ac2 {c:co} {l:Y B?} (q:FuncId) (z:q%65536=f) (h:aJ Pg f c) (t:QN Pg l):QN Pg ((q,c)::l):=⟨by rw[z];exact h,t⟩
def an:QN Pg []:=trivial
inductive OI {R:Type}:Option R->Option R->Prop where
 |rfl {a:Option R}:OI a a
 |chk {b:Bool} {k k':Option R} (h:md k k'):OI (chk b λ_=>k) (chk b λ_=>k')
 |aI {b:Bool} {t f t' f':Option R} (h1:md t t') (h2:md f f'):OI (aI b t f) (aI b t' f')
 |lt {α:Type} {x:α} {k k':α->Option R} (h:∀y,md (k y) (k' y)):OI (lt x k) (lt x k')
 |jn {α:Type} {o o':Option (R⊕α)} {k k':α->Option R} (h:md o o') (hk:∀x,md (k x) (k' x)):OI (jn o k) (jn o' k')
 |aA {α:Type} {o o':Option α} {k k':α->Option R} (h:md o o') (hk:∀x,md (k x) (k' x)):OI (aA o k) (aA o' k')
 |iter {σ:Type} {f g:σ->Option (σ⊕R)} {x:σ} (h:∀x,md (f x) (g x)):OI (gf f x) (iter g x)
def OI.o {a b:M R} (h:OI a b):md a b:=by
 cases h with
 |rfl=>exact md.rfl
 |chk h=>exact md.chk h
 |aI h g=>exact md.bcase h g
 |lt h=>exact md.lt h
 |jn h g=>exact md.jn h g
 |aA h g=>exact md.obind h g
 |iter h=>exact md.iter h
def mk (D:FT) (m:D.pre.ty.den->M D.post.ty.den) {l:Y B?} (ha:QN Pg l) (z:TypeId->M Ty) (he:∀x,ahc (Z8 l) z inert (CZ Pg f) D x=m x:=by intro x;kernel_rfl) (A:(CZ Pg f).isSome=J:=by kernel_rfl) (L:dN (l! D.pre.bs) (l! D.post.bs)=J:=by kernel_rfl):aJ Pg f (cn D m):=(Wg awy VH ha A he).toC L
def Bs (D:FT) (m n:D.pre.ty.den->M D.post.ty.den) (L:∀x,md (m x) (n x)) {l:Y B?} (ha:QN Pg l) (z:TypeId->M Ty) (he:∀x,ahc (Z8 l) z inert (CZ Pg f) D x=n x:=by intro x;kernel_rfl) (A:(CZ Pg f).isSome=J:=by kernel_rfl) (hb:dN (l! D.pre.bs) (l! D.post.bs)=J:=by kernel_rfl):aJ Pg f (cn D m):=((Wg awy VH ha A he).sub L).toC hb
def JA (D:FT) (z:(CZ Pg f).isSome=J:=by kernel_rfl) (A:dN (l! D.pre.bs) (l! D.post.bs)=J:=by kernel_rfl):aJ Pg f (cn D λ_=>U):=(Zn z).toC A
abbrev aM:Ty:=(.int .i64)
abbrev l7:Ty:=(.st (.pr .str (.pr aM (.pr aM (.pr .bool aM)))))
abbrev tK:Ty:=(.st (.pr .str .bool))
abbrev pW:Ty:=(.st (.pr aM (.pr aM aM)))
abbrev oy:Ty:=(.st (.pr (.sl l7) (.pr (.sl tK) (.pr (.sl itK) (.pr (.sl .str) (.pr (.sl .str) (.sl pW)))))))
abbrev xd:Ty:=(.sl (.sl aM))
abbrev fB:Ty:=(.st (.pr aM (.pr (.sl aM) (.pr xd aM))))
abbrev sJ:Ty:=(.st (.pr aM (.pr aM (.pr aM (.pr aM (.pr aM aM))))))
abbrev eJ:Ty:=(.st (.pr aM (.sl aM)))
abbrev uD:Ty:=(.sl .bool)
abbrev iF:Ty:=(.st (.pr aM (.pr aM .bool)))
abbrev Ls:Ty:=(.st (.pr (.sl eJ) (.pr aM (.pr uD (.sl iF)))))
abbrev j7:Ty:=(.st (.pr aM (.pr aM (.pr aM (.pr aM (.pr aM (.pr (.sl aM) (.sl aM))))))))
abbrev KC:Ty:=(.st (.pr aM (.pr aM (.pr .str (.pr aM (.pr aM .str))))))
abbrev uW:Ty:=(.st (.pr .str (.pr aM (.pr (.sl .str) (.sl .sm)))))
abbrev R1:Ty:=(.st (.pr (.sl KC) (.sl uW)))
abbrev Af:Ty:=(.st (.pr aM (.sl sJ)))
abbrev wQ:Ty:=(.st (.pr oy (.sl Af)))
abbrev yr:Ty:=(.st (.pr Ls (.pr (.sl aM) (.pr (.sl aM) (.sl fB)))))
abbrev nW:Ty:=(.st (.pr Ls (.pr (.sl aM) (.pr (.sl aM) (.sl aM)))))
abbrev HN:Ty:=(.sl (.int .u8))
abbrev B6:Ty:=(.st (.pr HN aM))
abbrev gq:Ty:=(.st (.pr aM aM))
abbrev sM:Ty:=(.st (.pr oy (.sl j7)))
abbrev o?:=Int×Int×Bool×Int
abbrev X2:=(ζ×o?)
abbrev nV:=(Y X2)
abbrev H!:=ζ×Bool
abbrev nk:=(Y H!)
abbrev kj:=(ζ×Int)
abbrev dm:=(Y ζ)
abbrev b?:=nV×nk×(Y kj)×dm×dm×Y π
abbrev fA:=b?
abbrev j?:=Int×Int
abbrev t7:=(nV×nk×(Y kj)×dm×dm×(Y π)×dm×j?)
abbrev k!:=Int×η
abbrev ki:=(Y k!)
abbrev d?:=Int×Int×Bool
abbrev eH:=d?
abbrev j!:=(θ)×Y eH
abbrev x!:=ki×Int×j!
abbrev uH:=x!
abbrev l?:=Int×(η)×(Y η)×Int
abbrev yn:=l?
abbrev mG:=(ω)
abbrev c!:=Int×Int×Int×Int×Int×(η)×η
abbrev iH:=c!
abbrev C?:=Int×Int×(ζ)×Int×Int×ζ
abbrev au0:=C?
abbrev z_:=(Y au0)
abbrev zZ:=(ζ×Int×dm×Y Sx)
abbrev L!:=Bool×Bool
abbrev U?:=Int×Int×Bool×Bool×L!
abbrev HH:=U?
abbrev A?:=fA×Y (Int×Y mG)
abbrev FB:=A?
abbrev HJ:=(υ)
abbrev f?:=(η)×(η)×η
abbrev R?:=uH×f?
abbrev ky:=R?
abbrev o!:=η×Int
abbrev iI:=o!
abbrev h?:=uH×(η)×(η)×Y yn
abbrev Bj:=h?
abbrev aah:=(Int×Int×(ζ)×(ζ)×Int×Int×ζ)
abbrev Aa:=(z_×(Y zZ)×Int)
abbrev X3:=(Bool×Y ζ)
abbrev Ya23:=(Int×Int×yn×yn×l?)
abbrev Ya24:=(yn×Int×Int×yn×l?)
abbrev X!:=Int×Int×l?
abbrev Ya25:=(yn×yn×X!)
abbrev k?:=HH×iI×Bool×Y ζ
abbrev ald:=((Y Sx)×k?)
abbrev Ya27:=(Int×Int×yn×l?)
abbrev Ya28:=(yn×X!)
abbrev Ya29:=X!
abbrev ag3:=(Int×k?)
abbrev alc:=(Sx×k?)
abbrev e?:=Aa×(Bool×Y Sx)×dm×Y ζ
abbrev apn:=(ν×e?)
abbrev g?:=t7×Y mG
abbrev QF:=(Sx×g?)
abbrev HI:=(Bj×iH×Bool)
abbrev V?:=(Sx×Int×Int×Int)×g?
abbrev alb:=V?
abbrev apm:=(ν×k?)
abbrev apl:=(kj×k?)
abbrev ag2:=(HH×iI×X3×Y Sx)
abbrev apk:=(Xp×k?)
abbrev Ya42:=(yn×yn×yn×j?)
abbrev ala:=((Y Sx)×g?)
abbrev aZ {α:Type} (l:Y α):Int:=aQ (aj l)
abbrev cS (n:Int):Int:=bm .i64 (n+1)
abbrev aH {R α:Type} (x:α):M (R⊕α):=Z (b8 x)
abbrev c5 {R α:Type} (x:R):M (R⊕α):=Z (rB x)
abbrev bZ {R:Type} (T:Ty) (l:Y T.den) (j:Int) (k:T.den->M R):M R:=chk (dL j (aj l)) λ_=>lt (geti T l j) k
abbrev kY {R:Type} (T:Ty) (l:Y T.den) (j:Int) (k:T.den->M R):M R:=chk (dL j (aj l)) λ_=>chk (dL j (aj l)) λ_=>lt (geti T l j) k
abbrev mK {R α:Type} (j:Int) (l:Y α) (k:M R):M R:=chk (dL j (aj l)) λ_=>k
abbrev bT {R:Type} (b:Bool) (k:M R):M R:=chk b λ_=>k
abbrev bq {R:Type} (a b:Int) (t f:M R):M R:=aI (decide (a=b)) t f
abbrev jP {R:Type} (a b:Int) (t f:M R):M R:=aI (!decide (a=b)) t f
abbrev bU {R:Type} (a b:Int) (t f:M R):M R:=aI (gD a b) t f
abbrev kB {R:Type} (a b:Int) (t f:M R):M R:=aI (db a b) t f
def ck (b:Bool) (k:M R):M R:=chk b λ_=>chk b λ_=>k
def eP (s:Sx):Sx:=o8 (Sx.op s,Sx.line s,Sx.name s,Sx.arg s,Sx.index s,eL (Xp.op (Sx.expr s),Xp.n (Sx.expr s),Xp.name (Sx.expr s),Xp.l (Sx.expr s)),Sx.body s,Sx.els s)
def lM (x:Unit):M dm:=
 (Z ([[118,97,114],[118,111,108,97,116,105,108,101],[109,117,116,101,120],[114,119,108,111,99,107],[99,111,110,100],[102,117,116,117,114,101],[116,104,114,101,97,100],[105,102],[101,108,115,101],[119,104,105,108,101],[108,111,99,107],[114,101,97,100],[119,114,105,116,101],[116,114,97,110,115,97,99,116,105,111,110],[97,116,111,109,105,99],[119,97,105,116],[110,111,116,105,102,121],[110,111,116,105,102,121,97,108,108],[115,112,97,119,110],[106,111,105,110],[115,101,116],[103,101,116]]))
def mo (x:ζ):M (Bool):=
 (aA (lM ()) λA=>(iter (σ:=Int) (λz=>(bU z (aZ A) (bZ (.str) A z λD=>(aI (decide ((D:ζ)=x)) (aH J) (c5 (cS z)))) (aH af))) 0))
def mO (x:Int):M (Bool):=
 (jn (kB 97 x (kB x 122 (aH J) (kB 65 x (aH (db x 90)) (aH af))) (kB 65 x (aH (db x 90)) (aH af))) λz=>(Z z))
def s_ (x:Int):M (Bool):=
 (jn (kB 48 x (aH (db x 57)) (aH af)) λz=>(Z z))
def qO (x:Int):M (Bool):=
 (jn (aA (mO x) λA=>(aI A (aH J) (aA (s_ x) λz=>(aI z (aH J) (aH (decide ((x:Int)=95))))))) λD=>(Z D))
def f_ (x:ζ):M (Bool):=
 (jn (bU (aZ x) 1 (aH J) (bU 12 (aZ x) (aH J) (mK 0 x (aA (mO (an0 x 0)) λL=>(aI (!L) (aH J) (aA (mo x) λD=>(aH D))))))) λx1=>(aI x1 (Z af) (iter (σ:=Int) (λz=>(bU z (aZ x) (mK z x (aA (qO (an0 x z)) λA=>(aI (!A) (aH af) (c5 (cS z))))) (aH J))) 0)))
def gx (x:Bool):M (Int):=
 (aI x (Z 1) (Z 0))
def wj (x:ν):M u!:=
 (bq x.1 4 (Z ((bm .i64 (0-x.2)),J)) (bq x.1 5 (aA (gx (decide ((x.2:Int)=0))) λz=>(Z (z,J))) (Z (0,af))))
def xv (x:π):M u!:=
 (bq x.1 6 (Z ((bm .i64 (x.2.1+x.2.2)),J)) (bq x.1 7 (Z ((bm .i64 (x.2.1-x.2.2)),J)) (bq x.1 8 (Z ((bm .i64 (x.2.1*x.2.2)),J)) (bq x.1 9 (bq x.2.2 0 (Z (0,J)) (bT (!decide ((x.2.2:Int)=0)) (Z ((bm .i64 (Int.tdiv x.2.1 x.2.2)),J)))) (bq x.1 10 (bq x.2.2 0 (Z (0,J)) (bT (!decide ((x.2.2:Int)=0)) (Z ((Db x.2.1 x.2.2),J)))) (bq x.1 11 (aA (gx (decide ((x.2.1:Int)=x.2.2))) λy1=>(Z (y1,J))) (bq x.1 12 (aA (gx (!decide ((x.2.1:Int)=x.2.2))) λy2=>(Z (y2,J))) (bq x.1 13 (aA (gx (gD x.2.1 x.2.2)) λy3=>(Z (y3,J))) (bq x.1 14 (aA (gx (db x.2.1 x.2.2)) λy4=>(Z (y4,J))) (bq x.1 15 (aA (gx (gD x.2.2 x.2.1)) λy5=>(Z (y5,J))) (bq x.1 16 (aA (gx (db x.2.2 x.2.1)) λy6=>(Z (y6,J))) (bq x.1 17 (jn (jP x.2.1 0 (aA (gx (!decide ((x.2.2:Int)=0))) λy8=>(aH (y8,J))) (aA (gx af) λL=>(aH (L,J)))) λx7=>(Z x7)) (bq x.1 18 (jn (jP x.2.1 0 (aA (gx J) λA=>(aH (A,J))) (aA (gx (!decide ((x.2.2:Int)=0))) λz=>(aH (z,J)))) λD=>(Z D)) (Z (0,af)))))))))))))))
def wn (x:ν):M (Int):=
 (bU x.2 1 (Z 0) (bT (!decide ((x.2:Int)=0)) (jn (bU (Db x.1 x.2) 0 (aH (bm .i64 ((Db x.1 x.2)+x.2))) (aH (Db x.1 x.2))) λz=>(Z z))))
def nM (x:Int):M (Int):=
 (jn (bq x 1 (aH J) (aH (decide ((x:Int)=2)))) λD=>(aI D (Z 0) (jn (kB 3 x (aH (db x 5)) (aH af)) λA=>(aI A (Z 1) (jn (kB 6 x (aH (db x 18)) (aH af)) λz=>(aI z (Z 2) (Z (-1))))))))
def qA (rr02_ShapedExpr:Xp->M (Bool)) (x:Xp):M (Bool):=
 (jn (bq (Xp.op x) 2 (aH (J,eL ((Xp.op x),(Xp.n x),(Xp.name x),(Xp.l x)))) (aH ((decide (((Xp.op x):Int)=3)),eL ((Xp.op x),(Xp.n x),(Xp.name x),(Xp.l x))))) λz=>(jn (α:=Bool×Xp) (aA (nM (Xp.op z.2)) λy3=>(jP y3 (aQ (aj (Xp.l z.2))) (aH (J,eL ((Xp.op z.2),(Xp.n z.2),(Xp.name z.2),(Xp.l z.2)))) (aI ((z.1==(!decide (((Xp.name z.2):ζ)=([])))) !=J) (aH (J,eL ((Xp.op z.2),(Xp.n z.2),(Xp.name z.2),(Xp.l z.2)))) (aI z.1 (aA (f_ (Xp.name z.2)) λy4=>(aI (!y4) (aH (J,eL ((Xp.op z.2),(Xp.n z.2),(Xp.name z.2),(Xp.l z.2)))) (bU (Xp.n z.2) 0 (aH (J,eL ((Xp.op z.2),(Xp.n z.2),(Xp.name z.2),(Xp.l z.2)))) (jP (Xp.op z.2) 1 (aH ((!decide (((Xp.n z.2):Int)=0)),eL ((Xp.op z.2),(Xp.n z.2),(Xp.name z.2),(Xp.l z.2)))) (aH (af,eL ((Xp.op z.2),(Xp.n z.2),(Xp.name z.2),(Xp.l z.2)))))))) (bU (Xp.n z.2) 0 (aH (J,eL ((Xp.op z.2),(Xp.n z.2),(Xp.name z.2),(Xp.l z.2)))) (jP (Xp.op z.2) 1 (aH ((!decide (((Xp.n z.2):Int)=0)),eL ((Xp.op z.2),(Xp.n z.2),(Xp.name z.2),(Xp.l z.2)))) (aH (af,eL ((Xp.op z.2),(Xp.n z.2),(Xp.name z.2),(Xp.l z.2)))))))))) λD=>(aI D.1 (Z af) (iter (σ:=Int×Xp) (λA=>(bU A.1 (aQ (aj (Xp.l A.2))) (bZ (.ex) (Xp.l A.2) A.1 λL=>(aA (rr02_ShapedExpr L) λy7=>(aI (!y7) (aH af) (c5 ((cS A.1),eL ((Xp.op A.2),(Xp.n A.2),(Xp.name A.2),(Xp.l A.2))))))) (aH J))) (0,eL ((Xp.op D.2),(Xp.n D.2),(Xp.name D.2),(Xp.l D.2)))))))
def iD:Nat->Xp->M (Bool)
 |0,_=>U
 |n+1,x=>qA (iD n) x
def Cz (n:Nat) (x:Xp):iD (n+1) x=qA (iD n) x:=rfl
def jZ (x:Xp):M (Bool):=iD fuel x
def qN (x:Xp):M (Bool):=
 (jn (α:=Bool) (bq (Xp.op x) 0 (bq (Xp.n x) 0 (aI (decide (((Xp.name x):ζ)=([]))) (aH (decide (((aQ (aj (Xp.l x))):Int)=0))) (aH af)) (aH af)) (aH af)) λz=>(Z z))
def lA (rr02_ShapedStmt:Sx->M (Bool)) (rr02_ShapedStmts:(Y Sx)->M (Bool)) (x:Sx):M (Bool):=
 (jn (bU (Sx.op x) 1 (aH (J,eP x)) (aH ((gD 15 (Sx.op x)),eP x))) λx1=>(aI x1.1 (Z af) (jn (bq (Sx.op x1.2) 2 (aH (J,eP x1.2)) (bq (Sx.op x1.2) 3 (aH (J,eP x1.2)) (bq (Sx.op x1.2) 7 (aH (J,eP x1.2)) (aH ((decide (((Sx.op x1.2):Int)=8)),eP x1.2))))) λx2=>(jn (α:=Bool×Sx) (aI x2.1 (aI (!decide (((Sx.name x2.2):ζ)=([]))) (aH (J,eP x2.2)) (aI (!x2.1) (aA (f_ (Sx.name x2.2)) λy4=>(aH ((!y4),eP x2.2))) (aH (af,eP x2.2)))) (aI (!x2.1) (aA (f_ (Sx.name x2.2)) λy5=>(aH ((!y5),eP x2.2))) (aH (af,eP x2.2)))) λL=>(aI L.1 (Z af) (jn (α:=Bool×Sx) (bq (Sx.op L.2) 15 (aA (f_ (Sx.arg L.2)) λy7=>(aI (!y7) (aH (J,eP L.2)) (jP (Sx.op L.2) 15 (aH ((!decide (((Sx.arg L.2):ζ)=([]))),eP L.2)) (aH (af,eP L.2))))) (jP (Sx.op L.2) 15 (aH ((!decide (((Sx.arg L.2):ζ)=([]))),eP L.2)) (aH (af,eP L.2)))) λD=>(aI D.1 (Z af) (jn (bU 1 (aQ (aj (Sx.index D.2))) (aH (J,eP D.2)) (jP (Sx.op D.2) 1 (bU 0 (aQ (aj (Sx.index D.2))) (aH (J,eP D.2)) (bq (aQ (aj (Sx.index D.2))) 1 (bZ (.ex) (Sx.index D.2) 0 λz9=>(aA (jZ z9) λy10=>(aH ((!y10),eP D.2)))) (aH (af,eP D.2)))) (bq (aQ (aj (Sx.index D.2))) 1 (bZ (.ex) (Sx.index D.2) 0 λz11=>(aA (jZ z11) λy12=>(aH ((!y12),eP D.2)))) (aH (af,eP D.2))))) λx8=>(aI x8.1 (Z af) (jn (bq (Sx.op x8.2) 1 (aH (J,eP x8.2)) (bq (Sx.op x8.2) 2 (aH (J,eP x8.2)) (bq (Sx.op x8.2) 3 (aH (J,eP x8.2)) (aH ((decide (((Sx.op x8.2):Int)=14)),eP x8.2))))) λz=>(jn (aI z.1 (aA (jZ (eL ((Xp.op (Sx.expr z.2)),(Xp.n (Sx.expr z.2)),(Xp.name (Sx.expr z.2)),(Xp.l (Sx.expr z.2))))) λy15=>(aI (!y15) (aH (J,eP z.2)) (aI (!z.1) (aA (qN (eL ((Xp.op (Sx.expr z.2)),(Xp.n (Sx.expr z.2)),(Xp.name (Sx.expr z.2)),(Xp.l (Sx.expr z.2))))) λy16=>(aH ((!y16),eP z.2))) (aH (af,eP z.2))))) (aI (!z.1) (aA (qN (eL ((Xp.op (Sx.expr z.2)),(Xp.n (Sx.expr z.2)),(Xp.name (Sx.expr z.2)),(Xp.l (Sx.expr z.2))))) λy17=>(aH ((!y17),eP z.2))) (aH (af,eP z.2)))) λx14=>(aI x14.1 (Z af) (jn (kB 2 (Sx.op x14.2) (aH ((db (Sx.op x14.2) 8),eP x14.2)) (aH (af,eP x14.2))) λA=>(jn (aI (!A.1) (bU 0 (aQ (aj (Sx.body A.2))) (aH (J,eP A.2)) (jP (Sx.op A.2) 2 (aH ((gD 0 (aQ (aj (Sx.els A.2)))),eP A.2)) (aH (af,eP A.2)))) (jP (Sx.op A.2) 2 (aH ((gD 0 (aQ (aj (Sx.els A.2)))),eP A.2)) (aH (af,eP A.2)))) λx19=>(aI x19.1 (Z af) (jn (aA (rr02_ShapedStmts (Sx.body x19.2)) λy21=>(aI y21 (aA (rr02_ShapedStmts (Sx.els x19.2)) λy22=>(aH y22)) (aH af))) λx20=>(Z x20)))))))))))))))))
def mA (rr02_ShapedStmt:Sx->M (Bool)) (rr02_ShapedStmts:(Y Sx)->M (Bool)) (x:Y Sx):M (Bool):=
 (iter (σ:=Int) (λz=>(bU z (aZ x) (mK z x (aA (rr02_ShapedStmt (geti (.sm) x z)) λA=>(aI (!A) (aH af) (c5 (cS z))))) (aH J))) 0)
mutual
def eX:Nat->Sx->M (Bool)
 |0,_=>U
 |n+1,x=>lA (eX n) (dR n) x
def dR:Nat->(Y Sx)->M (Bool)
 |0,_=>U
 |n+1,x=>mA (eX n) (dR n) x
end
def Cy (n:Nat) (x:Sx):eX (n+1) x=lA (eX n) (dR n) x:=rfl
def BW (n:Nat) (x:Y Sx):dR (n+1) x=mA (eX n) (dR n) x:=rfl
def o6 (x:Y Sx):M (Bool):=dR fuel x
def nD (x:C?):M (Bool):=
 (jn (bU x.1 1 (aH (J,x)) (bU 6 x.1 (aH (J,x)) (aA (f_ x.a) λL=>(aI (!L) (aH (J,x)) (bU x.b 0 (aH (J,x)) (jP x.1 1 (aH ((!decide ((x.b:Int)=0)),x)) (aH (af,x)))))))) λz=>(aI z.1 (Z af) (jn (α:=Bool×C?) (bq z.2.1 5 (aA (f_ z.n) λD=>(aI (!D) (aH (J,z.2)) (jP z.2.1 5 (aH ((!decide ((z.n:ζ)=([]))),z.2)) (aH (af,z.2))))) (jP z.2.1 5 (aH ((!decide ((z.n:ζ)=([]))),z.2)) (aH (af,z.2)))) λA=>(aI A.1 (Z af) (jn (α:=Bool) (bU (-9223372036854775808) A.d (bq A.d 0 (aH J) (bq A.2.1 1 (aH J) (aH (decide ((A.2.1:Int)=2))))) (aH af)) λx5=>(Z x5))))))
abbrev B!:=z_×Y zZ
abbrev K?:=Int×(z_×Y zZ)×(ζ)×Int×dm×Y Sx
def rc (x:B!):M (Bool):=
 (iter (σ:=Int×B!) (λD=>(bU D.1 (aZ D.2.1) (bZ KC D.2.1 D.1 λz2=>(aA (nD z2) λy3=>(aI (!y3) (aH af) (c5 ((cS D.1),D.2))))) (aA (iter (σ:=Int×B!) (λA=>(bU A.1 (aZ A.2.2) (bZ uW A.2.2 A.1 λz5=>(iter (σ:=K?) (λz=>(bU z.1 (aZ z.c) (bZ (.str) z.c z.1 λz7=>(aA (f_ z7) λy8=>(aI (!y8) (aH (b8 af)) (c5 ((cS z.1),z.2))))) (aA (jn (aA (f_ z.a) λy10=>(aI (!y10) (aH (J,z.2.1)) (aA (o6 z.h) λL=>(aH ((!L),z.2.1))))) λx9=>(aI x9.1 (aH af) (c5 ((cS A.1),x9.2)))) λr=>Z (b8 r)))) (0,A.2,z5))) (aH (gD 0 (aZ A.2.2))))) (0,D.2)) λr=>Z (b8 r)))) (0,x))
def ku (x:dm×ζ):M (Int):=
 (iter (σ:=Int) (λz=>(bU z (aZ x.1) (bZ (.str) x.1 z λA=>(aI (decide ((A:ζ)=x.2)) (aH z) (c5 (cS z)))) (aH (-1)))) 0)
def jF (x:z_×ζ):M (Int):=
 (iter (σ:=Int) (λz=>(bU z (aZ x.1) (bZ KC x.1 z λA=>(aI (decide ((A.2.2.1:ζ)=x.2)) (aH z) (c5 (cS z)))) (aH (-1)))) 0)
def je (x:(Y zZ)×ζ):M (Int):=
 (iter (σ:=Int) (λz=>(bU z (aZ x.1) (bZ uW x.1 z λA=>(aI (decide ((A.1:ζ)=x.2)) (aH z) (c5 (cS z)))) (aH (-1)))) 0)
def uo (x:(z_×Y zZ)×Int×ζ):M (Int):=
 (jn (kB 0 x.2.1 (bU x.2.1 (aZ x.1.2) (bZ uW x.1.2 x.2.1 λz2=>(aA (ku (z2.2.2.1,x.2.2)) λy3=>(aH ((db 0 y3),x.1)))) (aH (af,x.1))) (aH (af,x.1))) λz=>(aI z.1 (Z 8) (aA (jF (z.2.1,x.2.2)) λD=>(bU D 0 (aA (je (z.2.2,x.2.2)) λy5=>(kB 0 y5 (Z 7) (Z 0))) (mK D z.2.1 (lt ((geti KC z.2.1 D).1) λA=>(bq A 1 (bZ KC z.2.1 D λz7=>(jP z7.2.2.2.1 0 (Z 2) (Z 1))) (bq A 2 (Z 1) (jn (bq A 3 (aH ((decide ((A:Int)=3)),z.2)) (bq A 4 (aH ((decide ((A:Int)=4)),z.2)) (bq A 5 (aH ((decide ((A:Int)=5)),z.2)) (aH ((decide ((A:Int)=6)),z.2))))) λL=>(aI L.1 (bZ KC L.2.1 D λz9=>(Z z9.1)) (Z 9)))))))))))
def ip (x:(z_×Y zZ)×Int×(ζ)×j?):M (Int):=
 (aA (uo (x.1,x.2.1,x.a)) λz=>(bq z 0 (Z 5) (jn (jP z x.b (aH (!decide ((z:Int)=x.g))) (aH af)) λA=>(aI A (Z 6) (Z 0)))))
def AQ (rr04_Nodes:Xp->M ν) (x:Xp):M ν:=
 (iter (σ:=(π)×Xp) (λz=>(bU z.1.2.2 (aQ (aj (Xp.l z.2))) (bZ (.ex) (Xp.l z.2) z.1.2.2 λD=>(aA (rr04_Nodes D) λA=>(c5 (((bm .i64 (z.1.1+A.1)),(jR z.1.2.1 A.2),(cS z.1.2.2)),eL ((Xp.op z.2),(Xp.n z.2),(Xp.name z.2),(Xp.l z.2)))))) (aH (z.1.1,(cS z.1.2.1))))) ((1,0,0),eL ((Xp.op x),(Xp.n x),(Xp.name x),(Xp.l x))))
def oK:Nat->Xp->M ν
 |0,_=>U
 |n+1,x=>AQ (oK n) x
def K5 (n:Nat) (x:Xp):oK (n+1) x=AQ (oK n) x:=rfl
def E8 (x:Xp):M ν:=oK fuel x
abbrev y!:=(z_×Y zZ)×Int×Xp
def wF (rr04_names:y!->M (Int)) (x:y!):M (Int):=
 (jn (α:=Int×(z_×Y zZ)×Xp) (bq (Xp.op x.2.2) 2 (aA (ip (x.1,x.2.1,(Xp.name x.2.2),8,1)) λy2=>(aH (y2,x.1,eL ((Xp.op x.2.2),(Xp.n x.2.2),(Xp.name x.2.2),(Xp.l x.2.2))))) (bq (Xp.op x.2.2) 3 (aA (ip (x.1,x.2.1,(Xp.name x.2.2),2,2)) λy3=>(aH (y3,x.1,eL ((Xp.op x.2.2),(Xp.n x.2.2),(Xp.name x.2.2),(Xp.l x.2.2))))) (aH (0,x.1,eL ((Xp.op x.2.2),(Xp.n x.2.2),(Xp.name x.2.2),(Xp.l x.2.2)))))) λD=>(iter (σ:=(ν)×(z_×Y zZ)×Xp) (λz=>(jn (bU z.1.2 (aQ (aj (Xp.l z.2.2))) (aH ((decide ((z.1.1:Int)=0)),z.2.1,eL ((Xp.op z.2.2),(Xp.n z.2.2),(Xp.name z.2.2),(Xp.l z.2.2)))) (aH (af,z.2.1,eL ((Xp.op z.2.2),(Xp.n z.2.2),(Xp.name z.2.2),(Xp.l z.2.2))))) λA=>(aI A.1 (bZ (.ex) (Xp.l A.2.2) z.1.2 λL=>(aA (rr04_names (A.2.1,x.2.1,L)) λy7=>(c5 ((y7,(cS z.1.2)),A.2.1,eL ((Xp.op A.2.2),(Xp.n A.2.2),(Xp.name A.2.2),(Xp.l A.2.2)))))) (aH z.1.1)))) ((D.1,0),D.2.1,eL ((Xp.op D.2.2),(Xp.n D.2.2),(Xp.name D.2.2),(Xp.l D.2.2)))))
def oJ:Nat->(y!)->M (Int)
 |0,_=>U
 |n+1,x=>wF (oJ n) x
def Bz (n:Nat) (x:y!):oJ (n+1) x=wF (oJ n) x:=rfl
def E7 (x:y!):M (Int):=oJ fuel x
def oZ (x:y!):M (Int):=
 (aA (jZ (eL ((Xp.op x.2.2),(Xp.n x.2.2),(Xp.name x.2.2),(Xp.l x.2.2)))) λL=>(aI (!L) (Z 3) (aA (E8 (eL ((Xp.op x.2.2),(Xp.n x.2.2),(Xp.name x.2.2),(Xp.l x.2.2)))) λA=>(jn (bU 24 A.1 (aH (J,x.1,eL ((Xp.op x.2.2),(Xp.n x.2.2),(Xp.name x.2.2),(Xp.l x.2.2)))) (aH ((gD 6 A.2),x.1,eL ((Xp.op x.2.2),(Xp.n x.2.2),(Xp.name x.2.2),(Xp.l x.2.2))))) λz=>(aI z.1 (Z 2) (aA (E7 (z.2.1,x.2.1,eL ((Xp.op z.2.2),(Xp.n z.2.2),(Xp.name z.2.2),(Xp.l z.2.2)))) λD=>(Z D)))))))
def dg (x:Bool):M (Int):=
 (aI x (Z 7) (Z 0))
def jV (x:ν):M (Int):=
 (jP x.1 0 (Z x.1) (Z x.2))
abbrev Q?:=Int×e?
def eu (x:(Int×Int×ζ)×e?):M (Bool×e?):=
 (iter (σ:=Q?) (λz=>(bU z.1 (aZ z.a.2) (kY (.sm) z.a.2 z.1 λA=>(jn (α:=Bool×e?) (bq (Sx.op A) x.1.1 (aI (decide ((x.1.2.2:ζ)=([]))) (aH (J,z.2)) (aH ((decide (((Sx.name A):ζ)=x.1.2.2)),z.2))) (bq (Sx.op A) x.1.2.1 (aI (decide ((x.1.2.2:ζ)=([]))) (aH (J,z.2)) (aH ((decide (((Sx.name A):ζ)=x.1.2.2)),z.2))) (aH (af,z.2)))) λD=>(aI D.1 (aH (J,D.2)) (c5 ((cS z.1),D.2))))) (aH (af,z.2)))) (0,x.2))
abbrev F!:=Int×Aa×(Bool×Y Sx)×Sx×(z_×Y zZ)×dm×Y ζ
def nL (x:Sx×e?):M Q?:=
 (aA (eu ((7,7,[]),x.2)) λy1=>(bT (ax (aj x.g) (aj y1.g)&&(ax (aj x.b) (aj y1.b)&&(((x.a.1==y1.a.1)&&J)&&ax (aj x.a.2) (aj y1.a.2)&&J))) (aA (eu ((8,8,[]),y1.2)) λy2=>(bT (ax (aj y1.g) (aj y2.g)&&(ax (aj y1.b) (aj y2.b)&&(((y1.a.1==y2.a.1)&&J)&&ax (aj y1.a.2) (aj y2.a.2)&&J))) (aA (eu ((3,3,[]),y2.2)) λy3=>(bT (ax (aj y2.g) (aj y3.g)&&(ax (aj y2.b) (aj y3.b)&&(((y2.a.1==y3.a.1)&&J)&&ax (aj y2.a.2) (aj y3.a.2)&&J))) (bq (Sx.op x.1) 1 (bq (aQ (aj (Sx.index x.1))) 0 (aA (ip ((x.2.1.1,x.2.1.2.1),x.2.1.2.2,(Sx.name x.1),8,1)) λy4=>(aA (oZ ((x.2.1.1,x.2.1.2.1),x.2.1.2.2,eL ((Xp.op (Sx.expr x.1)),(Xp.n (Sx.expr x.1)),(Xp.name (Sx.expr x.1)),(Xp.l (Sx.expr x.1))))) λy5=>(aA (jV (y4,y5)) λy6=>(Z (y6,y3.2))))) (aA (ip ((x.2.1.1,x.2.1.2.1),x.2.1.2.2,(Sx.name x.1),2,2)) λy7=>(bZ (.ex) (Sx.index x.1) 0 λz8=>(aA (oZ ((x.2.1.1,x.2.1.2.1),x.2.1.2.2,z8)) λy9=>(aA (oZ ((x.2.1.1,x.2.1.2.1),x.2.1.2.2,eL ((Xp.op (Sx.expr x.1)),(Xp.n (Sx.expr x.1)),(Xp.name (Sx.expr x.1)),(Xp.l (Sx.expr x.1))))) λy10=>(aA (jV (y9,y10)) λy11=>(aA (jV (y7,y11)) λy12=>(Z (y12,y3.2))))))))) (jn (bq (Sx.op x.1) 2 (aH ((decide (((Sx.op x.1):Int)=2)),y3.2.1,y3.a,eP x.1,(x.2.1.1,x.2.1.2.1),y3.e)) (aH ((decide (((Sx.op x.1):Int)=3)),y3.2.1,y3.a,eP x.1,(x.2.1.1,x.2.1.2.1),y3.e))) λD=>(aI D.1 (aA (oZ (D.c,x.2.1.2.2,eL ((Xp.op (Sx.expr D.b)),(Xp.n (Sx.expr D.b)),(Xp.name (Sx.expr D.b)),(Xp.l (Sx.expr D.b))))) λy14=>(Z (y14,D.2.1,D.a,D.h))) (bq (Sx.op x.1) 4 (jn (α:=Q?) (aA (ip (D.c,x.2.1.2.2,(Sx.name D.b),3,3)) λy16=>(aI y1.1 (aA (dg J) λy17=>(aA (jV (y16,y17)) λy18=>(aH (y18,D.2.1,D.a,D.h)))) (aA (eu ((4,4,(Sx.name D.b)),D.2.1,D.a,D.h)) λy19=>(bT (ax (aj D.n) (aj y19.g)&&(ax (aj D.d) (aj y19.b)&&(((D.a.1==y19.a.1)&&J)&&ax (aj D.a.2) (aj y19.a.2)&&J))) (aA (dg y19.1) λy20=>(aA (jV (y16,y20)) λy21=>(aH (y21,y19.2)))))))) λx15=>(Z x15)) (jn (bq (Sx.op x.1) 5 (aH ((decide (((Sx.op x.1):Int)=5)),D.2.1,D.a,eP D.b,D.g)) (aH ((decide (((Sx.op x.1):Int)=6)),D.2.1,D.a,eP D.b,D.g))) λA=>(aI A.1 (jn (α:=Q?) (aA (ip (A.c,x.2.1.2.2,(Sx.name A.b),4,4)) λy24=>(aI y1.1 (aA (dg J) λy25=>(aA (jV (y24,y25)) λy26=>(aH (y26,A.2.1,A.a,A.h)))) (aA (eu ((5,6,(Sx.name A.b)),A.2.1,A.a,A.h)) λy27=>(bT (ax (aj A.n) (aj y27.g)&&(ax (aj A.d) (aj y27.b)&&(((A.a.1==y27.a.1)&&J)&&ax (aj A.a.2) (aj y27.a.2)&&J))) (aA (dg y27.1) λy28=>(aA (jV (y24,y28)) λy29=>(aH (y29,y27.2)))))))) λx23=>(Z x23)) (bq (Sx.op x.1) 7 (aA (dg y1.1) λy30=>(Z (y30,A.2.1,A.a,A.h))) (bq (Sx.op x.1) 8 (jn (aI y1.1 (aA (dg J) λy32=>(aH (y32,A.2.1,A.a,A.h))) (aA (dg y2.1) λy33=>(aH (y33,A.2.1,A.a,A.h)))) λx31=>(Z x31)) (jn (bq (Sx.op x.1) 9 (aH ((decide (((Sx.op x.1):Int)=9)),A.2.1,A.a,eP A.b,A.g)) (bq (Sx.op x.1) 10 (aH ((decide (((Sx.op x.1):Int)=10)),A.2.1,A.a,eP A.b,A.g)) (aH ((decide (((Sx.op x.1):Int)=11)),A.2.1,A.a,eP A.b,A.g)))) λz=>(aI z.1 (aA (ip (z.c,x.2.1.2.2,(Sx.name z.b),5,5)) λy35=>(jP y35 0 (Z (y35,z.2.1,z.a,z.h)) (aA (jF (z.c.1,(Sx.name z.b))) λy36=>(bZ KC z.c.1 y36 λz37=>(aA (eu ((4,4,z37.2.2.2.2.2),z.2.1,z.a,z.h)) λy38=>(bT (ax (aj z.n) (aj y38.g)&&(ax (aj z.d) (aj y38.b)&&(((z.a.1==y38.a.1)&&J)&&ax (aj z.a.2) (aj y38.a.2)&&J))) (jn (aI y1.1 (aA (dg J) λy40=>(aH (y40,y38.2))) (aI (!y38.1) (aA (dg J) λy41=>(aH (y41,y38.2))) (bq (Sx.op z.b) 9 (aA (dg y2.1) λy42=>(aH (y42,y38.2))) (aA (dg af) λy43=>(aH (y43,y38.2)))))) λx39=>(Z x39)))))))) (bq (Sx.op x.1) 12 (aA (ip (z.c,x.2.1.2.2,(Sx.name z.b),7,7)) λy44=>(jP y44 0 (Z (y44,z.2.1,z.a,z.h)) (aA (je (z.c.2,(Sx.name z.b))) λy45=>(jn (aI y1.1 (aH (J,z.2.1,z.a,eP z.b,z.h)) (aI y2.1 (aH (J,z.2.1,z.a,eP z.b,z.h)) (aI y3.1 (aH (J,z.2.1,z.a,eP z.b,z.h)) (bq y45 x.2.1.2.2 (aH (J,z.2.1,z.a,eP z.b,z.h)) (aH ((decide ((y45:Int)=0)),z.2.1,z.a,eP z.b,z.h)))))) λL=>(aI L.1 (Z (7,L.2.1,L.a,L.g)) (aA (ku (L.c,(Sx.name L.b))) λy47=>(kB 0 y47 (Z (8,L.2.1,L.a,L.g)) (bT (bc (aj L.c+aj ([(Sx.name L.b)])) 16) (Z (0,L.2.1,L.a,(L.c++([(Sx.name L.b)])),L.h)))))))))) (bq (Sx.op x.1) 13 (jn (α:=Q?) (aA (ip (z.c,x.2.1.2.2,(Sx.name z.b),7,7)) λy49=>(aI y1.1 (aA (dg J) λy50=>(aA (jV (y49,y50)) λy51=>(aH (y51,z.2.1,z.a,z.h)))) (aI y2.1 (aA (dg J) λy52=>(aA (jV (y49,y52)) λy53=>(aH (y53,z.2.1,z.a,z.h)))) (aA (je (z.c.2,(Sx.name z.b))) λy54=>(aA (dg (decide ((y54:Int)=x.2.1.2.2))) λy55=>(aA (jV (y49,y55)) λy56=>(aH (y56,z.2.1,z.a,z.h)))))))) λx48=>(Z x48)) (bq (Sx.op x.1) 14 (jn (α:=F!) (aA (ip (z.c,x.2.1.2.2,(Sx.name z.b),6,6)) λy58=>(aI y1.1 (aA (dg J) λy59=>(aA (jV (y58,y59)) λy60=>(aH (y60,z.2.1,z.a,eP z.b,z.g)))) (aA (dg y3.1) λy61=>(aA (jV (y58,y61)) λy62=>(aH (y62,z.2.1,z.a,eP z.b,z.g)))))) λx57=>(jn (α:=F!) (jn (bq x57.1 0 (aA (ku (x57.n,(Sx.name x57.b))) λy65=>(aH ((db 0 y65),x57.2.1,x57.a,eP x57.b,x57.g))) (aH (af,x57.2.1,x57.a,eP x57.b,x57.g))) λx64=>(aI x64.1 (aH (8,x64.2.1,x64.a,eP x64.b,x64.g)) (aH (x57.1,x64.2.1,x64.a,eP x64.b,x64.g)))) λx63=>(bT (bc (aj x63.n+aj ([(Sx.name x63.b)])) 16) (aA (oZ (x63.c,x.2.1.2.2,eL ((Xp.op (Sx.expr x63.b)),(Xp.n (Sx.expr x63.b)),(Xp.name (Sx.expr x63.b)),(Xp.l (Sx.expr x63.b))))) λy66=>(aA (jV (x63.1,y66)) λy67=>(Z (y67,x63.2.1,x63.a,x63.d,(x63.n++([(Sx.name x63.b)]))))))))) (aA (ip (z.c,x.2.1.2.2,(Sx.name z.b),8,8)) λy68=>(aA (ip (z.c,x.2.1.2.2,(Sx.arg z.b),6,6)) λy69=>(aA (dg y1.1) λy70=>(aA (jV (y69,y70)) λy71=>(aA (jV (y68,y71)) λy72=>(Z (y72,z.2.1,z.a,z.h))))))))))))))))))))))))))
abbrev L?:=(Y Sx)×e?
def nP (rr04_walk_all:L?->M apn) (x:L?):M apn:=
 (iter (σ:=Q?) (λL=>(bU L.1 (aZ x.1) (bZ (.sm) x.1 L.1 λz2=>(aA (nL (eP z2,L.2)) λy3=>(bT (ax (aj L.g) (aj L.g)&&(ax (aj L.b) (aj L.b)&&(((L.a.1==y3.a.1)&&J)&&ax (aj L.a.2) (aj y3.a.2)&&J))) (jn (α:=Int×Aa×Sx×(Bool×Y Sx)×dm×Y ζ) (bU 6 (bm .i64 ((aZ y3.a.2)+1)) (aH (2,y3.2.1,eP z2,y3.2.2)) (aH (y3.1,y3.2.1,eP z2,y3.2.2))) λz=>(jP z.1 0 (aH ((z.1,(Sx.line z.a)),z.2.1,z.e)) (bT (bc (aj z.b.2+aj ([o8 (0,0,[],[],([]:Y Xp),eL (0,0,[],([]:Y Xp)),([]:Y Sx),([]:Y Sx))])) 176) (ck (dL (aZ z.b.2) (aj (z.b.2++([o8 (0,0,[],[],([]:Y Xp),eL (0,0,[],([]:Y Xp)),([]:Y Sx),([]:Y Sx))])))) (aA (rr04_walk_all ((Sx.body z.a),z.2.1,(z.b.1,(cg (z.b.2++([o8 (0,0,[],[],([]:Y Xp),eL (0,0,[],([]:Y Xp)),([]:Y Sx),([]:Y Sx))])) (aZ z.b.2) (eP z.a))),z.g)) λD=>(bT (ax (aj z.h) (aj z.h)&&(ax (aj z.c) (aj z.c)&&(((z.b.1==z.b.1)&&J)&&ax (aj (cg (z.b.2++([o8 (0,0,[],[],([]:Y Xp),eL (0,0,[],([]:Y Xp)),([]:Y Sx),([]:Y Sx))])) (aZ z.b.2) (eP z.a))) (aj (cg (z.b.2++([o8 (0,0,[],[],([]:Y Xp),eL (0,0,[],([]:Y Xp)),([]:Y Sx),([]:Y Sx))])) (aZ z.b.2) (eP z.a)))&&J))) (jn (bq D.1.1 0 (aA (rr04_walk_all ((Sx.els z.a),D.2)) λy7=>(bT (ax (aj D.g) (aj D.g)&&(ax (aj D.b) (aj D.b)&&(((D.a.1==D.a.1)&&J)&&ax (aj D.a.2) (aj D.a.2)&&J))) (aH y7))) (aH D)) λA=>(bT (db 0 (bm .i64 ((aZ A.a.2)-1))&&gD (bm .i64 ((aZ A.a.2)-1)) (aj A.a.2)) (jP A.1.1 0 (aH (A.1,A.2.1,(af,(dP (aN (bm .i64 ((aZ A.a.2)-1))) A.a.2)),A.e)) (c5 ((cS L.1),A.2.1,(af,(dP (aN (bm .i64 ((aZ A.a.2)-1))) A.a.2)),A.e)))))))))))))) (aH ((0,0),L.2)))) (0,x.2))
def ju:Nat->(L?)->M apn
 |0,_=>U
 |n+1,x=>nP (ju n) x
def Fl (n:Nat) (x:L?):ju (n+1) x=nP (ju n) x:=rfl
def ya (x:L?):M apn:=ju fuel x
def AS (rr04_Count:(Y Sx)->M (Int)) (x:Y Sx):M (Int):=
 (iter (σ:=ν) (λz=>(bU z.2 (aZ x) (mK z.2 x (lt (Sx.body (geti (.sm) x z.2)) λD=>(aA (rr04_Count D) λy3=>(mK z.2 x (lt (Sx.els (geti (.sm) x z.2)) λA=>(aA (rr04_Count A) λL=>(c5 ((bm .i64 ((bm .i64 (z.1+y3))+L)),(cS z.2))))))))) (aH z.1))) ((aZ x),0))
def oL:Nat->(Y Sx)->M (Int)
 |0,_=>U
 |n+1,x=>AS (oL n) x
def K6 (n:Nat) (x:Y Sx):oL (n+1) x=AS (oL n) x:=rfl
def E9 (x:Y Sx):M (Int):=oL fuel x
abbrev u?:=Int×Int×j?
def s9 (x:Y au0):M ν:=
 (iter (σ:=υ) (λz=>(bU z.g (aZ x) (jn (α:=u?) (bZ KC x z.g λA=>(bT (db 0 z.g&&db z.g (aj x)) (aA (jF ((dP (aN z.g) x),A.a)) λy4=>(kB 0 y4 (c5 (b8 (4,A.2.1))) (bU 4 A.b (c5 (b8 (2,A.2.1))) (jn (jn (bq A.1 1 (aH ((decide ((A.1:Int)=1)),A)) (aH ((decide ((A.1:Int)=2)),A))) λx6=>(aI x6.1 (aH (((bm .i64 (z.1+(jR x6.c 1))),z.2.1,z.a,z.b),x6.2)) (jn (bq A.1 3 (aH ((decide ((A.1:Int)=3)),x6.2)) (aH ((decide ((A.1:Int)=4)),x6.2))) λx7=>(aI x7.1 (aH ((z.1,(cS z.2.1),z.a,z.b),x7.2)) (bq A.1 5 (aH ((z.1,z.2.1,(cS z.a),z.b),x7.2)) (aH ((z.1,z.2.1,z.a,(cS z.b)),x7.2))))))) λD=>(jn (bU 12 D.1.1 (aH (J,D.2)) (bU 4 D.1.2.1 (aH (J,D.2)) (bU 2 D.1.a (aH (J,D.2)) (aH ((gD 2 D.1.e),D.2))))) λL=>(aI L.1 (c5 (b8 (2,L.a))) (bq L.2.1 5 (bT (db 0 z.g&&db z.g (aj x)) (aA (jF ((dP (aN z.g) x),L.n)) λy9=>(bU y9 0 (c5 (b8 (5,L.a))) (bZ KC x y9 λz10=>(jP z10.1 3 (c5 (b8 (6,L.a))) (aH D.1)))))) (aH D.1)))))))))) λx2=>(c5 (x2.1,x2.2.1,x2.a,x2.e,(cS z.g)))) (aH (0,0)))) (0,0,0,0,0))
def oY (x:B!):M ν:=
 (iter (σ:=Int×B!) (λA=>(bU A.1 (aZ A.2.2) (bZ uW A.2.2 A.1 λz2=>(jn (aA (jF (A.2.1,z2.1)) λy4=>(kB 0 y4 (aH (J,A.2,z2)) (bT (db 0 A.1&&db A.1 (aj A.2.2)) (aA (je ((dP (aN A.1) A.2.2),z2.1)) λy5=>(aH ((db 0 y5),A.2,z2)))))) λx3=>(aI x3.1 (aH (4,x3.b)) (c5 ((cS A.1),x3.2.1))))) (aA (iter (σ:=Int×B!) (λL=>(bU L.1 (aZ L.2.2) (bZ uW L.2.2 L.1 λz7=>(bU 4 (aZ z7.a) (aH (2,z7.2.1)) (iter (σ:=K?) (λz=>(bU z.1 (aZ z.c) (bZ (.str) z.c z.1 λz9=>(jn (aA (jF (z.2.1.1,z9)) λy11=>(kB 0 y11 (aH (J,z.2)) (aA (je (z.2.1.2,z9)) λy12=>(kB 0 y12 (aH (J,z.2)) (bT (db 0 z.1&&db z.1 (aj z.c)) (aA (ku ((dP (aN z.1) z.c),z9)) λy13=>(aH ((db 0 y13),z.2)))))))) λD=>(aI D.1 (aH (b8 (4,D.b))) (c5 ((cS z.1),D.2))))) (aH (rB ((cS L.1),z.2.1))))) (0,L.2,z7)))) (aH (0,0)))) (0,A.2)) λr=>Z (b8 r)))) (0,x))
def gm (x:B!):M ν:=
 (aA (rc x) λy1=>(aI (!y1) (Z (3,0)) (aA (s9 x.1) λy2=>(jP y2.1 0 (Z y2) (bU 4 (aZ x.2) (Z (2,0)) (aA (oY x) λL=>(jP L.1 0 (Z L) (iter (σ:=(ν)×B!) (λA=>(bU A.1.2 (aZ A.2.2) (bZ uW A.2.2 A.1.2 λz5=>(aA (E9 z5.2.2.2) λy6=>(c5 (((bm .i64 (A.1.1+y6)),(cS A.1.2)),A.2)))) (aA (bU 60 A.1.1 (Z (2,0)) (iter (σ:=Int×(z_×Y zZ)×e?) (λz=>(bU z.1 (aZ z.2.1.2) (bZ uW z.2.1.2 z.1 λz8=>(aA (ya (z8.2.2.2,(z.a.1,z.a.2.1,z.1),z.e)) λD=>(bT (ax (aj z.h) (aj z.h)&&(ax (aj z.c) (aj z.c)&&(((z.b.1==z.b.1)&&J)&&ax (aj z.b.2) (aj z.b.2)&&J))) (jP D.1.1 0 (aH D.1) (c5 ((cS z.1),z.2.1,D.2)))))) (aH (0,0)))) (0,A.2,(A.2.1,A.2.2,0),(J,([]:Y Sx)),([]:Y ζ),([]:Y ζ)))) λr=>Z (b8 r)))) ((0,0),x)))))))))
abbrev y?:=(Int×Int×Y Sx)×Y π
abbrev W!:=Int×Y π
def AO (rr06_sites:y?->M W!) (x:y?):M W!:=
 (iter (σ:=(ν)×Y π) (λz=>(bU z.1.2 (aZ x.1.2.2) (mK z.1.2 x.1.2.2 (lt (Sx.line (geti (.sm) x.1.2.2 z.1.2)) λA=>(bT (bc (aj z.2+aj ([(x.1.1,z.1.1,A)])) 24) (mK z.1.2 x.1.2.2 (lt (Sx.body (geti (.sm) x.1.2.2 z.1.2)) λz3=>(aA (rr06_sites ((x.1.1,(cS z.1.1),z3),(z.2++([(x.1.1,z.1.1,A)])))) λD=>(bT (ax (aj (z.2++([(x.1.1,z.1.1,A)]))) (aj (z.2++([(x.1.1,z.1.1,A)])))&&J) (mK z.1.2 x.1.2.2 (lt (Sx.els (geti (.sm) x.1.2.2 z.1.2)) λz5=>(aA (rr06_sites ((x.1.1,D.1,z5),D.2)) λL=>(bT (ax (aj D.2) (aj D.2)&&J) (c5 ((L.1,(cS z.1.2)),L.2))))))))))))) (aH (z.1.1,z.2)))) ((x.1.2.1,0),x.2))
def qR:Nat->(y?)->M W!
 |0,_=>U
 |n+1,x=>AO (qR n) x
def K4 (n:Nat) (x:y?):qR (n+1) x=AO (qR n) x:=rfl
def MD (x:y?):M W!:=qR fuel x
def mN (x:nk×ζ):M (Int):=
 (iter (σ:=Int) (λz=>(bU z (aZ x.1) (bZ tK x.1 z λA=>(aI (decide ((A.1:ζ)=x.2)) (aH z) (c5 (cS z)))) (aH (-1)))) 0)
abbrev F?:=Int×b?
def oH (x:fA×ζ):M (Int):=
 (iter (σ:=F?) (λz=>(bU z.1 (aZ z.2.1) (bZ l7 z.2.1 z.1 λA=>(aI (decide ((A.1:ζ)=x.2)) (aH z.1) (c5 ((cS z.1),z.2)))) (aH (-1)))) (0,x.1))
abbrev J!:=nV×nk×(Y kj)×Y ζ
def wh (x:B!):M fA:=
 (aA (gm x) λy1=>(jP y1.1 0 (Z (([]:Y X2),([]:Y H!),([]:Y kj),([]:Y ζ),([]:Y ζ),([]:Y π))) (iter (σ:=Int×(z_×Y zZ)×J!) (λL=>(bU L.1 (aZ L.2.1.1) (bZ KC L.2.1.1 L.1 λz3=>(jn (α:=(z_×Y zZ)×J!) (jn (bq z3.1 1 (aH ((decide ((z3.1:Int)=1)),L.2.1,z3,L.2.2)) (aH ((decide ((z3.1:Int)=2)),L.2.1,z3,L.2.2))) λx5=>(aI x5.1 (iter (σ:=Int×(z_×Y zZ)×au0×J!) (λA=>(bU A.1 (jR A.a.b 1) (bT (bc (aj A.b+aj ([(A.a.a,A.1,A.a.b,(decide ((A.a.1:Int)=2)),A.a.c)])) 48) (c5 ((cS A.1),A.2.1,A.a,(A.b++([(A.a.a,A.1,A.a.b,(decide ((A.a.1:Int)=2)),A.a.c)])),A.g))) (aH (b8 (A.2.1,A.e))))) (0,x5.2)) (jn (bq z3.1 3 (aH ((decide ((z3.1:Int)=3)),x5.2)) (aH ((decide ((z3.1:Int)=4)),x5.2))) λz=>(aI z.1 (bT (bc (aj z.c+aj ([(z.a.a,(decide ((z.a.1:Int)=4)))])) 24) (aH (z.2.1,z.b,(z.c++([(z.a.a,(decide ((z.a.1:Int)=4)))])),z.h))) (bq z3.1 5 (aA (mN (z.c,z.a.h)) λy8=>(bT (bc (aj z.d+aj ([(z.a.a,y8)])) 24) (aH (z.2.1,z.b,z.c,(z.d++([(z.a.a,y8)])),z.n)))) (bT (bc (aj z.n+aj ([z.a.a])) 16) (aH (z.2.1,z.b,z.c,z.d,(z.n++([z.a.a])))))))))) λx4=>(c5 ((cS L.1),x4)))) (aA (iter (σ:=Int×(z_×Y zZ)×b?) (λD=>(bU D.1 (aZ D.2.1.2) (bZ uW D.2.1.2 D.1 λz10=>(bT (bc (aj D.f+aj ([z10.1])) 16) (bZ uW D.2.1.2 D.1 λz11=>(aA (MD ((D.1,0,z11.2.2.2),D.p)) λy12=>(bT (ax (aj D.p) (aj D.p)&&J) (c5 ((cS D.1),D.2.1,D.a,D.b,D.c,D.d,(D.f++([z10.1])),y12.2))))))) (aH D.2.2))) (0,L.2.1,L.a,L.b,L.c,L.h,([]:Y ζ),([]:Y π))) λr=>Z (b8 r)))) (0,x,([]:Y X2),([]:Y H!),([]:Y kj),([]:Y ζ)))))
abbrev C!:=Int×fA×Y ζ
abbrev N!:=dm×(ζ)×o?
def qK (x:b?):M (dm×Bool):=
 (iter (σ:=C!) (λA=>(bU A.1 (aZ A.2.1.1) (jn (α:=C!) (bZ l7 A.2.1.1 A.1 λL=>(bT (bc (aj A.2.2+aj ([L.1])) 16) (bq L.a 0 (jP L.2.1 0 (c5 (b8 (([]:Y ζ),af))) (aH ((cS A.1),A.2.1,(A.2.2++([L.1]))))) (jn (α:=Bool×fA×N!) (bU L.a 1 (aH (J,A.2.1,(A.2.2++([L.1])),L)) (bU 4 L.a (aH (J,A.2.1,(A.2.2++([L.1])),L)) (aH ((gD (bm .i64 ((aZ A.2.1.1)-A.1)) L.a),A.2.1,(A.2.2++([L.1])),L)))) λx4=>(aI x4.1 (c5 (b8 (([]:Y ζ),af))) (iter (σ:=Int×fA×N!) (λD=>(bU D.1 D.d (bZ l7 D.2.1.1 (bm .i64 (A.1+D.1)) λz6=>(jn (jP z6.2.1 D.1 (aH (J,D.2)) (aI (!decide ((z6.1:ζ)=D.b)) (aH (J,D.2)) (jP z6.a D.d (aH (J,D.2)) (jP z6.g D.p (aH (J,D.2)) (aH (z6.b,D.2)))))) λx7=>(aI x7.1 (aH (rB (b8 (([]:Y ζ),af)))) (c5 ((cS D.1),x7.2))))) (aH (b8 ((bm .i64 (A.1+D.d)),D.2.1,D.a))))) (0,x4.2))))))) λx2=>(c5 x2)) (aA (iter (σ:=C!) (λx8=>(bU x8.1 (aZ x8.2.1.2.1) (bZ tK x8.2.1.2.1 x8.1 λz9=>(bT (bc (aj x8.2.2+aj ([z9.1])) 16) (c5 ((cS x8.1),x8.2.1,(x8.2.2++([z9.1])))))) (aA (iter (σ:=C!) (λz=>(bU z.1 (aZ z.2.1.a) (bZ itK z.2.1.a z.1 λz11=>(bT (bc (aj z.2.2+aj ([z11.1])) 16) (c5 ((cS z.1),z.2.1,(z.2.2++([z11.1])))))) (aA (bT (bc (aj z.2.2+aj z.2.1.b) 16) (bT (bc (aj (z.2.2++z.2.1.b)+aj z.2.1.c) 16) (Z (((z.2.2++z.2.1.b)++z.2.1.c),J)))) λr=>Z (b8 r)))) (0,x8.2)) λr=>Z (b8 r)))) (0,A.2)) λr=>Z (b8 r)))) (0,x,([]:Y ζ)))
def iC (x:b?):M (Bool):=
 (jn (bU 12 (aZ x.1) (aH (J,x)) (bU 4 (aZ x.2.1) (aH (J,x)) (bU 2 (aZ x.a) (aH (J,x)) (bU 2 (aZ x.b) (aH (J,x)) (bU (aZ x.c) 1 (aH (J,x)) (bU 4 (aZ x.c) (aH (J,x)) (aH ((gD 60 (aZ x.h)),x)))))))) λx1=>(aI x1.1 (Z af) (aA (qK x1.2) λy2=>(aI (!y2.2) (Z af) (iter (σ:=F?) (λx3=>(bU x3.1 (aZ y2.1) (jn (bZ (.str) y2.1 x3.1 λz5=>(aA (f_ z5) λy6=>(aI (!y6) (aH (J,x3.2)) (bT (db 0 x3.1&&db x3.1 (aj y2.1)) (bZ (.str) y2.1 x3.1 λz7=>(aA (ku ((dP (aN x3.1) y2.1),z7)) λy8=>(aH ((db 0 y8),x3.2)))))))) λx4=>(aI x4.1 (aH af) (c5 ((cS x3.1),x4.2)))) (aA (iter (σ:=F?) (λD=>(bU D.1 (aZ D.b) (bZ itK D.b D.1 λz10=>(jn (bU z10.2 0 (aH (J,D.2)) (kB (aZ D.a) z10.2 (aH (J,D.2)) (bZ tK D.a z10.2 λz12=>(aH (z12.2,D.2))))) λx11=>(aI x11.1 (aH af) (c5 ((cS D.1),x11.2))))) (aA (iter (σ:=F?) (λz=>(bU z.1 (aZ z.n) (jn (bZ pW z.n z.1 λz15=>(jn (bU z15.1 0 (aH (J,z.2,z15)) (aH ((db (aZ z.d) z15.1),z.2,z15))) λL=>(aI L.1 (c5 (b8 af)) (jn (bq z.1 0 (aH (J,L.2)) (bZ pW L.2.1.h (bm .i64 (z.1-1)) λz18=>(aH ((!decide ((z18.1:Int)=L.a)),L.2)))) λA=>(aI A.1 (jn (jP A.b 0 (aH (J,A.2.1)) (bU 0 z.1 (bZ pW A.2.1.h (bm .i64 (z.1-1)) λz20=>(aH ((gD A.a z20.1),A.2.1))) (aH (af,A.2.1)))) λx19=>(aI x19.1 (c5 (b8 af)) (aH x19.2))) (bZ pW A.2.1.h (bm .i64 (z.1-1)) λz21=>(jP A.b (cS z21.2.1) (c5 (b8 af)) (aH A.2.1)))))))) λx14=>(c5 ((cS z.1),x14))) (aH J))) (0,D.2)) λr=>Z (b8 r)))) (0,x3.2)) λr=>Z (b8 r)))) (0,x1.2))))))
def kN (x:ω):M η:=
 (jn (bq x.1 1 (aH ((decide ((x.1:Int)=1)),x)) (bq x.1 6 (aH ((decide ((x.1:Int)=6)),x)) (bq x.1 10 (aH ((decide ((x.1:Int)=10)),x)) (aH ((decide ((x.1:Int)=27)),x))))) λD=>(aI D.1 (Z ([D.a])) (jn (bq x.1 2 (aH ((decide ((x.1:Int)=2)),D.2)) (aH ((decide ((x.1:Int)=3)),D.2))) λz=>(aI z.1 (Z ([z.a,z.b])) (bq x.1 4 (Z ([z.a,z.b,z.c])) (bq x.1 7 (Z ([z.a,z.c])) (jn (bq x.1 8 (aH ((decide ((x.1:Int)=8)),z.2)) (aH ((decide ((x.1:Int)=26)),z.2))) λA=>(aI A.1 (Z ([A.b])) (bq x.1 9 (Z ([A.b,A.c])) (Z ([]:η)))))))))))
def q_ (x:Int):M (Bool):=
 (jn (kB 1 x (aH (db x 5)) (aH af)) λz=>(Z z))
def qL (x:(Y mG)×Int):M (Bool):=
 (iter (σ:=ν) (λz=>(kB z.2 (aZ x.1) (jn (jn (bU z.1 0 (aH J) (aH (db (aZ x.1) z.1))) λx3=>(aI x3 (c5 (b8 af)) (bZ sJ x.1 z.1 λL=>(aA (q_ L.1) λy5=>(aI (!y5) (c5 (b8 J)) (bZ sJ x.1 z.1 λD=>(bq D.1 5 (bZ sJ x.1 z.1 λA=>(aH A.2.1)) (aH (cS z.1))))))))) λx2=>(c5 (x2,(cS z.2)))) (aH af))) (x.2,0))
def kr (x:ν):M (Bool):=
 (jn (kB 0 x.1 (aH (gD x.1 x.2)) (aH af)) λz=>(Z z))
def qM (x:fA×j?):M (Bool):=
 (jn (aA (kr (x.2.1,(aZ x.1.1))) λL=>(aI L (bZ l7 x.1.1 x.2.1 λD=>(bq D.2.1 0 (bZ l7 x.1.1 x.2.1 λA=>(jP A.2.2.1 0 (bZ l7 x.1.1 x.2.1 λz=>(aH (decide ((z.2.2.1:Int)=x.2.2)))) (aH af))) (aH af))) (aH af))) λx1=>(Z x1))
def mV (x:fA×Int×Int×u?):M (Bool):=
 (bq x.2.1 6 (jn (aA (kr (x.b,(aZ x.1.1))) λy2=>(aI y2 (bZ l7 x.1.1 x.b λz3=>(aH (decide ((z3.2.2.1:Int)=0)))) (aH af))) λx1=>(Z x1)) (bq x.2.1 8 (jn (aA (kr (x.a,(aZ x.1.1))) λy5=>(aI y5 (bZ l7 x.1.1 x.a λz6=>(aH (decide ((z6.2.2.1:Int)=0)))) (aH af))) λx4=>(Z x4)) (bq x.2.1 7 (aA (qM (x.1,x.b,x.d)) λy7=>(Z y7)) (bq x.2.1 9 (aA (qM (x.1,x.a,x.d)) λy8=>(Z y8)) (jn (bq x.2.1 11 (aH ((decide ((x.2.1:Int)=11)),x)) (aH ((decide ((x.2.1:Int)=12)),x))) λL=>(aI L.1 (jn (aA (kr (L.b,(aZ L.2.1.2.1))) λy11=>(aI y11 (bZ tK L.2.1.2.1 L.b λz12=>(aH (!z12.2))) (aH af))) λx10=>(Z x10)) (jn (bq x.2.1 13 (aH ((decide ((x.2.1:Int)=13)),L.2)) (bq x.2.1 14 (aH ((decide ((x.2.1:Int)=14)),L.2)) (bq x.2.1 15 (aH ((decide ((x.2.1:Int)=15)),L.2)) (aH ((decide ((x.2.1:Int)=16)),L.2))))) λA=>(aI A.1 (jn (aA (kr (A.b,(aZ A.2.1.2.1))) λy15=>(aI y15 (bZ tK A.2.1.2.1 A.b λz16=>(aH z16.2)) (aH af))) λx14=>(Z x14)) (jn (bq x.2.1 21 (aH ((decide ((x.2.1:Int)=21)),A.2)) (bq x.2.1 22 (aH ((decide ((x.2.1:Int)=22)),A.2)) (aH ((decide ((x.2.1:Int)=23)),A.2)))) λD=>(aI D.1 (aA (kr (D.b,(aZ D.2.1.a))) λy18=>(Z y18)) (jn (bq x.2.1 24 (aH ((decide ((x.2.1:Int)=24)),D.2)) (aH ((decide ((x.2.1:Int)=25)),D.2))) λz=>(aI z.1 (aA (kr (z.b,(aZ z.2.1.c))) λy20=>(Z y20)) (bq x.2.1 26 (aA (kr (z.b,(aZ z.2.1.b))) λy21=>(Z y21)) (bq x.2.1 27 (aA (kr (z.c,(aZ z.2.1.b))) λy22=>(Z y22)) (bq x.2.1 3 (jn (bq z.f 4 (aH J) (aH (decide ((z.f:Int)=5)))) λx23=>(Z x23)) (bq x.2.1 4 (jn (kB 6 z.f (aH (db z.f 18)) (aH af)) λx24=>(Z x24)) (Z J)))))))))))))))))
abbrev O!:=Int×Y mG
def iT (x:fA×Int×O!):M (Bool):=
 (jn (bU x.a 0 (aH (J,x.1,x.2.2)) (bU 32 x.a (aH (J,x.1,x.2.2)) (aH ((decide (((aZ x.e):Int)=0)),x.1,x.2.2)))) λx1=>(aI x1.1 (Z af) (iter (σ:=Int×fA×O!) (λA=>(bU A.1 (aZ x.e) (bZ sJ A.e A.1 λz3=>(jn (bU z3.1 1 (aH (J,A.2.1,A.2.2,z3)) (bU 28 z3.1 (aH (J,A.2.1,A.2.2,z3)) (aI (((decide ((z3.1:Int)=28))==(decide ((A.1:Int)=(bm .i64 ((aZ x.e)-1))))) !=J) (aH (J,A.2.1,A.2.2,z3)) (aA (mV (A.2.1,z3)) λy5=>(aI (!y5) (aH (J,A.2.1,A.2.2,z3)) (aA (qL (A.e,A.1)) λy6=>(aH ((!y6),A.2.1,A.2.2,z3)))))))) λz=>(aI z.1 (aH af) (jn (α:=Bool×fA×(Int×Y mG)×Int×Int×u?) (bq z.b 28 (jP z.r (-1) (aH (J,z.2)) (jP z.b 28 (aA (kr (z.r,(aZ z.2.1.h))) λy8=>(aI (!y8) (aH (J,z.2)) (bZ pW z.2.1.h z.r λz9=>(aH ((!decide ((z9.1:Int)=x.2.1)),z.2))))) (aH (af,z.2)))) (jP z.b 28 (aA (kr (z.r,(aZ z.2.1.h))) λy10=>(aI (!y10) (aH (J,z.2)) (bZ pW z.2.1.h z.r λz11=>(aH ((!decide ((z11.1:Int)=x.2.1)),z.2))))) (aH (af,z.2)))) λL=>(aI L.1 (aH af) (jn (bq L.b 5 (aA (kr (L.c,(aZ x.e))) λy13=>(aI (!y13) (aH (J,L.2)) (bq L.b 10 (aA (kr (L.d,(aZ x.e))) λy14=>(aH ((!y14),L.2))) (aH (af,L.2))))) (bq L.b 10 (aA (kr (L.d,(aZ x.e))) λy15=>(aH ((!y15),L.2))) (aH (af,L.2)))) λx12=>(aI x12.1 (aH af) (aA (kN x12.e) λy16=>(iter (σ:=Int×fA×O!) (λD=>(bU D.1 (aZ y16) (bZ aM y16 D.1 λz18=>(aA (kr (z18,D.a)) λy19=>(aI (!y19) (aH (b8 af)) (c5 ((cS D.1),D.2))))) (aH (rB ((cS A.1),D.2))))) (0,x12.2.1,x12.a)))))))))) (aH J))) (0,x1.2))))
def kM (x:A?):M (Bool):=
 (jn (aA (iC x.1) λy2=>(aI (!y2) (aH (J,x)) (aH ((!decide (((aZ x.2):Int)=(aZ x.1.c))),x)))) λA=>(aI A.1 (Z af) (iter (σ:=Int×A?) (λz=>(bU z.1 (aZ z.2.2) (bZ Af z.2.2 z.1 λD=>(aA (iT (z.2.1,z.1,D)) λL=>(aI (!L) (aH af) (c5 ((cS z.1),z.2))))) (aH J))) (0,A.2))))
def cK (x:mG×g?):M g?:=
 (bT (bc (aj x.2.2+aj ([(x.1.1,x.1.2.1,x.1.a,x.1.b,x.1.c,x.2.1.i)])) 48) (Z (x.2.1,(x.2.2++([(x.1.1,x.1.2.1,x.1.a,x.1.b,x.1.c,x.2.1.i)])))))
abbrev G?:=(Xp×Int)×g?
def sh (rr06_gen_value:G?->M g?) (x:G?):M g?:=
 (jn (α:=g?) (bq (Xp.op x.1.1) 1 (aA (cK ((1,x.1.2,0,0,(Xp.n x.1.1),0),x.2)) λy2=>(bT (ax (aj x.2.2) (aj x.2.2)&&J) (aH y2))) (bq (Xp.op x.1.1) 2 (aA (ku (x.2.1.f,(Xp.name x.1.1))) λy3=>(kB 0 y3 (aA (cK ((2,x.1.2,y3,0,0,0),x.2)) λy4=>(bT (ax (aj x.2.2) (aj x.2.2)&&J) (aH y4))) (aA (oH ((x.2.1.1,x.2.1.2.1,x.2.1.a,x.2.1.b,x.2.1.c,x.2.1.d),(Xp.name x.1.1))) λy5=>(aA (cK ((6,x.1.2,y5,0,0,0),x.2)) λy6=>(bT (ax (aj x.2.2) (aj x.2.2)&&J) (aH y6)))))) (bq (Xp.op x.1.1) 3 (bZ (.ex) (Xp.l x.1.1) 0 λz7=>(aA (rr06_gen_value ((z7,x.1.2),x.2)) λz=>(bT (ax (aj x.2.2) (aj x.2.2)&&J) (aA (oH ((z.1.1,z.1.2.1,z.1.a,z.1.b,z.1.c,z.1.d),(Xp.name x.1.1))) λy9=>(bZ l7 z.1.1 y9 λz10=>(aA (cK ((7,x.1.2,y9,x.1.2,z10.2.2.1,0),z)) λy11=>(bT (ax (aj z.2) (aj z.2)&&J) (aH y11)))))))) (bq (aQ (aj (Xp.l x.1.1))) 1 (bZ (.ex) (Xp.l x.1.1) 0 λz12=>(aA (rr06_gen_value ((z12,x.1.2),x.2)) λL=>(bT (ax (aj x.2.2) (aj x.2.2)&&J) (aA (cK ((3,x.1.2,x.1.2,0,(Xp.op x.1.1),0),L)) λy14=>(bT (ax (aj L.2) (aj L.2)&&J) (aH y14)))))) (bZ (.ex) (Xp.l x.1.1) 0 λz15=>(aA (rr06_gen_value ((z15,x.1.2),x.2)) λD=>(bT (ax (aj x.2.2) (aj x.2.2)&&J) (bZ (.ex) (Xp.l x.1.1) 1 λz17=>(aA (rr06_gen_value ((z17,(cS x.1.2)),D)) λA=>(bT (ax (aj D.2) (aj D.2)&&J) (aA (cK ((4,x.1.2,x.1.2,(cS x.1.2),(Xp.op x.1.1),0),A)) λy19=>(bT (ax (aj A.2) (aj A.2)&&J) (aH y19))))))))))))) λx1=>(Z x1))
def jH:Nat->(G?)->M g?
 |0,_=>U
 |n+1,x=>sh (jH n) x
def DU (n:Nat) (x:G?):jH (n+1) x=sh (jH n) x:=rfl
def jE (x:G?):M g?:=jH fuel x
def nC (x:Sx×g?):M g?:=
 (bU 0 (aQ (aj (Sx.index x.1))) (bZ (.ex) (Sx.index x.1) 0 λz1=>(aA (jE ((z1,(aZ x.2.1.f)),x.2)) λD=>(bT (ax (aj x.2.2) (aj x.2.2)&&J) (aA (jE ((eL ((Xp.op (Sx.expr x.1)),(Xp.n (Sx.expr x.1)),(Xp.name (Sx.expr x.1)),(Xp.l (Sx.expr x.1))),(bm .i64 ((aZ x.2.1.f)+1))),D)) λA=>(bT (ax (aj D.2) (aj D.2)&&J) (aA (oH ((A.1.1,A.1.2.1,A.1.a,A.1.b,A.1.c,A.1.d),(Sx.name x.1))) λy4=>(bZ l7 A.1.1 y4 λz5=>(aA (cK ((9,y4,(bm .i64 ((aZ x.2.1.f)+1)),(aZ x.2.1.f),z5.2.2.1,0),A)) λy6=>(bT (ax (aj A.2) (aj A.2)&&J) (Z y6)))))))))) (aA (jE ((eL ((Xp.op (Sx.expr x.1)),(Xp.n (Sx.expr x.1)),(Xp.name (Sx.expr x.1)),(Xp.l (Sx.expr x.1))),(aZ x.2.1.f)),x.2)) λz=>(bT (ax (aj x.2.2) (aj x.2.2)&&J) (aA (ku (z.1.f,(Sx.name x.1))) λy8=>(kB 0 y8 (aA (cK ((2,y8,(aZ x.2.1.f),0,0,0),z)) λy9=>(bT (ax (aj z.2) (aj z.2)&&J) (Z y9))) (aA (oH ((z.1.1,z.1.2.1,z.1.a,z.1.b,z.1.c,z.1.d),(Sx.name x.1))) λy10=>(aA (cK ((8,y10,(aZ x.2.1.f),0,0,0),z)) λL=>(bT (ax (aj z.2) (aj z.2)&&J) (Z L)))))))))
def kD (x:ζ×g?):M (Int×g?):=
 (iter (σ:=Int×g?) (λz=>(bU z.1 (aZ z.2.1.a) (bZ itK z.2.1.a z.1 λA=>(aI (decide ((A.1:ζ)=x.1)) (aH z) (c5 ((cS z.1),z.2)))) (aH ((-1),z.2)))) (0,x.2))
def wE (rr06_gen_stmts:ala->M g?) (rr06_gen_stmt:QF->M g?) (rr06_gen_branches:QF->M g?) (rr06_gen_around:alb->M g?) (x:(Y Sx)×g?):M g?:=
 (iter (σ:=Int×g?) (λz=>(bU z.1 (aZ x.1) (bZ (.sm) x.1 z.1 λA=>(aA (rr06_gen_stmt (A,z.2)) λD=>(bT (ax (aj z.2.2) (aj z.2.2)&&J) (c5 ((cS z.1),D))))) (aH z.2))) (0,x.2))
def tU (rr06_gen_stmts:ala->M g?) (rr06_gen_stmt:QF->M g?) (rr06_gen_branches:QF->M g?) (rr06_gen_around:alb->M g?) (x:Sx×g?):M g?:=
 (jn (α:=g?) (bq (Sx.op x.1) 1 (aA (nC (eP x.1,(x.2.1.1,x.2.1.2.1,x.2.1.a,x.2.1.b,x.2.1.c,x.2.1.d,x.2.1.f,x.2.1.r,(cS x.2.1.r)),x.2.2)) λy2=>(bT (ax (aj x.2.2) (aj x.2.2)&&J) (aH y2))) (jn (bq (Sx.op x.1) 2 (aH ((decide (((Sx.op x.1):Int)=2)),(x.2.1.1,x.2.1.2.1,x.2.1.a,x.2.1.b,x.2.1.c,x.2.1.d,x.2.1.f,x.2.1.r,(cS x.2.1.r)),eP x.1,x.2.2)) (aH ((decide (((Sx.op x.1):Int)=3)),(x.2.1.1,x.2.1.2.1,x.2.1.a,x.2.1.b,x.2.1.c,x.2.1.d,x.2.1.f,x.2.1.r,(cS x.2.1.r)),eP x.1,x.2.2))) λz=>(aI z.1 (aA (rr06_gen_branches (eP z.a,z.2.1,z.e)) λy4=>(bT (ax (aj z.e) (aj z.e)&&J) (aH y4))) (bq (Sx.op x.1) 4 (aA (mN (z.2.1.2.1,(Sx.name z.a))) λy5=>(aA (rr06_gen_around ((eP z.a,11,12,y5),z.2.1,z.e)) λy6=>(bT (ax (aj z.e) (aj z.e)&&J) (aH y6)))) (bq (Sx.op x.1) 5 (aA (mN (z.2.1.2.1,(Sx.name z.a))) λy7=>(aA (rr06_gen_around ((eP z.a,13,14,y7),z.2.1,z.e)) λy8=>(bT (ax (aj z.e) (aj z.e)&&J) (aH y8)))) (bq (Sx.op x.1) 6 (aA (mN (z.2.1.2.1,(Sx.name z.a))) λy9=>(aA (rr06_gen_around ((eP z.a,15,16,y9),z.2.1,z.e)) λy10=>(bT (ax (aj z.e) (aj z.e)&&J) (aH y10)))) (bq (Sx.op x.1) 7 (aA (rr06_gen_around ((eP z.a,17,18,0),z.2.1,z.e)) λy11=>(bT (ax (aj z.e) (aj z.e)&&J) (aH y11))) (bq (Sx.op x.1) 8 (aA (rr06_gen_around ((eP z.a,19,20,0),z.2.1,z.e)) λy12=>(bT (ax (aj z.e) (aj z.e)&&J) (aH y12))) (bq (Sx.op x.1) 9 (aA (kD ((Sx.name z.a),z.2.1,z.e)) λL=>(bT (ax (aj z.e) (aj L.2.2)&&J) (aA (cK ((21,L.1,0,0,0,0),L.2)) λy14=>(bT (ax (aj L.2.2) (aj L.2.2)&&J) (aH y14))))) (bq (Sx.op x.1) 10 (aA (kD ((Sx.name z.a),z.2.1,z.e)) λD=>(bT (ax (aj z.e) (aj D.2.2)&&J) (aA (cK ((22,D.1,0,0,0,0),D.2)) λy16=>(bT (ax (aj D.2.2) (aj D.2.2)&&J) (aH y16))))) (bq (Sx.op x.1) 11 (aA (kD ((Sx.name z.a),z.2.1,z.e)) λA=>(bT (ax (aj z.e) (aj A.2.2)&&J) (aA (cK ((23,A.1,0,0,0,0),A.2)) λy18=>(bT (ax (aj A.2.2) (aj A.2.2)&&J) (aH y18))))) (bq (Sx.op x.1) 12 (aA (ku (z.2.1.c,(Sx.name z.a))) λy19=>(aA (cK ((24,y19,0,0,0,0),z.2.1,z.e)) λy20=>(bT (ax (aj z.e) (aj z.e)&&J) (aH y20)))) (bq (Sx.op x.1) 13 (aA (ku (z.2.1.c,(Sx.name z.a))) λy21=>(aA (cK ((25,y21,0,0,0,0),z.2.1,z.e)) λy22=>(bT (ax (aj z.e) (aj z.e)&&J) (aH y22)))) (bq (Sx.op x.1) 14 (aA (jE ((eL ((Xp.op (Sx.expr z.a)),(Xp.n (Sx.expr z.a)),(Xp.name (Sx.expr z.a)),(Xp.l (Sx.expr z.a))),(aZ x.2.1.f)),z.2.1,z.e)) λy23=>(bT (ax (aj z.e) (aj z.e)&&J) (aA (ku (y23.1.b,(Sx.name z.a))) λy24=>(aA (cK ((26,y24,(aZ x.2.1.f),0,0,0),y23)) λy25=>(bT (ax (aj y23.2) (aj y23.2)&&J) (aH y25)))))) (bq (Sx.op x.1) 15 (aA (ku (z.2.1.f,(Sx.name z.a))) λy26=>(aA (ku (z.2.1.b,(Sx.arg z.a))) λy27=>(aA (cK ((27,y26,y27,0,0,0),z.2.1,z.e)) λy28=>(bT (ax (aj z.e) (aj z.e)&&J) (aH y28))))) (aH (z.2.1,z.e))))))))))))))))) λx1=>(Z x1))
def oa (rr06_gen_stmts:ala->M g?) (rr06_gen_stmt:QF->M g?) (rr06_gen_branches:QF->M g?) (rr06_gen_around:alb->M g?) (x:Sx×g?):M g?:=
 (aA (jE ((eL ((Xp.op (Sx.expr x.1)),(Xp.n (Sx.expr x.1)),(Xp.name (Sx.expr x.1)),(Xp.l (Sx.expr x.1))),(aZ x.2.1.f)),x.2)) λA=>(bT (ax (aj x.2.2) (aj x.2.2)&&J) (aA (cK ((10,(aZ A.1.f),0,0,0,0),A)) λy2=>(bT (ax (aj A.2) (aj A.2)&&J) (aA (rr06_gen_stmts ((Sx.body x.1),y2)) λz=>(bT (ax (aj y2.2) (aj y2.2)&&J) (bq (Sx.op x.1) 3 (aA (cK ((5,(aZ x.2.2),0,0,0,0),(z.1.1,z.1.2.1,z.1.a,z.1.b,z.1.c,z.1.d,z.1.f,x.2.1.i,z.1.r),z.2)) λL=>(bT (ax (aj z.2) (aj z.2)&&J) (ck (dL (aZ A.2) (aj L.2)) (Z (L.1,(cg L.2 (aZ A.2) ((geti sJ L.2 (aZ A.2)).1,((geti sJ L.2 (aZ A.2)).2).1,(aZ L.2),(((geti sJ L.2 (aZ A.2)).2).2).2))))))) (bq (aQ (aj (Sx.els x.1))) 0 (ck (dL (aZ A.2) (aj z.2)) (Z ((z.1.1,z.1.2.1,z.1.a,z.1.b,z.1.c,z.1.d,z.1.f,x.2.1.i,z.1.r),(cg z.2 (aZ A.2) ((geti sJ z.2 (aZ A.2)).1,((geti sJ z.2 (aZ A.2)).2).1,(aZ z.2),(((geti sJ z.2 (aZ A.2)).2).2).2))))) (aA (cK ((5,0,0,0,0,0),(z.1.1,z.1.2.1,z.1.a,z.1.b,z.1.c,z.1.d,z.1.f,x.2.1.i,z.1.r),z.2)) λD=>(bT (ax (aj z.2) (aj z.2)&&J) (ck (dL (aZ A.2) (aj D.2)) (aA (rr06_gen_stmts ((Sx.els x.1),D.1,(cg D.2 (aZ A.2) ((geti sJ D.2 (aZ A.2)).1,((geti sJ D.2 (aZ A.2)).2).1,(aZ D.2),(((geti sJ D.2 (aZ A.2)).2).2).2)))) λy6=>(bT (ax (aj (cg D.2 (aZ A.2) ((geti sJ D.2 (aZ A.2)).1,((geti sJ D.2 (aZ A.2)).2).1,(aZ D.2),(((geti sJ D.2 (aZ A.2)).2).2).2))) (aj (cg D.2 (aZ A.2) ((geti sJ D.2 (aZ A.2)).1,((geti sJ D.2 (aZ A.2)).2).1,(aZ D.2),(((geti sJ D.2 (aZ A.2)).2).2).2)))&&J) (ck (dL (aZ z.2) (aj y6.2)) (Z (y6.1,(cg y6.2 (aZ z.2) ((geti sJ y6.2 (aZ z.2)).1,(aZ y6.2),((geti sJ y6.2 (aZ z.2)).2).2))))))))))))))))))
def uR (rr06_gen_stmts:ala->M g?) (rr06_gen_stmt:QF->M g?) (rr06_gen_branches:QF->M g?) (rr06_gen_around:alb->M g?) (x:V?):M g?:=
 (aA (cK ((x.1.2.1,x.1.e,0,0,0,0),x.2)) λA=>(bT (ax (aj x.2.2) (aj x.2.2)&&J) (aA (rr06_gen_stmts ((Sx.body x.1.1),A)) λz=>(bT (ax (aj A.2) (aj A.2)&&J) (aA (cK ((x.1.a,x.1.e,0,0,0,0),(z.1.1,z.1.2.1,z.1.a,z.1.b,z.1.c,z.1.d,z.1.f,x.2.1.i,z.1.r),z.2)) λD=>(bT (ax (aj z.2) (aj z.2)&&J) (Z D)))))))
mutual
def dZ:Nat->ala->M g?
 |0,_=>U
 |n+1,x=>wE (dZ n) (fh n) (dl n) (dU n) x
def fh:Nat->QF->M g?
 |0,_=>U
 |n+1,x=>tU (dZ n) (fh n) (dl n) (dU n) x
def dl:Nat->QF->M g?
 |0,_=>U
 |n+1,x=>oa (dZ n) (fh n) (dl n) (dU n) x
def dU:Nat->alb->M g?
 |0,_=>U
 |n+1,x=>uR (dZ n) (fh n) (dl n) (dU n) x
end
def wg (x:(Y Sx)×g?):M g?:=dZ fuel x
abbrev D?:=Int×(z_×Y zZ)×fA×t7×Int×(Y (Int×Y mG))×Y mG
def rV (x:B!):M (FB×j?):=
 (aA (gm x) λy1=>(jP y1.1 0 (Z (((([]:Y X2),([]:Y H!),([]:Y kj),([]:Y ζ),([]:Y ζ),([]:Y π)),([]:Y O!)),y1)) (aA (wh x) λy2=>(iter (σ:=(ν)×(z_×Y zZ)×A?) (λA=>(bU A.1.2 (aZ A.2.1.2) (bZ uW A.2.1.2 A.1.2 λz4=>(bZ uW A.2.1.2 A.1.2 λz5=>(aA (wg (z5.2.2.2,(A.a.1,A.a.2.1,A.a.a,A.a.b,A.a.c,A.a.h,z4.2.2.1,0,A.1.1),([]:Y mG))) λL=>(bT (ax (aj ([]:Y mG)) (aj ([]:Y mG))&&J) (aA (cK ((28,0,0,0,0,0),(L.1.1,L.1.2.1,L.1.a,L.1.b,L.1.c,L.1.d,L.1.f,(-1),L.1.r),L.2)) λy7=>(bT (ax (aj L.2) (aj L.2)&&J) (iter (σ:=D?) (λD=>(bU D.1 (aZ D.n) (kY sJ D.n D.1 λz9=>(aA (kN z9) λy10=>(iter (σ:=D?) (λz=>(bU z.1 (aZ y10) (bZ aM y10 z.1 λz12=>(c5 ((cS z.1),z.2.1,z.a,z.b,(jR z.c (cS z12)),z.h))) (aH (rB ((cS D.1),z.2))))) (0,D.2)))) (aA (bT (bc (aj D.d+aj ([(D.c,D.n)])) 32) (c5 ((L.1.r,(cS A.1.2)),D.2.1,D.a,(D.d++([(D.c,D.n)]))))) λr=>Z (b8 r)))) (0,A.2.1,A.a,y7.1,(aZ y7.1.f),A.e,y7.2)))))))) (aH (A.2.2,0,0)))) ((0,0),x,y2,([]:Y O!))))))
def um (x:o!):M (Bool):=
 (iter (σ:=Int) (λz=>(bU z (aZ x.1) (bZ aM x.1 z λA=>(bq A x.2 (aH J) (c5 (cS z)))) (aH af))) 0)
def yV (x:o!):M η:=
 (iter (σ:=Int) (λz=>(jn (bU z (aZ x.1) (bZ aM x.1 z λD=>(aH (gD D x.2))) (aH af)) λx2=>(aI x2 (c5 (cS z)) (aA (jn (bU z (aZ x.1) (bZ aM x.1 z λA=>(aH (decide ((A:Int)=x.2)))) (aH af)) λL=>(aI L (Z x.1) (bT (db 0 z&&db z (aj x.1)) (bT (bc (aj ([]:η)+aj (dP (aN z) x.1)) 8) (bT (bc (aj (([]:η)++(dP (aN z) x.1))+aj ([x.2])) 8) (bT (db 0 z&&db z (aj x.1)) (bT (bc (aj ((([]:η)++(dP (aN z) x.1))++([x.2]))+aj (List.drop (aN z) x.1)) 8) (Z (((([]:η)++(dP (aN z) x.1))++([x.2]))++(List.drop (aN z) x.1)))))))))) λr=>Z (b8 r))))) 0)
abbrev v!:=η×η
abbrev v?:=(η)×Int
def v_ (x:v!):M η:=
 (iter (σ:=v?) (λA=>(bU A.2 (aZ x.1) (bZ aM x.1 A.2 λL=>(aA (yV (A.1,L)) λy3=>(c5 (y3,(cS A.2))))) (aA (iter (σ:=v?) (λz=>(bU z.2 (aZ x.2) (bZ aM x.2 z.2 λD=>(aA (yV (z.1,D)) λy6=>(c5 (y6,(cS z.2))))) (aH z.1))) (A.1,0)) λr=>Z (b8 r)))) (([]:η),0))
def nK (x:Int):M (Int):=
 (jn (bU x 1 (aH J) (aH (gD 100 x))) λz=>(aI z (Z 0) (Z x)))
abbrev r?:=(η)×Y η
def cw (x:l?):M (ν×r?):=
 (bT (bc (aj ([]:η)+aj x.2.1) 8) (iter (σ:=Int×yn×(ν)×(ν)×r?) (λz=>(bU z.1 (aZ z.2.1.a) (bZ (.sl aM) z.2.1.a z.1 λA=>(bT (bc (aj ([]:η)+aj A) 8) (bT (bc (aj z.h+aj ([(([]:η)++A)])) 24) (c5 ((cS z.1),z.2.1,z.a,z.b,z.c,(z.h++([(([]:η)++A)]))))))) (aH z.e))) (0,x,(0,0),(x.1,x.e),(([]:η)++x.2.1),([]:Y η))))
abbrev S!:=(η)×(Y η)×mG×(ν)×j?
def yU (x:(mG×Int×Int)×r?):M ((ν×Bool)×r?):=
 (aA (kN x.1.1) λy1=>(iter (σ:=Int×S!) (λz=>(bU z.1 (aZ y1) (jn (bZ aM y1 z.1 λz4=>(bU z4 0 (aH (J,z.2)) (bZ aM y1 z.1 λz5=>(aH ((db (aZ z.2.1) z5),z.2))))) λx3=>(aI x3.1 U (c5 ((cS z.1),x3.2)))) (aA (jn (α:=(Int×Bool×η)×S!) (bq z.b.1 5 (c5 (((z.b.2.1,z.c.2),J),z.2.1,z.a)) (bq z.b.1 1 (aH ((z.b.c,J,([]:η)),z.2)) (bq z.b.1 2 (kY aM z.2.1 z.b.a λz7=>(kY (.sl aM) z.a z.b.a λz8=>(aH ((z7,J,z8),z.2)))) (bq z.b.1 3 (aA (nK z.b.c) λy9=>(kY aM z.2.1 z.b.a λz10=>(aA (wj (y9,z10)) λL=>(kY (.sl aM) z.a z.b.a λz12=>(aH ((L.1,L.2,z12),z.2)))))) (aA (nK z.b.c) λy13=>(kY aM z.2.1 z.b.a λz14=>(kY aM z.2.1 z.b.b λz15=>(aA (xv (y13,z14,z15)) λD=>(kY (.sl aM) z.a z.b.a λz17=>(kY (.sl aM) z.a z.b.b λz18=>(aA (v_ (z17,z18)) λy19=>(aH ((D.1,D.2,y19),z.2))))))))))))) λA=>(bT (bc (aj ([]:η)+aj A.1.2.2) 8) (ck (dL A.b.2.1 (aj A.2.1)) (ck (dL A.b.2.1 (aj A.a)) (Z ((((cS A.c.1),A.c.2),A.1.2.1),(cg A.2.1 A.b.2.1 A.1.1),(cg A.a A.b.2.1 (([]:η)++A.1.2.2)))))))) λr=>Z (b8 r)))) (0,x.2.1,x.2.2,x.1.1,x.1.2,0,0)))
def oG (x:(Int×Y mG)×l?):M (yn×Bool):=
 (jn (α:=Bool×(Int×Y mG)×yn×j?) (jP (aZ x.a) x.1.1 (aH (J,x.1,x.2,0,0)) (aH ((!decide (((aZ x.b):Int)=x.1.1)),x.1,x.2,0,0))) λL=>(aI L.1 (Z ((0,([]:η),([]:Y η),0),af)) (aA (cw L.a) λy2=>(iter (σ:=Int×(Int×Y mG)×(ν)×(ν)×r?) (λA=>(kB A.1 (aZ A.2.1.2) (jn (bU A.a.1 0 (aH (J,A.2)) (aH ((db (aZ A.2.1.2) A.a.1),A.2))) λz=>(aI z.1 (aH ((0,([]:η),([]:Y η),0),af)) (bZ sJ z.2.1.2 z.a.1 λz5=>(aA (q_ z5.1) λy6=>(aI (!y6) (aH ((z.a.1,z.c,z.h,z.a.2),J)) (bq A.1 (aZ z.2.1.2) (aH ((0,([]:η),([]:Y η),0),af)) (aA (yU ((z5,z.a),z.g)) λD=>(bT (ax (aj z.h) (aj D.2.2)&&(ax (aj z.c) (aj D.2.1)&&J)) (aI (!D.1.2) (aH ((0,([]:η),([]:Y η),0),af)) (c5 ((cS A.1),z.2.1,D.1.1,z.b,D.2))))))))))) (aH ((0,([]:η),([]:Y η),0),af)))) (0,L.2.1,y2.1,L.e,y2.2)))))
abbrev s?:=Int×Int×ki×j!
abbrev E!:=ki×j!
def s7 (x:b?):M uH:=
 (iter (σ:=Int×fA×Int×Int×Y (Int×η)) (λD=>(bU D.1 (aZ D.2.1.2.1) (bT (bc (aj D.g+aj ([((-1),([]:η))])) 32) (c5 ((cS D.1),D.2.1,D.a,D.b,(D.g++([((-1),([]:η))]))))) (aA (iter (σ:=Int×fA×Int×Int×ki×θ) (λA=>(bU A.1 (aZ A.2.1.b) (bT (bc (aj A.h+aj ([af])) 1) (c5 ((cS A.1),A.2.1,A.a,A.b,A.c,(A.h++([af]))))) (aA (iter (σ:=Int×fA×s?) (λz=>(bU z.1 (aZ z.2.1.c) (jn (α:=fA×Int×Int×eH×E!) (bq z.1 0 (aH (z.2.1,z.a,z.b,(1,0,af),z.g)) (aH (z.2.1,z.a,z.b,(0,0,af),z.g))) λL=>(bT (bc (aj L.n+aj ([L.b])) 24) (c5 ((cS z.1),L.1,L.2.1,L.a,L.c,L.d,(L.n++([L.b])))))) (aH (z.c,z.b,z.h)))) (0,A.2.1,A.a,A.b,A.c,A.h,([]:Y eH))) λr=>Z (b8 r)))) (0,D.2.1,D.a,D.b,D.g,([]:θ))) λr=>Z (b8 r)))) (0,x,0,(-1),([]:Y k!)))
def s8 (x:fA×x!):M (Bool):=
 (iter (σ:=Int×fA×x!) (λz=>(bU z.1 (aZ z.2.1.a) (jn (bZ itK z.2.1.a z.1 λL=>(bU L.2 0 (aH (J,z.2)) (bZ itK z.2.1.a z.1 λD=>(aH ((db (aZ z.2.1.2.1) D.2),z.2))))) λA=>(aI A.1 (aH af) (c5 ((cS z.1),A.2)))) (aA (jn (bq (aZ z.a) (aZ z.2.1.2.1) (bq (aZ z.c) (aZ z.2.1.b) (aH (decide (((aZ z.h):Int)=(aZ z.2.1.c)))) (aH af)) (aH af)) λx5=>(Z x5)) λr=>Z (b8 r)))) (0,x))
def rU (x:ν):M (Bool):=
 (jn (kB 0 x.1 (aH (gD x.1 x.2)) (aH af)) λz=>(Z z))
def v9 (x:fA×j?):M (Bool):=
 (jn (bq x.2.1 1 (aH ((decide ((x.2.1:Int)=1)),x.1)) (bq x.2.1 2 (aH ((decide ((x.2.1:Int)=2)),x.1)) (bq x.2.1 5 (aH ((decide ((x.2.1:Int)=5)),x.1)) (bq x.2.1 12 (aH ((decide ((x.2.1:Int)=12)),x.1)) (bq x.2.1 13 (aH ((decide ((x.2.1:Int)=13)),x.1)) (bq x.2.1 14 (aH ((decide ((x.2.1:Int)=14)),x.1)) (aH ((decide ((x.2.1:Int)=15)),x.1)))))))) λx1=>(aI x1.1 (Z (decide ((x.2.2:Int)=(-1)))) (jn (bq x.2.1 3 (aH ((decide ((x.2.1:Int)=3)),x1.2)) (aH ((decide ((x.2.1:Int)=4)),x1.2))) λx2=>(aI x2.1 (aA (rU (x.2.2,(aZ x2.2.1))) λy3=>(Z y3)) (jn (bq x.2.1 6 (aH ((decide ((x.2.1:Int)=6)),x2.2)) (aH ((decide ((x.2.1:Int)=7)),x2.2))) λL=>(aI L.1 (jn (aA (rU (x.2.2,(aZ L.a))) λy6=>(aI y6 (bZ tK L.a x.2.2 λz7=>(aH (!z7.2))) (aH af))) λx5=>(Z x5)) (jn (bq x.2.1 8 (aH ((decide ((x.2.1:Int)=8)),L.2)) (bq x.2.1 9 (aH ((decide ((x.2.1:Int)=9)),L.2)) (bq x.2.1 10 (aH ((decide ((x.2.1:Int)=10)),L.2)) (aH ((decide ((x.2.1:Int)=11)),L.2))))) λD=>(aI D.1 (jn (aA (rU (x.2.2,(aZ D.a))) λy10=>(aI y10 (bZ tK D.a x.2.2 λz11=>(aH z11.2)) (aH af))) λx9=>(Z x9)) (jn (bq x.2.1 16 (aH ((decide ((x.2.1:Int)=16)),D.2)) (bq x.2.1 17 (aH ((decide ((x.2.1:Int)=17)),D.2)) (bq x.2.1 18 (aH ((decide ((x.2.1:Int)=18)),D.2)) (aH ((decide ((x.2.1:Int)=19)),D.2))))) λA=>(aI A.1 (aA (rU (x.2.2,(aZ A.b))) λy13=>(Z y13)) (jn (bq x.2.1 20 (aH ((decide ((x.2.1:Int)=20)),A.2)) (aH ((decide ((x.2.1:Int)=21)),A.2))) λz=>(aI z.1 (aA (rU (x.2.2,(aZ z.d))) λy15=>(Z y15)) (jn (bq x.2.1 22 (aH ((decide ((x.2.1:Int)=22)),z.2)) (aH ((decide ((x.2.1:Int)=23)),z.2))) λx16=>(aI x16.1 (aA (rU (x.2.2,(aZ x16.c))) λy17=>(Z y17)) (Z af)))))))))))))))
abbrev P?:=fA×uH×Int×j?
def lI (x:P?):M (Bool):=
 (jn (aA (s8 (x.1,x.2.1)) λy2=>(aI (!y2) (aH (J,x.1,x.2.1)) (aA (rU (x.a,(aZ x.1.c))) λy3=>(aI (!y3) (aH (J,x.1,x.2.1)) (aA (v9 (x.1,x.e)) λy4=>(aH ((!y4),x.1,x.2.1))))))) λD=>(aI D.1 (Z af) (bZ iF D.h x.a λL=>(bq x.b 1 (Z (decide ((L.1:Int)=1))) (bq x.b 17 (jn (α:=Bool) (bq L.1 4 (bq L.2.1 x.g (bZ itK D.2.1.a x.g λz7=>(bZ eJ D.a z7.2 λz8=>(aH (decide ((z8.1:Int)=(-1)))))) (aH af)) (aH af)) λx6=>(Z x6)) (jP L.1 2 (Z af) (bq x.b 6 (bZ eJ D.a x.g λz9=>(Z (decide ((z9.1:Int)=(-1))))) (bq x.b 10 (jn (α:=Bool) (bZ eJ D.a x.g λz11=>(bq z11.1 (-1) (bZ eJ D.a x.g λz12=>(aH (decide (((aZ z12.2):Int)=0)))) (aH af))) λx10=>(Z x10)) (bq x.b 8 (jn (α:=Bool) (bZ eJ D.a x.g λz14=>(bq z14.1 (-1) (bZ eJ D.a x.g λz15=>(aA (um (z15.2,x.a)) λy16=>(aH (!y16)))) (aH af))) λx13=>(Z x13)) (jn (bq x.b 7 (aH ((decide ((x.b:Int)=7)),D.2.1,D.2.2,L)) (aH ((decide ((x.b:Int)=11)),D.2.1,D.2.2,L))) λz=>(aI z.1 (bZ eJ z.a.1 x.g λz18=>(Z (decide ((z18.1:Int)=x.a)))) (bq x.b 9 (bZ eJ z.a.1 x.g λz19=>(aA (um (z19.2,x.a)) λy20=>(Z y20))) (bq x.b 12 (Z (decide ((z.a.2.1:Int)=(-1)))) (bq x.b 13 (Z (decide ((z.a.2.1:Int)=x.a))) (bq x.b 14 (Z (!z.h)) (bq x.b 15 (Z z.h) (jn (bq x.b 16 (aH ((decide ((x.b:Int)=16)),z.2.1,z.a)) (bq x.b 18 (aH ((decide ((x.b:Int)=18)),z.2.1,z.a)) (aH ((decide ((x.b:Int)=19)),z.2.1,z.a)))) λA=>(aI A.1 (bZ itK A.2.1.a x.g λz22=>(bZ eJ A.a z22.2 λz23=>(Z (decide ((z23.1:Int)=x.a))))) (bq x.b 20 (jn (jP x.g x.a (bZ iF A.h x.g λz25=>(aH (decide ((z25.1:Int)=0)))) (aH af)) λx24=>(Z x24)) (bq x.b 21 (jn (jP x.g x.a (bZ iF A.h x.g λz27=>(aH (decide ((z27.1:Int)=5)))) (aH af)) λx26=>(Z x26)) (bq x.b 22 (bZ (.bool) A.c x.g λz28=>(Z (!z28))) (bq x.b 23 (bZ (.bool) A.c x.g λz29=>(Z z29)) (Z J)))))))))))))))))))))))
def oX (x:uH×Int):M η:=
 (iter (σ:=Int×uH×η) (λz=>(bU z.1 (aZ z.2.1.e) (jn (α:=uH×η) (jn (bZ iF z.2.1.e z.1 λL=>(bq L.1 3 (bZ iF z.2.1.e z.1 λD=>(aH ((decide ((D.2.1:Int)=x.2)),z.2))) (aH (af,z.2)))) λA=>(aI A.1 (bT (bc (aj A.2.2+aj ([z.1])) 8) (aH (A.2.1,(A.2.2++([z.1]))))) (aH A.2))) λx2=>(c5 ((cS z.1),x2))) (aH z.2.2))) (0,x.1,([]:η)))
def rT (x:o!):M η:=
 (iter (σ:=k!) (λz=>(bU z.1 (aZ x.1) (jn (α:=η) (bZ aM x.1 z.1 λD=>(jP D x.2 (bZ aM x.1 z.1 λA=>(bT (bc (aj z.2+aj ([A])) 8) (aH (z.2++([A]))))) (aH z.2))) λL=>(c5 ((cS z.1),L))) (aH z.2))) (0,([]:η)))
def iS (x:x!):M (Int×E!):=
 (bT (bc (aj ([]:θ)+aj x.a) 1) (bT (bc (aj ([]:Y eH)+aj x.e) 24) (iter (σ:=Int×uH×s?) (λz=>(bU z.1 (aZ z.2.1.1) (bZ eJ z.2.1.1 z.1 λD=>(bZ eJ z.2.1.1 z.1 λA=>(bT (bc (aj ([]:η)+aj A.2) 8) (bT (bc (aj z.c+aj ([(D.1,(([]:η)++A.2))])) 32) (c5 ((cS z.1),z.2.1,z.a,z.b,(z.c++([(D.1,(([]:η)++A.2))])),z.h)))))) (aH z.e))) (0,x,0,x.2.1,([]:Y k!),(([]:θ)++x.a),(([]:Y eH)++x.e)))))
def nJ (x:ν×E!):M (η×E!):=
 (iter (σ:=Int×ki×(θ)×(Y eH)×k!) (λz=>(bU z.1 (aZ z.b) (jn (α:=ki×(θ)×(Y eH)×k!) (jn (kY iF z.b z.1 λL=>(bq L.1 3 (kY iF z.b z.1 λD=>(aH ((decide ((D.2.1:Int)=x.1.2)),z.2))) (aH (af,z.2)))) λA=>(aI A.1 (bT (bc (aj A.h+aj ([z.1])) 8) (aH (A.2.1,A.a,A.b,A.c,(A.h++([z.1]))))) (aH A.2))) λx2=>(c5 ((cS z.1),x2))) (aH (z.h,z.2.1,z.a,z.b)))) (0,x.2.1,x.a,x.e,x.1.1,([]:η)))
def mn (x:ν×E!):M η:=aA (nJ x) λy=>same y.2 x.2 (Z y.1)
abbrev S?:=fA×uH×u?
abbrev X?:=Int×s?
def qJ (x:S?):M (uH×u!):=
 (aA (lI (x.1,x.2.1,x.a,x.b,x.c)) λy1=>(aI (!y1) (Z ((([]:Y k!),0,([]:θ),([]:Y eH)),0,af)) (aA (iS x.2.1) λL=>(jn (α:=X?) (bq x.b 1 (ck (dL x.a (aj L.e)) (aH (0,L.1,0,L.2.1,L.a,(cg L.e x.a (2,(geti iF L.e x.a).2))))) (bq x.b 2 (ck (dL x.a (aj L.e)) (aH (0,L.1,0,L.2.1,L.a,(cg L.e x.a (5,(geti iF L.e x.a).2))))) (jn (α:=Bool×fA×s?) (bq x.b 6 (aH ((decide ((x.b:Int)=6)),x.1,L.1,0,L.2)) (aH ((decide ((x.b:Int)=10)),x.1,L.1,0,L.2))) λx4=>(aI x4.1 (ck (dL x.c (aj x4.c)) (aH (0,x4.a,x4.b,(cg x4.c x.c (x.a,(geti eJ x4.c x.c).2)),x4.h))) (jn (bq x.b 7 (aH ((decide ((x.b:Int)=7)),x4.2)) (aH ((decide ((x.b:Int)=11)),x4.2))) λz=>(aI z.1 (ck (dL x.c (aj z.c)) (aH (0,z.a,z.b,(cg z.c x.c ((-1),(geti eJ z.c x.c).2)),z.h))) (bq x.b 8 (kY eJ z.c x.c λz6=>(aA (v_ (z6.2,[x.a])) λy7=>(ck (dL x.c (aj z.c)) (aH (0,z.a,z.b,(cg z.c x.c ((geti eJ z.c x.c).1,y7)),z.h))))) (bq x.b 9 (kY eJ z.c x.c λz8=>(aA (rT (z8.2,x.a)) λy9=>(ck (dL x.c (aj z.c)) (aH (0,z.a,z.b,(cg z.c x.c ((geti eJ z.c x.c).1,y9)),z.h))))) (bq x.b 12 (aH (0,x.a,z.e)) (bq x.b 13 (aH (0,(-1),z.e)) (bq x.b 14 (ck (dL x.a (aj z.n)) (aH (0,z.a,z.b,z.c,z.d,(cg z.n x.a ((geti iF z.n x.a).1,((geti iF z.n x.a).2).1,J))))) (bq x.b 15 (ck (dL x.a (aj z.n)) (aH (0,z.a,z.b,z.c,z.d,(cg z.n x.a ((geti iF z.n x.a).1,((geti iF z.n x.a).2).1,af))))) (bq x.b 16 (bZ itK z.2.1.a x.c λz10=>(ck (dL z10.2 (aj z.c)) (ck (dL x.a (aj z.n)) (ck (dL x.a (aj (cg z.n x.a (3,(geti iF z.n x.a).2)))) (aH (0,z.a,z.b,(cg z.c z10.2 ((-1),(geti eJ z.c z10.2).2)),z.d,(cg (cg z.n x.a (3,(geti iF z.n x.a).2)) x.a ((geti iF (cg z.n x.a (3,(geti iF z.n x.a).2)) x.a).1,x.c,((geti iF (cg z.n x.a (3,(geti iF z.n x.a).2)) x.a).2).2)))))))) (bq x.b 17 (bZ itK z.2.1.a x.c λz11=>(ck (dL z11.2 (aj z.c)) (ck (dL x.a (aj z.n)) (ck (dL x.a (aj (cg z.n x.a (2,(geti iF z.n x.a).2)))) (aH (0,z.a,z.b,(cg z.c z11.2 (x.a,(geti eJ z.c z11.2).2)),z.d,(cg (cg z.n x.a (2,(geti iF z.n x.a).2)) x.a ((geti iF (cg z.n x.a (2,(geti iF z.n x.a).2)) x.a).1,0,((geti iF (cg z.n x.a (2,(geti iF z.n x.a).2)) x.a).2).2)))))))) (bq x.b 18 (aA (mn ((z.a,x.c),z.g)) λy12=>(bU 0 (aZ y12) (bZ aM y12 0 λz13=>(jn (aA (um (y12,x.h)) λy15=>(aI y15 (aH (x.h,z.2.2)) (aH (z13,z.2.2)))) λD=>(ck (dL D.1 (aj D.h)) (aH (D.1,D.2.1,D.a,D.b,D.c,(cg D.h D.1 (4,(geti iF D.h D.1).2))))))) (aH ((-1),z.2.2)))) (bq x.b 19 (aA (mn ((z.a,x.c),z.g)) λy16=>(iter (σ:=X?) (λA=>(bU A.1 (aZ y16) (bZ aM y16 A.1 λz18=>(ck (dL z18 (aj A.h)) (c5 ((cS A.1),A.2.1,A.a,A.b,A.c,(cg A.h z18 (4,(geti iF A.h z18).2)))))) (aH (b8 ((aZ y16),A.2))))) (0,z.2.2))) (bq x.b 20 (ck (dL x.c (aj z.n)) (aH (0,z.a,z.b,z.c,z.d,(cg z.n x.c (1,(geti iF z.n x.c).2))))) (bq x.b 22 (ck (dL x.c (aj z.d)) (aH (0,z.a,z.b,z.c,(cg z.d x.c J),z.n))) (aH (0,z.2.2)))))))))))))))))))) λx3=>(Z ((x3.b,x3.2.1,x3.g),x3.1,J))))))
abbrev J?:=(η)×η
def v8 (x:A?):M Bj:=
 (aA (kM x) λy1=>(aI (!y1) (Z ((([]:Y k!),0,([]:θ),([]:Y eH)),([]:η),([]:η),([]:Y yn))) (aA (s7 x.1) λy2=>(iter (σ:=Int×FB×Int×uH×η) (λD=>(bU D.1 (aZ D.2.1.1.1) (bZ l7 D.2.1.1.1 D.1 λz4=>(bT (bc (aj D.g+aj ([z4.2.2.2.2])) 8) (c5 ((cS D.1),D.2.1,D.a,D.b,(D.g++([z4.2.2.2.2])))))) (aA (iter (σ:=Int×FB×Int×uH×J?) (λA=>(bU A.1 (aZ A.2.1.1.b) (bT (bc (aj A.h+aj ([0])) 8) (c5 ((cS A.1),A.2.1,A.a,A.b,A.c,(A.h++([0]))))) (aA (iter (σ:=Int×FB×Int×h?) (λz=>(bU z.1 (aZ z.2.1.2) (mK z.1 z.2.1.2 (lt ((geti Af z.2.1.2 z.1).1) λz7=>(bT (db 0 z7&&db z7 z7&&bc (aN z7) 8) (mK z.1 z.2.1.2 (lt ((geti Af z.2.1.2 z.1).1) λL=>(bT (db 0 L&&db L L&&bc (aN L) 24) (bT (bc (aj z.n+aj ([(0,(aC (aN z7) (0:Int)),(aC (aN L) ([]:η)),0)])) 64) (c5 ((cS z.1),z.2.1,z.a,z.b,z.c,z.d,(z.n++([(0,(aC (aN z7) (0:Int)),(aC (aN L) ([]:η)),0)]))))))))))) (aH z.e))) (0,A.2.1,A.a,A.b,A.c,A.h,([]:Y yn))) λr=>Z (b8 r)))) (0,D.2.1,D.a,D.b,D.g,([]:η))) λr=>Z (b8 r)))) (0,x,0,y2,([]:η))))))
def yT (x:FB×h?):M (Bool):=
 (jn (aA (kM x.1) λy2=>(aI (!y2) (aH (J,x)) (aA (s8 (x.1.1,x.2.1)) λy3=>(aI (!y3) (aH (J,x)) (jP (aZ x.a) (aZ x.1.1.1) (aH (J,x)) (jP (aZ x.b) (aZ x.1.1.b) (aH (J,x)) (aH ((!decide (((aZ x.g):Int)=(aZ x.1.2))),x)))))))) λL=>(aI L.1 (Z af) (iter (σ:=Int×FB×h?) (λz=>(bU z.1 (aZ z.2.1.2) (bZ fB z.h z.1 λA=>(jn (bU A.1 0 (aH (J,z.2)) (bZ Af z.2.1.2 z.1 λz7=>(kB (aZ z7.2) A.1 (aH (J,z.2)) (bZ Af z.2.1.2 z.1 λz8=>(jP (aZ A.2.1) z8.1 (aH (J,z.2)) (bZ Af z.2.1.2 z.1 λz9=>(aH ((!decide (((aZ A.a):Int)=z9.1)),z.2)))))))) λD=>(aI D.1 (aH af) (c5 ((cS z.1),D.2))))) (aH J))) (0,L.2))))
def Dj (x:Int):M (Int):=
 (jn (α:=Bool×η) (bU x 6 (aH (J,[3,3,4,4,5,6,7,8,9,10,11,12,13,14,15,16,18,19,20,21,22,23,2])) (aH ((gD 28 x),[3,3,4,4,5,6,7,8,9,10,11,12,13,14,15,16,18,19,20,21,22,23,2]))) λz=>(aI z.1 (Z 0) (kY aM z.2 (bm .i64 (x-6)) λA=>(Z A))))
def xu (x:mG×l?):M (Int):=
 (jn (bq x.1.1 6 (aH ((decide ((x.1.1:Int)=6)),x)) (aH ((decide ((x.1.1:Int)=27)),x))) λz=>(aI z.1 (Z z.2.1.a) (bq x.1.1 7 (bZ aM z.b z.2.1.b λL=>(aA (wn (L,z.2.1.c)) λy3=>(Z (bm .i64 (z.2.1.a+y3))))) (bq x.1.1 9 (bZ aM z.b z.2.1.b λD=>(aA (wn (D,z.2.1.c)) λy5=>(Z (bm .i64 (z.2.1.2.1+y5))))) (jn (bq x.1.1 10 (aH ((decide ((x.1.1:Int)=10)),z.2.1)) (bq x.1.1 17 (aH ((decide ((x.1.1:Int)=17)),z.2.1)) (bq x.1.1 18 (aH ((decide ((x.1.1:Int)=18)),z.2.1)) (bq x.1.1 19 (aH ((decide ((x.1.1:Int)=19)),z.2.1)) (bq x.1.1 20 (aH ((decide ((x.1.1:Int)=20)),z.2.1)) (aH ((decide ((x.1.1:Int)=28)),z.2.1))))))) λA=>(aI A.1 (Z (-1)) (Z A.a)))))))
def oW (x:FB×Bj×Int):M (iH×Bool):=
 (jn (α:=Bool×FB×Bj×Int×u?) (aA (yT (x.1,x.2.1)) λy2=>(aI (!y2) (aH (J,x.1,x.2.1,0,0,0,0,0)) (bU x.2.2 0 (aH (J,x.1,x.2.1,0,0,0,0,0)) (aH ((db (aZ x.1.2) x.2.2),x.1,x.2.1,0,0,0,0,0))))) λx1=>(aI x1.1 (Z ((0,0,0,0,0,([]:η),([]:η)),af)) (bZ fB x1.a.e x.2.2 λz3=>(bZ Af x1.2.1.2 x.2.2 λz4=>(bZ sJ z4.2 z3.1 λD=>(bZ iF x1.a.1.e x.2.2 λz6=>(bq z6.1 1 (Z ((x.2.2,1,(-1),0,(-1),([]:η),([]:η)),J)) (bq z6.1 4 (bZ iF x1.a.1.e x.2.2 λz7=>(Z ((x.2.2,17,z7.2.1,0,D.h,([]:η),([]:η)),J))) (bq z6.1 2 (aA (Dj D.1) λy8=>(aA (xu (D,z3)) λy9=>(bq y8 0 (Z ((0,0,0,0,0,([]:η),([]:η)),af)) (jn (α:=HJ×yn×mG×HJ×η) (bq D.1 10 (bZ (.sl aM) z3.a D.2.1 λz11=>(bT (bc (aj (z11:η)) 8) (aH (x1.e,z3,D,(x.2.2,y8,y9,0,D.h),z11)))) (jn (α:=Bool×HJ×yn×mG×Int×u?) (bq D.1 7 (aH ((decide ((D.1:Int)=7)),x1.e,z3,D,x.2.2,y8,y9,0,D.h)) (aH ((decide ((D.1:Int)=9)),x1.e,z3,D,x.2.2,y8,y9,0,D.h))) λz=>(aI z.1 (bZ (.sl aM) z.a.a z.b.b λz13=>(bT (bc (aj (z13:η)) 8) (aH (z.2.1,z.a,z.b,z.g,z13)))) (aH (z.2.1,z.a,z.b,z.g,([]:η)))))) λx10=>(jn (α:=HJ×HJ×J?) (jn (bq x10.a.1 8 (aH (J,x10)) (bq x10.a.1 9 (aH (J,x10)) (aH ((decide ((x10.a.1:Int)=26)),x10)))) λA=>(aI A.1 (bZ (.sl aM) A.a.a A.b.a λz16=>(bT (bc (aj (z16:η)) 8) (aH (A.2.1,A.c,A.h,z16)))) (aH (A.2.1,A.c,A.h,([]:η))))) λL=>(Z ((L.2.1.1,L.2.1.2.1,L.2.1.a,L.2.1.b,L.2.1.g,L.2.2),J))))))) (Z ((0,0,0,0,0,([]:η),([]:η)),af)))))))))))
def oE (x:b?):M ky:=
 (aA (s7 x) λD=>(bT (db 0 (aZ x.b)&&db (aZ x.b) (aZ x.b)&&bc (aN (aZ x.b)) 8) (bT (db 0 (aZ x.c)&&db (aZ x.c) (aZ x.c)&&bc (aN (aZ x.c)) 8) (iter (σ:=Int×fA×Int×R?) (λz=>(bU z.1 (aZ z.2.1.1) (bZ l7 z.2.1.1 z.1 λA=>(bT (bc (aj z.c+aj ([A.2.2.2.2])) 8) (c5 ((cS z.1),z.2.1,z.a,z.b,(z.c++([A.2.2.2.2])),z.h)))) (aH z.e))) (0,x,0,D,([]:η),(aC (aN (aZ x.b)) (0:Int)),(aC (aN (aZ x.c)) (0:Int)))))))
def yR (x:fA×R?):M (Bool):=
 (jn (aA (s8 (x.1,x.2.1)) λz=>(aI z (bq (aZ x.a) (aZ x.1.1) (bq (aZ x.b) (aZ x.1.b) (aH (decide (((aZ x.g):Int)=(aZ x.1.c)))) (aH af)) (aH af)) (aH af))) λA=>(Z A))
def Gf (x:ν):M (Bool):=
 (jn (kB 0 x.1 (aH (gD x.1 x.2)) (aH af)) λz=>(Z z))
def rS (x:o!):M (Bool):=
 (iter (σ:=Int) (λz=>(bU z (aZ x.1) (jn (bZ aM x.1 z λz3=>(bU z3 1 (aH J) (bZ aM x.1 z λL=>(kB x.2 L (aH J) (bU 0 z (bZ aM x.1 z λD=>(bZ aM x.1 (bm .i64 (z-1)) λA=>(aH (db D A)))) (aH af)))))) λx2=>(aI x2 (aH af) (c5 (cS z)))) (aH J))) 0)
abbrev M!:=ky×c!
def AA (x:M!):M (Bool):=
 (bq x.a 3 (bZ aM x.1.2.1 x.b λL=>(Z (decide ((x.c:Int)=L)))) (bq x.a 23 (bZ aM x.1.a x.b λD=>(Z (decide ((x.c:Int)=D)))) (bq x.a 5 (jn (bq x.c 0 (aH J) (aH (decide ((x.c:Int)=1)))) λx3=>(Z x3)) (jn (bq x.a 4 (aH ((decide ((x.a:Int)=4)),x)) (aH ((decide ((x.a:Int)=22)),x))) λz=>(aI z.1 (Z J) (bq x.a 18 (aA (oX (z.2.1.1,z.c)) λA=>(bq (aZ A) 0 (Z (decide ((z.d:Int)=(-1)))) (jn (kB 0 z.d (bU z.d (aZ z.2.1.1.e) (aA (um (A,z.d)) λy7=>(aH y7)) (aH af)) (aH af)) λx6=>(Z x6)))) (bq x.a 19 (aA (oX (z.2.1.1,z.c)) λy8=>(Z (decide ((z.d:Int)=(aZ y8))))) (Z (decide ((z.d:Int)=0))))))))))
abbrev I!:=fA×ky×iH×Int
def s6 (x:fA×M!):M (ky×Bool):=
 (jn (α:=Bool×I!) (aA (yR (x.1,x.2.1)) λy2=>(aI (!y2) (aH (J,x.1,x.2.1,x.2.2,0)) (aA (Gf (x.a,(aZ x.1.c))) λy3=>(aI (!y3) (aH (J,x.1,x.2.1,x.2.2,0)) (bU x.b 1 (aH (J,x.1,x.2.1,x.2.2,0)) (bU 23 x.b (aH (J,x.1,x.2.1,x.2.2,0)) (aA (lI (x.1,x.2.1.1,x.a,x.b,x.c)) λy4=>(aH ((!y4),x.1,x.2.1,x.2.2,0))))))))) λx1=>(aI x1.1 (Z (((([]:Y k!),0,([]:θ),([]:Y eH)),([]:η),([]:η),([]:η)),af)) (jn (α:=I!) (jn (bq x1.b.2.1 1 (aH (J,x1.2)) (aH ((decide ((x1.b.2.1:Int)=2)),x1.2))) λx6=>(aI x6.1 (jP x6.b.c (-1) (c5 (((([]:Y k!),0,([]:θ),([]:Y eH)),([]:η),([]:η),([]:η)),af)) (aH x6.2)) (jn (aA (Gf (x6.b.c,(aZ x6.2.1.h))) λy8=>(aI (!y8) (aH (J,x6.2)) (bZ pW x6.2.1.h x6.b.c λz9=>(aH ((!decide ((z9.1:Int)=x6.b.1)),x6.2))))) λx7=>(aI x7.1 (c5 (((([]:Y k!),0,([]:θ),([]:Y eH)),([]:η),([]:η),([]:η)),af)) (aH x7.2))))) λx5=>(jn (bq x5.a.2.1 3 (aH (J,x5)) (aH ((decide ((x5.a.2.1:Int)=4)),x5))) λx10=>(jn (bU 0 (aZ x10.b.d) (jP x10.b.2.1 5 (aI x10.1 (bZ l7 x10.2.1.1 x10.b.a λz12=>(aH ((!(!decide ((z12.2.2.1:Int)=0))),x10.2))) (aH (J,x10.2))) (aH (af,x10.2))) (aH (af,x10.2))) λx11=>(aI x11.1 (Z (((([]:Y k!),0,([]:θ),([]:Y eH)),([]:η),([]:η),([]:η)),af)) (jn (bU 0 (aZ x11.b.n) (jP x11.b.2.1 4 (aH ((!decide ((x11.b.2.1:Int)=22)),x11.2)) (aH (af,x11.2))) (aH (af,x11.2))) λL=>(aI L.1 (Z (((([]:Y k!),0,([]:θ),([]:Y eH)),([]:η),([]:η),([]:η)),af)) (jn (bZ aM L.a.e L.b.1 λz15=>(aA (rS (L.b.d,z15)) λy16=>(aI (!y16) (aH (J,L.2)) (bZ aM L.a.e L.b.1 λz17=>(aA (rS (L.b.n,z17)) λy18=>(aI (!y18) (aH (J,L.2)) (aA (AA (L.a,L.b)) λy19=>(aH ((!y19),L.2))))))))) λz=>(aI z.1 (Z (((([]:Y k!),0,([]:θ),([]:Y eH)),([]:η),([]:η),([]:η)),af)) (bT (bc (aj ([]:η)+aj z.a.2.1) 8) (bT (bc (aj ([]:η)+aj z.a.a) 8) (bT (bc (aj ([]:η)+aj z.a.e) 8) (jn (α:=Int×fA×ky×iH×Int×Int×f?) (bq z.b.2.1 18 (aH (z.b.b,z.2.1,z.a,z.b,z.g,0,(([]:η)++z.a.2.1),(([]:η)++z.a.a),(([]:η)++z.a.e))) (aH ((-1),z.2.1,z.a,z.b,z.g,0,(([]:η)++z.a.2.1),(([]:η)++z.a.a),(([]:η)++z.a.e)))) λA=>(aA (qJ (A.2.1,A.a.1,A.b.1,A.b.2.1,A.b.a,A.1)) λy21=>(jn (bq A.b.2.1 4 (ck (dL A.b.a (aj A.f)) (aH (A.b,A.c,y21.1,(cg A.f A.b.a A.b.b),A.p))) (aH (A.b,A.c,y21.1,A.n))) λD=>(jn (bq D.1.2.1 22 (ck (dL D.1.a (aj D.c)) (aH (D.1,D.2.1,D.a,D.b,(cg D.c D.1.a D.1.b),D.h))) (aH D)) λx23=>(kY aM x23.h x23.1.1 λz24=>(ck (dL x23.1.1 (aj x23.h)) (Z ((x23.a,x23.b,x23.c,(cg x23.h x23.1.1 (cS z24))),J)))))))))))))))))))))
def s5 (x:(Y iH)×Int×k!):M (Bool):=
 (iter (σ:=Int) (λA=>(bU A (aZ x.e) (iter (σ:=Int×Bool×Int) (λz=>(bU z.2.2 x.2.1 (jn (bZ j7 x.1 z.2.2 λz4=>(jP z4.1 x.a (aH (z.1,z.2.1)) (jn (aI z.2.1 (aH J) (bZ aM x.e A λz6=>(bq z.1 z6 (bZ j7 x.1 z.2.2 λz7=>(bq z7.2.1 3 (aH J) (bZ j7 x.1 z.2.2 λL=>(aH (decide ((L.2.1:Int)=23)))))) (aH af)))) λx5=>(aH ((cS z.1),x5))))) λD=>(c5 (D.1,D.2,(cS z.2.2)))) (aA (aI (!z.2.1) (aH af) (c5 (cS A))) λr=>Z (b8 r)))) (0,af,0)) (aH J))) 0)
abbrev t?:=fA×Y iH
def v7 (x:t?):M ν:=
 (bU 400 (aZ x.2) (Z (0,2)) (aA (iC x.1) λy1=>(aI (!y1) (Z (0,1)) (aA (oE x.1) λy2=>(iter (σ:=Int×(fA×Y iH)×R?) (λz=>(bU z.1 (aZ z.2.1.2) (bZ j7 z.2.1.2 z.1 λA=>(aA (s6 (z.2.1.1,z.2.2,A)) λD=>(jn (aI (!D.2) (aH (J,z.2.1,z.2.2,D.1)) (aA (s5 (z.2.1.2,z.1,A.1,A.d)) λy7=>(aI (!y7) (aH (J,z.2.1,z.2.2,D.1)) (aA (s5 (z.2.1.2,z.1,A.1,A.n)) λy8=>(aH ((!y8),z.2.1,z.2.2,D.1)))))) λL=>(aI L.1 (aH (z.1,12)) (c5 ((cS z.1),L.2.1,L.e)))))) (aH (0,0)))) (0,x,y2))))))
def KG {W V:Type} (i:Int) (t1:R->(η)->(Y η)->W) (t2:W->V) (t3:V->yn->Y yn) (x6:Int) (z:FB×uH×(ν)×Int×HJ×iH×(ν)×(η)×(η)×R×(η)×Y η):M HI:=
 (jn (jn (jP z.d.2.1 16 (aH ((!decide ((z.d.2.1:Int)=2)),z.1,z.2.1,z.a,z.b,z.c,z.d,(x6,z.k,z.v,(cS z.f.2)),z.i,z.j,(t1 z.m z.k z.v))) (aH (af,z.1,z.2.1,z.a,z.b,z.c,z.d,(x6,z.k,z.v,(cS z.f.2)),z.i,z.j,(t1 z.m z.k z.v)))) λA=>(aI A.1 (bZ Af A.2.1.2 A.b.1 λL=>(aA (oG (L,A.i)) λy18=>(aH (A.a,A.b,A.c,A.d,A.f,y18.1,A.j,A.m,(t2 A.y))))) (aH (A.a,A.b,A.c,A.d,A.f,A.i,A.j,A.m,(t2 A.y))))) λD=>(bq D.2.1.1 i (Z ((D.1,D.f,D.i,(t3 D.r D.d)),D.c,J)) U))
abbrev x?:=FB×Bj×j?
def SG (i:Int) (cp:h?->M (Int×ki×(θ)×(Y eH)×(η)×(η)×R×(η)×Y η)) (pc ev:R->Int) (k:Int->(FB×uH×(ν)×Int×HJ×iH×(ν)×(η)×(η)×R×(η)×Y η)->M HI) (x:x?):M HI:=
 (aA (oW (x.1,x.2.1,x.a)) λD=>(aI (!D.2) (Z (((([]:Y k!),0,([]:θ),([]:Y eH)),([]:η),([]:η),([]:Y yn)),(0,0,0,0,0,([]:η),([]:η)),af)) (aA (qJ (x.1.1,x.2.1.1,x.a,D.1.2.1,D.1.a,x.e)) λy2=>(aI (!y2.2.2) (Z (((([]:Y k!),0,([]:θ),([]:Y eH)),([]:η),([]:η),([]:Y yn)),(0,0,0,0,0,([]:η),([]:η)),af)) (aA (cp x.2.1) λL=>(bq x.a i (bZ Af x.1.2 i λz4=>(bZ sJ z4.2 (pc L.f) λz5=>(jn (α:=Int×FB×uH×(ν)×Int×HJ×iH×(ν)×mG×(η)×(η)×R×(η)×Y η) (jn (α:=Bool×FB×uH×(ν)×Int×HJ×iH×(ν)×mG×(η)×(η)×R×(η)×Y η) (bq D.1.2.1 1 (aH ((decide ((D.1.2.1:Int)=1)),x.1,y2.1,(i,x.e),0,(0,0,0,0,0),(D.1.1,D.1.2.1,D.1.a,y2.2.1,D.1.g),((pc L.f),(ev L.f)),z5,L.g)) (bq D.1.2.1 16 (aH ((decide ((D.1.2.1:Int)=16)),x.1,y2.1,(i,x.e),0,(0,0,0,0,0),(D.1.1,D.1.2.1,D.1.a,y2.2.1,D.1.g),((pc L.f),(ev L.f)),z5,L.g)) (aH ((decide ((D.1.2.1:Int)=2)),x.1,y2.1,(i,x.e),0,(0,0,0,0,0),(D.1.1,D.1.2.1,D.1.a,y2.2.1,D.1.g),((pc L.f),(ev L.f)),z5,L.g)))) λz=>(aI z.1 (aH (z.i.1,z.2)) (bq D.1.2.1 3 (kY aM z.m z.f.a λz8=>(aH ((bm .i64 ((pc L.f)+1)),z.2.1,z.a,z.b,z.c,z.d,(z.f.1,z.f.2.1,z.f.a,z8,z.f.g),z.p))) (bq D.1.2.1 23 (kY aM z.k z.f.a λz9=>(aH ((bm .i64 ((pc L.f)+1)),z.2.1,z.a,z.b,z.c,z.d,(z.f.1,z.f.2.1,z.f.a,z9,z.f.g),z.p))) (bq D.1.2.1 4 (kY aM z.l z.j.a λz10=>(ck (dL z.f.a (aj z.m)) (aH ((bm .i64 ((pc L.f)+1)),z.2.1,z.a,z.b,z.c,z.d,(z.f.1,z.f.2.1,z.f.a,z10,z.f.g),z.i,z.j,(cg z.m z.f.a z10),z.y)))) (bq D.1.2.1 22 (kY aM z.l z.j.a λz11=>(ck (dL z.f.a (aj z.k)) (aH ((bm .i64 ((pc L.f)+1)),z.2.1,z.a,z.b,z.c,z.d,(z.f.1,z.f.2.1,z.f.a,z11,z.f.g),z.i,z.j,z.m,(cg z.k z.f.a z11),z.v)))) (bq D.1.2.1 5 (kY aM z.l z.j.2.1 λz12=>(bq z12 0 (aH (z.j.a,z.2.1,z.a,z.b,z.c,z.d,(z.f.1,z.f.2.1,z.f.a,0,z.f.g),z.p)) (aH ((bm .i64 ((pc L.f)+1)),z.2.1,z.a,z.b,z.c,z.d,(z.f.1,z.f.2.1,z.f.a,1,z.f.g),z.p)))) (aH ((bm .i64 ((pc L.f)+1)),z.2))))))))) λx6=>(jn (α:=FB×uH×(ν)×Int×HJ×iH×(ν)×(η)×(η)×R×(η)×Y η) (jn (bq x6.f.2.1 3 (aH (J,x6.2)) (aH ((decide ((x6.f.2.1:Int)=23)),x6.2))) λA=>(aI A.1 (ck (dL A.j.2.1 (aj A.l)) (ck (dL A.j.2.1 (aj A.C)) (aH (A.2.1,A.a,A.b,A.c,A.d,A.f,A.i,A.m,A.k,A.o,(cg A.l A.j.2.1 A.f.b),(cg A.C A.j.2.1 ([A.i.2])))))) (aH (A.2.1,A.a,A.b,A.c,A.d,A.f,A.i,A.w)))) λx13=>(k x6.1 x13))))) U))))))
def ul (x:h?):M (Int×ki×(θ)×(Y eH)×(η)×(η)×(ν)×r?):=
 (aA (iS x.1) λz=>(bT (bc (aj ([]:η)+aj x.2.1) 8) (bT (bc (aj ([]:η)+aj x.a) 8) (bU 0 (aZ x.e) (bZ fB x.e 0 λD=>(aA (cw D) λL=>(bU 1 (aZ x.e) (bZ fB x.e 1 λA=>(aA (cw A) λy5=>U)) (Z (z.1,z.2.1,z.a,z.e,(([]:η)++x.2.1),(([]:η)++x.a),L))))) U))))
def gW (x:x?):M HI:=
 SG 0 ul (λz=>z.1) (λz=>z.2) (KG 0 (λz R T=>(z.1,R,T,z.2)) (λw=>((w.1,w.2.1,w.2.2.1,w.2.2.2))) (λv t=>[t])) x
def uk (x:h?):M (Int×ki×(θ)×(Y eH)×(η)×(η)×Ya29×r?):=
 (aA (iS x.1) λA=>(bT (bc (aj ([]:η)+aj x.2.1) 8) (bT (bc (aj ([]:η)+aj x.a) 8) (bU 0 (aZ x.e) (bZ fB x.e 0 λz2=>(aA (cw z2) λD=>(bU 1 (aZ x.e) (bZ fB x.e 1 λz4=>(aA (cw z4) λz=>(bU 2 (aZ x.e) (bZ fB x.e 2 λL=>(aA (cw L) λy7=>U)) (Z (A.1,A.2.1,A.a,A.e,(([]:η)++x.2.1),(([]:η)++x.a),(D.1.1,D.1.2,z.1.1,z.2.1,z.2.2,z.1.2),D.2))))) U))) U))))
def iB (x:x?):M HI:=
 SG 0 uk (λz=>z.1) (λz=>z.2.1) (KG 0 (λz R T=>(z.1,R,T,z.2.1,z.2.2)) (λw=>((w.1,w.2.1,w.2.2.1,w.2.2.2.1),w.2.2.2.2)) (λv t=>[t,v.2])) x
def uj (x:h?):M (Int×ki×(θ)×(Y eH)×(η)×(η)×(yn×Int×Int)×r?):=
 (aA (iS x.1) λA=>(bT (bc (aj ([]:η)+aj x.2.1) 8) (bT (bc (aj ([]:η)+aj x.a) 8) (bU 0 (aZ x.e) (bZ fB x.e 0 λz2=>(aA (cw z2) λz=>(bU 1 (aZ x.e) (bZ fB x.e 1 λz4=>(aA (cw z4) λD=>(bU 2 (aZ x.e) (bZ fB x.e 2 λL=>(aA (cw L) λy7=>U)) (Z (A.1,A.2.1,A.a,A.e,(([]:η)++x.2.1),(([]:η)++x.a),((z.1.1,z.2.1,z.2.2,z.1.2),D.1),D.2))))) U))) U))))
def gV (x:x?):M HI:=
 SG 1 uj (λz=>z.2.1) (λz=>z.2.2) (KG 1 (λz R T=>(z.1,z.2.1,R,T,z.2.2)) (λw=>(w.1,(w.2.1,w.2.2.1,w.2.2.2.1,w.2.2.2.2))) (λv t=>[v.1,t])) x
def ui (x:h?):M (Int×ki×(θ)×(Y eH)×(η)×(η)×Ya27×r?):=
 (aA (iS x.1) λD=>(bT (bc (aj ([]:η)+aj x.2.1) 8) (bT (bc (aj ([]:η)+aj x.a) 8) (bU 0 (aZ x.e) (bZ fB x.e 0 λz2=>(aA (cw z2) λL=>(bU 1 (aZ x.e) (bZ fB x.e 1 λz4=>(aA (cw z4) λA=>(bU 2 (aZ x.e) (bZ fB x.e 2 λz6=>(aA (cw z6) λz=>(bU 3 (aZ x.e) (bZ fB x.e 3 λz8=>(aA (cw z8) λy9=>U)) (Z (D.1,D.2.1,D.a,D.e,(([]:η)++x.2.1),(([]:η)++x.a),(L.1.1,L.1.2,(A.1.1,A.2.1,A.2.2,A.1.2),z.1.1,z.2.1,z.2.2,z.1.2),L.2))))) U))) U))) U))))
def lH (x:x?):M HI:=
 SG 0 ui (λz=>z.1) (λz=>z.2.1) (KG 0 (λz R T=>(z.1,R,T,z.2.1,z.a,z.e)) (λw=>((w.1,w.2.1,w.2.2.1,w.2.2.2.1),w.2.2.2.2.1,w.2.2.2.2.2)) (λv t=>[t,v.2.1,v.2.2])) x
def uh (x:h?):M (Int×ki×(θ)×(Y eH)×(η)×(η)×Ya28×r?):=
 (aA (iS x.1) λD=>(bT (bc (aj ([]:η)+aj x.2.1) 8) (bT (bc (aj ([]:η)+aj x.a) 8) (bU 0 (aZ x.e) (bZ fB x.e 0 λz2=>(aA (cw z2) λA=>(bU 1 (aZ x.e) (bZ fB x.e 1 λz4=>(aA (cw z4) λL=>(bU 2 (aZ x.e) (bZ fB x.e 2 λz6=>(aA (cw z6) λz=>(bU 3 (aZ x.e) (bZ fB x.e 3 λz8=>(aA (cw z8) λy9=>U)) (Z (D.1,D.2.1,D.a,D.e,(([]:η)++x.2.1),(([]:η)++x.a),((A.1.1,A.2.1,A.2.2,A.1.2),L.1.1,L.1.2,z.1.1,z.2.1,z.2.2,z.1.2),L.2))))) U))) U))) U))))
def kC (x:x?):M HI:=
 SG 1 uh (λz=>z.2.1) (λz=>z.a) (KG 1 (λz R T=>(z.1,z.2.1,R,T,z.a,z.e)) (λw=>(w.1,(w.2.1,w.2.2.1,w.2.2.2.1,w.2.2.2.2.1),w.2.2.2.2.2)) (λv t=>[v.1,t,v.2.2])) x
def ug (x:h?):M (Int×ki×(θ)×(Y eH)×(η)×(η)×(yn×yn×Int×Int)×r?):=
 (aA (iS x.1) λD=>(bT (bc (aj ([]:η)+aj x.2.1) 8) (bT (bc (aj ([]:η)+aj x.a) 8) (bU 0 (aZ x.e) (bZ fB x.e 0 λz2=>(aA (cw z2) λA=>(bU 1 (aZ x.e) (bZ fB x.e 1 λz4=>(aA (cw z4) λz=>(bU 2 (aZ x.e) (bZ fB x.e 2 λz6=>(aA (cw z6) λL=>(bU 3 (aZ x.e) (bZ fB x.e 3 λz8=>(aA (cw z8) λy9=>U)) (Z (D.1,D.2.1,D.a,D.e,(([]:η)++x.2.1),(([]:η)++x.a),((A.1.1,A.2.1,A.2.2,A.1.2),(z.1.1,z.2.1,z.2.2,z.1.2),L.1),L.2))))) U))) U))) U))))
def jD (x:x?):M HI:=
 SG 2 ug (λz=>z.a) (λz=>z.e) (KG 2 (λz R T=>(z.1,z.2.1,z.a,R,T,z.e)) (λw=>(w.1,w.2.1,(w.2.2.1,w.2.2.2.1,w.2.2.2.2.1,w.2.2.2.2.2))) (λv t=>[v.1,v.2.1,t])) x
def uf (x:h?):M (Int×ki×(θ)×(Y eH)×(η)×(η)×Ya23×r?):=
 (aA (iS x.1) λL=>(bT (bc (aj ([]:η)+aj x.2.1) 8) (bT (bc (aj ([]:η)+aj x.a) 8) (bU 0 (aZ x.e) (bZ fB x.e 0 λz2=>(aA (cw z2) λy3=>(bU 1 (aZ x.e) (bZ fB x.e 1 λz4=>(aA (cw z4) λD=>(bU 2 (aZ x.e) (bZ fB x.e 2 λz6=>(aA (cw z6) λA=>(bU 3 (aZ x.e) (bZ fB x.e 3 λz8=>(aA (cw z8) λz=>(bU 4 (aZ x.e) (bZ fB x.e 4 λz10=>(aA (cw z10) λy11=>U)) (Z (L.1,L.2.1,L.a,L.e,(([]:η)++x.2.1),(([]:η)++x.a),(y3.1.1,y3.1.2,(D.1.1,D.2.1,D.2.2,D.1.2),(A.1.1,A.2.1,A.2.2,A.1.2),z.1.1,z.2.1,z.2.2,z.1.2),y3.2))))) U))) U))) U))) U))))
def qZ (x:x?):M HI:=
 SG 0 uf (λz=>z.1) (λz=>z.2.1) (KG 0 (λz R T=>(z.1,R,T,z.2.1,z.a,z.b,z.g)) (λw=>((w.1,w.2.1,w.2.2.1,w.2.2.2.1),w.2.2.2.2.1,w.2.2.2.2.2.1,w.2.2.2.2.2.2)) (λv t=>[t,v.2.1,v.2.2.1,v.2.2.2])) x
def ue (x:h?):M (Int×ki×(θ)×(Y eH)×(η)×(η)×Ya24×r?):=
 (aA (iS x.1) λL=>(bT (bc (aj ([]:η)+aj x.2.1) 8) (bT (bc (aj ([]:η)+aj x.a) 8) (bU 0 (aZ x.e) (bZ fB x.e 0 λz2=>(aA (cw z2) λD=>(bU 1 (aZ x.e) (bZ fB x.e 1 λz4=>(aA (cw z4) λy5=>(bU 2 (aZ x.e) (bZ fB x.e 2 λz6=>(aA (cw z6) λA=>(bU 3 (aZ x.e) (bZ fB x.e 3 λz8=>(aA (cw z8) λz=>(bU 4 (aZ x.e) (bZ fB x.e 4 λz10=>(aA (cw z10) λy11=>U)) (Z (L.1,L.2.1,L.a,L.e,(([]:η)++x.2.1),(([]:η)++x.a),((D.1.1,D.2.1,D.2.2,D.1.2),y5.1.1,y5.1.2,(A.1.1,A.2.1,A.2.2,A.1.2),z.1.1,z.2.1,z.2.2,z.1.2),y5.2))))) U))) U))) U))) U))))
def qY (x:x?):M HI:=
 SG 1 ue (λz=>z.2.1) (λz=>z.a) (KG 1 (λz R T=>(z.1,z.2.1,R,T,z.a,z.b,z.g)) (λw=>(w.1,(w.2.1,w.2.2.1,w.2.2.2.1,w.2.2.2.2.1),w.2.2.2.2.2.1,w.2.2.2.2.2.2)) (λv t=>[v.1,t,v.2.2.1,v.2.2.2])) x
def ud (x:h?):M (Int×ki×(θ)×(Y eH)×(η)×(η)×Ya25×r?):=
 (aA (iS x.1) λL=>(bT (bc (aj ([]:η)+aj x.2.1) 8) (bT (bc (aj ([]:η)+aj x.a) 8) (bU 0 (aZ x.e) (bZ fB x.e 0 λz2=>(aA (cw z2) λD=>(bU 1 (aZ x.e) (bZ fB x.e 1 λz4=>(aA (cw z4) λA=>(bU 2 (aZ x.e) (bZ fB x.e 2 λz6=>(aA (cw z6) λy7=>(bU 3 (aZ x.e) (bZ fB x.e 3 λz8=>(aA (cw z8) λz=>(bU 4 (aZ x.e) (bZ fB x.e 4 λz10=>(aA (cw z10) λy11=>U)) (Z (L.1,L.2.1,L.a,L.e,(([]:η)++x.2.1),(([]:η)++x.a),((D.1.1,D.2.1,D.2.2,D.1.2),(A.1.1,A.2.1,A.2.2,A.1.2),y7.1.1,y7.1.2,z.1.1,z.2.1,z.2.2,z.1.2),y7.2))))) U))) U))) U))) U))))
def oF (x:x?):M HI:=
 SG 2 ud (λz=>z.a) (λz=>z.b) (KG 2 (λz R T=>(z.1,z.2.1,z.a,R,T,z.b,z.g)) (λw=>(w.1,w.2.1,(w.2.2.1,w.2.2.2.1,w.2.2.2.2.1,w.2.2.2.2.2.1),w.2.2.2.2.2.2)) (λv t=>[v.1,v.2.1,t,v.2.2.2])) x
def uc (x:h?):M (Int×ki×(θ)×(Y eH)×(η)×(η)×Ya42×r?):=
 (aA (iS x.1) λL=>(bT (bc (aj ([]:η)+aj x.2.1) 8) (bT (bc (aj ([]:η)+aj x.a) 8) (bU 0 (aZ x.e) (bZ fB x.e 0 λz2=>(aA (cw z2) λD=>(bU 1 (aZ x.e) (bZ fB x.e 1 λz4=>(aA (cw z4) λA=>(bU 2 (aZ x.e) (bZ fB x.e 2 λz6=>(aA (cw z6) λz=>(bU 3 (aZ x.e) (bZ fB x.e 3 λz8=>(aA (cw z8) λy9=>(bU 4 (aZ x.e) (bZ fB x.e 4 λz10=>(aA (cw z10) λy11=>U)) (Z (L.1,L.2.1,L.a,L.e,(([]:η)++x.2.1),(([]:η)++x.a),((D.1.1,D.2.1,D.2.2,D.1.2),(A.1.1,A.2.1,A.2.2,A.1.2),(z.1.1,z.2.1,z.2.2,z.1.2),y9.1),y9.2))))) U))) U))) U))) U))))
def mM (x:x?):M HI:=
 SG 3 uc (λz=>z.b) (λz=>z.g) (KG 3 (λz R T=>(z.1,z.2.1,z.a,z.b,R,T,z.g)) (λw=>(w.1,w.2.1,w.2.2.1,(w.2.2.2.1,w.2.2.2.2.1,w.2.2.2.2.2.1,w.2.2.2.2.2.2))) (λv t=>[v.1,v.2.1,v.2.2.1,t])) x
def Dk (x:x?):M HI:=orE (qZ x) (orE (qY x) (orE (oF x) (orE (mM x) (orE (lH x) (orE (kC x) (orE (jD x) (orE (iB x) (orE (gV x) (gW x)))))))))
def yS (x:FB×Bj×Y ν):M ((Y iH)×h?):=
 (iter (σ:=Int×(Y iH)×FB×Bj×Int) (λA=>(jn (bU A.1 (aZ x.2.2) (aH ((gD (aZ A.2.1) 400),A.2)) (aH (af,A.2))) λz=>(aI z.1 (jn (α:=(Y iH)×FB×Bj×Int) (bZ gq x.2.2 A.1 λL=>(aA (Dk (z.a,z.b,L)) λD=>(aI D.2.2 (bT (bc (aj z.2.1+aj ([D.2.1])) 88) (aH ((z.2.1++([D.2.1])),z.a,D.1,z.g))) (aH z.2)))) λx3=>(c5 ((cS A.1),x3))) (aH (z.2.1,z.b))))) (0,([]:Y iH),x.1,x.2.1,0))
def Gg (x:FB×Y ν):M ((fA×Y iH)×h?):=
 (aA (kM x.1) λD=>(aI (!D) (Z (((([]:Y X2),([]:Y H!),([]:Y kj),([]:Y ζ),([]:Y ζ),([]:Y π)),([]:Y iH)),(([]:Y k!),0,([]:θ),([]:Y eH)),([]:η),([]:η),([]:Y yn))) (aA (v8 x.1) λA=>(aA (yS (x.1,A,x.2)) λz=>(Z ((x.1.1,z.1),z.2))))))
abbrev K!:=Int×v?
def bC (x:K!):M K!:=
 (jn (kB (aZ x.2.1) x.2.2 (aH (J,x.2)) (aH ((gD x.1 1),x.2))) λz=>(aI z.1 (Z (0,z.2)) (lt (cS z.2.2) λD=>(bZ (.int .u8) z.2.1 (bm .i64 (D-1)) λA=>(bT (!decide ((x.1:Int)=0)) (Z ((Db (bm .i64 A) x.1),z.2.1,(cS z.2.2))))))))
def tu (x:Int):M (Xp):=
 (Z (eL (1,x,[],([]:Y Xp))))
def qP (x:ζ):M (Xp):=
 (Z (eL (2,0,x,([]:Y Xp))))
def o7 (x:Int×Xp×Xp):M (Xp):=
 (Z (eL (x.1,0,[],[eL ((Xp.op x.2.1),(Xp.n x.2.1),(Xp.name x.2.1),(Xp.l x.2.1)),eL ((Xp.op x.2.2),(Xp.n x.2.2),(Xp.name x.2.2),(Xp.l x.2.2))])))
def kw (x:ζ×Xp):M (Sx):=
 (Z (o8 (1,0,x.1,[],([]:Y Xp),eL ((Xp.op x.2),(Xp.n x.2),(Xp.name x.2),(Xp.l x.2)),([]:Y Sx),([]:Y Sx))))
def uq (x:Unit):M z_:=
 (Z ([(1,0,[120],0,0,[]),(1,0,[121],0,1,[]),(2,0,[118],0,0,[]),(1,0,[113],2,0,[]),(3,0,[109],0,0,[]),(3,0,[110],0,0,[]),(4,0,[114],0,0,[]),(5,0,[99],0,0,[109]),(6,0,[102],0,0,[])]))
def tQ (x:η):M (Y ν):=
 (iter (σ:=Int×Y ν) (λz=>(bU z.1 (aZ x) (bZ (.int .u8) x z.1 λD=>(bZ (.int .u8) x z.1 λA=>(bT (bc (aj z.2+aj ([((Db (bm .i64 D) 4),(bm .i64 ((Db (bm .i64 (Int.tdiv (bm .i64 A) 4)) 5)-1)))])) 16) (c5 ((cS z.1),(z.2++([((Db (bm .i64 D) 4),(bm .i64 ((Db (bm .i64 (Int.tdiv (bm .i64 A) 4)) 5)-1)))]))))))) (aH z.2))) (0,([]:Y ν)))
def zC (rmade_maker_expr:ag3->M apk) (x:Int×k?):M apk:=
 (aA (bC (10,x.a)) λy1=>(jn (α:=Bool×HH×iI×X3×(Int×Int×ζ)×Y ζ) (bU y1.1 2 (aH (J,x.2.1,y1.2,x.e,(0,0,[]),[[97],[98],[120],[121],[118],[120],[121]])) (bq x.1 0 (aH ((db 7 y1.1),x.2.1,y1.2,x.e,(0,0,[]),[[97],[98],[120],[121],[118],[120],[121]])) (aH (af,x.2.1,y1.2,x.e,(0,0,[]),[[97],[98],[120],[121],[118],[120],[121]])))) λz=>(aI z.1 (aA (bC (4,z.a)) λy3=>(aA (tu y3.1) λy4=>(Z (eL ((Xp.op y4),(Xp.n y4),(Xp.name y4),(Xp.l y4)),z.2.1,y3.2,z.b)))) (bU y1.1 7 (aA (bC ((aZ z.h),z.a)) λy5=>(kY (.str) z.h y5.1 λz6=>(aA (qP z6) λy7=>(Z (eL ((Xp.op y7),(Xp.n y7),(Xp.name y7),(Xp.l y7)),z.2.1,y5.2,z.b))))) (bq y1.1 7 (aA (rmade_maker_expr (0,z.2.1,z.a,z.b)) λy8=>(bT (((z.b.1==y8.b)&&J)&&ax (aj z.b.2) (aj y8.g)&&J) (Z (eL (3,0,[113],[eL ((Xp.op y8.1),(Xp.n y8.1),(Xp.name y8.1),(Xp.l y8.1))]),y8.2)))) (aA (bC ((aQ (aj ([6,7,8,11,13,17]))),z.a)) λy9=>(kY aM ([6,7,8,11,13,17]) y9.1 λz10=>(aA (rmade_maker_expr ((bm .i64 (x.1-1)),z.2.1,y9.2,z.b)) λA=>(bT (((z.b.1==A.b)&&J)&&ax (aj z.b.2) (aj A.g)&&J) (aA (rmade_maker_expr ((bm .i64 (x.1-1)),A.2)) λL=>(bT (((A.b==L.b)&&J)&&ax (aj A.g) (aj L.g)&&J) (aA (o7 (z10,A.1,L.1)) λD=>(Z (eL ((Xp.op D),(Xp.n D),(Xp.name D),(Xp.l D)),L.2))))))))))))))
def mC:Nat->ag3->M apk
 |0,_=>U
 |n+1,x=>zC (mC n) x
def fK (x:Int×k?):M apk:=mC fuel x
def fg (x:ζ×k?):M (Bool×k?):=
 (aA (ku (x.g,x.1)) λz=>(Z ((db 0 z),x.2)))
def od (rmade_maker_stmts:apm->M ag2) (rmade_maker_stmt:ag3->M alc) (rmade_maker_block:apl->M ald) (x:ν×k?):M ag2:=
 (iter (σ:=Int×HH×iI×(Y Sx)×Bool×Y ζ) (λA=>(jn (bU A.1 x.1.2 (bq A.1 0 (aH (J,A.2)) (aH ((gD 0 A.2.1.2.1),A.2))) (aH (af,A.2))) λz=>(aI z.1 (aA (rmade_maker_stmt (x.1.1,z.2.1,z.a,z.g)) λD=>(bT (((z.c==z.c)&&J)&&ax (aj z.h) (aj z.h)&&J) (bT (bc (aj z.b+aj ([eP D.1])) 176) (c5 ((cS A.1),D.2.1,D.a,(z.b++([eP D.1])),D.e))))) (aH (z.2.1,z.a,z.g,z.b))))) (0,x.2.1,x.a,([]:Y Sx),x.e))
abbrev p?:=Bool×HH×iI×aah×Bool×Y ζ
def pa (rmade_maker_stmts:apm->M ag2) (rmade_maker_stmt:ag3->M alc) (rmade_maker_block:apl->M ald) (x:Int×k?):M alc:=
 (aA (bC (18,x.a)) λy1=>(jn (α:=p?) (bU 0 x.1 (lt (bm .i64 (x.2.1.2.1-1)) λz3=>(bU 0 z3 (aH ((!x.2.1.b),(x.2.1.1,(bm .i64 (x.2.1.2.1-1)),x.2.1.2.2),y1.2,(0,0,[],[],0,0,[]),x.e)) (aH (af,(x.2.1.1,(bm .i64 (x.2.1.2.1-1)),x.2.1.2.2),y1.2,(0,0,[],[],0,0,[]),x.e)))) (aH (af,(x.2.1.1,(bm .i64 (x.2.1.2.1-1)),x.2.1.2.2),y1.2,(0,0,[],[],0,0,[]),x.e))) λx2=>(bU y1.1 4 (kY (.str) ([[120],[121],[120],[118]]) y1.1 λz4=>(aA (fK (1,x2.2.1,x2.a,x2.g)) λy5=>(bT (((x2.c==y5.b)&&J)&&ax (aj x2.h) (aj y5.g)&&J) (aA (kw (z4,y5.1)) λy6=>(Z (eP y6,y5.2)))))) (bq y1.1 4 (aA (bC (2,x2.a)) λy7=>(kY (.str) ([[97],[98]]) y7.1 λz8=>(aA (fK (1,x2.2.1,y7.2,x2.g)) λy9=>(bT (((x2.c==y9.b)&&J)&&ax (aj x2.h) (aj y9.g)&&J) (aA (kw (z8,y9.1)) λy10=>(Z (eP y10,y9.2))))))) (bq y1.1 5 (aA (fK (0,x2.2.1,x2.a,x2.g)) λy11=>(bT (((x2.c==y11.b)&&J)&&ax (aj x2.h) (aj y11.g)&&J) (aA (fK (1,y11.2)) λy12=>(bT (((y11.b==y12.b)&&J)&&ax (aj y11.g) (aj y12.g)&&J) (Z (o8 (1,0,[113],[],[eL ((Xp.op y11.1),(Xp.n y11.1),(Xp.name y11.1),(Xp.l y11.1))],eL ((Xp.op y12.1),(Xp.n y12.1),(Xp.name y12.1),(Xp.l y12.1)),([]:Y Sx),([]:Y Sx)),y12.2)))))) (jn (bq y1.1 6 (aH ((gD 0 x.1),x2.2)) (aH (af,x2.2))) λx13=>(aI x13.1 (aA (fK (1,x13.2.1,x13.a,x13.g)) λL=>(bT (((x13.c==L.b)&&J)&&ax (aj x13.h) (aj L.g)&&J) (aA (rmade_maker_stmts (((bm .i64 (x.1-1)),1),L.2)) λy15=>(bT (((L.b==L.b)&&J)&&ax (aj L.g) (aj L.g)&&J) (jn (α:=HH×iI×aah×(Int×Int×(ζ)×(ζ)×Int×Int×(ζ)×Y Xp)×X3×(Y Sx)×Y Sx) (aA (bC (2,y15.2.1)) λy17=>(bq y17.1 1 (aA (rmade_maker_stmts (((bm .i64 (x.1-1)),1),y15.1,y17.2,y15.a)) λy18=>(bT (((y15.a.1==y15.a.1)&&J)&&ax (aj y15.a.2) (aj y15.a.2)&&J) (aH (y18.1,y18.2.1,x13.b,(2,0,[],[],(Xp.op L.1),(Xp.n L.1),(Xp.name L.1),(Xp.l L.1)),y18.a,y15.e,y18.e)))) (aH (y15.1,y17.2,x13.b,(2,0,[],[],(Xp.op L.1),(Xp.n L.1),(Xp.name L.1),(Xp.l L.1)),y15.a,y15.e,([]:Y Sx))))) λx16=>(Z (o8 (x16.b.1,x16.b.2.1,x16.b.a,x16.b.b,([]:Y Xp),eL x16.b.g,x16.h),x16.1,x16.2.1,x16.c))))))) (jn (bq y1.1 7 (aH ((gD 0 x.1),x13.2)) (aH (af,x13.2))) λz=>(aI z.1 (aA (qP ([98])) λy20=>(aA (tu 2) λy21=>(aA (o7 (13,y20,y21)) λy22=>(aA (rmade_maker_stmts (((bm .i64 (x.1-1)),1),(z.2.1.1,z.2.1.2.1,z.2.1.a,z.2.1.b,z.2.1.c,J),z.a,z.g)) λy23=>(bT (((z.c==z.c)&&J)&&ax (aj z.h) (aj z.h)&&J) (aA (qP ([98])) λy24=>(aA (tu 1) λy25=>(aA (o7 (6,y24,y25)) λy26=>(aA (kw ([98],y26)) λy27=>(bT (bc (aj y23.e+aj ([eP y27])) 176) (Z (o8 (3,0,[],[],([]:Y Xp),eL ((Xp.op y22),(Xp.n y22),(Xp.name y22),(Xp.l y22)),(y23.e++([eP y27])),([]:Y Sx)),(y23.1.1,y23.1.2.1,y23.1.a,y23.1.b,y23.1.c,z.2.1.h),y23.2.1,y23.a)))))))))))) (jn (α:=p?) (bq y1.1 8 (aI x2.1 (kY (.str) ([[109],[110]]) (bm .i64 (y1.1-8)) λz29=>(aA (fg (z29,z.2.1,z.a,z.g)) λy30=>(bT (((z.c==y30.b)&&J)&&ax (aj z.h) (aj y30.g)&&J) (aH ((!y30.1),y30.2.1,y30.a,z.b,y30.e))))) (aH (af,z.2))) (bq y1.1 9 (aI x2.1 (kY (.str) ([[109],[110]]) (bm .i64 (y1.1-8)) λz31=>(aA (fg (z31,z.2.1,z.a,z.g)) λy32=>(bT (((z.c==y32.b)&&J)&&ax (aj z.h) (aj y32.g)&&J) (aH ((!y32.1),y32.2.1,y32.a,z.b,y32.e))))) (aH (af,z.2))) (aH (af,z.2)))) λA=>(aI A.1 (kY (.str) ([[109],[110]]) (bm .i64 (y1.1-8)) λz33=>(aA (rmade_maker_block ((z33,(bm .i64 (x.1-1))),A.2.1,A.a,A.g)) λy34=>(bT (((A.c==A.c)&&J)&&ax (aj A.h) (aj A.h)&&J) (Z (o8 (4,0,z33,[],([]:Y Xp),eL (0,0,[],([]:Y Xp)),y34.1,([]:Y Sx)),y34.2))))) (jn (α:=p?) (bq y1.1 10 (aI x2.1 (aA (fg ([114],A.2.1,A.a,A.g)) λy36=>(bT (((A.c==y36.b)&&J)&&ax (aj A.h) (aj y36.g)&&J) (aH ((!y36.1),y36.2.1,y36.a,A.b,y36.e)))) (aH (af,A.2))) (bq y1.1 11 (aI x2.1 (aA (fg ([114],A.2.1,A.a,A.g)) λy37=>(bT (((A.c==y37.b)&&J)&&ax (aj A.h) (aj y37.g)&&J) (aH ((!y37.1),y37.2.1,y37.a,A.b,y37.e)))) (aH (af,A.2))) (aH (af,A.2)))) λx35=>(aI x35.1 (aA (rmade_maker_block (([114],(bm .i64 (x.1-1))),x35.2.1,x35.a,x35.g)) λy38=>(bT (((x35.c==x35.c)&&J)&&ax (aj x35.h) (aj x35.h)&&J) (Z (o8 ((bm .i64 ((bm .i64 (y1.1-10))+5)),0,[114],[],([]:Y Xp),eL (0,0,[],([]:Y Xp)),y38.1,([]:Y Sx)),y38.2)))) (jn (bq y1.1 12 (aH (x2.1,x35.2)) (aH (af,x35.2))) λx39=>(aI x39.1 (aA (bC (2,x39.a)) λy40=>(aA (rmade_maker_stmts ((0,(bm .i64 (1+y40.1))),(x39.2.1.1,x39.2.1.2.1,x39.2.1.a,J,x39.2.1.g),y40.2,x39.g)) λy41=>(bT (((x39.c==x39.c)&&J)&&ax (aj x39.h) (aj x39.h)&&J) (Z (o8 (7,0,[],[],([]:Y Xp),eL (0,0,[],([]:Y Xp)),y41.e,([]:Y Sx)),(y41.1.1,y41.1.2.1,y41.1.a,af,y41.1.g),y41.2.1,y41.a))))) (jn (bq y1.1 13 (aI x2.1 (aH ((!x39.2.1.c),x39.2)) (aH (af,x39.2))) (aH (af,x39.2))) λD=>(aI D.1 (aA (rmade_maker_stmts (((bm .i64 (x.1-1)),2),(D.2.1.1,D.2.1.2.1,D.2.1.a,D.2.1.b,J,D.2.1.h),D.a,D.g)) λy43=>(bT (((D.c==D.c)&&J)&&ax (aj D.h) (aj D.h)&&J) (Z (o8 (8,0,[],[],([]:Y Xp),eL (0,0,[],([]:Y Xp)),y43.e,([]:Y Sx)),(y43.1.1,y43.1.2.1,y43.1.a,y43.1.b,af,y43.1.h),y43.2.1,y43.a)))) (jn (α:=p?) (bq y1.1 14 (aI x2.1 (aI (!D.2.1.c) (aA (fg ([109],D.2.1,D.a,D.g)) λy45=>(bT (((D.c==y45.b)&&J)&&ax (aj D.h) (aj y45.g)&&J) (aH ((!y45.1),y45.2.1,y45.a,D.b,y45.e)))) (aH (af,D.2))) (aH (af,D.2))) (aH (af,D.2))) λx44=>(aI x44.1 (aA (qP ([120])) λy46=>(aA (kw ([97],y46)) λy47=>(Z (o8 (4,0,[109],[],([]:Y Xp),eL (0,0,[],([]:Y Xp)),[o8 (9,0,[99],[],([]:Y Xp),eL (0,0,[],([]:Y Xp)),([]:Y Sx),([]:Y Sx)),eP y47],([]:Y Sx)),x44.2.1,x44.a,x44.g)))) (jn (α:=p?) (bq y1.1 15 (aI x2.1 (aA (fg ([109],x44.2.1,x44.a,x44.g)) λy49=>(bT (((x44.c==y49.b)&&J)&&ax (aj x44.h) (aj y49.g)&&J) (aH ((!y49.1),y49.2.1,y49.a,x44.b,y49.e)))) (aH (af,x44.2))) (aH (af,x44.2))) λx48=>(aI x48.1 (aA (bC (2,x48.a)) λy50=>(Z (o8 (4,0,[109],[],([]:Y Xp),eL (0,0,[],([]:Y Xp)),[o8 ((bm .i64 (10+y50.1)),0,[99],[],([]:Y Xp),eL (0,0,[],([]:Y Xp)),([]:Y Sx),([]:Y Sx))],([]:Y Sx)),x48.2.1,y50.2,x48.g))) (jn (bq y1.1 16 (aI (!x48.2.1.b) (aI (!x48.2.1.h) (aH ((!x48.2.1.a),x48.2)) (aH (af,x48.2))) (aH (af,x48.2))) (aH (af,x48.2))) λx51=>(aI x51.1 (aA (fK (1,(x51.2.1.1,x51.2.1.2.1,J,x51.2.1.e),x51.a,x51.g)) λy52=>(bT (((x51.c==y52.b)&&J)&&ax (aj x51.h) (aj y52.g)&&J) (Z (o8 (14,0,[102],[],([]:Y Xp),eL ((Xp.op y52.1),(Xp.n y52.1),(Xp.name y52.1),(Xp.l y52.1)),([]:Y Sx),([]:Y Sx)),y52.2)))) (jn (α:=p?) (bq y1.1 17 (aI (!x51.2.1.b) (aA (bC (2,x51.a)) λy54=>(aH ((decide ((y54.1:Int)=1)),x51.2.1,y54.2,x51.e))) (aH (af,x51.2))) (aH (af,x51.2))) λx53=>(aI x53.1 (Z (o8 (15,0,[97],[102],([]:Y Xp),eL (0,0,[],([]:Y Xp)),([]:Y Sx),([]:Y Sx)),x53.2.1,x53.a,x53.g)) (aA (fK (1,x53.2.1,x53.a,x53.g)) λy55=>(bT (((x53.c==y55.b)&&J)&&ax (aj x53.h) (aj y55.g)&&J) (aA (kw ([120],y55.1)) λy56=>(Z (eP y56,y55.2))))))))))))))))))))))))))))))
def oe (rmade_maker_stmts:apm->M ag2) (rmade_maker_stmt:ag3->M alc) (rmade_maker_block:apl->M ald) (x:kj×k?):M ald:=
 (bT (bc (aj x.g+aj ([x.1.1])) 16) (aA (bC (2,x.a)) λA=>(aA (rmade_maker_stmts ((x.1.2,(bm .i64 (1+A.1))),x.2.1,A.2,x.b,(x.g++([x.1.1])))) λz=>(bT (((x.b==x.b)&&J)&&ax (aj (x.g++([x.1.1]))) (aj (x.g++([x.1.1])))&&J) (bT (db 0 (bm .i64 ((aZ z.a.2)-1))&&gD (bm .i64 ((aZ z.a.2)-1)) (aj z.a.2)) (Z (z.e,z.1,z.2.1,af,(dP (aN (bm .i64 ((aZ z.a.2)-1))) z.a.2))))))))
mutual
def dV:Nat->apm->M ag2
 |0,_=>U
 |n+1,x=>od (dV n) (eZ n) (eD n) x
def eZ:Nat->ag3->M alc
 |0,_=>U
 |n+1,x=>pa (dV n) (eZ n) (eD n) x
def eD:Nat->apl->M ald
 |0,_=>U
 |n+1,x=>oe (dV n) (eZ n) (eD n) x
end
def rX (x:ν×k?):M ag2:=dV fuel x
abbrev q?:=HH×z_×dm×kj×iI×X3×(Y zZ)×dm×Y Sx
def pR (x:η):M B!:=
 (aA (uq ()) λy1=>(aA (bC (3,x,0)) λy2=>(iter (σ:=Int×HH×z_×dm×iI×X3×Y zZ) (λD=>(bU D.1 (bm .i64 (2+y2.1)) (kY (.str) D.b D.1 λz4=>(jn (α:=q?) (bq D.1 0 (iter (σ:=Int×q?) (λx6=>(bU x6.1 (bm .i64 (2+y2.1)) (kY (.str) x6.b x6.1 λz7=>(bT (bc (aj x6.w+aj ([o8 (12,0,z7,[],([]:Y Xp),eL (0,0,[],([]:Y Xp)),([]:Y Sx),([]:Y Sx))])) 176) (c5 ((cS x6.1),x6.2.1,x6.a,x6.b,x6.c,x6.d,x6.f,x6.i,x6.j,(x6.w++([o8 (12,0,z7,[],([]:Y Xp),eL (0,0,[],([]:Y Xp)),([]:Y Sx),([]:Y Sx))])))))) (aH (b8 x6.2)))) (1,(D.1,D.2.1.2),D.a,D.b,(z4,0),D.c,D.d,D.n,[[97],[98]],([]:Y Sx))) (aH ((D.1,D.2.1.2),D.a,D.b,(z4,0),D.c,D.d,D.n,[[97],[98]],([]:Y Sx)))) λL=>(aA (bC (3,L.c)) λy8=>(aA (rX ((2,(bm .i64 (1+y8.1))),L.1,y8.2,L.d)) λy9=>(bT (((L.d.1==L.d.1)&&J)&&ax (aj L.d.2) (aj L.d.2)&&J) (bT (bc (aj L.r+aj y9.e) 176) (jn (α:=q?) (jn (α:=Bool×q?) (bq D.1 0 (aA (bC (3,y9.2.1)) λy12=>(aH ((decide ((y12.1:Int)=2)),y9.1,L.2.1,L.a,L.b,y12.2,y9.a,L.f,L.i,(L.r++y9.e)))) (aH (af,y9.1,L.2.1,L.a,L.b,y9.2.1,y9.a,L.f,L.i,(L.r++y9.e)))) λz=>(aI z.1 (kY (.str) z.b 1 λz13=>(bT (bc (aj z.w+aj ([o8 (13,0,z13,[],([]:Y Xp),eL (0,0,[],([]:Y Xp)),([]:Y Sx),([]:Y Sx))])) 176) (aH (z.2.1,z.a,z.b,z.c,z.d,z.f,z.i,z.j,(z.w++([o8 (13,0,z13,[],([]:Y Xp),eL (0,0,[],([]:Y Xp)),([]:Y Sx),([]:Y Sx))])))))) (aH z.2))) λA=>(bT (bc (aj A.f+aj ([(A.b.1,A.b.2,A.p)])) 72) (c5 ((cS D.1),A.1,A.2.1,A.a,A.c,A.d,(A.f++([(A.b.1,A.b.2,A.p)])))))))))))) (aA (aA (gm (D.a,D.n)) λy14=>(jP y14.1 0 (aA (uq ()) λy15=>(aA (tu 1) λy16=>(aA (kw ([120],y16)) λy17=>(Z (y15,[([109,97,105,110],0,[[97],[98]],[eP y17])]))))) (Z (D.a,D.n)))) λr=>Z (b8 r)))) (0,(0,20,af,af,af,af),y1,[[109,97,105,110],[116,49],[116,50],[116,51]],y2.2,(J,([]:Y ζ)),([]:Y zZ)))))
def AC (x:η):M FB:=
 (aA (pR x) λA=>(aA (rV A) λz=>(Z z.1)))
def xy (x:v!):M t?:=
 (aA (AC x.1) λD=>(aA (tQ x.2) λA=>(aA (Gg (D,A)) λz=>(Z z.1))))
def oU (x:Unit):M fA:=
 (iter (σ:=F?) (λA=>(bU A.1 (aQ (aj ([[109,97,105,110],[116,49],[116,50],[116,51]]))) (iter (σ:=F?) (λz=>(bU z.1 6 (bT (bc (aj z.n+aj ([(A.1,z.1,(bm .i64 ((bm .i64 ((bm .i64 (10*A.1))+z.1))+1)))])) 24) (c5 ((cS z.1),z.2.1,z.a,z.b,z.c,z.d,(z.n++([(A.1,z.1,(bm .i64 ((bm .i64 ((bm .i64 (10*A.1))+z.1))+1)))]))))) (aH (rB ((cS A.1),z.2))))) (0,A.2)) (aH A.2))) (0,[([120],0,0,af,0),([121],0,0,af,1),([118],0,0,J,0),([113],0,2,af,0),([113],1,2,af,0)],[([109],af),([110],af),([114],J)],[([99],0)],[[102]],[[109,97,105,110],[116,49],[116,50],[116,51]],([]:Y π)))
def oD (x:R?):M η:=
 (iter (σ:=k!) (λz=>(bU z.1 (aZ x.1.e) (jn (α:=η) (bZ iF x.1.e z.1 λA=>(bq A.1 3 (bT (bc (aj z.2+aj ([z.1])) 8) (aH (z.2++([z.1])))) (aH z.2))) λD=>(c5 ((cS z.1),D))) (aH z.2))) (0,([]:η)))
def vq (x:Unit):M η:=
 (Z ([3,3,3,3,3,4,4,4,4,4,5,5,5,6,6,6,7,7,7,8,9,10,11,12,13,14,14,15,16,16,17,17,18,18,19,20,1,1,2,21,22,23,23]))
def pN (x:ν×v?):M K!:=
 (jn (bq x.1.1 3 (aH ((decide ((x.1.1:Int)=3)),x.2)) (aH ((decide ((x.1.1:Int)=4)),x.2))) λL=>(aI L.1 (aA (bC (8,L.2)) λy2=>(kY aM ([0,0,0,1,1,2,3,4]) y2.1 λz3=>(Z (z3,y2.2)))) (jn (bq x.1.1 6 (aH ((decide ((x.1.1:Int)=6)),L.2)) (aH ((decide ((x.1.1:Int)=7)),L.2))) λA=>(aI A.1 (aA (bC (2,A.2)) λy5=>(Z y5)) (jn (bq x.1.1 8 (aH ((decide ((x.1.1:Int)=8)),A.2)) (bq x.1.1 9 (aH ((decide ((x.1.1:Int)=9)),A.2)) (bq x.1.1 10 (aH ((decide ((x.1.1:Int)=10)),A.2)) (aH ((decide ((x.1.1:Int)=11)),A.2))))) λz=>(aI z.1 (Z (2,z.2)) (jn (bq x.1.1 16 (aH ((decide ((x.1.1:Int)=16)),z.2)) (bq x.1.1 17 (aH ((decide ((x.1.1:Int)=17)),z.2)) (bq x.1.1 18 (aH ((decide ((x.1.1:Int)=18)),z.2)) (bq x.1.1 19 (aH ((decide ((x.1.1:Int)=19)),z.2)) (bq x.1.1 22 (aH ((decide ((x.1.1:Int)=22)),z.2)) (aH ((decide ((x.1.1:Int)=23)),z.2))))))) λD=>(aI D.1 (Z (0,D.2)) (jn (bq x.1.1 20 (aH ((decide ((x.1.1:Int)=20)),D.2)) (aH ((decide ((x.1.1:Int)=21)),D.2))) λx8=>(aI x8.1 (aA (bC (3,x8.2)) λy9=>(Z ((Db (bm .i64 ((cS x.1.2)+y9.1)) 4),y9.2))) (Z ((-1),x8.2))))))))))))
def rP (x:(ky×Int×Int)×v?):M K!:=
 (bq x.1.2.1 3 (bZ aM x.1.1.2.1 x.1.2.2 λz1=>(Z (z1,x.2))) (bq x.1.2.1 23 (bZ aM x.1.1.a 0 λz2=>(Z (z2,x.2))) (jn (bq x.1.2.1 4 (aH ((decide ((x.1.2.1:Int)=4)),x.2,x.1.1)) (aH ((decide ((x.1.2.1:Int)=22)),x.2,x.1.1))) λz=>(aI z.1 (aA (bC (3,z.2.1)) λy4=>(Z y4)) (bq x.1.2.1 5 (aA (bC (2,z.2.1)) λy5=>(Z y5)) (bq x.1.2.1 18 (aA (oD z.2.2) λA=>(bU 0 (aZ A) (aA (bC ((aZ A),z.2.1)) λD=>(bZ aM A D.1 λL=>(Z (L,D.2)))) (Z ((-1),z.2.1)))) (bq x.1.2.1 19 (aA (oD z.2.2) λy9=>(Z ((aZ y9),z.2.1))) (Z (0,z.2.1)))))))))
def iz (x:iI×η):M (η×iI×η):=
 (iter (σ:=Int×iI×J?) (λz=>(bU z.1 (aZ x.2) (jn (α:=iI×J?) (kY aM z.a z.1 λD=>(jn (α:=Bool×iI×J?) (kB (aZ z.a) (bm .i64 (z.1+3)) (aA (bC (2,z.2.1)) λL=>(aH ((decide ((L.1:Int)=1)),L.2,z.2.2))) (aH (af,z.2))) λA=>(aI A.1 (bT (bc (aj A.e+aj ([D])) 8) (aH (A.2.1,A.a,(A.e++([D]))))) (aH A.2)))) λx2=>(c5 ((cS z.1),x2))) (aH (z.e,z.2.1,z.a)))) (0,x.1,x.2,([]:η)))
abbrev G!:=iI×(η)×(η)×(η)×(η)×ky×fA×HJ×Int×u?
def rQ (x:(ky×nV×nk×(Y kj)×dm×dm×Y π)×iI×(η)×f?):M (iH×iI×(η)×f?):=
 (aA (bC (4,x.2.1)) λL=>(aA (vq ()) λy2=>(aA (bC ((aZ y2),L.2)) λy3=>(bZ aM y2 y3.1 λz4=>(aA (bC (6,y3.2)) λy5=>(jn (α:=G!) (jn (α:=Bool×G!) (bq z4 1 (aH (J,y5.2,x.a,x.b,x.c,x.h,x.1.1,x.1.2,(0,0,0,0,0),L.1,z4,0,0,(bm .i64 ((bm .i64 (L.1*6))+y5.1)))) (aH ((decide ((z4:Int)=2)),y5.2,x.a,x.b,x.c,x.h,x.1.1,x.1.2,(0,0,0,0,0),L.1,z4,0,0,(bm .i64 ((bm .i64 (L.1*6))+y5.1))))) λx7=>(aI x7.1 (aH (x7.2.1,x7.a,x7.b,x7.c,x7.d,x7.f,x7.i,x7.j,x7.m,x7.k,x7.o,x7.l,(-1))) (aH x7.2))) λD=>(aA (pN ((D.m,L.1),D.1)) λy8=>(aA (rP ((D.d,D.m,y8.1),y8.2)) λy9=>(jn (α:=iI×(η)×(η)×(η)×(η)×HJ×Int×Int×Int×Int×k!) (jn (bq D.m 5 (aH (J,y9.2,D.2.1,D.a,D.b,D.c,D.i,D.j,D.m,y8.1,y9.1,D.z)) (bq D.m 3 (bZ l7 D.f.1 y8.1 λz12=>(aH ((gD 0 z12.2.2.1),y9.2,D.2.1,D.a,D.b,D.c,D.i,D.j,D.m,y8.1,y9.1,D.z))) (bq D.m 4 (bZ l7 D.f.1 y8.1 λz13=>(aH ((gD 0 z13.2.2.1),y9.2,D.2.1,D.a,D.b,D.c,D.i,D.j,D.m,y8.1,y9.1,D.z))) (aH (af,y9.2,D.2.1,D.a,D.b,D.c,D.i,D.j,D.m,y8.1,y9.1,D.z))))) λA=>(aI A.1 (bq L.1 0 (aA (iz (A.2.1,A.a)) λy14=>(bT (ax (aj A.a) (aj y14.2.2)&&J) (aH (y14.2.1,y14.2.2,A.b,A.c,A.d,A.f,A.i,A.j,A.m,A.k,A.v,y14.1)))) (bq L.1 1 (aA (iz (A.2.1,A.b)) λy15=>(bT (ax (aj A.b) (aj y15.2.2)&&J) (aH (y15.2.1,A.a,y15.2.2,A.c,A.d,A.f,A.i,A.j,A.m,A.k,A.v,y15.1)))) (bq L.1 2 (aA (iz (A.2.1,A.c)) λy16=>(bT (ax (aj A.c) (aj y16.2.2)&&J) (aH (y16.2.1,A.a,A.b,y16.2.2,A.d,A.f,A.i,A.j,A.m,A.k,A.v,y16.1)))) (bq L.1 3 (aA (iz (A.2.1,A.d)) λy17=>(bT (ax (aj A.d) (aj y17.2.2)&&J) (aH (y17.2.1,A.a,A.b,A.c,y17.2.2,A.f,A.i,A.j,A.m,A.k,A.v,y17.1)))) U)))) (aH (A.2.1,A.a,A.b,A.c,A.d,A.f,A.i,A.j,A.m,A.k,A.v,([]:η))))) λx10=>(jn (α:=iI×(η)×(η)×(η)×(η)×HJ×c!) (jn (bq x10.i 4 (aH (J,x10)) (aH ((decide ((x10.i:Int)=22)),x10))) λz=>(aI z.1 (bq L.1 0 (aA (iz (z.2.1,z.a)) λy20=>(bT (ax (aj z.a) (aj y20.2.2)&&J) (aH (y20.2.1,y20.2.2,z.b,z.c,z.d,z.f,z.i,z.j,z.m,z.k,z.o,z.z,y20.1)))) (bq L.1 1 (aA (iz (z.2.1,z.b)) λy21=>(bT (ax (aj z.b) (aj y21.2.2)&&J) (aH (y21.2.1,z.a,y21.2.2,z.c,z.d,z.f,z.i,z.j,z.m,z.k,z.o,z.z,y21.1)))) (bq L.1 2 (aA (iz (z.2.1,z.c)) λy22=>(bT (ax (aj z.c) (aj y22.2.2)&&J) (aH (y22.2.1,z.a,z.b,y22.2.2,z.d,z.f,z.i,z.j,z.m,z.k,z.o,z.z,y22.1)))) (bq L.1 3 (aA (iz (z.2.1,z.d)) λy23=>(bT (ax (aj z.d) (aj y23.2.2)&&J) (aH (y23.2.1,z.a,z.b,z.c,y23.2.2,z.f,z.i,z.j,z.m,z.k,z.o,z.z,y23.1)))) U)))) (aH (z.2.1,z.a,z.b,z.c,z.d,z.f,z.i,z.j,z.m,z.k,z.o,z.z,([]:η))))) λx18=>(Z (x18.n,x18.1,x18.2.1,x18.a,x18.b,x18.c))))))))))))
abbrev m?:=iI×ky×fA×(η)×f?
abbrev Q!:=iI×ky×fA×(Y iH)×(η)×f?
abbrev T!:=Bool×m?
def ua (x:(ky×fA×Int×Bool)×v?):M ((Y iH)×v?):=
 (bT (db 0 (aZ x.1.2.1.c)&&db (aZ x.1.2.1.c) (aZ x.1.2.1.c)&&bc (aN (aZ x.1.2.1.c)) 24&&decide (((aZ x.1.2.1.c):Int)=4)) (jn (α:=m?) (bU 0 (aQ 4) (jn (α:=m?) (jn (α:=T!) (aI x.1.e (bZ aM x.1.1.e 0 λz4=>(bU 1 z4 (aA (bC (3,x.2)) λy5=>(aH ((decide ((y5.1:Int)=2)),y5.2,x.1.1,x.1.2.1,([]:η),([]:η),([]:η),([]:η)))) (aH (af,x.2,x.1.1,x.1.2.1,([]:η),([]:η),([]:η),([]:η))))) (aH (af,x.2,x.1.1,x.1.2.1,([]:η),([]:η),([]:η),([]:η)))) λx3=>(aI x3.1 (bT (bc (aj x3.c+aj ([1])) 8) (aH (x3.2.1,x3.a,x3.b,(x3.c++([1])),x3.h))) (aH x3.2))) λx2=>(bU 1 (aQ 4) (jn (α:=m?) (jn (α:=T!) (aI x.1.e (bZ aM x2.2.1.e 1 λz8=>(bU 1 z8 (aA (bC (3,x2.1)) λy9=>(aH ((decide ((y9.1:Int)=2)),y9.2,x2.2))) (aH (af,x2)))) (aH (af,x2))) λx7=>(aI x7.1 (bT (bc (aj x7.d+aj ([1])) 8) (aH (x7.2.1,x7.a,x7.b,x7.c,(x7.d++([1])),x7.n))) (aH x7.2))) λx6=>(bU 2 (aQ 4) (jn (α:=m?) (jn (α:=T!) (aI x.1.e (bZ aM x6.2.1.e 2 λz12=>(bU 1 z12 (aA (bC (3,x6.1)) λy13=>(aH ((decide ((y13.1:Int)=2)),y13.2,x6.2))) (aH (af,x6)))) (aH (af,x6))) λx11=>(aI x11.1 (bT (bc (aj x11.f+aj ([1])) 8) (aH (x11.2.1,x11.a,x11.b,x11.c,x11.d,(x11.f++([1])),x11.p))) (aH x11.2))) λx10=>(bU 3 (aQ 4) (jn (α:=m?) (jn (α:=T!) (aI x.1.e (bZ aM x10.2.1.e 3 λz16=>(bU 1 z16 (aA (bC (3,x10.1)) λy17=>(aH ((decide ((y17.1:Int)=2)),y17.2,x10.2))) (aH (af,x10)))) (aH (af,x10))) λL=>(aI L.1 (bT (bc (aj L.p+aj ([1])) 8) (aH (L.2.1,L.a,L.b,L.c,L.d,L.f,(L.p++([1]))))) (aH L.2))) λx14=>(bU 4 (aQ 4) (jn (α:=m?) (jn (α:=T!) (aI x.1.e (bZ aM x14.2.1.e 4 λz20=>(bU 1 z20 (aA (bC (3,x14.1)) λy21=>(aH ((decide ((y21.1:Int)=2)),y21.2,x14.2))) (aH (af,x14)))) (aH (af,x14))) λx19=>(aI x19.1 U (aH x19.2))) λx18=>U) (aH x14))) (aH x10))) (aH x6))) (aH x2))) (aH (x.2,x.1.1,x.1.2.1,([]:η),([]:η),([]:η),([]:η)))) λx1=>(iter (σ:=Q!) (λx22=>(jn (bU (aZ x22.b) x.1.a (aH ((gD x22.1.2 (aZ x22.1.1)),x22)) (aH (af,x22))) λA=>(aI A.1 (jn (α:=Q!) (aA (rQ ((A.a,A.b),A.2.1,A.h)) λD=>(bT (ax (aj A.r) (aj D.h)&&(ax (aj A.i) (aj D.c)&&(ax (aj A.f) (aj D.b)&&(ax (aj A.d) (aj D.a)&&J)))) (aA (s6 (A.b,A.a,D.1)) λy26=>(aI (!y26.2) (aH (D.2.1,A.a,A.b,A.c,D.2.2)) (jn (α:=iI×ky×fA×(Y iH)×iH×ky×(η)×f?) (jn (bq D.1.2.1 3 (aH (J,D.2.1,A.a,A.b,A.c,D.1,y26.1,D.2.2)) (aH ((decide ((D.1.2.1:Int)=23)),D.2.1,A.a,A.b,A.c,D.1,y26.1,D.2.2))) λz=>(aI z.1 (bq z.d.1 0 (bZ aM z.a.e 0 λz29=>(bT (bc (aj z.i+aj ([z29])) 8) (aH (z.2.1,z.a,z.b,z.c,(0,z.d.2),z.f,(z.i++([z29])),z.r)))) (bq z.d.1 1 (bZ aM z.a.e 1 λz30=>(bT (bc (aj z.j+aj ([z30])) 8) (aH (z.2.1,z.a,z.b,z.c,(1,z.d.2),z.f,z.i,(z.j++([z30])),z.w)))) (bq z.d.1 2 (bZ aM z.a.e 2 λz31=>(bT (bc (aj z.m+aj ([z31])) 8) (aH (z.2.1,z.a,z.b,z.c,(2,z.d.2),z.f,z.i,z.j,(z.m++([z31])),z.y)))) (bq z.d.1 3 (bZ aM z.a.e 3 λz32=>(bT (bc (aj z.y+aj ([z32])) 8) (aH (z.2.1,z.a,z.b,z.c,(3,z.d.2),z.f,z.i,z.j,z.m,(z.y++([z32])))))) U)))) (aH z.2))) λx27=>(bT (bc (aj x27.b+aj ([x27.c])) 88) (aH (x27.1,x27.d,x27.a,(x27.b++([x27.c])),x27.n)))))))) λx24=>(c5 x24)) (aH (A.c,A.2.1))))) (x1.1,x1.2.1,x1.a,([]:Y iH),x1.e))))
abbrev V!:=iI×fA×ky×(Y iH)×Y iH
def rR (x:o!):M t?:=
 (jn (bU 600 (aZ x.1) (bT (db 0 600&&db 600 (aj x.1)) (aH (dP (aN 600) x.1))) (aH x.1)) λx1=>(aA (oU ()) λy2=>(aA (oE y2) λy3=>(aA (bC (3,x1,0)) λy4=>(iter (σ:=Int×iI×fA×ky×Y iH) (λA=>(kB A.1 (bm .i64 (1+y4.1)) (bT (bc (aj A.g+aj ([(0,20,A.1,0,0,([]:η),([]:η)),(A.1,1,(-1),0,(-1),([]:η),([]:η))])) 88) (c5 ((cS A.1),A.2.1,A.a,A.b,(A.g++([(0,20,A.1,0,0,([]:η),([]:η)),(A.1,1,(-1),0,(-1),([]:η),([]:η))]))))) (aA (iter (σ:=Int×V!) (λz=>(bU z.1 (aZ A.g) (jn (α:=V!) (kY j7 z.c z.1 λL=>(aA (s6 (z.a,z.b,L)) λy9=>(aI y9.2 (bT (bc (aj z.h+aj ([L])) 88) (aH (z.2.1,z.a,y9.1,z.c,(z.h++([L]))))) (aH z.2)))) λx7=>(c5 ((cS z.1),x7))) (aA (aA (ua ((z.b,z.a,(KQ (jR x.2 0) 60),af),z.2.1)) λD=>(bT (bc (aj z.h+aj D.1) 88) (aA (v7 (z.a,(z.h++D.1))) λy11=>(jP y11.2 0 (aA (oU ()) λy12=>(Z (y12,([]:Y iH)))) (Z (z.a,(z.h++D.1))))))) λr=>Z (b8 r)))) (0,A.2.1,A.a,A.b,A.g,([]:Y iH))) λr=>Z (b8 r)))) (1,y4.2,y2,y3,[(0,1,(-1),0,(-1),([]:η),([]:η))]))))))
def oV (x:(η×(η)×η)×Int):M t?:=
 (bU 0 (aZ x.1.2.2) (aA (rR (x.1.2.2,x.2)) λA=>(Z A)) (bT (db 0 (KQ (aZ x.1.2.1) x.2)&&db (KQ (aZ x.1.2.1) x.2) (aj x.1.2.1)) (aA (xy (x.1.1,(dP (aN (KQ (aZ x.1.2.1) x.2)) x.1.2.1))) λz=>(Z z))))
def Ok (o:M R) (Q:R->Prop):Prop:=∃y,o=Z y/\Q y
def Ok.mono {o:M R} {Q Q':R->Prop} (h:Ok o Q) (z:∀y,Q y->Q' y):Ok o Q':=by let⟨y,h1,A⟩:=h;exact⟨y,h1,z y A⟩
def ak {y:R} {Q:R->Prop} (h:Q y):Ok (Z y) Q:=⟨y,rfl,h⟩
def awm {o:M R} {y:R} {Q:R->Prop} (e:o=Z y) (h:Q y):Ok o Q:=⟨y,e,h⟩
def bt {k:M R} {Q:R->Prop} (h:b=J) (z:Ok k Q):Ok (chk b λ_=>k) Q:=by subst h;exact z
def aP {t f:M R} {Q:R->Prop} (ht:b=J->Ok t Q) (hf:b=af->Ok f Q):Ok (aI b t f) Q:=by
 cases b with
 |true=>exact ht rfl
 |false=>exact hf rfl
def qU {t f:M R} {Q:R->Prop} (h:b=J) (ht:Ok t Q):Ok (aI b t f) Q:=by subst h;exact ht
def j8 {t f:M R} {Q:R->Prop} (h:b=af) (hf:Ok f Q):Ok (aI b t f) Q:=by subst h;exact hf
def ay {α:Type} {o:M α} {k:α->M R} {P:α->Prop} {Q:R->Prop} (h:Ok o P) (A:∀x,P x->Ok (k x) Q):Ok (aA o k) Q:=by
 obtain⟨x,rfl,z⟩:=h;exact A x z
def be {α:Type} {o:M α} {k:α->M R} {x:α} {Q:R->Prop} (h:o=Z x) (z:Ok (k x) Q):Ok (aA o k) Q:=by subst h;exact z
def aS {α:Type} {x:α} {k:α->M R} {Q:R->Prop} (h:Ok (k x) Q):Ok (lt x k) Q:=h
def aY {α:Type} {o:M (R⊕α)} {k:α->M R} {Q:R->Prop} (P:α->Prop) (h:Ok o λr=>match r with|.inl r=>Q r|.inr x=>P x) (A:∀x,P x->Ok (k x) Q):Ok (jn o k) Q:=by
 obtain⟨r,rfl,z⟩:=h;cases r with
 |inl r=>exact⟨r,rfl,z⟩
 |inr x=>exact A x z
def ie {α:Type} {o:M (R⊕α)} {k:α->M R} {Q:R->Prop} (h:Ok o λr=>match r with|.inl r=>Q r|.inr x=>Ok (k x) Q):Ok (jn o k) Q:=aY (λx=>Ok (k x) Q) h λ_ h=>h
def anf {α:Type} {a b:α} {r:M R} {Q:R->Prop} (e:a=b) (h:Ok r Q):Ok (same a b r) Q:=by unfold same;rw[aD e];exact h
def rH {σ:Type} {f:σ->M (σ⊕R)} {Q:R->Prop} (μ:σ->Nat) (I:σ->Prop) (h:∀x,I x->Ok (f x) λr=>match r with|.inl y=>I y/\μ y<μ x|.inr r=>Q r) {x:σ} (A:I x):Ok (iter f x) Q:=by
 have key:∀n x,μ x<n->I x->∃m r,iterN f m x=Z r/\Q r:=by
  intro n;induction n with
  |zero=>intro x hm;omega
  |succ n D=>
   intro x hm A;let⟨r,h1,z⟩:=h x A;cases r with
   |inl y=>
    let⟨m,r,h3,L⟩:=D y (by omega) z.1;exact⟨m+1,r,by rw[iterN,h1];exact h3,L⟩
   |inr r=>exact⟨1,r,by rw[iterN,h1],z⟩
 let⟨m,r,h1,z⟩:=key (μ x+1) x (xi _) A;exact⟨r,Cm h1,z⟩
def cA {σ:Type} {f:σ->M (σ⊕R)} {Q:R->Prop} (n:Nat) (I:Nat->σ->Prop) (h0:∀i x,i<n->I i x->Ok (f x) λr=>match r with|.inl y=>I (i+1) y|.inr r=>Q r) (h1:∀x,I n x->Ok (f x) λr=>match r with|.inl _=>False|.inr r=>Q r) {x:σ} (D:I 0 x):Ok (iter f x) Q:=by
 have key:∀m i x,i+m=n->I i x->∃k r,iterN f k x=Z r/\Q r:=by
  intro m;induction m with
  |zero=>
   intro i x hi D;have:i=n:=by omega
   subst this;let⟨r,A,z⟩:=h1 x D;cases r with
   |inl y=>exact z.elim
   |inr r=>exact⟨1,r,by rw[iterN,A],z⟩
  |succ m L=>
   intro i x hi D;let⟨r,A,z⟩:=h0 i x (by omega) D;cases r with
   |inl y=>
    let⟨k,r,g3,g4⟩:=L (i+1) y (by omega) z;exact⟨k+1,r,by rw[iterN,A];exact g3,g4⟩
   |inr r=>exact⟨1,r,by rw[iterN,A],z⟩
 let⟨m,r,A,z⟩:=key n 0 x (by omega) D;exact⟨r,Cm A,z⟩
def itQ {σ:Type} (f:σ->M (σ⊕R)) (Q:R->Prop):σ⊕R->Prop
 |.inl y=>Ok (iter f y) Q
 |.inr r=>Q r
def jnQ {α:Type} (k:α->M R) (Q:R->Prop):R⊕α->Prop
 |.inl r=>Q r
 |.inr x=>Ok (k x) Q
def ane {σ:Type} {f:σ->M (σ⊕R)} {x:σ} {Q:R->Prop} (h:Ok (f x) (itQ f Q)):Ok (iter f x) Q:=by
 let⟨r,h1,D⟩:=h;cases r with
 |inr r=>exact⟨r,Cm (n:=1) (by rw[iterN,h1]),D⟩
 |inl y=>
  let⟨z,A,L⟩:=D;unfold iter at A;split at A
  .exact⟨z,Cm (n:=_+1) (by rw[iterN,h1];exact A),L⟩
  .cases A
def abp {σ:Type} {f:σ->M (σ⊕R)} {y:σ} {Q:R->Prop} (h:Ok (iter f y) Q):Ok (Z (.inl y)) (itQ f Q):=⟨_,rfl,h⟩
def abo {σ:Type} {f:σ->M (σ⊕R)} {r:R} {Q:R->Prop} (h:Ok (Z r) Q):Ok (Z (.inr r)) (itQ f Q):=by
 let⟨_,h1,z⟩:=h;cases h1;exact⟨_,rfl,z⟩
def abm {α:Type} {o:M (R⊕α)} {k:α->M R} {Q:R->Prop} (h:Ok o (jnQ k Q)):Ok (jn o k) Q:=by
 obtain⟨r,rfl,z⟩:=h;cases r with
 |inl r=>exact⟨r,rfl,z⟩
 |inr x=>exact z
def abn {α:Type} {r:R} {k:α->M R} {Q:R->Prop} (h:Ok (Z r) Q):Ok (Z (.inl r)) (jnQ k Q):=by
 let⟨_,h1,z⟩:=h;cases h1;exact⟨_,rfl,z⟩
def abl {α:Type} {x:α} {k:α->M R} {Q:R->Prop} (h:Ok (k x) Q):Ok (Z (.inr x)) (jnQ k Q):=⟨_,rfl,h⟩
def oQ {α:Type} (k:α->M R) (Q:R->Prop) (x:α):Prop:=Ok (k x) Q
def Vs {α:Type} {o:M α} {k:α->M R} {Q:R->Prop} (h:Ok o (oQ k Q)):Ok (aA o k) Q:=ay h λ_ h=>h
def Vr {α:Type} {x:α} {k:α->M R} {Q:R->Prop} (h:Ok (k x) Q):Ok (Z x) (oQ k Q):=⟨_,rfl,h⟩
variable {a:Int}
def S7 :dL a i=J↔0<=a/\a<i:=by simp[dL,db,gD]
def S9 {b:Int}:db a b=J↔a<=b:=by simp[db]
def r7 {b:Int}:gD a b=J↔a<b:=by simp[gD]
def kh {b:Int}:gD a b=af↔b<=a:=by simp[gD]
def nF {b:Int}:db a b=af↔b<a:=by simp[db]
def ae3 :bc i j=J↔i<=1099511627776/\i*j<=1099511627776:=by simp[bc]
def cX {o:M R} {v:R} (h:Ok o (·=v)):o=Z v:=by let⟨y,h1,z⟩:=h;rw[h1,z]
section steps
variable {R:Type} {k t f:M R} {Q:R->Prop}
def aO (h0:0<=a) (h1:a<i) (z:Ok k Q):Ok (chk (dL a i) λ_=>k) Q:=bt (S7.2 ⟨h0,h1⟩) z
def bO (h0:i<=1073741824) (h1:j<=1024) (z:Ok k Q):Ok (chk (bc i j) λ_=>k) Q:=
 bt (ae3.2 ⟨by omega,c6 (Nat.mul_le_mul h0 h1) (by omega)⟩) z
def a! {i j:Nat} (d:Ok k Q) (h:i<=1073741824:=by first|omega|(simp;omega)|(dsimp only;omega)) (g:j<=1024:=by omega):Ok (chk (bc i j) λ_=>k) Q:=bO h g d
def cU {a:Bool} (h:Ok (chk a λ_=>chk b λ_=>k) Q):Ok (chk (a&&b) λ_=>k) Q:=by
 cases a with
 |true=>exact h
 |false=>let⟨y,h,_⟩:=h;cases h
def dG {b:Int} (h:a<=b) (z:Ok k Q):Ok (chk (db a b) λ_=>k) Q:=bt (S9.2 h) z
def a? {a b:Int} (d:Ok k Q) (h:a<=b:=by first|omega|(simp;omega)|(dsimp only;omega)):Ok (chk (db a b) λ_=>k) Q:=dG h d
def Dh {b:Int} (h:a<b) (z:Ok k Q):Ok (chk (gD a b) λ_=>k) Q:=bt (r7.2 h) z
def abq {p:Prop} {i:Decidable p} (h:p) (z:Ok k Q):Ok (chk (decide p) λ_=>k) Q:=bt (aU h) z
def Ce {p:Prop} {i:Decidable p} (h:¬p) (z:Ok k Q):Ok (chk (!decide p) λ_=>k) Q:=bt (by simp[h]) z
def mR (h:i=j) (z:Ok k Q):Ok (chk (ax i j) λ_=>k) Q:=bt (by subst h;exact fV i) z
def D_ (z:Ok k Q):Ok (chk J λ_=>k) Q:=z
def bN {b:Int} (ht:a<b->Ok t Q) (hf:b<=a->Ok f Q):Ok (aI (gD a b) t f) Q:=aP (λh=>ht (r7.1 h)) (λh=>hf (kh.1 h))
def fD {b:Int} (ht:a<=b->Ok t Q) (hf:b<a->Ok f Q):Ok (aI (db a b) t f) Q:=aP (λh=>ht (S9.1 h)) (λh=>hf (nF.1 h))
def aL {p:Prop} {i:Decidable p} (ht:p->Ok t Q) (hf:¬p->Ok f Q):Ok (aI (decide p) t f) Q:=aP (λh=>ht (bR h)) (λh=>hf (EL h))
def ca {p:Prop} {i:Decidable p} (ht:¬p->Ok t Q) (hf:p->Ok f Q):Ok (aI (!decide p) t f) Q:=aP (λh=>ht (by simpa using h)) (λh=>hf (by simpa using h))
def eQ (ht:b=af->Ok t Q) (hf:b=J->Ok f Q):Ok (aI (!b) t f) Q:=aP (λh=>ht (by simpa using h)) (λh=>hf (by simpa using h))
def aie (ht:Ok t Q):Ok (aI J t f) Q:=ht
def jB (hf:Ok f Q):Ok (aI af t f) Q:=hf
def cE (z:Ok k Q) (h0:0<=a:=by first|omega|(dsimp only;omega)) (h1:a<i:=by first|omega|(dsimp only;omega)):Ok (chk (dL a i) λ_=>k) Q:=aO h0 h1 z
def dJ {b:Int} (ht:Ok t Q) (h:a<b:=by first|omega|(dsimp only[aB];omega)):Ok (aI (gD a b) t f) Q:=bN (λ_=>ht) λg=>cq h (Bn.2 g)
def dC {b:Int} (hf:Ok f Q) (h:b<=a:=by first|omega|(dsimp only[aB];omega)):Ok (aI (gD a b) t f) Q:=bN (λg=>cq g (Bn.2 h)) λ_=>hf
end steps
def t8:(∀(p:Prop) [Decidable p],(decide p=J)=p)/\(∀p:Prop,(True\/p)=True)/\(∀p:Prop,(p\/True)=True)/\(∀p:Prop,(True->p)=p)/\(∀p:Prop,(True/\p)=p)/\∀p:Prop,(p/\True)=p:=⟨λ_=>bE,true_or,or_true,λ_=>true_implies _,EK,and_true⟩
def QZ:(∀i:Decidable True,@decide True i=J)/\(∀i:Decidable False,@decide False i=af)/\(∀{R:Type} (t f:M R),aI J t f=t)/\(∀{R:Type} (t f:M R),aI af t f=f)/\(∀{α R:Type} (x:α) (k:α->M R),jn (Z (.inr x)) k=k x)/\(∀{α R:Type} (r:R) (k:α->M R),jn (Z (.inl r)) k=Z r)/\(∀{α R:Type} (x:α) (k:α->M R),aA (Z x) k=k x)/\(∀{α R:Type} (x:α) (k:α->M R),lt x k=k x)/\(!J)=af/\(!af)=J:=⟨eT,dW,λ_ _=>rfl,λ_ _=>rfl,λ_ _=>rfl,λ_ _=>rfl,λ_ _=>rfl,λ_ _=>rfl,rfl,rfl⟩
structure IM (p q:Prop):Prop where
 h:p->q
inductive OS {R:Type}:Option R->(R->Prop)->Prop where
 |cand {a b:Bool} {k:Option R} {Q:R->Prop} (h:Ok (chk a λ_=>chk b λ_=>k) Q):OS (chk (a&&b) λ_=>k) Q
 |dL {j:Int} {n:Nat} {k:Option R} {Q:R->Prop} (h0:0<=j) (h1:j<n) (hk:Ok k Q):OS (chk (dL j n) λ_=>k) Q
 |room {n b:Nat} {k:Option R} {Q:R->Prop} (h0:n<=1073741824) (h1:b<=1024) (hk:Ok k Q):OS (chk (bc n b) λ_=>k) Q
 |cile {a b:Int} {k:Option R} {Q:R->Prop} (h:a<=b) (hk:Ok k Q):OS (chk (db a b) λ_=>k) Q
 |cilt {a b:Int} {k:Option R} {Q:R->Prop} (h:a<b) (hk:Ok k Q):OS (chk (gD a b) λ_=>k) Q
 |cdec {p:Prop} {i:Decidable p} {k:Option R} {Q:R->Prop} (h:p) (hk:Ok k Q):OS (chk (decide p) λ_=>k) Q
 |cndec {p:Prop} {i:Decidable p} {k:Option R} {Q:R->Prop} (h:¬p) (hk:Ok k Q):OS (chk (!decide p) λ_=>k) Q
 |cbeq {a b:Nat} {k:Option R} {Q:R->Prop} (h:a=b) (hk:Ok k Q):OS (chk (ax a b) λ_=>k) Q
 |cT {k:Option R} {Q:R->Prop} (hk:Ok k Q):OS (chk J λ_=>k) Q
 |lt {α:Type} {x:α} {k:α->Option R} {Q:R->Prop} (h:Ok (k x) Q):OS (lt x k) Q
 |b1 {t f:Option R} {Q:R->Prop} (h:Ok t Q):OS (aI J t f) Q
 |b0 {t f:Option R} {Q:R->Prop} (h:Ok f Q):OS (aI af t f) Q
 |gD {a b:Int} {t f:Option R} {Q:R->Prop} (ht:IM (a<b) (Ok t Q)) (hf:IM (b<=a) (Ok f Q)):OS (aI (gD a b) t f) Q
 |db {a b:Int} {t f:Option R} {Q:R->Prop} (ht:IM (a<=b) (Ok t Q)) (hf:IM (b<a) (Ok f Q)):OS (aI (db a b) t f) Q
 |dec {p:Prop} {i:Decidable p} {t f:Option R} {Q:R->Prop} (ht:IM p (Ok t Q)) (hf:IM (¬p) (Ok f Q)):OS (aI (decide p) t f) Q
 |ndec {p:Prop} {i:Decidable p} {t f:Option R} {Q:R->Prop} (ht:IM (¬p) (Ok t Q)) (hf:IM p (Ok f Q)):OS (aI (!decide p) t f) Q
 |not {b:Bool} {t f:Option R} {Q:R->Prop} (ht:IM (b=af) (Ok t Q)) (hf:IM (b=J) (Ok f Q)):OS (aI (!b) t f) Q
 |aI {b:Bool} {t f:Option R} {Q:R->Prop} (ht:IM (b=J) (Ok t Q)) (hf:IM (b=af) (Ok f Q)):OS (aI b t f) Q
 |jc {α:Type} {o:Option (R⊕α)} {k:α->Option R} {Q:R->Prop} (h:Ok o λr=>match r with|.inl r=>Q r|.inr x=>Ok (k x) Q):OS (jn o k) Q
 |some {y:R} {Q:R->Prop} (h:Q y):OS (Z y) Q
def OS.ok {o:M R} {Q:R->Prop} (h:OS o Q):Ok o Q:=by
 cases h with
 |cand h=>exact cU h
 |dL a b h=>exact aO a b h
 |room a b h=>exact bO a b h
 |cile a h=>exact dG a h
 |cilt a h=>exact Dh a h
 |cdec a h=>exact abq a h
 |cndec a h=>exact Ce a h
 |cbeq a h=>exact mR a h
 |cT h|lt h|b1 h|b0 h=>exact h
 |gD a b=>exact bN a.h b.h
 |db a b=>exact fD a.h b.h
 |dec a b=>exact aL a.h b.h
 |ndec a b=>exact ca a.h b.h
 |not a b=>exact eQ a.h b.h
 |aI a b=>exact aP a.h b.h
 |jc h=>
  let⟨r,e,h⟩:=h;exact ie ⟨r,e,by cases r<;>exact h⟩
 |some h=>exact ak h
def bcT (t f:M R):aI J t f=t:=rfl
def bcF (t f:M R):aI af t f=f:=rfl
def jnr {α:Type} (x:α) (k:α->M R):jn (Z (.inr x)) k=k x:=rfl
def obs {α:Type} (x:α) (k:α->M R):aA (Z x) k=k x:=rfl
inductive Lt:Int->Prop where
 |k1:Lt 1
 |k2:Lt 2
 |k3:Lt 3
 |k4:Lt 4
 |k5:Lt 5
 |k6:Lt 6
 |k7:Lt 7
 |k8:Lt 8
 |k9:Lt 9
 |k10:Lt 10
 |k11:Lt 11
 |k12:Lt 12
 |k13:Lt 13
 |k14:Lt 14
 |k15:Lt 15
 |k16:Lt 16
 |k17:Lt 17
 |k18:Lt 18
 |k19:Lt 19
 |k20:Lt 20
 |k21:Lt 21
 |k22:Lt 22
 |k23:Lt 23
 |no {k:Int} (h:¬k=1/\¬k=2/\¬k=3/\¬k=4/\¬k=5/\¬k=6/\¬k=7/\¬k=8/\¬k=9/\¬k=10/\¬k=11/\¬k=12/\¬k=13/\¬k=14/\¬k=15/\¬k=16/\¬k=17/\¬k=18/\¬k=19/\¬k=20/\¬k=21/\¬k=22/\¬k=23) (h2:k<1\/23<k):Lt k
def kdI (k:Int):Lt k:=by
 by_cases h:k<1\/23<k
 .exact .no (by omega) h
 .have:k=1\/k=2\/k=3\/k=4\/k=5\/k=6\/k=7\/k=8\/k=9\/k=10\/k=11\/k=12\/k=13\/k=14\/k=15\/k=16\/k=17\/k=18\/k=19\/k=20\/k=21\/k=22\/k=23:=by omega
  repeat' (rcases this with rfl|this)
  all_goals first|(subst this;constructor)|constructor
def iQ {n:Int} (h0: -9223372036854775808<=n:=by omega) (h1:n<=9223372036854775807:=by omega):bm .i64 n=n:=by
 rw[Lz];unfold QO;simp[db,h0,h1]
def iG (h:i<9223372036854775807:=by omega):bm .i64 ((i:Int)+1)=((i+1:Nat):Int):=by rw[iQ];omega
def yg {T:Ty} (xs:Y T.den) (i:Nat):geti _ xs (i:Int)=xs.getD i T.zero:=by unfold geti;simp
def Fj (xs:η) (i:Nat):geti aM xs (i:Int)=xs.getD i 0:=yg (T:=aM) xs i
def bM {T:Ty} {xs:Y T.den} {j:Int} (h0:0<=j) (h1:j<l! xs):geti _ xs j∈xs:=by
 unfold geti;rw[aw,aG (by omega)];exact Fx _
def bS (xs:Y R) (j:Int) (x:R):l! (cg xs j x)=l! xs:=by unfold cg;simp
def FP {xs:Y R} {x y:R} (h:y∈cg xs a x):y∈xs\/y=x:=List.mem_or_eq_of_mem_set h
def iL {σ:Type} {f:σ->M (σ⊕R)} {Q:R->Prop} (n:Nat) (hn:n<=1000000) (I:Nat->σ->Prop) (h0:∀i x,i<n->I i x->Ok (f x) λr=>match r with|.inl y=>I (i+1) y|.inr r=>Q r) (h1:∀x,I n x->Ok (f x) λr=>match r with|.inl _=>False|.inr r=>Q r) {x:σ} (D:I 0 x):Ok (gf f x) Q:=by
 have key:∀m i x,i+m=n->I i x->∃r,iterN f (m+1) x=Z r/\Q r:=by
  intro m;induction m with
  |zero=>
   intro i x hi D;have:i=n:=by omega
   subst this;let⟨r,A,z⟩:=h1 x D;cases r with
   |inl y=>exact z.elim
   |inr r=>exact⟨r,by rw[iterN,A],z⟩
  |succ m L=>
   intro i x hi D;let⟨r,A,z⟩:=h0 i x (by omega) D;cases r with
   |inl y=>
    let⟨r,g3,g4⟩:=L (i+1) y (by omega) z;exact⟨r,by rw[iterN,A];exact g3,g4⟩
   |inr r=>exact⟨r,zo (n:=1) (by rw[iterN,A]) (by omega),z⟩
 let⟨r,A,z⟩:=key n 0 x (by omega) D;exact⟨r,zo A (by omega),z⟩
def aic {σ:Type} {f:σ->M (σ⊕R)} {Q:R->Prop} (n:Nat) (μ:σ->Nat) (I:σ->Prop) (h:∀x,I x->Ok (f x) λr=>match r with|.inl y=>I y/\μ y<μ x|.inr r=>Q r) {x:σ} (L:μ x<=n/\n<=1000000) (A:I x):Ok (gf f x) Q:=by
 have key:∀n x,μ x<n->I x->∃r,iterN f n x=Z r/\Q r:=by
  intro n;induction n with
  |zero=>intro x hm;omega
  |succ n D=>
   intro x hm A;let⟨r,h1,z⟩:=h x A;cases r with
   |inl y=>
    let⟨r,h3,h4⟩:=D y (by omega) z.1;exact⟨r,by rw[iterN,h1];exact h3,h4⟩
   |inr r=>exact⟨r,by rw[iterN,h1],z⟩
 let⟨r,h1,z⟩:=key (n+1) x (Nat.lt_succ_of_le L.1) A;exact⟨r,zo h1 (by omega),z⟩
abbrev z?:=Y (ζ×Int×Int×Bool×Int)×Y (ζ×Bool)×Y (ζ×Int)×Y ζ×Y ζ×Y π
abbrev WT:Type:=z?
abbrev SY:Type:=Y (Int×η)×Int×θ×Y (Int×Int×Bool)
def aja (a b:Int):rU (a,b)=Z (decide (0<=a/\a<b)):=by
 refine cX ?_;unfold rU kB aH;with_reducible repeat' first|apply OS.ok;constructor|refine IM.mk λ_=>?_
 .by_cases h:a<b<;>simp[*,gD]
 .simp;omega
def aat (l:η) (n:Int) (L:l! l<=1000000):um (l,n)=Z (l.contains n):=by
 refine cX ?_;refine cA (l! l) (λi x=>x=(i:Int)/\∀k,k<i->l.getD k 0≠n) ?_ ?_ ⟨rfl,λk z=>by omega⟩
 .rintro i x hi ⟨rfl,D⟩;with_reducible repeat' first|apply OS.ok;constructor|refine IM.mk λ_=>?_
  all_goals try simp only[aB,t8] at*
  .omega
  .omega
  .rename_i h;rw[Fj]at h
   grind
  .rename_i h;rw[Fj]at h;refine ⟨iG,λk z=>?_⟩
   grind
  .omega
 .rintro x ⟨rfl,D⟩;with_reducible repeat' first|apply OS.ok;constructor|refine IM.mk λ_=>?_
  all_goals try simp only[aB,t8] at*
  .omega
  .omega
  .omega
  .omega
  .symm
   rw[Sa];intro A;rw[EJ]at A;let⟨k,z,he⟩:=List.getElem_of_mem A
   grind
def iX {T:Ty} {xs:Y T.den} {p:T.den->Prop} (h:∀k:Nat,k<aj xs->p (geti _ xs (k:Int))):∀c∈xs,p c:=λc A=>by
 let⟨k,z,he⟩:=List.getElem_of_mem A;have:=h k z;rw[yg,aw,aG z,sG,he]at this;exact this
def UC (w:WT) (s:SY) (hw:l! w.2.2.1<=1000000):Ok (s8 (w,s)) λb=>b=J->(∀c∈w.2.2.1,0<=c.2/\c.2<l! w.2.1)/\l! s.1=l! w.2.1/\l! s.2.2.1=l! w.2.2.2.1/\l! s.2.2.2=l! w.2.2.2.2.1:=by
 unfold s8 bf bA bH dT bq bU bZ aZ c5 aH cS;refine cA (l! w.2.2.1) (λi x=>x.1=(i:Int)/\x.2=(w,s)/\∀k:Nat,k<i->0<=(geti itK w.2.2.1 (k:Int)).2/\(geti itK w.2.2.1 (k:Int)).2<l! w.2.1) ?_ ?_ ⟨rfl,rfl,λk hk=>by omega⟩
 .rintro i ⟨x1,L⟩ hi ⟨A,z,D⟩;subst A z;with_reducible repeat' first|apply OS.ok;constructor|refine IM.mk λ_=>?_
  all_goals try simp only[aB,t8] at*
  all_goals first|omega|skip
  .intro h;cases h
  .intro h;cases h
  .refine ⟨iG,λk hk=>?_⟩
   grind
 .rintro⟨x1,L⟩ ⟨A,z,D⟩;subst A z;with_reducible repeat' first|apply OS.ok;constructor|refine IM.mk λ_=>?_
  all_goals try simp only[aB,t8] at*
  all_goals first|omega|skip
  refine ay (P:=λb=>b=J->l! s.1=l! w.2.1/\l! s.2.2.1=l! w.2.2.2.1/\l! s.2.2.2=l! w.2.2.2.2.1) ?_ ?_
  .with_reducible repeat' first|apply OS.ok;constructor|refine IM.mk λ_=>?_
   all_goals try simp only[aB,t8] at*
   .omega
   .intro h;cases h
   .intro h;cases h
  .intro b hb;with_reducible repeat' first|apply OS.ok;constructor|refine IM.mk λ_=>?_
   exact λh=>⟨iX (T:=itK) D,hb h⟩
structure NM (w:WT) (k o:Int):Prop where
 k1:1<=k
 k2:k<=23
 ce:k=3\/k=4->0<=o/\o<l! w.1
 lk:6<=k/\k<=11->0<=o/\o<l! w.2.1
 cd:16<=k/\k<=19->0<=o/\o<l! w.2.2.1
 th:k=20\/k=21->0<=o/\o<l! w.2.2.2.2.1
 fu:k=22\/k=23->0<=o/\o<l! w.2.2.2.1
 no:k=1\/k=2\/k=5\/(12<=k/\k<=15)->o= -1
 mu:k=6\/k=7->(geti tK w.2.1 o).2=af
 rw:8<=k/\k<=11->(geti tK w.2.1 o).2=J
def aik (w:WT) (k o:Int):Ok (v9 (w,k,o)) λb=>b=J->NM w k o:=by
 unfold v9 bf bA bH cF bq bZ aZ aH;cases kdI k
 case no z _=>
  simp[z,bF,em,QZ];exact ak nofun
 all_goals simp only[bF,em,QZ,aja]
 all_goals with_reducible repeat' first|apply OS.ok;constructor|refine IM.mk λ_=>?_
 all_goals try simp only[aB,t8] at*
 all_goals first|omega|(intro h;cases h;done)|(intro h;constructor<;>first|omega|(intro A;first|omega|(simpa using h)))
structure SB (n:Nat) (s:SY):Prop where
 n1:n<=100000
 lk:l! s.1<=1000
 rd:∀l∈s.1,l! l.2<=n
 dn:l! s.2.2.1<=1000
 th:l! s.2.2.2<=1000
structure EN (w:WT) (s:SY) (t k o:Int):Prop where
 nm:NM w k o
 t0:0<=t
 t1:t<l! w.2.2.2.2.1
 cd:∀c∈w.2.2.1,0<=c.2/\c.2<l! w.2.1
 e1:l! s.1=l! w.2.1
 e2:l! s.2.2.1=l! w.2.2.2.1
 e3:l! s.2.2.2=l! w.2.2.2.2.1
structure X8 (w:WT) (s:SY) (t k o:Int):Prop where
 b:k=1->(geti iF s.2.2.2 t).1=1
 wk:k=17->(geti iF s.2.2.2 t).1=4/\(geti iF s.2.2.2 t).2.1=o/\(geti eJ s.1 (geti itK w.2.2.1 o).2).1= -1
 r:k≠1->k≠17->(geti iF s.2.2.2 t).1=2
 aq:k=6\/k=8\/k=10->(geti eJ s.1 o).1= -1
 wr:k=10->(geti eJ s.1 o).2.length=0
 ra:k=8->(geti eJ s.1 o).2.contains t=af
 rl:k=7\/k=11->(geti eJ s.1 o).1=t
 rr:k=9->(geti eJ s.1 o).2.contains t=J
 xb:k=12->s.2.1= -1
 xe:k=13->s.2.1=t
 ab:k=14->(geti iF s.2.2.2 t).2.2=af
 ae:k=15->(geti iF s.2.2.2 t).2.2=J
 nt:k=16\/k=18\/k=19->(geti eJ s.1 (geti itK w.2.2.1 o).2).1=t
 sp:k=20->¬o=t/\(geti iF s.2.2.2 o).1=0
 jo:k=21->¬o=t/\(geti iF s.2.2.2 o).1=5
 se:k=22->geti (.bool) s.2.2.1 o=af
 ge:k=23->geti (.bool) s.2.2.1 o=J
def Pf (w:WT) (s:SY) (D:SB i s) (hw:l! w.2.2.1<=1000) (t k o:Int):Ok (lI (w,s,t,k,o)) λb=>b=J->EN w s t k o/\X8 w s t k o:=by
 unfold lI bf bA bH c_ eR dT bq jP bZ aZ aH;refine aY (λx=>x.2=(w,s)/\(x.1=af->EN w s t k o)) ?_ ?_
 .refine ay (UC w s (by omega)) λb hb=>?_
  with_reducible repeat' first|apply OS.ok;constructor|refine IM.mk λ_=>?_
  .exact⟨rfl,nofun⟩
  .simp only[aja,obs];with_reducible repeat' first|apply OS.ok;constructor|refine IM.mk λ_=>?_
   .exact⟨rfl,nofun⟩
   .refine ay (aik w k o) λc L=>?_
    with_reducible repeat' first|apply OS.ok;constructor|refine IM.mk λ_=>?_
    all_goals try simp only[aB,t8] at*
    rename_i h1 h2;obtain⟨f1,f2,f3,f4⟩:=hb h1;exact λh=>⟨L (by simpa using h),by omega,by omega,f1,f2,f3,f4⟩
 .rintro⟨x1,x2⟩ ⟨z,A⟩;dsimp only at z A;subst z;refine aP (λh=>ak λh=>by cases h) (λh=>?_);have he:=A h;obtain⟨nm,t0,t1,cd,e1,e2,e3⟩:=id he;obtain⟨_,_,ce,lk,cn,th,fu⟩:=nm;have hm:16<=k/\k<=19->0<=(geti itK w.2.2.1 o).2/\(geti itK w.2.2.1 o).2<l! w.2.1:=λh=>cd _ (bM (cn h).1 (cn h).2)
  have hH:6<=k/\k<=11->um ((geti eJ s.1 o).2,t)=Z ((geti eJ s.1 o).2.contains t):=λh=>aat _ _ (by
   have:=D.rd _ (bM (T:=eJ) (lk h).1 (by have:=(lk h).2;omega));have:=D.n1;omega)
  cases kdI k
  case no hk _=>omega
  all_goals simp only[bF,em,QZ]
  all_goals with_reducible repeat' first|apply OS.ok;constructor|refine IM.mk λ_=>?_
  all_goals try simp only[hH (by omega),obs]
  all_goals with_reducible repeat' first|apply OS.ok;constructor|refine IM.mk λ_=>?_
  all_goals try simp only[aB,t8] at*
  all_goals first|omega|(intro h;cases h;done)|exact (hm ⟨by decide,by decide⟩).1|(rw [e1];exact (hm ⟨by decide,by decide⟩).2)|(intro h;refine ⟨he,?_⟩;constructor<;>first|omega|(intros;first|omega|assumption|(simpa using h)|exact⟨by assumption,by first|assumption|exact⟨by assumption,by assumption⟩⟩))|(refine ⟨he,?_⟩;constructor<;>first|omega|(intros;first|omega|assumption))
def nA:η->Int->η
 |[],n=>[n]
 |x::r,n=>if x<n then x::nA r n else if x=n then x::r else n::x::r
def Ia (n:Int):∀(i:Nat) (l:η),i<=l! l->(∀k,k<i->l.getD k 0<n)->nA l n=l.take i++nA (l.drop i) n
 |0,l,_,_=>by simp
 |i+1,[],h,_=>by simp at h
 |i+1,x::r,h,z=>by
  have h0:=z 0 (by omega);simp at h0;have:=Ia n i r (by grind) (λk A=>by have:=z (k+1) (by omega);simpa using this);rw[nA,aD h0,this,yw,KE,gP]
def Jv (n:Int):∀l:η,l! (nA l n)<=l! l+1
 |[]=>by simp[nA]
 |x::r=>by
  have:=Jv n r;rw[nA];split
  .simp;omega
  .split<;>simp
def Mj {n y:Int}:∀{l:η},y∈nA l n↔y=n\/y∈l
 |[]=>by simp[nA]
 |x::r=>by
  have:=Mj (n:=n) (y:=y) (l:=r);rw[nA];split
  .grind
  .grind
def Lu:η->Prop
 |[]=>True
 |x::r=>(∀y∈r,x<y)/\Lu r
def Vn :∀{l:η},Lu l->Lu (nA l a)
 |[],_=>by simp[nA,Lu]
 |x::r,h=>by
  rw[nA];split
  .rename_i A;refine ⟨λy z=>?_,Vn h.2⟩;rcases Mj.1 z with rfl|z
   .exact A
   .exact h.1 y z
  .split
   .exact h
   .rename_i h1 D;refine ⟨λy z=>?_,h⟩;rcases aV.1 z with rfl|z
    .omega
    .have:=h.1 y z;omega
def alo (l:η) (n:Int) (hl:l! l<=1000000):yV (l,n)=Z (nA l n):=by
 refine cX ?_;unfold yV bU bT bZ aZ c5 aH cS;have fin:∀i:Nat,i<=l! l->(∀k,k<i->l.getD k 0<n)->(i<l! l->¬l.getD i 0<n/\l.getD i 0≠n)->l.take i++[n]++l.drop i=nA l n:=λi hi L hn=>by
  rw[Ia n i l hi L];cases hd:l.drop i with
  |nil=>simp[nA]
  |cons y r=>
   have hlt:i<l! l:=by grind
   have A:l.getD i 0=y:=by
    rw[aw,<-List.head?_drop,hd];rfl
   let⟨h1,h2⟩:=hn hlt;rw[A]at h1 h2;rw[nA,av h1,av h2];simp
 refine cA (l! l) (λi x=>x=(i:Int)/\∀k,k<i->l.getD k 0<n) ?_ ?_ ⟨rfl,λk L=>by omega⟩
 .rintro i x hi ⟨rfl,z⟩;by_cases hlt:l.getD i 0<n
  .with_reducible repeat' first|apply OS.ok;constructor|refine IM.mk λ_=>?_
   all_goals try simp only[aB,t8] at*
   all_goals first|omega|skip
   .refine ⟨iG,λk L=>?_⟩
    grind
   next h=>exact cq hlt (Bn.2 h)
  .have key:l.getD i 0=n->nA l n=l:=λhe=>by
    rw[Ia n i l (by omega) z];cases hd:l.drop i with
    |nil=>have:=eO aj hd;simp at this;omega
    |cons y r=>
     have A:l.getD i 0=y:=by rw[aw,<-List.head?_drop,hd];rfl
     rw[A]at he;rw[nA,av (by omega),aD he,<-hd,EH]
   with_reducible repeat' first|apply OS.ok;constructor|refine IM.mk λ_=>?_
   all_goals try simp only[aB,t8] at*
   all_goals first|omega|skip
   next h=>exact cq h hlt
   .refine ay (P:=λr=>r=nA l n) ?_ λr D=>ak D
    with_reducible repeat' first|apply OS.ok;constructor|refine IM.mk λ_=>?_
    all_goals try simp only[aB,t8] at*
    all_goals first|omega|skip
    next h=>exact (key h).symm
    .simp;omega
    .simp;omega
    .simp;omega
    next h=>simpa using fin i (by omega) z (λ_=>⟨hlt,h⟩)
 .rintro x ⟨rfl,z⟩;with_reducible repeat' first|apply OS.ok;constructor|refine IM.mk λ_=>?_
  all_goals try simp only[aB,t8] at*
  all_goals first|omega|skip
  refine ay (P:=λr=>r=nA l n) ?_ λr D=>ak D
  with_reducible repeat' first|apply OS.ok;constructor|refine IM.mk λ_=>?_
  all_goals try simp only[aB,t8] at*
  all_goals first|omega|skip
  .simp;omega
  .simp;omega
  .simp;omega
  .simpa using fin (l! l) (by omega) z (λh=>by omega)
def yE (a b:η):η:=b.foldl nA (a.foldl nA [])
def zE:∀(b acc:η),l! (b.foldl nA acc)<=l! acc+l! b
 |[],acc=>by simp
 |x::r,acc=>by
  have:=zE r (nA acc x);have:=Jv x acc;rw[Am,kn];omega
def Nr:∀{b acc:η},Lu acc->Lu (b.foldl nA acc)
 |[],_,h=>h
 |x::r,acc,h=>by rw[Am];exact Nr (Vn h)
def Nq :∀{b acc:η},a∈b.foldl nA acc↔a∈acc\/a∈b
 |[],acc=>by simp
 |x::r,acc=>by
  rw[Am,Nq,Mj]
  grind
def UP (a b:η):Lu (yE a b):=Nr (Nr trivial)
variable {A:η}
def FJ {b:η} {y:Int}:y∈yE A b↔y∈A\/y∈b:=by unfold yE;rw[Nq,Nq];simp
def ah7 (a b:η):l! (yE a b)<=l! a+l! b:=by
 have:=zE b (a.foldl nA []);have:=zE a [];unfold yE;simp at *;omega
def Rm {acc:η} (hi:i<l! A):(A.take (i+1)).foldl nA acc=nA ((A.take i).foldl nA acc) (A.getD i 0):=by
 rw[pY hi,dO,aw,aG hi];rfl
def X7 (a b:η) (ha:l! a<=400000) (hb:l! b<=400000):v_ (a,b)=Z (yE a b):=by
 refine cX ?_;refine cA (l! a) (λi x=>x.2=(i:Int)/\x.1=(a.take i).foldl nA []) ?_ ?_ ⟨rfl,rfl⟩
 .rintro i ⟨D,A⟩ hi ⟨h1,z⟩;subst h1 z;have L:l! ((a.take i).foldl nA [])<=1000000:=by have:=zE (a.take i) [];simp at *;omega
  with_reducible repeat' first|apply OS.ok;constructor|refine IM.mk λ_=>?_
  all_goals try simp[aB,t8] at*
  all_goals first|omega|skip
  refine be (alo _ _ L) (ak ?_);refine ⟨iG,?_⟩;rw[Fj,Rm hi]
 .rintro⟨D,A⟩ ⟨h1,z⟩;subst h1 z;rw[cM];have hla:=zE a [];with_reducible repeat' first|apply OS.ok;constructor|refine IM.mk λ_=>?_
  all_goals try simp[aB,t8] at*
  all_goals first|omega|skip
  refine ay (P:=λr=>r=yE a b) ?_ λr hr=>ak hr
  refine cA (l! b) (λi x=>x.2=(i:Int)/\x.1=(b.take i).foldl nA (a.foldl nA [])) ?_ ?_ ⟨rfl,rfl⟩
  .rintro i ⟨D,A⟩ hi ⟨h1,z⟩;subst h1 z;have L:l! ((b.take i).foldl nA (a.foldl nA []))<=1000000:=by have:=zE (b.take i) (a.foldl nA []);simp at *;omega
   with_reducible repeat' first|apply OS.ok;constructor|refine IM.mk λ_=>?_
   all_goals first|omega|skip
   refine be (alo _ _ L) (ak ?_);refine ⟨iG,?_⟩;rw[Fj,Rm hi]
  .rintro⟨D,A⟩ ⟨h1,z⟩;subst h1 z;rw[cM];with_reducible repeat' first|apply OS.ok;constructor|refine IM.mk λ_=>?_
   all_goals first|omega|rfl
def Pu (c:Int) (x:d?):Bool:=decide (x.1=3)&&decide (x.2.1=c)
def wl (th:Y d?) (c:Int):Nat->η
 |0=>[]
 |i+1=>if Pu c (geti iF th (i:Int)) then wl th c i++[(i:Int)] else wl th c i
def xW (th:Y d?) (c:Int):∀i,l! (wl th c i)<=i
 |0=>bJ _
 |i+1=>by have:=xW th c i;rw[wl];split<;>simp<;>omega
def sY {th:Y d?} {c u:Int}:∀{i:Nat},u∈wl th c i↔0<=u/\u<i/\Pu c (geti iF th u)=J
 |0=>by simp[wl];omega
 |i+1=>by
  have z:= @sY th c u i;rw[wl]
  grind
variable {F:Y (Int×Int×Bool)}
def awb (h1:(geti iF F (i:Int)).1=3) (z:(geti iF F (i:Int)).2.1=a):wl F a (i+1)=wl F a i++[(i:Int)]:=by
 rw[wl,aD];unfold Pu;rw[h1,z];simp
def aqm (h1:¬(geti iF F (i:Int)).1=3):wl F a (i+1)=wl F a i:=by
 rw[wl,av];unfold Pu;rw[dc h1];simp
def aql (h1:¬(geti iF F (i:Int)).2.1=a):wl F a (i+1)=wl F a i:=by
 rw[wl,av];unfold Pu;rw[dc h1];simp
def aaj (s:SY) (c:Int) (A:l! s.2.2.2<=1000):oX (s,c)=Z (wl s.2.2.2 c (l! s.2.2.2)):=by
 refine cX ?_;unfold oX c_ bq bU bT bZ aZ c5 aH cS;refine cA (l! s.2.2.2) (λi x=>x=((i:Int),s,wl s.2.2.2 c i)) ?_ ?_ rfl
 .rintro i x hi rfl;have D:=xW s.2.2.2 c i;with_reducible repeat' first|apply OS.ok;constructor|refine IM.mk λ_=>?_
  all_goals try simp only[aB,t8] at*
  all_goals first|omega|skip
  all_goals first|(simp;omega)|skip
  next h1 z=>rw[awb h1 z,iG]
  next h1 z=>rw[aql z,iG]
  next h1=>rw[aqm h1,iG]
 .rintro x rfl;with_reducible repeat' first|apply OS.ok;constructor|refine IM.mk λ_=>?_
  all_goals try simp[aB,t8] at*
  all_goals first|omega|rfl
def wo (l:η) (n:Int):η:=l.filter λx=> !decide (x=n)
def Yq (l:η) (n:Int) (A:l! l<=1000000):rT (l,n)=Z (wo l n):=by
 refine cX ?_;unfold rT bU jP bT bZ aZ c5 aH cS;refine cA (l! l) (λi x=>x=((i:Int),wo (l.take i) n)) ?_ ?_ rfl
 .rintro i x hi rfl;have z:l! (wo (l.take i) n)<=i:=c6 (EI ..) (yA ..);have ht:wo (l.take (i+1)) n=if geti aM l (i:Int)=n then wo (l.take i) n else wo (l.take i) n++[geti aM l (i:Int)]:=by
   unfold wo;rw[pY hi,List.filter_append,Fj,aw,aG hi]
   grind
  with_reducible repeat' first|apply OS.ok;constructor|refine IM.mk λ_=>?_
  all_goals try simp only[aB,t8] at*
  all_goals first|omega|skip
  .simp;omega
  next h=>rw[ht,av h,iG]
  next h=>rw[ht,aD h,iG]
 .rintro x rfl;with_reducible repeat' first|apply OS.ok;constructor|refine IM.mk λ_=>?_
  all_goals try simp[aB,t8] at*
  all_goals first|omega|(rw [cM])
def pi {T:Ty} {xs:Y T.den} (hi:i<aj xs):dP (i+1) xs=dP i xs++[geti _ xs (i:Int)]:=by
 rw[pY hi,yg,aw,aG hi];rfl
def adq (s:SY) (z:SB i s):iS s=Z (s.2.1,s.1,s.2.2.1,s.2.2.2):=by
 refine cX ?_;let⟨A,s2,L,D⟩:=s;have hn:=z.n1;have g1:=z.lk;have g2:=z.dn;have g3:=z.th;dsimp only at g1 g2 g3;unfold iS bf bA bH c_ dT bU bT bZ aZ c5 aH cS;with_reducible repeat' first|apply OS.ok;constructor|refine IM.mk λ_=>?_
 .simp;omega
 .omega
 .simp;omega
 .omega
 refine cA (l! A) (λn x=>x=((n:Int),(A,s2,L,D),0,s2,A.take n,L,D)) ?_ ?_ ?_
 .rintro n x hi rfl;have hg:=z.rd _ (bM (T:=eJ) (xs:=A) (j:=(n:Int)) (by omega) (by omega));with_reducible repeat' first|apply OS.ok;constructor|refine IM.mk λ_=>?_
  all_goals try simp only[aB,t8] at*
  all_goals first|omega|skip
  .simp;omega
  .simp;omega
  .rw[iG,pi (T:=eJ) hi];rfl
 .rintro x rfl;with_reducible repeat' first|apply OS.ok;constructor|refine IM.mk λ_=>?_
  all_goals try simp only[aB,t8] at*
  all_goals first|omega|skip
  simp
 .simp
def KA (s:SY) (c:Int) (D:l! s.2.2.2<=1000):mn ((s.2.1,c),s.1,s.2.2.1,s.2.2.2)=Z (wl s.2.2.2 c (l! s.2.2.2)):=by
 refine cX ?_;refine ay (P:=λy=>y=(wl s.2.2.2 c (l! s.2.2.2),s.1,s.2.2.1,s.2.2.2)) ?_ λy A=>by subst A;exact anf rfl (ak rfl)
 unfold nJ bf bA bH c_ dT bq bU bT kY aZ c5 aH cS;refine cA (l! s.2.2.2) (λi x=>x=((i:Int),s.1,s.2.2.1,s.2.2.2,s.2.1,wl s.2.2.2 c i)) ?_ ?_ rfl
 .rintro i x hi rfl;have L:=xW s.2.2.2 c i;with_reducible repeat' first|apply OS.ok;constructor|refine IM.mk λ_=>?_
  all_goals try simp only[aB,t8] at*
  all_goals first|omega|skip
  all_goals first|(simp;omega)|skip
  next h1 z=>rw[awb h1 z,iG]
  next h1 z=>rw[aql z,iG]
  next h1=>rw[aqm h1,iG]
 .rintro x rfl;with_reducible repeat' first|apply OS.ok;constructor|refine IM.mk λ_=>?_
  all_goals try simp[aB,t8] at*
  all_goals first|omega|rfl
structure AP (n:Nat) (s y:SY):Prop where
 a1:l! y.1=l! s.1
 a2:l! y.2.2.1=l! s.2.2.1
 a3:l! y.2.2.2=l! s.2.2.2
 rd:∀l∈y.1,l! l.2<=n+1
def AP.toSB {s y:SY} (h:AP i s y) (z:SB i s) (A:i+1<=100000):SB (i+1) y:=
 ⟨A,by rw[h.a1];exact z.lk,h.rd,by rw[h.a2];exact z.dn,by rw[h.a3];exact z.th⟩
def AP.same {s:SY} (z:SB i s) (x:Int) (d:θ) (t:Y d?) (hd:l! d=l! s.2.2.1) (ht:l! t=l! s.2.2.2):AP i s (s.1,x,d,t):=
 ⟨rfl,hd,ht,λl A=>gg (z.rd l A)⟩
def AP.set {s:SY} (z:SB i s) (j a:Int) (r:η) (A:l! r<=i+1) (x:Int) (d:θ) (t:Y d?) (hd:l! d=l! s.2.2.1) (ht:l! t=l! s.2.2.2):AP i s (cg s.1 j (a,r),x,d,t):=
 ⟨bS _ _ _,hd,ht,λl D=>by
   rcases FP D with h|rfl
   .exact gg (z.rd l h)
   .exact A⟩
def Bq (th:Y d?) (t st:Int):Y d?:=cg th t (st,(geti iF th t).2)
def Vq (lk:Y k!) (o t:Int):Y k!:=cg lk o (t,(geti eJ lk o).2)
def rdP (lk:Y k!) (o:Int) (l:η):Y k!:=cg lk o ((geti eJ lk o).1,l)
def cdP (th:Y d?) (t c:Int):Y d?:=cg th t ((geti iF th t).1,c,(geti iF th t).2.2)
def atP (th:Y d?) (t:Int) (b:Bool):Y d?:=cg th t ((geti iF th t).1,(geti iF th t).2.1,b)
def Ge (th:Y d?) (l:η):Y d?:=l.foldl (λx u=>Bq x u 4) th
def Ez (l:η) (u:Int):Int:=if (l! l)=0 then -1 else if l.contains u then u else geti aM l 0
def muP (w:WT) (o:Int):Int:=(geti itK w.2.2.1 o).2
def pV (w:WT) (s:SY) (t k o u:Int):SY×Int:=
 if k=1 then ((s.1,s.2.1,s.2.2.1,Bq s.2.2.2 t 2),0)
 else if k=2 then ((s.1,s.2.1,s.2.2.1,Bq s.2.2.2 t 5),0)
 else if k=6\/k=10 then ((Vq s.1 o t,s.2),0)
 else if k=7\/k=11 then ((Vq s.1 o (-1),s.2),0)
 else if k=8 then ((rdP s.1 o (yE (geti eJ s.1 o).2 [t]),s.2),0)
 else if k=9 then ((rdP s.1 o (wo (geti eJ s.1 o).2 t),s.2),0)
 else if k=12 then ((s.1,t,s.2.2),0)
 else if k=13 then ((s.1,-1,s.2.2),0)
 else if k=14 then ((s.1,s.2.1,s.2.2.1,atP s.2.2.2 t J),0)
 else if k=15 then ((s.1,s.2.1,s.2.2.1,atP s.2.2.2 t af),0)
 else if k=16 then ((Vq s.1 (muP w o) (-1),s.2.1,s.2.2.1,cdP (Bq s.2.2.2 t 3) t o),0)
 else if k=17 then ((Vq s.1 (muP w o) t,s.2.1,s.2.2.1,cdP (Bq s.2.2.2 t 2) t 0),0)
 else if k=18 then (if (l! (wl s.2.2.2 o (l! s.2.2.2)))=0 then (s,-1) else ((s.1,s.2.1,s.2.2.1,Bq s.2.2.2 (Ez (wl s.2.2.2 o (l! s.2.2.2)) u) 4),Ez (wl s.2.2.2 o (l! s.2.2.2)) u))
 else if k=19 then ((s.1,s.2.1,s.2.2.1,Ge s.2.2.2 (wl s.2.2.2 o (l! s.2.2.2))),(l! (wl s.2.2.2 o (l! s.2.2.2)):Int))
 else if k=20 then ((s.1,s.2.1,s.2.2.1,Bq s.2.2.2 o 1),0)
 else if k=22 then ((s.1,s.2.1,cg s.2.2.1 o J,s.2.2.2),0)
 else (s,0)
def LL (l:η):∀th,l! (Ge th l)=l! th:=by
 induction l with
 |nil=>intro th;rfl
 |cons x r z=>intro th;unfold Ge;rw[Am];exact (z _).trans (bS ..)
def ail (hi:i<l! A):Ge F (A.take (i+1))=Bq (Ge F (A.take i)) (geti aM A (i:Int)) 4:=by
 unfold Ge;rw[pY hi,dO,Fj,aw,aG hi];rfl
def LW (u:Int) (z:¬l! A=0):Ez A u∈A:=by
 unfold Ez;rw[av z];split
 next h=>exact EJ.1 h
 .exact bM (T:=aM) (by omega) (by omega)
def Yl (w:WT) (s:SY) (z:SB i s) (hw:l! w.2.2.1<=1000) (t k o u:Int):Ok (qJ (w,s,t,k,o,u)) λy=>(y.2.2=J->EN w s t k o/\X8 w s t k o/\AP i s y.1/\(y.1,y.2.1)=pV w s t k o u)/\(y.2.2=af->y.1=([],0,[],[]))/\(lI (w,s,t,k,o)=Z J->y.2.2=J):=by
 unfold qJ bf bA bH cF c_ eR dT ic ck bq bU bZ kY aZ c5 aH cS;obtain⟨b,hb0,hb⟩:=Pf w s z hw t k o;refine be hb0 ?_;refine eQ (λh=>ak ⟨nofun,λ_=>rfl,λh2=>(by rw[hb0,h]at h2;cases h2)⟩) (λh=>?_);obtain⟨he,hry⟩:=hb h;refine be (adq s z) ?_;suffices hmain:Ok _ _ from aY (λx=>AP i s (x.2.2.2.1,x.2.1,x.2.2.2.2)/\((x.2.2.2.1,x.2.1,x.2.2.2.2),x.1)=pV w s t k o u) hmain λx hx=>ak ⟨λ_=>⟨he,hry,hx⟩,nofun,λ_=>rfl⟩
 obtain⟨nm,t0,t1,cd,e1,e2,e3⟩:=id he;obtain⟨_,_,ce,lk,cn,th,fu⟩:=nm;have hn:=z.n1;have hlk:=z.lk;have hm:16<=k/\k<=19->0<=(geti itK w.2.2.1 o).2/\(geti itK w.2.2.1 o).2<l! w.2.1:=λh=>cd _ (bM (cn h).1 (cn h).2)
 have L:∀j:Int,0<=j->j<l! s.1->(geti eJ s.1 j).2.length<=i:=λj h0 h1=>z.rd _ (bM (T:=eJ) h0 h1)
 cases kdI k
 case no hk _=>omega
 all_goals simp only[bF,em,QZ]
 all_goals with_reducible repeat' first|apply OS.ok;constructor|refine IM.mk λ_=>?_
 all_goals try simp only[aB,t8] at*
 all_goals try rw[bS]
 all_goals first|omega|exact (hm ⟨by decide,by decide⟩).1|exact e1▸(hm ⟨by decide,by decide⟩).2|exact⟨AP.same z _ _ _ rfl rfl,rfl⟩|exact⟨AP.same z _ _ _ rfl (bS _ _ _),rfl⟩|exact⟨AP.same z _ _ _ (bS _ _ _) rfl,rfl⟩|skip
 all_goals try exact⟨AP.set z _ _ _ (gg (L o (by omega) (by omega))) _ _ _ rfl rfl,rfl⟩
 .have:=L o (by omega) (by omega);refine be (X7 _ _ (c6 this (by have:=z.n1;omega)) (by simp)) ?_;with_reducible repeat' first|apply OS.ok;constructor|refine IM.mk λ_=>?_
  all_goals try simp only[aB,t8] at*
  all_goals first|omega|skip
  exact⟨AP.set z _ _ _ (by have:=ah7 (geti eJ s.1 o).2 [t];simp at this;omega) _ _ _ rfl rfl,rfl⟩
 .have:=L o (by omega) (by omega);have hl:l! (wo (geti eJ s.1 o).2 t)<=(geti eJ s.1 o).2.length:=EI ..;refine be (Yq _ _ (by omega)) ?_;with_reducible repeat' first|apply OS.ok;constructor|refine IM.mk λ_=>?_
  all_goals try simp only[aB,t8] at*
  all_goals first|omega|skip
  exact⟨AP.set z _ _ _ (c6 hl (by omega)) _ _ _ rfl rfl,rfl⟩
 .exact⟨AP.set z _ _ _ (gg (L _ (hm ⟨by decide,by decide⟩).1 (by rw[e1];exact (hm ⟨by decide,by decide⟩).2))) _ _ _ rfl (by rw[bS,bS]),rfl⟩
 .exact⟨AP.set z _ _ _ (gg (L _ (hm ⟨by decide,by decide⟩).1 (by rw[e1];exact (hm ⟨by decide,by decide⟩).2))) _ _ _ rfl (by rw[bS,bS]),rfl⟩
 .refine be (KA s o z.th) ?_;have hth:=z.th;have hll:=xW s.2.2.2 o (l! s.2.2.2);have hml:∀u∈wl s.2.2.2 o (l! s.2.2.2),0<=u/\u<l! s.2.2.2:=λu D=>⟨(sY.1 D).1,(sY.1 D).2.1⟩
  have hap:pV w s t 18 o u=if (l! (wl s.2.2.2 o (l! s.2.2.2)))=0 then (s,-1) else ((s.1,s.2.1,s.2.2.1,Bq s.2.2.2 (Ez (wl s.2.2.2 o (l! s.2.2.2)) u) 4),Ez (wl s.2.2.2 o (l! s.2.2.2)) u):=rfl
  unfold Ez at hap;revert hll hml hap;generalize wl s.2.2.2 o (l! s.2.2.2)=l;intro hll hml hap;with_reducible repeat' first|apply OS.ok;constructor|refine IM.mk λ_=>?_
  all_goals try simp only[aB,t8] at*
  all_goals first|omega|skip
  .have A:=hml _ (bM (T:=aM) (xs:=l) (j:=0) (by omega) (by omega));rw[av (by omega),av (by omega)]at hap;simp only[aat l u (by omega),obs];refine aP (λhc=>?_) λhc=>?_
   .have D:=hml u (EJ.1 hc);rw[hc,aD rfl]at hap;refine ak (aO D.1 D.2 (aO D.1 D.2 (ak ⟨AP.same z _ _ _ rfl (bS ..),?_⟩)));rw[hap];rfl
   .rw[hc,av (by decide)]at hap;refine ak (aO A.1 A.2 (aO A.1 A.2 (ak ⟨AP.same z _ _ _ rfl (bS ..),?_⟩)));rw[hap];rfl
  .rw[aD (by omega)]at hap;exact⟨AP.same z _ _ _ rfl rfl,hap.symm⟩
 .refine be (KA s o z.th) ?_;have hth:=z.th;have hll:=xW s.2.2.2 o (l! s.2.2.2);have hml:∀u∈wl s.2.2.2 o (l! s.2.2.2),0<=u/\u<l! s.2.2.2:=λu D=>⟨(sY.1 D).1,(sY.1 D).2.1⟩
  have hap:pV w s t 19 o u=((s.1,s.2.1,s.2.2.1,Ge s.2.2.2 (wl s.2.2.2 o (l! s.2.2.2))),(l! (wl s.2.2.2 o (l! s.2.2.2)):Int)):=rfl;rw[hap];clear hap;generalize wl s.2.2.2 o (l! s.2.2.2)=l at hll hml ⊢;refine cA (l! l) (λn x=>x=((n:Int),s.2.1,0,s.1,s.2.2.1,Ge s.2.2.2 (l.take n))) ?_ ?_ rfl
  .rintro n x hi rfl;have A:=hml _ (bM (T:=aM) (xs:=l) (j:=(n:Int)) (by omega) (by omega));have hq:=LL (l.take n) s.2.2.2;with_reducible repeat' first|apply OS.ok;constructor|refine IM.mk λ_=>?_
   all_goals try simp only[aB,t8] at*
   all_goals first|omega|skip
   rw[iG,ail hi];rfl
  .rintro x rfl;rw[cM];with_reducible repeat' first|apply OS.ok;constructor|refine IM.mk λ_=>?_
   all_goals try simp only[aB,t8] at*
   all_goals first|omega|skip
   exact AP.same z _ _ _ rfl (LL ..)
abbrev SN:Type:=SY×η×v!
abbrev R!:=Int×Int×Int×Int×Int×v!
abbrev ET:Type:=R!
def aww (a b:Int):Gf (a,b)=Z (decide (0<=a/\a<b)):=aja a b
structure NB (n:Nat) (s:SN):Prop where
 sb:SB n s.1
 c:l! s.2.1<=1000
 f:l! s.2.2.1<=1000
 k:l! s.2.2.2<=1000
structure SP (n:Nat) (s y:SN):Prop where
 ap:AP n s.1 y.1
 c:l! y.2.1=l! s.2.1
 f:l! y.2.2.1=l! s.2.2.1
 k:l! y.2.2.2=l! s.2.2.2
def SP.NB {s y:SN} (h:SP i s y) (z:NB i s) (A:i+1<=100000):NB (i+1) y:=
 ⟨h.ap.toSB z.sb A,by rw[h.c];exact z.c,by rw[h.f];exact z.f,by rw[h.k];exact z.k⟩
def sn0:SN:=(([],0,[],[]),[],[],[])
structure F16 (w:WT) (s:SN):Prop where
 c:l! s.2.1=l! w.1
 f:l! s.2.2.1=l! w.2.2.2.1
 k:l! s.2.2.2=l! w.2.2.2.2.1
def agk (w:WT) (s:SN) (z:l! w.2.2.1<=1000):Ok (yR (w,s)) λb=>b=J->F16 w s:=by
 unfold yR bf bA bH eR bq aZ aH;refine ie (ay (UC w s.1 (by omega)) λb A=>?_);with_reducible repeat' first|apply OS.ok;constructor|refine IM.mk λ_=>?_
 all_goals try simp[aB,t8] at*
 all_goals first|(intro h;constructor<;>omega)|(intro h;cases h;done)
def ad7:∀(l:η),(∀k:Nat,k+1<l! l->l.getD k 0<l.getD (k+1) 0)->Lu l
 |[],_=>trivial
 |[x],_=>⟨λy L=>(by cases L),trivial⟩
 |x::y::r,h=>by
  have D:=ad7 (y::r) λk hk=>by have:=h (k+1) (by grind);simpa using this
  have h0:=h 0 (by simp);simp at h0;refine ⟨λz A=>?_,D⟩;rcases aV.1 A with rfl|A
  .exact h0
  .have:=D.1 z A;omega
structure AN (c:Int) (l:η):Prop where
 a:Lu l
 m:∀x:Int,x∈l->1<=x/\x<c
def LY:∀(l:η) (z hi:Int),Lu l->(∀y∈l,z<=y/\y<hi)->(l! l:Int)<=max 0 (hi-z)
 |[],z,hi,_,_=>by simp;omega
 |x::r,z,hi,h,hm=>by
  have h1:=hm x (cV ..);have D:=LY r (x+1) hi h.2 λy A=>⟨by have:=h.1 y A;omega,(hm y (bP _ A)).2⟩
  grind
def AN.len (h:AN a A):(l! A:Int)<=max 0 a:=by
 have:=LY A 1 a h.a h.m;omega
def at9 (l:∀k:Nat,k<i->1<=geti aM A (k:Int)/\geti aM A (k:Int)<a) (ha:∀k:Nat,k+1<i->A.getD k 0<A.getD (k+1) 0):(i:Int)<=max 0 a:=by
 have key:∀k:Nat,k<i->(k:Int)+1<=A.getD k 0:=by
  intro k;induction k with
  |zero=>intro D;have:=(l 0 D).1;exact this
  |succ k ih=>grind
 rcases Nat.eq_zero_or_pos i with z|z
 .omega
 .have h1:=key (i-1) (by omega);have L:=(l (i-1) (by omega)).2;rw[Fj]at L
  grind
def MA (l:η) (c:Int) (hl:l! l<=1000000000\/c<=1000000000):Ok (rS (l,c)) λb=>b=J->AN c l:=by
 refine cA (l! l) (λi x=>x=(i:Int)/\(∀k:Nat,k<i->1<=geti aM l (k:Int)/\geti aM l (k:Int)<c)/\∀k:Nat,k+1<i->l.getD k 0<l.getD (k+1) 0) ?_ ?_ ⟨rfl,λk z=>by omega,λk z=>by omega⟩
 .rintro i x hi ⟨rfl,A,D⟩;have hbd:i<=1000000000:=by
   have:=at9 A D;omega
  have L:0<(i:Int)->bm .i64 ((i:Int)-1)=((i-1:Nat):Int):=λh=>by rw[iQ];omega
  have hq:(0<i->l.getD (i-1) 0<l.getD i 0)->1<=geti aM l (i:Int)/\geti aM l (i:Int)<c->bm .i64 ((i:Int)+1)=((i+1:Nat):Int)/\(∀k:Nat,k<i+1->1<=geti aM l (k:Int)/\geti aM l (k:Int)<c)/\∀k:Nat,k+1<i+1->l.getD k 0<l.getD (k+1) 0:=λg1 g2=>by
   refine ⟨iG,λk z=>?_,λk z=>?_⟩
   .grind
   .grind
  with_reducible repeat' first|apply OS.ok;constructor|refine IM.mk λ_=>?_
  all_goals try simp only[aB,t8] at*
  all_goals first|omega|(intro h;cases h;done)|(rw [L (by omega)];omega)|skip
  .rename_i h1 h2 h3 h4;rw[L h3,Fj,Fj]at h4
   grind
  .grind
 .rintro x ⟨rfl,A,D⟩;with_reducible repeat' first|apply OS.ok;constructor|refine IM.mk λ_=>?_
  all_goals try simp only[aB,t8] at*
  all_goals first|omega|skip
  exact⟨ad7 l λk z=>D k z,iX (T:=aM) A⟩
structure VA (w:WT) (sy:SY) (ce fu:η) (t k o v:Int):Prop where
 ld:k=3->v=geti aM ce o
 gt:k=23->v=geti aM fu o
 br:k=5->v=0\/v=1
 el:¬k=3->¬k=23->¬k=5->¬k=4->¬k=22->v=(pV w sy t k o v).2
def ite2 {c:Prop} [Decidable c] {a b:SY×Int} (A:a.2=0) (z:b.2=0):(if c then a else b).2=0:=by by_cases h:c<;>simp[h,A,z]
def arp (w:WT) (z:SY) (t k o u:Int) (h1:¬k=18) (A:¬k=19):(pV w z t k o u).2=0:=by
 unfold pV;rw[av h1,av A];repeat (first|exact rfl|refine ite2 rfl ?_)
def adb (w:WT) (z:SY) (t k o u A:Int) (h1:¬k=18):pV w z t k o u=pV w z t k o A:=by
 unfold pV;rw[av h1,av h1]
def Fr (w:WT) (z:SY) (t o u:Int):pV w z t 18 o u=if (l! (wl z.2.2.2 o (l! z.2.2.2)))=0 then (z,-1) else ((z.1,z.2.1,z.2.2.1,Bq z.2.2.2 (Ez (wl z.2.2.2 o (l! z.2.2.2)) u) 4),Ez (wl z.2.2.2 o (l! z.2.2.2)) u):=rfl
def atv (w:WT) (z:SY) (t o u:Int):(pV w z t 19 o u).2=(l! (wl z.2.2.2 o (l! z.2.2.2)):Int):=rfl
def ah6 (w:WT) (s:SN) (hs:NB i s) (hf:F16 w s) (e:ET) (he:EN w s.1 e.1 e.2.1 e.2.2.1):Ok (AA (s,e)) λb=>b=J->VA w s.1 s.2.1 s.2.2.1 e.1 e.2.1 e.2.2.1 e.2.2.2.1:=by
 let⟨t,k,o,v,si,de,fr⟩:=e;let⟨D,s2,s3,s4⟩:=s;let⟨nm,t0,t1,cd,e1,e2,e3⟩:=he;let⟨_,_,ce,lk,cn,th,fu,_,_,_⟩:=nm;let⟨f1,f2,f3⟩:=hf;have hth:=hs.sb.th;dsimp only at*
 have hW:=aaj D o hth;have hWl:=xW D.2.2.2 o (l! D.2.2.2);refine aL (λh=>?_) λn3=>?_
 .have h:k=3:=h;let⟨c0,c1⟩:=ce (.inl h);exact aO c0 (by grind) (aS (ak λA=>⟨λ_=>bR A,λz=>by omega,λz=>by omega,λz=>(z h).elim⟩))
 refine aL (λh=>?_) λL=>?_
 .have h:k=23:=h;let⟨c0,c1⟩:=fu (.inr h);exact aO c0 (by grind) (aS (ak λA=>⟨λz=>by omega,λ_=>bR A,λz=>by omega,λ_ z=>(z h).elim⟩))
 refine aL (λh=>?_) λn5=>?_
 .have h:k=5:=h;exact ie (aL (λA=>ak (ak λ_=>⟨λz=>by omega,λz=>by omega,λ_=>.inl A,λ_ _ z=>(z h).elim⟩)) λ_=>ak (ak λA=>⟨λz=>by omega,λz=>by omega,λ_=>.inr (bR A),λ_ _ z=>(z h).elim⟩))
 refine aY (λx=>x.2=((D,s2,s3,s4),t,k,o,v,si,de,fr)/\(x.1=J->k=4\/k=22)) (aL (λh=>ak ⟨rfl,λ_=>.inl h⟩) λ_=>ak ⟨rfl,λh=>.inr (bR h)⟩) ?_;rintro⟨b,x⟩ ⟨e,hb⟩;subst e;refine aP (λh=>ak λ_=>⟨λz=>(n3 z).elim,λz=>(L z).elim,λz=>(n5 z).elim,λ_ _ _ h4 h5=>(hb h).elim (λh=>(h4 h).elim) λh=>(h5 h).elim⟩) λ_=>?_
 have fin:v=(pV w D t k o v).2->VA w D s2 s3 t k o v:=λh=>⟨λz=>(n3 z).elim,λz=>(L z).elim,λz=>(n5 z).elim,λ_ _ _ _ _=>h⟩
 refine aL (λh=>?_) λn18=>?_
 .have h:k=18:=h;subst h;rw[Fr]at fin;refine be hW ?_;revert fin hWl;generalize wl D.2.2.2 o (l! D.2.2.2)=l;intro hWl fin;refine aL (λh=>ak λA=>fin ?_) λh=>?_
  .grind
  .dsimp [aB]at h;have hne:¬l! l=0:=by omega
   refine ie (fD (λ_=>bN (λ_=>?_) λ_=>ak (ak nofun)) λ_=>ak (ak nofun));refine be (aat _ _ (by omega)) (ak (ak λA=>fin ?_));rw[av hne];unfold Ez;rw[av hne,aD A]
 refine aL (λh=>?_) λn19=>?_
 .have h:k=19:=h;subst h;exact be hW (ak λA=>fin (bR A))
 exact ak λA=>fin (by rw[arp _ _ _ _ _ _ n18 n19];exact bR A)
structure S16 (w:WT) (s:SN) (e:ET):Prop where
 rd:X8 w s.1 e.1 e.2.1 e.2.2.1
 s1:e.2.1=1\/e.2.1=2->e.2.2.2.2.1= -1
 s2:¬(e.2.1=1\/e.2.1=2)->0<=e.2.2.2.2.1/\e.2.2.2.2.1<l! w.2.2.2.2.2/\(geti pW w.2.2.2.2.2 e.2.2.2.2.1).1=e.1
 de:0<l! e.2.2.2.2.2.1->e.2.1=5\/(e.2.1=3\/e.2.1=4)/\¬(geti l7 w.1 e.2.2.1).2.2.1=0
 fr:0<l! e.2.2.2.2.2.2->e.2.1=4\/e.2.1=22
 nd:AN (geti aM s.2.2.2 e.1) e.2.2.2.2.2.1
 nf:AN (geti aM s.2.2.2 e.1) e.2.2.2.2.2.2
 va:VA w s.1 s.2.1 s.2.2.1 e.1 e.2.1 e.2.2.1 e.2.2.2.1
def ceP (z:η) (e:ET):η:=if e.2.1=4 then cg z e.2.2.1 e.2.2.2.1 else z
def fuP (z:η) (e:ET):η:=if e.2.1=22 then cg z e.2.2.1 e.2.2.2.1 else z
def nxP (w:WT) (s:SN) (e:ET):SN:=((pV w s.1 e.1 e.2.1 e.2.2.1 e.2.2.2.1).1,ceP s.2.1 e,fuP s.2.2.1 e,cg s.2.2.2 e.1 (bm .i64 (geti aM s.2.2.2 e.1+1)))
def Jd (w:WT) (s:SN) (hs:NB i s) (hw:l! w.2.2.1<=1000) (e:ET) (hd:l! e.2.2.2.2.2.1<=1000000000\/(geti aM s.2.2.2 e.1:Int)<=1000000000) (hf:l! e.2.2.2.2.2.2<=1000000000\/(geti aM s.2.2.2 e.1:Int)<=1000000000):Ok (s6 (w,s,e)) λy=>(y.2=J->EN w s.1 e.1 e.2.1 e.2.2.1/\SP i s y.1/\S16 w s e/\y.1=nxP w s e)/\(y.2=af->y.1=sn0):=by
 have hz:∀{Q:SN×Bool->Prop},Q (sn0,af)->Ok (Z (sn0,af)) Q:=λh=>ak h
 have z0:((sn0,af).2=J->EN w s.1 e.1 e.2.1 e.2.2.1/\SP i s (sn0,af).1/\S16 w s e/\(sn0,af).1=nxP w s e)/\((sn0,af).2=af->(sn0,af).1=sn0):=⟨nofun,λ_=>rfl⟩
 unfold s6 bf bA bH cF dM c_ eR dT ic xg ck bq bU jP bT bZ kY aZ c5 aH cS;refine aY (λx=>x.2=(w,s,e,0)/\(x.1=af->F16 w s/\(EN w s.1 e.1 e.2.1 e.2.2.1/\X8 w s.1 e.1 e.2.1 e.2.2.1)/\lI (w,s.1,e.1,e.2.1,e.2.2.1)=Z J)) ?_ ?_
 .refine ay (agk w s hw) λb hb=>?_
  with_reducible repeat' first|apply OS.ok;constructor|refine IM.mk λ_=>?_
  .exact⟨rfl,nofun⟩
  simp only[aww,obs];with_reducible repeat' first|apply OS.ok;constructor|refine IM.mk λ_=>?_
  .exact⟨rfl,nofun⟩
  .exact⟨rfl,nofun⟩
  .exact⟨rfl,nofun⟩
  let⟨c,hc0,hc⟩:=Pf w s.1 hs.sb hw e.1 e.2.1 e.2.2.1;refine be hc0 (ak ⟨rfl,λh=>?_⟩);have h:c=J:=by simpa using h
  exact⟨hb (by assumption),hc h,h▸hc0⟩
 rintro⟨A,L⟩ ⟨z,hx⟩;dsimp only at z hx;subst z;refine aP (λ_=>hz z0) λh1=>?_
 let⟨hF,⟨hE,hR⟩,hEn⟩:=hx h1;clear hx h1;refine aY (λx=>x=(w,s,e,0)/\(e.2.1=1\/e.2.1=2->e.2.2.2.2.1= -1)/\(¬(e.2.1=1\/e.2.1=2)->0<=e.2.2.2.2.1/\e.2.2.2.2.1<l! w.2.2.2.2.2/\(geti pW w.2.2.2.2.2 e.2.2.2.2.1).1=e.1)) ?_ ?_
 .refine aY (λx=>x.2=(w,s,e,0)/\(x.1=J->e.2.1=1\/e.2.1=2)/\(x.1=af->¬(e.2.1=1\/e.2.1=2))) ?_ ?_
  .refine aL (λh=>ak ⟨rfl,λ_=>.inl h,nofun⟩) λh=>ak ⟨rfl,λD=>.inr (bR D),λD=>?_⟩
   have:=EL D;exact λh3=>h3.elim h this
  rintro⟨A,L⟩ ⟨z,hy1,hy2⟩;dsimp only at z hy1 hy2;subst z;refine aP (λhk=>?_) λhk=>?_
  .exact ca (λ_=>ak z0) λh=>ak ⟨rfl,λ_=>h,λh3=>(h3 (hy1 hk)).elim⟩
  .refine aY (λx=>x.2=(w,s,e,0)/\(x.1=af->0<=e.2.2.2.2.1/\e.2.2.2.2.1<l! w.2.2.2.2.2/\(geti pW w.2.2.2.2.2 e.2.2.2.2.1).1=e.1)) ?_ ?_
   .simp only[aww,obs];refine ca (λ_=>ak ⟨rfl,nofun⟩) λh=>aO h.1 h.2 (aS (ak ⟨rfl,λD=>⟨h.1,h.2,?_⟩⟩))
    simpa using D
   rintro⟨A,L⟩ ⟨z,hz⟩;dsimp only at z hz;subst z;exact aP (λ_=>ak z0) λh=>ak ⟨rfl,λh3=>((hy2 hk) h3).elim,λ_=>hz h⟩
 rintro x ⟨rfl,hS1,hS2⟩;let⟨nm,t0,t1,cd,e1,e2,e3⟩:=id hE;let⟨_,_,ce,lk,cn,th,fu,_,_,_⟩:=nm;let⟨f1,f2,f3⟩:=id hF;refine aY (λx=>x.2=(w,s,e,0)/\(x.1=J->e.2.1=3\/e.2.1=4)) ?_ ?_
 .with_reducible repeat' first|apply OS.ok;constructor|refine IM.mk λ_=>?_
  .exact⟨rfl,λ_=>.inl (by assumption)⟩
  .exact⟨rfl,λh=>.inr (bR h)⟩
 rintro⟨A,L⟩ ⟨z,hx1⟩;dsimp only at z hx1;subst z;refine aY (λx=>x.2=(w,s,e,0)/\(x.1=af->0<l! e.2.2.2.2.2.1->e.2.1=5\/(e.2.1=3\/e.2.1=4)/\¬(geti l7 w.1 e.2.2.1).2.2.1=0)) ?_ ?_
 .refine bN (λ_=>ca (λ_=>aP (λh=>?_) λ_=>ak ⟨rfl,nofun⟩) λh5=>ak ⟨rfl,λ_ _=>.inl h5⟩) λh=>ak ⟨rfl,λ_ D=>?_⟩
  .refine aO (ce (hx1 h)).1 (ce (hx1 h)).2 (aS (ak ⟨rfl,λD _=>.inr ⟨hx1 h,?_⟩⟩));simpa using D
  .dsimp only[aB]at h;omega
 rintro⟨A,L⟩ ⟨z,hDe⟩;dsimp only at z hDe;subst z;refine aP (λ_=>hz z0) λhde=>?_
 refine aY (λx=>x.2=(w,s,e,0)/\(x.1=af->0<l! e.2.2.2.2.2.2->e.2.1=4\/e.2.1=22)) ?_ ?_
 .refine bN (λ_=>ca (λ_=>ak ⟨rfl,λh _=>.inr (by simpa using h)⟩) λh4=>ak ⟨rfl,λ_ _=>.inl h4⟩) λh=>ak ⟨rfl,λ_ D=>?_⟩
  dsimp only[aB]at h;omega
 rintro⟨A,L⟩ ⟨z,hFr⟩;dsimp only at z hFr;subst z;refine aP (λ_=>hz z0) λhfr=>?_
 have hk:=hs.k;have hc:=hs.c;have hfu:=hs.f;refine aY (λx=>x.2=(w,s,e,0)/\(x.1=af->AN (geti aM s.2.2.2 e.1) e.2.2.2.2.2.1/\AN (geti aM s.2.2.2 e.1) e.2.2.2.2.2.2/\VA w s.1 s.2.1 s.2.2.1 e.1 e.2.1 e.2.2.1 e.2.2.2.1)) ?_ ?_
 .have hv:=ah6 w s hs hF e hE;refine aO t0 (by rw[f3];exact t1) (aS (ay (MA _ _ hd) λb hb=>?_));refine eQ (λ_=>ak ⟨rfl,nofun⟩) λb1=>?_
  refine aO t0 (by rw[f3];exact t1) (aS (ay (MA _ _ hf) λb hb2=>?_));refine eQ (λ_=>ak ⟨rfl,nofun⟩) λb2=>?_
  exact ay hv λb hb3=>ak ⟨rfl,λh=>⟨hb b1,hb2 b2,hb3 (by simpa using h)⟩⟩
 rintro⟨A,L⟩ ⟨z,hNum⟩;dsimp only at z hNum;subst z;refine aP (λ_=>hz z0) λhnu=>?_
 let⟨hN1,hN2,hVA⟩:=hNum hnu;have hS:S16 w s e:=⟨hR,hS1,hS2,hDe hde,hFr hfr,hN1,hN2,hVA⟩
 refine a! (a! (a! ?_));refine aY (λx=>x.2=(w,s,e,0,0,s.2.1,s.2.2.1,s.2.2.2)/\pV w s.1 e.1 e.2.1 e.2.2.1 x.1=pV w s.1 e.1 e.2.1 e.2.2.1 e.2.2.2.1) ?_ ?_
 .exact aL (λ_=>ak ⟨rfl,rfl⟩) λh=>ak ⟨rfl,adb _ _ _ _ _ _ _ h⟩
 rintro⟨A,L⟩ ⟨z,hxu⟩;dsimp only at z hxu;subst z;refine ay (Yl w s.1 hs.sb hw e.1 e.2.1 e.2.2.1 A) λy hy=>?_
 let⟨_,_,hap,hyq⟩:=hy.1 (hy.2.2 hEn);rw[hxu]at hyq;refine aY (λx=>x.1=e/\x.2.2.1=y.1/\x.2.2.2.1=ceP s.2.1 e/\x.2.2.2.2=(s.2.2.1,s.2.2.2)) ?_ ?_
 .unfold ceP;refine aL (λh=>?_) λh=>ak ⟨rfl,rfl,(av h).symm,rfl⟩
  have hc4:=ce (.inr h);with_reducible repeat' first|apply OS.ok;constructor|refine IM.mk λ_=>?_
  all_goals try simp only[aB,t8] at*
  all_goals first|omega|exact (aD h).symm
 rintro⟨A,L,x3,x4,x5,x6⟩ ⟨h1,D,h3,h4⟩;simp only[aR]at h1 D h3 h4;obtain⟨rfl,rfl⟩:=h4;subst h1 D h3;refine aY (λx=>x.1=A/\x.2.2.1=y.1/\x.2.2.2.1=ceP s.2.1 A/\x.2.2.2.2.1=fuP s.2.2.1 A/\x.2.2.2.2.2=s.2.2.2) ?_ ?_
 .unfold fuP;refine aL (λh=>?_) λh=>ak ⟨rfl,rfl,rfl,(av h).symm,rfl⟩
  have hc4:=fu (.inl h);with_reducible repeat' first|apply OS.ok;constructor|refine IM.mk λ_=>?_
  all_goals try simp only[aB,t8] at*
  all_goals first|omega|exact (aD h).symm
 rintro⟨A,L,x3,x4,x5,x6⟩ ⟨h1,D,h4,h5,h6⟩;simp only at h1 D h4 h5 h6;subst h1 D h4 h5 h6;have l1:l! (ceP s.2.1 A)=l! s.2.1:=by unfold ceP;split<;>simp[bS]
 have l2:l! (fuP s.2.2.1 A)=l! s.2.2.1:=by unfold fuP;split<;>simp[bS]
 with_reducible repeat' first|apply OS.ok;constructor|refine IM.mk λ_=>?_
 all_goals try simp only[aB,t8] at*
 all_goals first|omega|skip
 exact⟨⟨hE,⟨hap,l1,l2,by rw[bS]⟩,hS,by unfold nxP;rw[<- hyq]⟩,nofun⟩
end
end Go.Proofs.YtpjhicegjenpeaaGreatDoor.AI
