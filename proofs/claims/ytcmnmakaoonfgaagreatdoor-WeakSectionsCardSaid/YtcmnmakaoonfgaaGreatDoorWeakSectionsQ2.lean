/-
  Texts of the proof, part 3 of 5: what is used to prove the statement. No condition.
-/
import Derived.Test.YtcmnmakaoonfgaaGreatDoorWeakSectionsQ1
import Derived.Test.YtcmnmakaoonfgaaGreatDoorProg
import Derived.KernelRfl
namespace Go.Proofs.YtcmnmakaoonfgaaGreatDoor.AI
open Go.RowKit
set_option maxRecDepth 100000
set_option maxHeartbeats 4000000
set_option linter.unusedVariables false
set_option linter.unusedSimpArgs false
set_option linter.defProp false
open _root_.Array renaming replicate→yR
open _root_.Bool renaming true→J,false→aa
open _root_.Int renaming ofNat_eq_natCast→ak,toNat→aO,ofNat→aQ,reduceEq→cX,reduceNeg→dK,tmod→Ca
open _root_.List renaming length→l!,length→ah,replicate→aF,length_cons→bK,length_singleton→bN,take→dB,getElem?_cons_zero→fJ,map→fX,cons_append→gA,nil_append→kT,getElem?_cons_succ→ms,length_nil→mR,replicate_succ→m8,getElem?_concat_length→nL,set→pR,foldl_cons→ue,map_nil→wJ,take_succ_cons→xD
open _root_.Nat renaming beq→ay,testBit→aJ,ble→dF,blt→dY,mod_eq_of_lt→wH,le_succ→QE
open _root_.Option renaming some→Z,none→U,bind_some→aC,map_some→bn,map→hX,getD_some→wF
open _root_.Prod renaming a→aW,b→bm,c→bF,d→cg,e→cG,h→dk,f→dE,g→ep,k→ip,p→wE
open Result renaming andThen_ok→cR
open Sem renaming run_bind→fk,run_pure→wD
open _root_.Sum renaming inr→bW,inl→rh
noncomputable section
def fw (am:Nat) (e e':gT):Prop:=∀k,aJ am k=aa->∀z,e'.get k=Z z->∃v,e.get k=Z v/\(vO v=J->z=v)
def fw.refl (am:Nat) (e:gT):fw am e e:=λ_ _ z h=>⟨z,h,λ_=>rfl⟩
variable {i:Nat}
def fw.trans {a b c:gT} (h1:fw i a b) (N:fw i b c):fw i a c:=λk z D L=>by
 let⟨A,g1,g2⟩:=N k z D L;let⟨v,g3,g4⟩:=h1 k z A g1
 grind
variable {j:Nat}
def fw.mono {a b:gT} (h:fw i a b) (hm:∀k,aJ i k=J->aJ j k=J):fw j a b:=λk z=>h k (by
 cases A:aJ i k with
 |false=>rfl
 |true=>rw[hm k A]at z;cases z)
structure aik (P:Program) (ops:Array Oper) (rest:List Oper) (sl:List ua) (am:Nat) (s s':TS) (fs:List FPm) (l:List (Oper×DF)):Prop where
 ops_:l.map (·.1)=rest
 chain:BZ P ops l (fC s.e s.h) (erHF s.h) (fC s'.e s'.h) (erHF s'.h)
 fsl:l! fs=l! l
 sll:l! sl=l! l
 fp:∀(j:Nat) o f q,l[j]? =Z (o,f)->fs[j]? =Z q->(∀n∈f.rd,aJ q.rd (ow n)=J)/\∀n∈f.wr,aJ q.wr (ow n)=J
 still:∀(j:Nat) o f so,l[j]? =Z (o,f)->sl[j]? =Z so->so.op.still=J->f.rd=[]/\f.wr=[]
 names:∀(j:Nat) o f,l[j]? =Z (o,f)->∀n∈f.N,s.nx<=ow n/\ow n<s'.nx
 xj:∀(i j:Nat) oi fi oj fj,i<j->l[i]? =Z (oi,fi)->l[j]? =Z (oj,fj)->∀n∈fi.N,n∉fj.N
 jp:s.nx<=s'.nx
 qz:gM s'.h s'.nx
 qb:sB s'.e s'.h
 keeps:fw am s.e s'.e
variable {h:aX} {y:AV} {u:TV}
def ajx {e:gT} {h':aX} (hi:sB e h) (D:bV h h') (d:M Nat) (L:bZ h' u=Z y):NS (fC e h) d y=fC (Gy e d u) h':=by
 funext t;have old:(e.get t).bind (bZ h)=(e.get t).bind (bZ h'):=by
  cases ht:e.get t with
  |none=>rfl
  |some x=>
   let⟨z,A⟩:=oc h x (hi t x ht);simp[aC,A,fh D x z A]
 cases d with
 |none=>simp[NS,Gy,fC];exact old
 |some d=>
  simp[NS,Gy,fC,PT.get_set,af]
  grind
def sB.put {e:gT} {h':aX} (hi:sB e h) (A:bV h h') (d:M Nat) (D:NZ h' u=J):sB (Gy e d u) h':=λt x z=>by
 cases d with
 |none=>exact lV A x (hi t x z)
 |some d=>
  simp[Gy,PT.get_set]at z;split at z
  .cases z;exact D
  .exact lV A x (hi t x z)
def U5 {e:gT} (ht:e.get i=Z u):fC (e.set i (Z u)) h=fC e h:=by
 funext k;simp[fC,PT.get_set]
 grind
def sB.set {e:gT} (hi:sB e h) (ht:e.get i=Z u):sB (e.set i (Z u)) h:=λk x z=>by
 rw[PT.get_set]at z;split at z
 next A=>cases z;exact hi _ _ ht
 .exact hi k x z
variable {R:Type}
def Xf {e:gT} {g:M (Nat×Bool)} {K:Bool->gT->M R} {r:R} (h:ael e g K=Z r):
 (g=U/\K J e=Z r)\/(∃t want b,g=Z (t,want)/\e.get t=Z (.f .bool b)/\K (b==want) (e.set t (Z (.f .bool b)))=Z r)\/∃t want,g=Z (t,want)/\e.get t=Z .undef/\K aa e=Z r:=by
 unfold ael at h;split at h
 .exact .inl ⟨rfl,h⟩
 .rename_i t want;split at h
  .rename_i b z;refine .inr (.inl ⟨t,want,b,rfl,z,?_⟩);cases want with
   |_=>rcases lF h with ⟨rfl,h⟩|⟨rfl,h⟩<;>exact h
  .grind
  .cases h
variable {P:Program} {X:FuncId->M cA} {W:TypeId->M Ty} {m:Array Oper}
def KP (hcon:Gg P X) (ham:∀(j:Nat) (o:Oper) (d:Nat),m[j]? =Z o->o.dst=Z d->aJ i d=J):
 ∀(rest:Y Oper) (sl:Y ua) (s:TS) (fs:Y FPm) (K:TS->Y FPm->M R) (r:R),(∀o∈rest,∃j:Nat,m[j]? =Z o)->tD P m rest=Z sl->NU X W sl s fs K=Z r->gM s.h s.nx->sB s.e s.h->∃s' fs' l,K s' (fs.reverse++fs')=Z r/\aik P m rest sl i s s' fs' l
 |[],sl,s,fs,K,r,hin,hc,z,hH,hE=>by
  simp only[tD,af]at hc;subst hc;simp only[NU]at z;exact⟨s,[],[],by simpa using z,rfl,.nil _ _,rfl,rfl,by simp,by simp,by simp,by simp,bO _,hH,hE,fw.refl _ _⟩
 |o::rest,sl,s,fs,K,r,hin,hc,z,hH,hE=>by
  simp only[tD]at hc;split at hc
  .rename_i sl' hsl';have hso:∃g,sl=⟨o.dst,w_ P o.op,g⟩::sl'/\((g=U/\o.guard=U)\/∃j want t,g=Z (t,want)/\o.guard=Z (j,want)/\(m[j]?).bind (·.dst)=Z t):=by grind
   obtain⟨g,rfl,hg⟩:=hso;simp only[NU]at z;have hdst:∀d,o.dst=Z d->aJ i d=J:=λd hd=>by
    let⟨j,hj⟩:=hin o (cP ..);exact ham j o d hj hd
   have hgs:∀t want,g=Z (t,want)->aJ i t=J:=λt want hgt=>by grind
   have kput:∀(e:gT) (v:TV),fw i s.e e->fw i s.e (Gy e o.dst v):=λe v hke k z v' D=>by
    cases hd:o.dst with
    |none=>rw[hd]at D;exact hke k z v' D
    |some d=>
     rw[hd]at D;simp only[Gy,PT.get_set]at D;split at D
     next e2=>rw[e2,hdst d hd]at z;cases z
     .exact hke k z v' D
   have done:∀(f:DF) (v:TV) (h':aX) (nx' rd wr:Nat) (e:gT),fC e s.h=fC s.e s.h->sB e s.h->fw i s.e e->Nl P m o f (fC s.e s.h) (erHF s.h)->(∃y,bZ h' v=Z y/\f.val=y)->eZ (erHF s.h) f.wr f.nw=erHF h'->(∀n∈f.rd,aJ rd (ow n)=J)->(∀n∈f.wr,aJ wr (ow n)=J)->(∀n∈f.N,s.nx<=ow n/\ow n<nx')->bV s.h h'->gM h' nx'->s.nx<=nx'->((w_ P o.op).still=J->f.rd=[]/\f.wr=[])->
    NU X W sl' ⟨Gy e o.dst v,h',nx'⟩ (⟨rd,wr⟩::fs) K=Z r->∃s' fs' l,K s' (fs.reverse++fs')=Z r/\aik P m (o::rest) (⟨o.dst,w_ P o.op,g⟩::sl') i s s' fs' l:=by
    intro f v h' nx' rd wr e hee hiE hke hst hval hheap hrd hwr hN hrows hinv' hgr hstill hrun;let⟨y,hy1,hy2⟩:=hval;let⟨s',fs',l,hK,L⟩:=KP hcon ham rest sl' _ _ K r (λo' ho'=>hin o' (bJ _ ho')) hsl' hrun hinv' (hiE.put hrows o.dst (Hi _ _ _ hy1));have hg2:nx'<=s'.nx:=L.jp;refine ⟨s',⟨rd,wr⟩::fs',(o,f)::l,by simpa using hK,by simp[L.ops_],.cons hst ?_,by simp[L.fsl],by simp[L.sll],?_,?_,?_,?_,c4 hgr hg2,L.qz,L.qb,(kput e v hke).trans L.keeps⟩
    .have e1:NS (fC s.e s.h) o.dst f.val=fC (Gy e o.dst v) h':=by rw[<- hee,hy2];exact ajx hiE hrows o.dst hy1
     rw[e1,hheap];exact L.chain
    .intro j o' f' q' h1 A;cases j with
     |zero=>simp at h1 A;obtain⟨rfl,rfl⟩:=h1;subst A;exact⟨hrd,hwr⟩
     |succ j=>exact L.fp j o' f' q' (by simpa using h1) (by simpa using A)
    .intro j o' f' so h1 A h3;cases j with
     |zero=>simp at h1 A;obtain⟨rfl,rfl⟩:=h1;subst A;exact hstill h3
     |succ j=>exact L.still j o' f' so (by simpa using h1) (by simpa using A) h3
    .intro j o' f' h1 n hn;cases j with
     |zero=>
      simp at h1;obtain⟨rfl,rfl⟩:=h1;have:=hN n hn;exact⟨this.1,by omega⟩
     |succ j=>
      have:=L.names j o' f' (by simpa using h1) n hn;exact⟨c4 hgr this.1,this.2⟩
    .intro am j oi fi oj fj hij h1 A n hn hn';cases j with
     |zero=>omega
     |succ j=>
      have hj:=L.names j oj fj (by simpa using A) n hn';cases am with
      |zero=>
       simp at h1;obtain⟨rfl,rfl⟩:=h1;have h3:=(hN n hn).2;have h4:nx'<=ow n:=hj.1;omega
      |succ am=>exact L.xj am j oi fi oj fj (by omega) (by simpa using h1) (by simpa using A) n hn hn'
   have runs:∀(e:gT),fC e s.h=fC s.e s.h->sB e s.h->fw i s.e e->(∀f,fZ P o (fC s.e s.h) (erHF s.h) f->Nl P m o f (fC s.e s.h) (erHF s.h))->opK X W (w_ P o.op) e s.h s.nx (λv rd wr h nx=>if NZ h v then NU X W sl' ⟨Gy e o.dst v,h,nx⟩ (⟨rd,wr⟩::fs) K else U)=Z r->∃s' fs' l,K s' (fs.reverse++fs')=Z r/\aik P m (o::rest) (⟨o.dst,w_ P o.op,g⟩::sl') i s s' fs' l:=by
    intro e hee hiE hke hstep z;let⟨v,rd,wr,h',nx',hK,T⟩:=asn hcon hH hiE rfl z;simp only[]at hK;split at hK
    .rename_i hok;let⟨f,t1,t2,t3,t4,t5,t6⟩:=T.ex;rw[hee]at t1;let⟨y,hy⟩:=oc h' v hok;refine done f v h' nx' rd wr e hee hiE hke (hstep f t1) ⟨y,hy,t2 y hy⟩ t3 t4 t5 t6 T.F T.inv T.jp (λhs=>?_) hK;let⟨r0,w0⟩:=T.st hs;subst r0 w0;constructor
     .cases hl:f.rd with
      |nil=>rfl
      |cons n q=>have:=t4 n (by rw[hl];simp);simp at this
     .cases hl:f.wr with
      |nil=>rfl
      |cons n q=>have:=t5 n (by rw[hl];simp);simp at this
    .cases hK
   have skips:∀(e:gT),fC e s.h=fC s.e s.h->sB e s.h->fw i s.e e->Nl P m o tb (fC s.e s.h) (erHF s.h)->NU X W sl' ⟨Gy e o.dst .undef,s.h,s.nx⟩ (⟨0,0⟩::fs) K=Z r->∃s' fs' l,K s' (fs.reverse++fs')=Z r/\aik P m (o::rest) (⟨o.dst,w_ P o.op,g⟩::sl') i s s' fs' l:=by
    intro e hee hiE hke hstep z;exact done tb .undef s.h s.nx 0 0 e hee hiE hke hstep ⟨_,rfl,rfl⟩ (by funext am;simp[eZ,tb]) (by simp[tb]) (by simp[tb]) (by simp[tb]) (bV.refl _) hH (bO _) (λ_=>⟨rfl,rfl⟩) z
   rcases Xf z with ⟨h1,z⟩|⟨t,want,b,h1,hb,z⟩|⟨t,want,h1,hb,z⟩
   .refine runs s.e rfl hE (fw.refl _ _) (λf hf=>?_) z;rcases hg with ⟨_,hg⟩|⟨j,want,t,A,_,_⟩
    .exact .run hg hf
    .rw[h1]at A;cases A
   .rcases hg with ⟨A,_⟩|⟨j,want',t',A,h3,h4⟩
    .rw[h1]at A;cases A
    .rw[h1]at A;cases A;have hgt:=hgs t want h1;have heb:fC s.e s.h t=Z (.f (.raw (.bool b))):=by simp only[fC,hb,aC,bZ];rfl
     have hke:fw i s.e (s.e.set t (Z (.f .bool b))):=λk z v' D=>by
      rw[PT.get_set]at D;split at D
      next ek=>rw[ek,hgt]at z;cases z
      .exact⟨v',D,λ_=>rfl⟩
     cases hbw:(b==want) with
     |true=>
      rw[hbw]at z;have:b=want:=by simpa using hbw
      subst this;exact runs _ (U5 hb) (hE.set hb) hke (λf hf=>.runG j t b h3 h4 heb hf) z
     |false=>
      rw[hbw]at z;refine skips _ (U5 hb) (hE.set hb) hke (.skip j t want h3 h4 (.bool b) heb ?_ rfl) z;intro D;cases D;simp at hbw
   .rcases hg with ⟨A,_⟩|⟨j,want',t',A,h3,h4⟩
    .rw[h1]at A;cases A
    .rw[h1]at A;cases A;exact skips _ rfl hE (fw.refl _ _) (.skip j t want h3 h4 undef (by simp only[fC,hb,aC,bZ]) (by unfold undef;simp) rfl) z
  .cases hc
def aka {sl:Y ua} {s s':TS} {fs:Y FPm} {l:Y v!} {prs:Y o!} (A:aik P m m.toList sl i s s' fs l) (hp:Pr m sl=Z prs) (hok:H3 fs prs=J):NIP m l:=by
 unfold Pr at hp;simp only[]at hp;split at hp
 .rename_i hall;simp only[iv,sq,al]at hall;simp only[af]at hp;have hop:∀(j:Nat) o f,l[j]? =Z (o,f)->m[j]? =Z o:=λj o f D=>by
   have h1:(l.map (·.1))[j]? =Z o:=by rw[bz,D];rfl
   rw[A.ops_]at h1;simpa using h1
  have hsize:∀(j:Nat) o,m[j]? =Z o->j<m.size:=λj o h=>(c7.1 h).1
  have hprs:∀am j,(am,j)∈prs->∃a b,fs[am]? =Z a/\fs[j]? =Z b/\IY a.wr b.rd=J/\IY a.wr b.wr=J/\IY b.wr a.rd=J:=by
   clear hp hall;induction prs with
   |nil=>intro am j h;cases h
   |cons p prs ih=>
    let⟨i0,j0⟩:=p;simp only[H3,al,Z_]at hok
    grind
  refine ⟨λj o ho e he hb=>?_,λam j oi fi oj fj hij hi D=>?_,A.xj⟩
  .grind
  .have h1:=hop am oi fi hi;have h2:=hop j oj fj D;have hcase:=(hall j (hsize j oj h2)).2 am hij;rw[h1,h2]at hcase;simp only[mS]at hcase;by_cases N:aJ ((M' m.toList []).getD j 0) am=J
   .left;rw[aw]at N;cases L:(M' m.toList [])[j]? with
    |none=>rw[L]at N;simp at N
    |some B=>
     rw[L]at N;exact Qp (ops:=m) m.toList [] (λj o D=>by simpa using D) (λj B D=>by simp at D) j B L am (by simpa using N)
   .right;have hap:=hcase.resolve_left N;refine ⟨hap,?_⟩;have hil:am<l! l:=(bB.1 hi).1;have hjl:j<l! l:=(bB.1 D).1;have hsi:=aE (show am<l! sl by rw[A.sll];exact hil);have hsj:=aE (show j<l! sl by rw[A.sll];exact hjl);by_cases hst:(sl[am]'(by rw[A.sll];exact hil)).op.still=J
    .obtain⟨q1,q2⟩:=A.still am oi fi _ hi hsi hst
     grind
    .by_cases hst2:(sl[j]'(by rw[A.sll];exact hjl)).op.still=J
     .obtain⟨q1,q2⟩:=A.still j oj fj _ D hsj hst2
      grind
     .have hmem:(am,j)∈prs:=by
       rw[<- hp,wI];refine ⟨j,sq.2 (hsize j oj h2),?_⟩
       grind
      let⟨a,b,ha,hb,d1,d2,d3⟩:=hprs am j hmem;let⟨f1,f2⟩:=A.fp am oi fi a hi ha;let⟨g1,g2⟩:=A.fp j oj fj b D hb;refine ⟨λx L=>⟨λz=>?_,λz=>?_⟩,λx L z=>?_⟩
      .have:=zP d1 (ow x) (f2 x L);rw[g1 x z]at this;cases this
      .have:=zP d2 (ow x) (f2 x L);rw[g2 x z]at this;cases this
      .have:=zP d3 (ow x) (g2 x L);rw[f1 x z]at this;cases this
 .cases hp
structure iY (P:Program) (E:Nat->Prop) (nt np:Nat) (φ:PM) (s:TS) (a:Act) (w:World):Prop where
 qn:sh φ E (erHF s.h) w
 env:Qy φ (tot E φ (erHF s.h)) w (fC s.e s.h) a
 dom:∀n k,φ n=Z k->ow n<s.nx
 low:np<=s.nx
 qz:gM s.h s.nx
 qb:sB s.e s.h
 inert:∀d∈a.defers,aj0 P d
 size:a.tmps.size=nt
structure xd (np:Nat) (φ φ':PM) (H H':HF) (w w':World):Prop where
 ext:Ge (own φ H) w w'
 qr:∀k,k<w.heap.size->own φ' H' k->own φ H k
 par:∀n,ow n<np->φ' n=φ n
def xd.refl (np:Nat) (φ:PM) (H:HF) (w:World):xd np φ φ H H w w:=⟨Ge.refl _ _,λ_ _ h=>h,λ_ _=>rfl⟩
variable {w:World} {V:PM} {A:HF}
def xd.trans {φ' φ'':PM} {H' H'':HF} {w' w'':World} (a:xd i V φ' A H' w w') (b:xd i φ' φ'' H' H'' w' w''):xd i V φ'' A H'' w w'' where
 ext:=⟨b.ext.os.trans a.ext.os,b.ext.tape.trans a.ext.tape,b.ext.output.trans a.ext.output,c4 a.ext.size b.ext.size,
  λk z H=>(b.ext.jf k (dw z a.ext.size) (λh=>H (a.qr k z h))).trans (a.ext.jf k z H),
  λk z=>(b.ext.jh k (dw z a.ext.size)).trans (a.ext.jh k z)⟩
 qr:=λk z h=>a.qr k z (b.qr k (dw z a.ext.size) h)
 par:=λnp hi=>(b.par np hi).trans (a.par np hi)
variable {O:Nat->Prop} {Q:Act} {b:Bool}
def aff {s:TS} (hm:P.follows .mixedOrders=J) (hcon:Gg P X) (c:iY P O i j V s Q w) {id:Nat} {sl:Y ua} {prs:Y o!} {am:Nat} (ham:∀(np:Nat) (o:Oper) (d:Nat),m[np]? =Z o->o.dst=Z d->aJ am d=J)
 (hd:(m.toList.all λo=>match o.dst with|some d=>decide (d<i)|none=>J)=J) (hc:tD P m m.toList=Z sl) (hp:Pr m sl=Z prs) {K:TS->M R} {r:R} (hr:NU X W sl s [] (λs' fs=>if H3 fs prs then K s' else U)=Z r) {a:Exit->Act->World->Prop}
 (hQ:∀a' w' s' φ',K s'=Z r->iY P O i j φ' s' a' w'->xd j V φ' (erHF s.h) (erHF s'.h) w w'->fw am s.e s'.e->a .normal a' w'):(Code.region id m b).wp P a Q w:=by
 let⟨s',fs',l,N,L⟩:=KP hcon ham m.toList sl s [] _ r (λo ho=>by
  let⟨np,D⟩:=fY ho;exact⟨np,by simpa using D⟩) hc hr c.qz c.qb
 have N:(if H3 fs' prs then K s' else U)=Z r:=N;by_cases hok:H3 fs' prs=J
 .rw[aD hok]at N;refine TA (φ0:=V) (E:=O) hm L.ops_ L.chain (aka L hp hok) ?_ ?_ c.qn c.env ?_
  .intro n A;let⟨p,z,A⟩:=wI.1 A;let⟨np,D⟩:=fY z;have:=L.names np p.1 p.2 D n A;cases hx:V n with
   |none=>rfl
   |some k=>have:=c.dom n k hx;omega
  .intro np o ho d hd';have:=iv.1 hd o (by grind);rw[hd']at this;rw[c.size];simpa using this
  .rintro a' w' ⟨φ',m',d',r',en',df',sz'⟩;have hnm:∀n k,φ' n=Z k->V n=Z k\/(s.nx<=ow n/\ow n<s'.nx):=λn k hik=>by
    rcases d' n k hik with h|h
    .exact .inl h
    .obtain⟨p,z,A⟩:=wI.1 h;let⟨np,D⟩:=fY z;exact .inr (L.names np p.1 p.2 D n A)
   have hg:=L.jp;have hlow:=c.low;refine hQ a' w' s' φ' N ⟨r',en',λn k hik=>?_,by omega,L.qz,L.qb,by rw[df'];exact c.inert,by rw[sz'];exact c.size⟩ ⟨m'.ext,m'.qr,λnt hi=>?_⟩ L.keeps
   .rcases hnm n k hik with h|h
    .have:=c.dom n k h;omega
    .exact h.2
   .cases hx:V nt with
    |some k=>exact m'.sub _ _ hx
    |none=>
     cases hy:φ' nt with
     |none=>rfl
     |some k=>grind
 .grind
section ren
variable {P:Program} {E:Nat->Prop} {nt np:Nat}
def J2 {s:TS} (c:iY P E nt np V s Q w) (src:Nat->Nat) (hsrc:∀n,ow n≠s.nx->src n=n) (hr:bV s.h h) (hinv:gM h (s.nx+1))
 (L:∀n b',erHF h n=Z b'->∃b,erHF s.h (src n)=Z b/\∀(φ':PM) (O':Nat->Prop),(∀n,φ' n=V (src n))->(∀x v,co V (tot E V (erHF s.h)) w x v->co φ' O' w x v)->∀o,gR V (tot E V (erHF s.h)) w b o->gR φ' O' w b' o)
 (inj:∀n m b b',erHF h n=Z b->erHF h m=Z b'->src n=src m->n=m):∃φ',iY P E nt np φ' ⟨s.e,h,s.nx+1⟩ Q w/\xd np V φ' (erHF s.h) (erHF h) w w:=by
 have sub:∀n k,V n=Z k->V (src n)=Z k:=λn k A=>by
  have:=c.dom n k A
  grind
 have own_:∀k,own (λn=>V (src n)) (erHF h) k->own V (erHF s.h) k:=by
  rintro k ⟨i,b,h1,N⟩;let⟨b0,h3,_⟩:=L i b h1;exact⟨src i,b0,h3,N⟩
 have tot_:∀k,tot E (λn=>V (src n)) (erHF h) k->tot E V (erHF s.h) k:=λk A=>A.imp id (own_ k)
 have keep:∀x v,co V (tot E V (erHF s.h)) w x v->co (λn=>V (src n)) (tot E (λn=>V (src n)) (erHF h)) w x v:=λx v h'=>h'.ext sub (Ge.refl _ w) λk _ A=>tot_ k A
 refine ⟨λn=>V (src n),⟨⟨λi j b b' k h1 N h3 h4=>?_,λn b' hb=>?_,c.qn.el,λg cells hg=>(c.qn.gl g cells hg).ext (Ge.refl _ w) λk _ A=>tot_ k A⟩,λt x D=>?_,λn k A=>?_,fR c.low,hinv,λt x D=>lV hr x (c.qb t x D),c.inert,c.size⟩,⟨Ge.refl _ _,λk _ A=>own_ k A,λn hn=>?_⟩⟩
 .obtain⟨b0,q1,_⟩:=L i b h1;let⟨b1,q2,_⟩:=L j b' N;exact inj i j b b' h1 N (c.qn.inj _ _ b0 b1 k q1 q2 h3 h4)
 .obtain⟨b,q1,q2⟩:=L n b' hb;let⟨k,p1,p2,o,p3,p4⟩:=c.qn.at_ _ b q1;exact⟨k,p1,p2,o,p3,q2 _ _ (λ_=>rfl) keep o p4⟩
 .simp[fC]at D;cases he:s.e.get t with
  |none=>rw[he]at D;cases D
  |some q=>
   rw[he]at D;let⟨z,hz⟩:=oc s.h q (c.qb t q he);simp[aC,fh hr q z hz,af]at D;subst D;exact keep _ _ (c.env t _ (by simp[fC,he,aC,hz]))
 .have A:V (src n)=Z k:=A;by_cases e:ow n=s.nx
  .grind
  .rw[hsrc n e]at A;have:=c.dom n k A
   grind
 .have:=c.low
  grind
variable {s:TypeId} {B:Y AV}
def xS {φ':PM} {O':Nat->Prop} {l':Y AV} {o:Obj} (hlen:l! l'=l! B) (L:∀(j:Nat) z,l'[j]? =Z z->z.isCell=J/\∃x,B[j]? =Z x/\∀v,co V O w x v->co φ' O' w z v) (h:gR V O w ⟨s,.mx B⟩ o):gR φ' O' w ⟨s,.mx l'⟩ o:=by
 let⟨arr,h1,h2,N⟩:=h;refine ⟨arr,h1,by simp[BC.len]at h2 ⊢;omega,λj z D=>?_⟩;let⟨A,x,p2,p3⟩:=L j z D;let⟨_,v,p4,p5⟩:=N j x p2;exact⟨A,v,p4,p3 v p5⟩
def KY {φ':PM} {O':Nat->Prop} {l l':Y j!} {o:Obj} (D:l'.map (·.1)=l.map (·.1)) (N:∀(j:Nat) z,l'[j]? =Z z->∃x,l[j]? =Z x/\x.1=z.1/\∀v,co V O w x.2 v->co φ' O' w z.2 v) (h:gR V O w ⟨0,.mp l⟩ o):gR φ' O' w ⟨0,.mp l'⟩ o:=by
 let⟨ents,clock,h1,A,h3⟩:=h;refine ⟨ents,clock,h1,?_,λj z L=>?_⟩
 .unfold Wy at A ⊢;rw[D];exact A
 .grind
def abb (n:Nat) (j:Int):(shf n j).toNat=if j.toNat<n then j.toNat else j.toNat+1:=by
 unfold shf;by_cases h:j.toNat<n
 .simp_all
 .rw[av h,av (λe=>h (Sm e))];rfl
def ug (nx a p m1 m2 len n:Nat):Nat:=if ow n=nx then (match ix n with
 |0=>n
 |k+1=>if k/3<len then ji a (k+1) else if k/3=len then (if k%3=0 then nm p else if k%3=1 then nm m1 else nm m2) else ji a (k+1-3)) else n
def xM (nx a p m1 m2 len k:Nat):ug nx a p m1 m2 len (ji nx (k+1))=if k/3<len then ji a (k+1) else if k/3=len then (if k%3=0 then nm p else if k%3=1 then nm m1 else nm m2) else ji a (k+1-3):=by
 unfold ug;rw[iF,vN,aD rfl]
def Zn {p m1 m2 len k:Nat} (h:k/3<len):ug i j p m1 m2 len (ji i (k+1))=ji j (k+1):=by rw[xM,aD h]
def Kv (nx a p m1 m2 len:Nat) (j:Int):ug nx a p m1 m2 len (pB nx (shf len j))=pB a j:=by
 unfold pB;rw[xM,abb]
 grind
def ZX {e:Y o?} (hm:akk (h.get i)=Z e):erHF h (nm i)=Z ⟨0,.mp (GJ e)⟩/\∃K V es,h.get i=Z (.mp K V es):=by
 unfold akk at hm;split at hm
 next es z=>simp[af]at hm;subst hm;exact⟨by rw[bE,z];rfl,_,_,_,z⟩
 next z=>simp[af]at hm;subst hm;exact⟨by rw[bE,z];rfl,_,_,_,z⟩
 .cases hm
def EnR (R:AV->AV->Prop):Y j!->Y j!->Prop
 |[],[]=>True
 |x::l,y::l'=>x.1=y.1/\R x.2 y.2/\EnR R l l'
 |_,_=>False
def EnR.get {R:AV->AV->Prop}:∀{l l':Y j!},EnR R l l'->l'.map (·.1)=l.map (·.1)/\∀(j:Nat) z,l'[j]? =Z z->∃x,l[j]? =Z x/\x.1=z.1/\R x.2 z.2
 |[],[],_=>⟨rfl,λj z A=>by simp at A⟩
 |[],_::_,h|_::_,[],h=>h.elim
 |x::l,y::l',h=>by
  let⟨L,D⟩:=EnR.get h.2.2;refine ⟨by simp[bY,L,h.1],λj z A=>?_⟩;cases j with
  |zero=>simp[fJ,af]at A;subst A;exact⟨x,rfl,h.1,h.2.1⟩
  |succ j=>exact D j z A
def Mb {R:AV->AV->Prop} {a nx len:Nat} (z:∀j,R (.H (pB a j) 0) (.H (pB nx (shf len j)) 0)):∀es:Y d?,EnR R (wy a es) (wy nx (Ky len es))
 |[]=>trivial
 |e::r=>⟨rfl,z e.2,Mb z r⟩
def U9 {R:AV->AV->Prop} {a nx len:Nat} (D:∀j,R (.H (pB a j) 0) (.H (pB nx (shf len j)) 0)) {v:AV} (A:R v (.H (pB nx (aQ len)) 0)) (k:ν):∀es:Y d?,EnR R (Ma a k v es) (wy nx (rz k (aQ len) (Ky len es)))
 |[]=>⟨rfl,A,trivial⟩
 |e::r=>by
  have L:=U9 D A k r;show EnR R (Ma a k v (e::r)) (wy nx (rz k (aQ len) ((e.1,shf len e.2)::Ky len r)));simp[Ma,rz];by_cases z:k=e.1
  .rw[aD z,Ka.2 z];exact⟨rfl,A,Mb D r⟩
  .rw[av z];cases N:GY k e.1 with
   |true=>exact b8 (Ka.1 N) z
   |false=>exact⟨rfl,D e.2,L⟩
variable {v:Value}
def Ce {φ':PM} {O':Nat->Prop} {off:Nat} (h:φ' j=V i) (A:co V O w (.H i off) v):co φ' O' w (.H j off) v:=by
 cases A with
 |H D=>exact .H (h.trans D)
def Rc {φ':PM} {O':Nat->Prop} (h:φ' j=V i) (A:co V O w (.mp i) v):co φ' O' w (.mp j) v:=by
 cases A with
 |mp D=>exact .mp (h.trans D)
def J0 {φ':PM} {O':Nat->Prop} {sz m:Nat} (h:φ' j=V i) (A:co V O w (.G i sz m) v):co φ' O' w (.G j sz m) v:=by
 cases A with
 |G D h1 N L=>exact .G (h.trans D) h1 N L
def af8 (a n len:Nat) (B:eD):iz (rnF a n len B)=iz B:=by
 cases B with
 |I F b x=>
  simp[rnF];split
  .cases F with
   |qc ty=>
    show Z (J,1,ah (fX (shf len) (x:η)))=Z (J,1,ah (α:=Int) x)
    grind
   |_=>rfl
  .rfl
 |_=>rfl
def xA (φ:PM) (O:Nat->Prop) (w:World) (src:Nat->Nat) (b b':kl):Prop:=∀(φ':PM) (O':Nat->Prop),(∀n,φ' n=φ (src n))->(∀x v,co φ O w x v->co φ' O' w x v)->∀o,gR φ O w b o->gR φ' O' w b' o
variable {g:Nat->Nat}
def xA.refl (b:kl):xA V O w g b b:=λ_ _ _ keep _ h=>h.mono keep
variable {T:Ty}
def U0 {k:Nat} {ob:BX T} (h1:k%3=0->g (ji i (k+2))=ji j (k+2)) (h2:k%3=0->g (ji i (k+3))=ji j (k+3)):xA V O w g (vY j k s T ob) (vY i k s T ob):=by
 intro φ' O' hφ keep oo hoo;unfold vY at hoo ⊢;by_cases D:k%3=0
 .rw[aD D]at hoo ⊢;refine xS (by simp) (λai L z=>?_) hoo;by_cases hj:ai<l! (bI T ob.1)
  .rw[bC (by grind)]at z ⊢;refine ⟨?_,L,z,λv A=>keep _ _ A⟩;obtain⟨y,N,rfl⟩:=cj.1 (aY z);exact mc T [ob.1] y (by grind)
  .rw[bS (by grind)]at z ⊢;generalize ai-l! (fX AV.f (bI T ob.1))=q at z ⊢
   match q with
   |0=>
    simp only[fJ,af]at z ⊢;subst z;exact⟨rfl,_,rfl,λv A=>Rc (by grind) A⟩
   |1=>
    simp only[ms,fJ,af]at z ⊢;subst z;exact⟨rfl,_,rfl,λv A=>Rc (by grind) A⟩
   |q+2=>simp at z
 .rw[av D]at hoo ⊢;exact hoo.mono keep
def ah5 {E:Nat->Prop} (rep:sh V E A w) {m1 m2:Nat} {ob:BX T} (k0:j%3=0) (hle:gF A A B ((bI T ob.1).map .f)) (h1:g (ji i (j+2))=nm m1) (h2:g (ji i (j+3))=nm m2):xA V (tot E V A) w g ⟨s,.mx (B++[.mp (nm m1),.mp (nm m2)])⟩ (vY i j s T ob):=by
 intro φ' O' hφ keep oo hoo;unfold vY;rw[aD k0];have hll:=hle.length;refine xS (by grind) (λk N z=>?_) hoo;by_cases hj:k<(bI T ob.1).length
 .rw[bC (by grind)]at z;rw[bC (by grind)];let⟨x,L,D⟩:=hle.get k N z;refine ⟨?_,x,L,λv H=>keep _ _ (D V E w v rep H)⟩;obtain⟨y,hy,rfl⟩:=cj.1 (aY z);exact mc T [ob.1] y (by grind)
 .rw[bS (by grind)]at z;rw[bS (by grind),<-hll];generalize k-(fX AV.f (bI T ob.1)).length=q at z ⊢
  match q with
  |0=>
   simp only[fJ,af]at z ⊢;subst z;exact⟨rfl,_,rfl,λv H=>Rc (by grind) H⟩
  |1=>
   simp only[ms,fJ,af]at z ⊢;subst z;exact⟨rfl,_,rfl,λv H=>Rc (by grind) H⟩
  |q+2=>simp at z
variable {z:η} {S:kl}
def ak2 {p m1 m2 len:Nat} (D:tX i (.qc s) (rnX len (.qc s) z)=Z S):∃b,tX j (.qc s) z=Z b/\xA V O w (ug i j p m1 m2 len) b S:=by
 have D:(if ah (fX (shf len) z)==0 then U else Z (kl.mk s (.mx (fX (λa=>AV.H (pB i a) 0) (fX (shf len) z)))))=Z S:=D;rw[b_]at D;show ∃b,(if ah z==0 then U else Z (kl.mk s (.mx (fX (λa=>AV.H (pB j a) 0) z))))=Z b/\_;split at D
 .cases D
 .rename_i L;rw[av L];cases D;refine ⟨_,rfl,λφ' O' hφ keep oo hoo=>xS (by simp) (λa x' A=>?_) hoo⟩;rw[kM,bz]at A;rw[bz];cases hjx:z[a]? with
  |none=>rw[hjx]at A;cases A
  |some nx=>
   rw[hjx]at A;simp[bn,Function.comp,af]at A;subst A;exact⟨rfl,_,rfl,λv N=>Ce (by rw[hφ,Kv]) N⟩
def ak3 {p m1 m2 len:Nat} {es:Y d?} (L:tX i .qh (rnX len .qh es)=Z S):∃b,tX j .qh es=Z b/\xA V O w (ug i j p m1 m2 len) b S:=by
 cases L;refine ⟨_,rfl,λφ' O' hφ keep oo hoo=>?_⟩;let⟨A,z⟩:=EnR.get (Mb (R:=λx y=>∀v,co V O w x v->co φ' O' w y v) (a:=j) (nx:=i) (len:=len) (λa v D=>Ce (by rw[hφ,Kv]) D) es);exact KY A z hoo
def yT {nx a p m1 m2:Nat} (z:j/3<=i):(j/3<i/\ug nx a p m1 m2 i (ji nx (j+1))=ji a (j+1))\/(j/3=i/\j%3=0/\ug nx a p m1 m2 i (ji nx (j+1))=nm p)\/(j/3=i/\j%3=1/\ug nx a p m1 m2 i (ji nx (j+1))=nm m1)\/(j/3=i/\j%3=2/\ug nx a p m1 m2 i (ji nx (j+1))=nm m2):=by
 rw[xM]
 grind
structure yK (s:TS) (h':aX) (o ai p m1 m2 len:Nat) (ty:TypeId) (S:Ty) (xs:List (BX S)) (new:BX S) (kk:ν) (es:List (ν×Int)):Prop where
 ho:s.h.get o=Z (.qp .qh ai es kk (Z (p,aa,0)))
 ha:∃a0,s.h.get ai=Z (.I (.ar ty S) a0 xs)
 hp:∃l,s.h.get p=Z (.C (Z ty) l)
 g1:∃K V es,s.h.get m1=Z (.mp K V es)
 g2:∃K V es,s.h.get m2=Z (.mp K V es)
 hmm:m1≠m2
 hlen:l! xs=len
 hg:∀i,h'.get i=if i=s.nx then Z (.I (.ar ty S) 0 (xs++[new]:List (BX S))) else if i=m2\/i=m1\/i=p\/i=ai then Z (.qj J 0 0) else if i=o then Z (.I .qh s.nx (rz kk (aQ len) (Ky len es))) else (s.h.get i).map (rnF ai s.nx len)
section aew
variable {s:TS} {h':aX} {o ai p m1 m2 len:Nat} {ty:TypeId} {S:Ty} {xs:Y (BX S)} {new:BX S} {kk:ν} {es:Y d?} (t:yK s h' o ai p m1 m2 len ty S xs new kk es)
include t
def yK.ne:o≠ai/\o≠p/\o≠m1/\o≠m2/\p≠m1/\p≠m2:=by
 let⟨z,ha⟩:=t.ha;let⟨l,hp⟩:=t.hp;let⟨_,_,_,g1⟩:=t.g1;let⟨_,_,_,g2⟩:=t.g2;have ho:=t.ho
 grind
def yK.F (hi:gM s.h s.nx):bV s.h h':=λi r z=>by
 let⟨a0,ha⟩:=t.ha;let⟨l,hp⟩:=t.hp;let⟨_,_,_,g1⟩:=t.g1;let⟨_,_,_,g2⟩:=t.g2;have hfr:=hi.fresh;rw[bw]at z ⊢;rw[t.hg];by_cases N:i=s.nx
 .grind
 .rw[av N];by_cases L:i=m2\/i=m1\/i=p\/i=ai
  .rcases L with rfl|rfl|rfl|rfl
   .rw[g2]at z;cases z
   .rw[g1]at z;cases z
   .rw[hp]at z;cases z
   .rw[ha]at z;cases z
  .rw[av L];by_cases D:i=o
   .rw[D,t.ho]at z;cases z
   .rw[av D];cases A:s.h.get i with
    |none=>rw[A]at z;cases z
    |some B=>rw[A]at z;simp[bn,aC]at z ⊢;rw[af8];exact z
def yK.lows (hi:gM s.h s.nx):o<s.nx/\ai<s.nx/\p<s.nx/\m1<s.nx/\m2<s.nx:=by
 let⟨z,ha⟩:=t.ha;let⟨l,hp⟩:=t.hp;let⟨_,_,_,g1⟩:=t.g1;let⟨_,_,_,g2⟩:=t.g2;exact⟨hi.low o _ t.ho,hi.low ai _ ha,hi.low p _ hp,hi.low m1 _ g1,hi.low m2 _ g2⟩
def yK.inv (hi:gM s.h s.nx):gM h' (s.nx+1):=by
 have D:=t.F hi;let⟨N,la,L,l1,l2⟩:=t.lows hi;refine ⟨λi ty l hil=>?_,λi c' hic=>?_⟩
 .rw[t.hg]at hil;split at hil
  .cases hil
  .split at hil
   .cases hil
   .split at hil
    .cases hil
    .cases z:s.h.get i with
     |none=>rw[z]at hil;cases hil
     |some B=>
      rw[z]at hil;simp[bn,af]at hil;cases B with
      |C ty2 A=>
       simp[rnF,eD.C.injEq]at hil;obtain⟨_,rfl⟩:=hil;exact e9 D A (hi.C i _ A z)
      |I F b x=>simp[rnF]at hil;split at hil<;>cases hil
      |_=>cases hil
 .rw[t.hg]at hic;split at hic
  .omega
  .split at hic
   .omega
   .split at hic
    .omega
    .cases z:s.h.get i with
     |none=>rw[z]at hic;cases hic
     |some B=>have:=hi.low i B z;omega
def yK.qj (hi:gM s.h s.nx) (z:ow i=m2\/ow i=m1\/ow i=p\/ow i=ai):erHF h' i=U:=by
 let⟨D,la,A,N,L⟩:=t.lows hi;unfold erHF;rw[t.hg,av (by omega),aD z];cases ix i<;>rfl
def yK.new0:erHF h' (nm s.nx)=U:=by rw[bE,t.hg,aD rfl];rfl
def yK.newN (k:Nat):erHF h' (ji s.nx (k+1))=qT s.nx k ty S (xs++[new]):=by rw[kJ,t.hg,aD rfl];rfl
def yK.oldN (k:Nat):erHF s.h (ji ai (k+1))=qT ai k ty S xs:=by
 let⟨z,ha⟩:=t.ha;rw[kJ,ha];rfl
def yK.gt (z:len<i/3):erHF h' (ji s.nx (i+1))=U:=by
 rw[t.newN];unfold qT;rw[c5 (by rw[bc,t.hlen];exact z)];rfl
def yK.lt (L:i/3<len) {b':kl} (z:erHF h' (ji s.nx (i+1))=Z b'):∃b,erHF s.h (ji ai (i+1))=Z b/\xA V O w (ug s.nx ai p m1 m2 len) b b':=by
 rw[t.newN]at z;rw[t.oldN];unfold qT at z ⊢;rw[bC (by rw[t.hlen];exact L)]at z;cases A:xs[i/3]? with
 |none=>rw[A]at z;cases z
 |some ob=>
  rw[A]at z;simp[bn,af]at z;subst z;exact⟨_,rfl,U0 (λD=>Zn (k:=i+1) (by omega)) (λD=>Zn (k:=i+2) (by omega))⟩
def yK.eqB (z:i/3=len):erHF h' (ji s.nx (i+1))=Z (vY s.nx i ty S new):=by
 rw[t.newN];unfold qT;rw[z,<-t.hlen,nL];rfl
def yK.mapB (hi:gM s.h s.nx) {b':kl} (z:erHF h' (nm o)=Z b'):∃b,erHF s.h (nm o)=Z b/\xA V O w (ug s.nx ai p m1 m2 len) b b':=by
 let⟨lo,_⟩:=t.lows hi;let⟨n1,n2,n3,N,_⟩:=t.ne;rw[bE,t.hg,av (by omega),av (by omega),aD rfl]at z;cases z;rw[bE,t.ho];refine ⟨_,rfl,λφ' O' hφ keep oo hoo=>?_⟩;let⟨L,D⟩:=EnR.get (U9 (R:=λx y=>∀v,co V O w x v->co φ' O' w y v) (a:=ai) (nx:=s.nx) (len:=len) (λj v A=>Ce (by rw[hφ,Kv]) A) (v:=.H (nm p) 0) (λv A=>Ce (by
  rw[hφ];show V (ug s.nx ai p m1 m2 len (ji s.nx (3*len+1)))=_;rw[xM,av (by omega),aD (by omega),aD (by omega)]) A) kk es)
 exact KY L D hoo
def yK.oth (hi:gM s.h s.nx) (f0:ow i≠s.nx) (f1:¬(ow i=m2\/ow i=m1\/ow i=p\/ow i=ai)) (N:ow i≠o) {b':kl} (A:erHF h' i=Z b'):∃b,erHF s.h i=Z b/\xA V O w (ug s.nx ai p m1 m2 len) b b':=by
 have hr:=t.F hi;cases L:s.h.get (ow i) with
 |none=>
  unfold erHF at A;rw[t.hg,av f0,av f1,av N,L]at A;cases A
 |some B=>
  have z:NC h' (ow i) (ix i) (rnF ai s.nx len B)=Z b':=by
   unfold erHF at A;rw[t.hg,av f0,av f1,av N,L]at A;exact A
  have same:rnF ai s.nx len B=B->∃b,erHF s.h i=Z b/\xA V O w (ug s.nx ai p m1 m2 len) b b':=λe=>by
   rw[e,md hr (λty l e=>hi.C _ _ l (by rw[L,e]))]at z;exact⟨b',by unfold erHF;rw[L];exact z,xA.refl b'⟩
  cases B with
  |I F b x=>
   by_cases D:(asv F&&ay b ai)=J
   .have e0:rnF ai s.nx len (.I F b x)= .I F s.nx (rnX len F x):=by simp only[rnF];rw[aD D]
    rw[e0]at z;simp only[al]at D;have hba:=au D.2;subst hba;cases hix:ix i with
    |succ k=>rw[hix]at z;cases F<;>first|cases z|cases D.1
    |zero=>
     rw[hix]at z;have hsrc:erHF s.h i=tX b F x:=by unfold erHF;rw[L,hix];rfl
     rw[hsrc];cases F with
     |qc tyo=>exact ak2 z
     |qh=>exact ak3 z
     |_=>cases D.1
   .exact same (by simp only[rnF];rw[av D])
  |_=>exact same rfl
def yK.key {b:kl} (z:erHF h' i=Z b) (D:ow i=s.nx):∃k,i=ji s.nx (k+1)/\k/3<=len:=by
 cases hix:ix i with
 |zero=>rw[pi hix,D,t.new0]at z;cases z
 |succ k=>
  have en:i=ji s.nx (k+1):=by rw[<- D,<-hix,kN]
  refine ⟨k,en,?_⟩;subst en;rcases bG len (k/3) with A|A
  .rw[t.gt A]at z;cases z
  .exact A
def yK.dS (hi:gM s.h s.nx) (z:i/3<=len):erHF h' (ug s.nx ai p m1 m2 len (ji s.nx (i+1)))=U:=by
 refine t.qj hi ?_;rcases yT (nx:=s.nx) (a:=ai) (p:=p) (m1:=m1) (m2:=m2) z with ⟨_,e⟩|⟨_,_,e⟩|⟨_,_,e⟩|⟨_,_,e⟩<;>rw[e]
 .rw[iF];exact .inr (.inr (.inr rfl))
 .rw[c8];exact .inr (.inr (.inl rfl))
 .rw[c8];exact .inr (.inl rfl)
 .rw[c8];exact .inl rfl
def yK.inj1 (A:i/3<=len) (z:j/3<=len) (he:ug s.nx ai p m1 m2 len (ji s.nx (i+1))=ug s.nx ai p m1 m2 len (ji s.nx (j+1))):i=j:=by
 let⟨_,_,_,_,N,L⟩:=t.ne;have D:=t.hmm;rcases yT (nx:=s.nx) (a:=ai) (p:=p) (m1:=m1) (m2:=m2) A with ⟨_,e⟩|⟨_,_,e⟩|⟨_,_,e⟩|⟨_,_,e⟩<;>rcases yT (nx:=s.nx) (a:=ai) (p:=p) (m1:=m1) (m2:=m2) z with ⟨_,e'⟩|⟨_,_,e'⟩|⟨_,_,e'⟩|⟨_,_,e'⟩<;>rw[e,e']at he<;>clear e e'<;>first|omega|(have:=(uM he).2;omega)|(have:=ui he;omega)
def yK.inj (hi:gM s.h s.nx) {b b':kl} (z:erHF h' i=Z b) (hm:erHF h' j=Z b') (he:ug s.nx ai p m1 m2 len i=ug s.nx ai p m1 m2 len j):i=j:=by
 have L:∀i,ow i≠s.nx->ug s.nx ai p m1 m2 len i=i:=λi z=>by unfold ug;rw[av z]
 by_cases f0:ow i=s.nx
 .obtain⟨k,rfl,N⟩:=t.key z f0;by_cases A:ow j=s.nx
  .obtain⟨q,rfl,D⟩:=t.key hm A;rw[t.inj1 N D he]
  .rw[L j A]at he;rw[<- he,t.dS hi N]at hm;cases hm
 .rw[L i f0]at he;by_cases A:ow j=s.nx
  .obtain⟨q,rfl,D⟩:=t.key hm A;rw[he,t.dS hi D]at z;cases z
  .grind
def yK.cfg (c:iY P E nt np V s Q w) (bp:erHF s.h (nm p)=Z ⟨ty,.mx (B++[.mp (nm m1),.mp (nm m2)])⟩) (hle:gF (erHF s.h) (erHF s.h) B ((bI S new.1).map .f)) (b1:erHF s.h (nm m1)=Z ⟨0,.mp (GJ new.2.1)⟩) (b2:erHF s.h (nm m2)=Z ⟨0,.mp (GJ new.2.2)⟩):∃φ',iY P E nt np φ' ⟨s.e,h',s.nx+1⟩ Q w/\xd np V φ' (erHF s.h) (erHF h') w w:=by
 have hi:=c.qz;have hs:∀n,ow n≠s.nx->ug s.nx ai p m1 m2 len n=n:=λn L=>by unfold ug;rw[av L]
 refine J2 c (ug s.nx ai p m1 m2 len) hs (t.F hi) (t.inv hi) (λn b' z=>?_) λn m b b' L hm he=>t.inj hi L hm he
 by_cases D:ow n=s.nx
 .obtain⟨k,rfl,hk⟩:=t.key z D;rcases yT (nx:=s.nx) (a:=ai) (p:=p) (m1:=m1) (m2:=m2) hk with ⟨g,e⟩|⟨g,A,e⟩|⟨g,A,e⟩|⟨g,A,e⟩<;>rw[e]
  .exact t.lt g z
  .rw[t.eqB g,af]at z;subst z;refine ⟨_,bp,ah5 c.qn A hle ?_ ?_⟩
   .rw[xM,av (by omega),aD (by omega),av (by omega),aD (by omega)]
   .rw[xM,av (by omega),aD (by omega),av (by omega),av (by omega)]
  .rw[t.eqB g,af]at z;subst z;refine ⟨_,b1,?_⟩;unfold vY;rw[av (by omega),aD A];exact xA.refl _
  .rw[t.eqB g,af]at z;subst z;refine ⟨_,b2,?_⟩;unfold vY;rw[av (by omega),av (by omega)];exact xA.refl _
 .rw[hs n D];by_cases f1:ow n=m2\/ow n=m1\/ow n=p\/ow n=ai
  .rw[t.qj hi f1]at z;cases z
  .by_cases N:ow n=o
   .cases hix:ix n with
    |succ k=>
     unfold erHF at z;rw[t.hg,av D,av f1,aD N,hix]at z;cases z
    |zero=>
     have en:n=nm o:=by rw[<- N];exact pi hix
     subst en;exact t.mapB hi z
   .exact t.oth hi D f1 N z
end aew
def aoo {s:TS} (c:iY P E nt np V s Q w) {p:Nat} {kk:ν} {es:Y d?} (ho:s.h.get i=Z (.qp .qh j es kk (Z (p,aa,0)))) {s':TS} (h:aew s i j p kk es=Z s'):s'.e=s.e/\∃φ',iY P E nt np φ' s' Q w/\xd np V φ' (erHF s.h) (erHF s'.h) w w:=by
 unfold aew at h;split at h
 .rename_i ty S a0 xs ty' l ha hp;split at h
  .rename_i hty;have hty:=eq_of_beq hty;subst hty;split at h
   .rename_i z m m1 m2 hpk;split at h
    .rename_i e1 e2 N L;split at h
     .rename_i hq;simp only[al,cS]at hq;let⟨D,q2⟩:=hq;have D:=au D;subst D;have hmm:m1≠m2:=λe=>by simp_all
      let⟨b1,K1,V1,es1,g1⟩:=ZX N;let⟨b2,K2,V2,es2,g2⟩:=ZX L;simp[af]at h;subst h;refine ⟨rfl,?_⟩;let⟨l',A⟩:=eR s.h l (c.qz.C p _ l hp);let⟨la1,la2,hlap,hla2,hle⟩:=rq (rf.refl (erHF s.h)) 40 S l z 0 _ l' hpk A Eg.zero;have hla2:la2=[.mp (nm m1),.mp (nm m2)]:=by simp[cI,bZ,af]at hla2;exact hla2.symm
      have bp:erHF s.h (nm p)=Z ⟨ty',.mx (la1++[.mp (nm m1),.mp (nm m2)])⟩:=by rw[bE,hp];simp[aC,jJ,A];rw[hlap,hla2]
      refine yK.cfg (o:=i) (ai:=j) (p:=p) (m1:=m1) (m2:=m2) (len:=ah (α:=BX S) xs) (ty:=ty') (S:=S) (xs:=xs) (new:=(z,e1,e2)) (kk:=kk) (es:=es) ⟨ho,⟨a0,ha⟩,⟨l,hp⟩,⟨_,_,_,g1⟩,⟨_,_,_,g2⟩,hmm,rfl,λo=>?_⟩ c bp hle b1 b2;rw[PT.get_set,PT.get_set,PT.get_set,PT.get_set,PT.get_set,PT.get_set,PT.get_updI];by_cases f0:o=s.nx
      .rw[aD f0,aD f0];rfl
      .grind
     .cases h
    .cases h
   .cases h
  .cases h
 .cases h
def Yi {n:Nat} {ty:TypeId} {xss:Y (Y T.den)} {xs:Y T.den} (h:l! xss<=i):qS i ty T (xss.set n xs)=U:=by
 unfold qS
 grind
def Gt (nx a r j n:Nat):Nat:=if ow n=nx then (match ix n with
 |0=>n
 |k+1=>if k=j then nm r else ji a (k+1)) else n
def xL (nx a r j k:Nat):Gt nx a r j (ji nx (k+1))=if k=j then nm r else ji a (k+1):=by
 unfold Gt;rw[iF,vN,aD rfl]
def aom {ty:TS} (c:iY P E nt np V ty Q w) {r n:Nat} {kk:ν} {N:Nat} (ho:ty.h.get i=Z (.qp (.rr s N) j z kk (Z (r,J,n)))) {s':TS} (h:aon ty i j r n kk.1 s N z=Z s'):s'.e=ty.e/\∃φ',iY P E nt np φ' s' Q w/\xd np V φ' (erHF ty.h) (erHF s'.h) w w:=by
 unfold aon at h;split at h
 .rename_i ty2 T a0 xss ty3 p S xs ha hrr;split at h
  .rename_i xs' hxs;split at h
   .rename_i hty;have hty:=eq_of_beq hty;subst hty;cases h;refine ⟨rfl,?_⟩;let⟨ee,exs⟩:=gL hxs;cases ee;have exs:xs'=xs:=exs;subst exs;have hfr:=c.qz.fresh;have lo:=c.qz.low i _ ho;have la:=c.qz.low j _ ha;have lr:=c.qz.low r _ hrr;have n1:i≠j:=λe=>by rw[e,ha]at ho;cases ho
    have n2:i≠r:=λe=>by rw[e,hrr]at ho;cases ho
    have n3:j≠r:=λe=>by rw[e,hrr]at ha;cases ha
    generalize hjj:kk.1.toNat=ai;generalize hh':(((ty.h.set i (Z (.I (.rr s N) ty.nx (pR (α:=Int) z ai (aQ n))))).set j (Z (.qj J 0 0))).set r (Z (.qj p T.size (ah xs')))).set ty.nx (Z (.I (.ir ty3 T) 0 (vu (T:=T) xss kk.1 xs')))=h';have hg:∀o,h'.get o=if o=ty.nx then Z (.I (.ir ty3 T) 0 (vu (T:=T) xss kk.1 xs')) else if o=r then Z (.qj p T.size (ah xs')) else if o=j then Z (.qj J 0 0) else if o=i then Z (.I (.rr s N) ty.nx (pR (α:=Int) z ai (aQ n))) else ty.h.get o:=λo=>by
     rw[<- hh',PT.get_set,PT.get_set,PT.get_set,PT.get_set]
    have hdead:∀n,ow n=r\/ow n=j->erHF h' n=U:=λn hn=>by
     unfold erHF;rcases hn with e|e
     .rw[hg,av (by omega),aD e];simp only[aC];cases ix n<;>rfl
     .rw[hg,av (by omega),av (by omega),aD e];simp only[aC];cases ix n<;>rfl
    have hr:bV ty.h h':=λo q hi=>by
     rw[bw]at hi ⊢;rw[hg];by_cases L:o=ty.nx
     .rw[L,hfr]at hi;cases hi
     .rw[av L];by_cases f1:o=r
      .rw[aD f1];rw[f1,hrr]at hi;exact hi
      .rw[av f1];by_cases f2:o=j
       .rw[f2,ha]at hi;cases hi
       .rw[av f2];by_cases f3:o=i
        .rw[aD f3];rw[f3,ho]at hi;simp only[aC,iz,rY,dV]at hi ⊢;exact hi
        .rw[av f3];exact hi
    have hinv:gM h' (ty.nx+1):=by
     refine ⟨λo s l hil=>?_,λo c' hic=>?_⟩
     .rw[hg]at hil;split at hil
      .cases hil
      .split at hil
       .cases hil
       .split at hil
        .cases hil
        .split at hil
         .cases hil
         .exact e9 hr l (c.qz.C o _ l hil)
     .rw[hg]at hic;split at hic
      .omega
      .split at hic
       .omega
       .split at hic
        .omega
        .split at hic
         .omega
         .have:=c.qz.low o c' hic;omega
    have hmN:∀k,erHF h' (ji ty.nx (k+1))=qS k ty3 T (pR xss ai xs'):=λk=>by
     rw[kJ,hg,aD rfl,<-hjj];rfl
    have hmO:∀k,erHF ty.h (ji j (k+1))=qS k ty3 T xss:=λk=>by rw[kJ,ha];rfl
    have hn0:erHF h' (nm ty.nx)=U:=by rw[bE,hg,aD rfl];rfl
    refine J2 c (Gt ty.nx j r ai) (λn hn=>by unfold Gt;rw[av hn]) hr hinv ?_ ?_
    .intro q b' A;by_cases L:ow q=ty.nx
     .cases hix:ix q with
      |zero=>rw[pi hix,L,hn0]at A;cases A
      |succ k=>
       have en:q=ji ty.nx (k+1):=by rw[<- L,<-hix,kN]
       subst en;rw[hmN]at A;rw[xL];by_cases hk:k=ai
       .rw[aD hk];subst hk;refine ⟨b',?_,λφ' O' hφ keep oo hoo=>hoo.mono keep⟩;rw[bE,hrr];have hl:k<ah (α:=Y T.den) xss:=by
         rcases bG k (ah (α:=Y T.den) xss) with h1|h1
         .exact h1
         .have A:=(Yi (ty:=ty3) (T:=T) (xss:=xss) (xs:=xs') (n:=k) h1).symm.trans A;cases A
        have A:=(L6 (ty:=ty3) (T:=T) (xss:=xss) (xs:=xs') hl).symm.trans A;unfold Yh at A;split at A
        .cases A
        next hz=>simp only[aC,jJ];rw[av (by rw[al];exact λe=>hz e.2)];exact A
       .rw[av hk,hmO];exact⟨b',(Hf (ty:=ty3) (T:=T) (xss:=xss) (xs:=xs') hk).symm.trans A,λφ' O' hφ keep oo hoo=>hoo.mono keep⟩
     .have hs:Gt ty.nx j r ai q=q:=by unfold Gt;rw[av L]
      rw[hs];by_cases f1:ow q=r\/ow q=j
      .rw[hdead q f1]at A;cases A
      .have f1a:ow q≠r:=λe=>f1 (.inl e)
       have f1b:ow q≠j:=λe=>f1 (.inr e)
       by_cases f2:ow q=i
       .cases hix:ix q with
        |succ k=>
         unfold erHF at A;rw[hg,av L,av f1a,av f1b,aD f2,hix]at A;cases A
        |zero=>
         have en:q=nm i:=by rw[<- f2];exact pi hix
         subst en;rw[c8]at f1a f1b;rw[bE,hg,av (by omega),av f1a,av f1b,aD rfl]at A;have A:Z (kl.mk s (.mx (lI ty.nx N 0 (pR (α:=Int) z ai (aQ n)))))=Z b':=A;cases A;rw[bE,ho];refine ⟨⟨s,.mx ((lI j N 0 z).set kk.1.toNat (dt J r N n))⟩,rfl,λφ' O' hφ keep oo hoo=>?_⟩;rw[hjj]at hoo;have cl:∀(Q k l:Nat),(uh Q k N l).isCell=J:=λQ k l=>by unfold uh;split<;>rfl
         refine xS (by rw[dV,kZ,kZ,dV]) (λo x' D=>?_) hoo;have D:=D.symm.trans (xQ ty.nx N (pR (α:=Int) z ai (aQ n)) 0 o);rw[bT,dG]at D;by_cases hij:ai=o
         .subst hij;rw[aD rfl]at D;by_cases hl:ai<ah (α:=Int) z
          .rw[aD hl]at D;simp only[bn,af]at D;subst D;refine ⟨cl _ _ _,_,by rw[dG,aD rfl,aD (by rw[kZ];exact hl)],λv hv=>?_⟩;have hn2:(aQ n).toNat=n:=rfl;rw[hn2];unfold dt at hv;unfold uh;by_cases hz:n=0
           .rw[aD (by simpa using hz)]at hv ⊢;exact keep _ _ hv
           .rw[av (by simpa using hz)]at hv ⊢;exact J0 (by rw[hφ,xL,aD rfl]) hv
          .rw[av hl]at D;cases D
         .rw[av hij]at D;cases hli:(z:η)[o]? with
          |none=>
           have D:Z x'=hX _ ((z:η)[o]?):=D;rw[hli]at D;cases D
          |some l=>
           have D:Z x'=hX _ ((z:η)[o]?):=D;rw[hli]at D;simp only[bn,af]at D;subst D;refine ⟨cl _ _ _,uh j o N l.toNat,?_,λv hv=>?_⟩
           .rw[dG,av hij];have:=xQ j N z 0 o;rw[bT]at this;refine this.trans ?_;show hX _ ((z:η)[o]?)=_;rw[hli];rfl
           .unfold uh at hv ⊢;by_cases hz:l.toNat=0
            .rw[aD (by simpa using hz)]at hv ⊢;exact keep _ _ hv
            .rw[av (by simpa using hz)]at hv ⊢;exact J0 (by rw[hφ,xL,av (λe=>hij e.symm)]) hv
       .have hb2:(ty.h.get (ow q)).bind (NC h' (ow q) (ix q))=Z b':=by
         unfold erHF at A;rw[hg,av L,av f1a,av f1b,av f2]at A;exact A
        cases hx:ty.h.get (ow q) with
        |none=>rw[hx]at hb2;cases hb2
        |some B=>
         rw[hx]at hb2;simp only[aC]at hb2;rw[md hr (λs l e=>c.qz.C _ _ l (by rw[hx,e]))]at hb2;exact⟨b',by unfold erHF;rw[hx];exact hb2,λφ' O' hφ keep oo hoo=>hoo.mono keep⟩
    .intro q m b b' hn hm he;have key:∀n b,erHF h' n=Z b->ow n=ty.nx->∃k,n=ji ty.nx (k+1):=λn b hn L=>by
      cases hix:ix n with
      |zero=>rw[pi hix,L,hn0]at hn;cases hn
      |succ k=>exact⟨k,by rw[<- L,<-hix,kN]⟩
     have dS:∀k,erHF h' (Gt ty.nx j r ai (ji ty.nx (k+1)))=U:=λk=>by
      refine hdead _ ?_;rw[xL];split
      .rw[c8];exact .inl rfl
      .rw[iF];exact .inr rfl
     by_cases L:ow q=ty.nx
     .obtain⟨k,rfl⟩:=key q b hn L;by_cases f1:ow m=ty.nx
      .obtain⟨k2,rfl⟩:=key m b' hm f1;rw[xL,xL]at he;have:k=k2:=by
        split at he<;>split at he
        .omega
        .have:=(uM he).2;omega
        .have:=(uM he).2;omega
        .have:=(uM he).2;omega
       rw[this]
      .rw[show Gt ty.nx j r ai m=m from by unfold Gt;rw[av f1]]at he;rw[<- he,dS k]at hm;cases hm
     .rw[show Gt ty.nx j r ai q=q from by unfold Gt;rw[av L]]at he;by_cases f1:ow m=ty.nx
      .obtain⟨k2,rfl⟩:=key m b' hm f1;rw[he,dS k2]at hn;cases hn
      .rw[show Gt ty.nx j r ai m=m from by unfold Gt;rw[av f1]]at he;exact he
   .cases h
  .cases h
 .cases h
def Az (nx a n:Nat):Nat:=if ow n=nx then ji a (ix n) else n
def xN (nx a k:Nat):Az nx a (ji nx k)=ji a k:=by
 unfold Az;rw[iF,vN,aD rfl]
def af7 (a n:Nat) (B:eD):iz (rnG a n B)=iz B:=by
 cases B with
 |I F b x=>
  simp[rnG];split<;>rfl
 |_=>rfl
def Lq {F:uc} (h:agj F=J):(∃ty S,F= .ar ty S)\/∃ty T,F= .ir ty T:=by
 cases F with
 |ar ty S=>exact .inl ⟨ty,S,rfl⟩
 |ir ty T=>exact .inr ⟨ty,T,rfl⟩
 |_=>cases h
def aca {k:Nat} {F:uc} {x:F.ty.den} (z:Jw i k F x=Z S):∃b,Jw j k F x=Z b/\xA V O w (Az i j) b S:=by
 cases F with
 |ar ty b'=>
  let⟨ob,h1,A⟩:=gg.1 z;subst A;exact⟨_,gg.2 ⟨ob,h1,rfl⟩,U0 (λ_=>xN i j _) (λ_=>xN i j _)⟩
 |ir ty T=>exact⟨S,z,xA.refl _⟩
 |_=>cases z
def P1 {R:AV->AV->Prop} {a nx:Nat} (z:∀j,R (.H (pB a j) 0) (.H (pB nx j) 0)):∀es:Y d?,EnR R (wy a es) (wy nx es)
 |[]=>trivial
 |e::r=>⟨rfl,z e.2,P1 z r⟩
def afs (D:tX i (.qc s) z=Z S):∃b,tX j (.qc s) z=Z b/\xA V O w (Az i j) b S:=by
 have hob:∀a,Az i j (pB i a)=pB j a:=λa=>xN i j _
 have D:(if ah z==0 then U else Z (kl.mk s (.mx (fX (λa=>AV.H (pB i a) 0) z))))=Z S:=D;show ∃b,(if ah z==0 then U else Z (kl.mk s (.mx (fX (λa=>AV.H (pB j a) 0) z))))=Z b/\_;split at D
 .cases D
 .rename_i L;rw[av L];simp[af]at D;subst D;refine ⟨_,rfl,λφ' O' hφ keep oo hoo=>xS (by simp) (λa x' A=>?_) hoo⟩;rw[bz]at A ⊢;cases hjx:z[a]? with
  |none=>rw[hjx]at A;cases A
  |some nx=>
   rw[hjx]at A;simp[bn,af]at A;subst A;exact⟨rfl,_,rfl,λv N=>Ce (by grind) N⟩
def afv {es:Y d?} (L:tX i .qh es=Z S):∃b,tX j .qh es=Z b/\xA V O w (Az i j) b S:=by
 have hob:∀a,Az i j (pB i a)=pB j a:=λa=>xN i j _
 cases L;refine ⟨_,rfl,λφ' O' hφ keep oo hoo=>?_⟩;let⟨A,z⟩:=EnR.get (P1 (R:=λx y=>∀v,co V O w x v->co φ' O' w y v) (a:=j) (nx:=i) (λa v D=>Ce (by grind) D) es);exact KY A z hoo
def ajt {D:Nat} (L:tX i (.rr s D) z=Z S):∃b,tX j (.rr s D) z=Z b/\xA V O w (Az i j) b S:=by
 have L:Z (kl.mk s (.mx (lI i D 0 z)))=Z S:=L;simp[af]at L;subst L;refine ⟨_,rfl,λφ' O' hφ keep oo hoo=>xS (by rw[kZ,kZ]) (λa x' A=>?_) hoo⟩;rw[xQ]at A ⊢;cases hjx:z[a]? with
 |none=>rw[hjx]at A;cases A
 |some l=>
  rw[hjx]at A;simp only[bn,af]at A;subst A;refine ⟨by unfold uh;split<;>rfl,uh j (0+a) D l.toNat,rfl,λv N=>?_⟩;unfold uh at N ⊢;by_cases hz:(l.toNat==0)=J
  .grind
  .rw[av hz]at N ⊢;exact J0 (by rw[hφ,xN]) N
def ace {F:uc} {x:F.ty.den} (A:tX i F x=Z S):∃b,tX j F x=Z b/\xA V O w (Az i j) b S:=by
 cases F with
 |qc ty=>exact afs A
 |qh=>exact afv A
 |rr ty z=>exact ajt A
 |_=>cases A
def aoq {s:TS} (c:iY P E nt np V s Q w) {s':TS} (h:aor s i=Z s'):s'.e=s.e/\∃φ',iY P E nt np φ' s' Q w/\xd np V φ' (erHF s.h) (erHF s'.h) w w:=by
 unfold aor at h;split at h
 .rename_i F a0 x ha;split at h
  .rename_i hF;cases h;refine ⟨rfl,?_⟩;have hfr:=c.qz.fresh;have la:=c.qz.low i _ ha;have hi:=c.qz;generalize hh':((PT.updI (λ_ b=>rnG i s.nx b) 1 0 s.h).set i (Z (.qj J 0 0))).set s.nx (Z (.I F 0 x))=h';have hg:∀ai,h'.get ai=if ai=s.nx then Z (.I F 0 x) else if ai=i then Z (.qj J 0 0) else (s.h.get ai).map (rnG i s.nx):=λai=>by
    rw[<- hh',PT.get_set,PT.get_set,PT.get_updI]
   have hF0:rY F x=U:=by rcases Lq hF with ⟨_,_,rfl⟩|⟨_,_,rfl⟩<;>rfl
   have hFB:∀q,tX q F x=U:=λq=>by rcases Lq hF with ⟨_,_,rfl⟩|⟨_,_,rfl⟩<;>rfl
   have hr:bV s.h h':=λai q hq=>by
    rw[bw]at hq ⊢;rw[hg];by_cases L:ai=s.nx
    .grind
    .rw[av L];by_cases f1:ai=i
     .rw[f1,ha]at hq;simp only[aC,iz,hF0]at hq;cases hq
     .rw[av f1];cases A:s.h.get ai with
      |none=>rw[A]at hq;cases hq
      |some B=>rw[A]at hq;simp only[bn,aC]at hq ⊢;rw[af7];exact hq
   have hinv:gM h' (s.nx+1):=by
    refine ⟨λai ty l hil=>?_,λai c' hic=>?_⟩
    .rw[hg]at hil;split at hil
     .cases hil
     .split at hil
      .cases hil
      .cases A:s.h.get ai with
       |none=>rw[A]at hil;cases hil
       |some B=>
        rw[A]at hil;simp only[bn,af]at hil;cases B with
        |C ty2 l3=>
         simp only[rnG,eD.C.injEq]at hil;obtain⟨_,rfl⟩:=hil;exact e9 hr l3 (hi.C ai _ l3 A)
        |I F b x=>simp only[rnG]at hil;split at hil<;>cases hil
        |_=>cases hil
    .rw[hg]at hic;split at hic
     .omega
     .split at hic
      .omega
      .cases A:s.h.get ai with
       |none=>rw[A]at hic;cases hic
       |some B=>have:=hi.low ai B A;omega
   have hdead:∀n,ow n=i->erHF h' n=U:=λn N=>by
    unfold erHF;rw[hg,av (by omega),aD N];simp only[aC];cases ix n<;>rfl
   have hn0:erHF h' (nm s.nx)=U:=by
    rw[bE,hg,aD rfl];exact hFB _
   have hmN:∀k,erHF h' (ji s.nx (k+1))=Jw s.nx k F x:=λk=>by rw[kJ,hg,aD rfl];rfl
   have hmO:∀k,erHF s.h (ji i (k+1))=Jw i k F x:=λk=>by rw[kJ,ha];rfl
   refine J2 c (Az s.nx i) (λn N=>by unfold Az;rw[av N]) hr hinv (λn b' D=>?_) λn m b b' N hm he=>?_
   .by_cases L:ow n=s.nx
    .cases hix:ix n with
     |zero=>rw[pi hix,L,hn0]at D;cases D
     |succ k=>
      have en:n=ji s.nx (k+1):=by rw[<- L,<-hix,kN]
      subst en;rw[hmN]at D;rw[xN,hmO];exact aca D
    .have hs:Az s.nx i n=n:=by unfold Az;rw[av L]
     rw[hs];by_cases f1:ow n=i
     .grind
     .cases A:s.h.get (ow n) with
      |none=>
       unfold erHF at D
       grind
      |some B=>
       have z:NC h' (ow n) (ix n) (rnG i s.nx B)=Z b':=by
        unfold erHF at D
        grind
       have same:rnG i s.nx B=B->∃b,erHF s.h n=Z b/\xA V (tot E V (erHF s.h)) w (Az s.nx i) b b':=λe=>by
        rw[e,md hr (λty l e=>hi.C _ _ l (by rw[A,e]))]at z;exact⟨b',by unfold erHF;rw[A];exact z,xA.refl b'⟩
       cases B with
       |I G b y=>
        by_cases hc:(!(agj G)&&ay b i)=J
        .have e0:rnG i s.nx (.I G b y)= .I G s.nx y:=by simp only[rnG];rw[aD hc]
         rw[e0]at z;simp only[al,cS]at hc;have hba:=au hc.2;subst hba;cases hix:ix n with
         |succ k=>
          rw[hix]at z;cases G with
          |ar ty S|ir ty T=>cases hc.1
          |_=>cases z
         |zero=>
          rw[hix]at z;have hsrc:erHF s.h n=tX b G y:=by unfold erHF;rw[A,hix];rfl
          rw[hsrc];exact ace z
        .exact same (by simp only[rnG];rw[av hc])
       |_=>exact same rfl
   .have hs:∀n,ow n≠s.nx->Az s.nx i n=n:=λn N=>by unfold Az;rw[av N]
    have key:∀n b,erHF h' n=Z b->ow n=s.nx->Az s.nx i n=ji i (ix n):=λn b N L=>by unfold Az;rw[aD L]
    by_cases L:ow n=s.nx
    .rw[key n b N L]at he;by_cases f1:ow m=s.nx
     .rw[key m b' hm f1]at he;rw[<- kN n,<-kN m,L,f1,(uM he).2]
     .rw[hs m f1]at he;rw[<- he,hdead _ (iF ..)]at hm;cases hm
    .rw[hs n L]at he;by_cases f1:ow m=s.nx
     .rw[key m b' hm f1]at he;rw[he,hdead _ (iF ..)]at N;cases N
     .grind
  .cases h
 .cases h
variable {r:Y TV}
def aov {cty:TS} (c:iY P E nt np V cty Q w) {id:Nat} (hb:cty.h.get i=Z (.C (Z s) r)) (hv:r[j]? =Z (.G id)) {ty:TypeId} {ai:Nat} (L:cty.h.get id=Z (.I (.qc ty) ai z)):∃φ',iY P E nt np φ' ⟨cty.e,((cty.h.set id (Z (.qj J 1 (ah z)))).set cty.nx (Z (.I (.qc ty) ai z))).set i (Z (.C (Z s) (splice r j [.G cty.nx]))),cty.nx+1⟩ Q w/\xd np V φ' (erHF cty.h) (erHF (((cty.h.set id (Z (.qj J 1 (ah z)))).set cty.nx (Z (.I (.qc ty) ai z))).set i (Z (.C (Z s) (splice r j [.G cty.nx]))))) w w:=by
 have hfr:=c.qz.fresh;have hidlt:=c.qz.low id _ L;have hblt:=c.qz.low i _ hb;have hbid:i≠id:=λe=>by rw[e,L]at hb;cases hb
 have hbn:i≠cty.nx:=by omega
 have hin:id≠cty.nx:=by omega
 generalize hh2:(((cty.h.set id (Z (.qj J 1 (ah z)))).set cty.nx (Z (.I (.qc ty) ai z))).set i (Z (.C (Z s) (splice r j [.G cty.nx]))))=h2;have j8:∀b,h2.get b=if b=i then Z (.C (Z s) (splice r j [.G cty.nx])) else if b=cty.nx then Z (.I (.qc ty) ai z) else if b=id then Z (.qj J 1 (ah z)) else cty.h.get b:=λb=>by
  rw[<- hh2,PT.get_set,PT.get_set,PT.get_set]
 have hr:bV cty.h h2:=λb l hi=>by
  rw[bw]at hi ⊢;rw[j8];by_cases e1:b=i
  .subst e1;rw[hb]at hi;cases hi
  .rw[av e1];by_cases e2:b=cty.nx
   .subst e2;rw[hfr]at hi;cases hi
   .rw[av e2];by_cases e3:b=id
    .subst e3;rw[aD rfl];rw[L]at hi;exact hi
    .rw[av e3];exact hi
 have hlo:=c.qz.C i _ r hb;let⟨l',hl'⟩:=eR cty.h r hlo;have hrow:bZ h2 (.G cty.nx)=Z (dt J cty.nx 1 (l! z)):=by
  simp only[bZ,bw,j8];rw[av hbn.symm];simp only[bh,aC,iz,rY]
 have hsp:cI h2 (splice r j [.G cty.nx])=Z (splice l' j [dt J cty.nx 1 (l! z)]):=oK _ (fT hr _ _ hl') (by simp only[cI,hrow]);let⟨y,hy,hey⟩:=ly hl' _ _ hv;have hy0:y=dt J id 1 (l! z):=by
  simp only[bZ,bw,L,aC,iz,rY,af]at hey;exact hey.symm
 subst hy0;have hinv:gM h2 (cty.nx+1):=by
  refine ⟨λb ty2 l2 hil=>?_,λb q hiq=>?_⟩
  .rw[j8]at hil;split at hil
   .simp only[af,eD.C.injEq]at hil;obtain⟨_,rfl⟩:=hil;exact kQ _ _ _ hsp
   .split at hil
    .cases hil
    .split at hil
     .cases hil
     .exact e9 hr l2 (c.qz.C b _ l2 hil)
  .rw[j8]at hiq;split at hiq
   .omega
   .split at hiq
    .omega
    .split at hiq
     .omega
     .have:=c.qz.low b q hiq;omega
 have hdead:∀n,ow n=id->erHF h2 n=U:=λn hn=>by
  unfold erHF;rw[j8,av (by omega),av (by omega),aD hn];simp only[aC];cases ix n<;>rfl
 have hm0:∀n k,ow n=cty.nx->ix n=k+1->erHF h2 n=U:=λn k hn hk=>by
  unfold erHF;rw[j8,av (by omega),aD hn,hk];rfl
 refine J2 c (λn=>if n=nm cty.nx then nm id else n) (λn hn=>by rw[av (λe=>hn (by rw[e,c8]))]) hr hinv (λn b' A=>?_) λn m p q hn hm he=>?_
 .show ∃i,erHF cty.h (if n=nm cty.nx then nm id else n)=Z i/\_;by_cases f0:ow n=cty.nx
  .cases hix:ix n with
   |succ k=>rw[hm0 n k f0 hix]at A;cases A
   |zero=>
    have en:n=nm cty.nx:=by rw[<- f0];exact pi hix
    rw[aD en];subst en;rw[bE,j8,av hbn.symm,aD rfl]at A;rw[bE,L];exact⟨b',A,λφ' O' hφ keep oo hoo=>hoo.mono keep⟩
  .have en:n≠nm cty.nx:=λe=>f0 (by rw[e,c8])
   rw[av en];by_cases N:ow n=id
   .rw[hdead n N]at A;cases A
   .by_cases f2:ow n=i
    .cases hix:ix n with
     |succ k=>
      unfold erHF at A;rw[j8,aD f2,hix]at A;cases A
     |zero=>
      have eb:n=nm i:=by rw[<- f2];exact pi hix
      subst eb;rw[bE,j8,aD rfl]at A;simp only[aC,jJ,hsp,af]at A;subst A;refine ⟨⟨s,.mx l'⟩,by rw[bE,hb];simp only[aC,jJ,hl'],λφ' O' hφ keep oo hoo=>?_⟩;have hlt:j<l! l':=(bB.1 hy).1;have hφ0:φ' (nm cty.nx)=V (nm id):=by rw[hφ];simp
      rw[qJ rfl]at hoo ⊢;let⟨arr,a1,a2⟩:=hoo;refine ⟨arr,a1,?_⟩;unfold u_ at a2 ⊢;refine ⟨by simp only[BC.len]at a2 ⊢;rw[ng (by simp;omega)];exact a2.1,λo x D=>?_⟩;simp only[BC.get]at D a2;rw[nY (by simp;omega)]at D;split at D
      .grind
      .split at D
       .rename_i h3 h4;simp only[bN]at h4;have hj:o=j:=by omega
        subst hj;simp only[wG,fJ,af]at D;subst D;let⟨_,v,a3,a4⟩:=a2.2 _ _ hy;refine ⟨by unfold dt;split<;>rfl,v,a3,?_⟩;unfold dt at a4 ⊢;by_cases hz:l! z=0
        .grind
        .rw[av (by simpa using hz)]at a4 ⊢;exact J0 hφ0 a4
       .grind
    .cases D:cty.h.get (ow n) with
     |none=>
      unfold erHF at A;rw[j8,av f2,av f0,av N,D]at A;cases A
     |some B=>
      unfold erHF at A;rw[j8,av f2,av f0,av N,D]at A;simp only[aC]at A;rw[md hr (λty r e=>c.qz.C _ _ r (by rw[D,e]))]at A;exact⟨b',by unfold erHF;rw[D];exact A,λφ' O' hφ keep oo hoo=>hoo.mono keep⟩
 .have he:(if n=nm cty.nx then nm id else n)=(if m=nm cty.nx then nm id else m):=he;by_cases f0:n=nm cty.nx
  .rw[aD f0]at he;by_cases N:m=nm cty.nx
   .rw[f0,N]
   .rw[av N]at he;rw[<- he,hdead _ (c8 id)]at hm;cases hm
  .rw[av f0]at he;by_cases N:m=nm cty.nx
   .rw[aD N]at he;rw[he,hdead _ (c8 id)]at hn;cases hn
   .rw[av N]at he;exact he
def aok {s:TS} (c:iY P E nt np V s Q w) {s':TS} (h:aol s i=Z s'):s'.e=s.e/\∃φ',iY P E nt np φ' s' Q w/\xd np V φ' (erHF s.h) (erHF s'.h) w w:=by
 unfold aol at h;split at h
 next z=>exact aoo c z h
 next z=>exact aom c z h
 .split at h
  .cases h
  .exact aoq c h
 .cases h
def Wm {s:TS} (c:iY P E nt np V s Q w) (N:bV s.h h) (D:erHF h=erHF s.h) (hinv:gM h (s.nx+1)):iY P E nt np V ⟨s.e,h,s.nx+1⟩ Q w/\xd np V V (erHF s.h) (erHF h) w w:=by
 refine ⟨⟨by rw[D];exact c.qn,λt x A=>?_,λn k hk=>uK (c.dom n k hk),fR c.low,hinv,λt x A=>lV N x (c.qb t x A),c.inert,c.size⟩,by rw[D];exact xd.refl _ _ _ _⟩;rw[D];simp[fC]at A;cases he:s.e.get t with
 |none=>rw[he]at A;cases A
 |some q=>
  rw[he]at A;let⟨z,L⟩:=oc s.h q (c.qb t q he);simp[aC,fh N q z L,af]at A;subst A;exact c.env t _ (by simp[fC,he,aC,L])
def at5 {s:TS} (c:iY P E nt np V s Q w) {φ:Ty} {es:Y (T.den×φ.den)} (hb:s.h.get i=Z (.mp T φ es)) (hE:mpE T φ es=J) (ty:TypeId) (S:Ty):iY P E nt np V ⟨s.e,(s.h.set i (Z (.I .qh s.nx []))).set s.nx (Z (.I (.ar ty S) 0 [])),s.nx+1⟩ Q w/\xd np V V (erHF s.h) (erHF ((s.h.set i (Z (.I .qh s.nx []))).set s.nx (Z (.I (.ar ty S) 0 [])))) w w:=by
 have hfr:=c.qz.fresh;have hlt:=c.qz.low i _ hb;generalize N:(s.h.set i (Z (.I .qh s.nx []))).set s.nx (Z (.I (.ar ty S) 0 []))=h';have D:∀id,h'.get id=if id=s.nx then Z (.I (.ar ty S) 0 []) else if id=i then Z (.I .qh s.nx []) else s.h.get id:=λid=>by
  rw[<- N,PT.get_set,PT.get_set]
 have L:bV s.h h':=λid q hi=>by
  rw[bw]at hi ⊢;rw[D];by_cases A:id=s.nx
  .grind
  .rw[av A];by_cases z:id=i
   .rw[z,hb]at hi;cases hi
   .grind
 refine Wm c L ?_ ⟨λid ty l hil=>?_,λid c' hic=>?_⟩
 .funext n;unfold erHF;rw[D];by_cases A:ow n=s.nx
  .rw[aD A,A,hfr];cases ix n<;>rfl
  .rw[av A];by_cases z:ow n=i
   .rw[aD z,z,hb];simp[aC];cases ix n with
    |succ k=>rfl
    |zero=>
     simp[NC,jJ,ze (XI hE),K6 hE,wJ];rfl
   .rw[av z];cases hx:s.h.get (ow n) with
    |none=>rfl
    |some B=>exact md L (λty l e=>c.qz.C _ _ l (by rw[hx,e])) _ _
 .rw[D]at hil;split at hil
  .cases hil
  .split at hil
   .cases hil
   .exact e9 L l (c.qz.C id _ l hil)
 .rw[D]at hic;split at hic
  .omega
  .split at hic
   .omega
   .have:=c.qz.low id c' hic;omega
def at1 {s:TS} (c:iY P E nt np V s Q w) (ai:Nat) (ty:TypeId):iY P E nt np V ⟨s.e,s.h.set s.nx (Z (.I (.qc ty) ai [])),s.nx+1⟩ Q w/\erHF (s.h.set s.nx (Z (.I (.qc ty) ai [])))=erHF s.h:=by
 have hfr:=c.qz.fresh;have z:bV s.h (s.h.set s.nx (Z (.I (.qc ty) ai []))):=bV.set λr z=>by rw[bw,hfr]at z;cases z
 have D:erHF (s.h.set s.nx (Z (.I (.qc ty) ai [])))=erHF s.h:=by
  funext n;unfold erHF;rw[PT.get_set];by_cases A:ow n=s.nx
  .rw[aD A,A,hfr];cases ix n<;>rfl
  .rw[av A];cases L:s.h.get (ow n) with
   |none=>rfl
   |some B=>exact md z (λty l e=>c.qz.C _ _ l (by rw[L,e])) _ _
 exact⟨(Wm c z D (c.qz.set z (nX _) (QE _) (λ_ _ he=>by cases he))).1,D⟩
end ren
def BV:∀(l:Y ua) (acc:Nat),Sn l acc=acc|||Sn l 0
 |[],acc=>by simp[Sn]
 |o::r,acc=>by
  simp only[Sn];cases o.dst with
  |none=>exact BV r acc
  |some d=>simp only[];rw[BV r (acc|||fV d),BV r (0|||fV d),wd,kL]
def Ck:∀(l:ι) (acc:Nat),N2 l acc=acc|||N2 l 0
 |[],acc=>by simp[N2]
 |k::r,acc=>by simp only[N2];rw[Ck r (acc|||fV k),Ck r (0|||fV k),wd,kL]
def jQ:∀(l:Y Adj) (acc:Nat),lK l acc=acc|||lK l 0
 |[],acc=>by simp[lK]
 |.nil k _ _::r,acc=>by simp only[lK];rw[jQ r (acc|||fV k),jQ r (0|||fV k),wd,kL]
 |.qd _ _ _ _::r,acc|.mpt _ _ _::r,acc|.mz _ _::r,acc=>by exact jQ r acc
 |.qx k _::r,acc=>by simp only[lK];rw[jQ r (acc|||fV k),jQ r (0|||fV k),wd,kL]
 |.pk _ _ _::r,acc|.fmp _ _ _ _::r,acc|.frw _ _ _ _::r,acc|.jb _ _::r,acc=>by exact jQ r acc
def gP:∀(c:TC) (acc:Nat),c.asg acc=acc|||c.asg 0
 |.jz ops _,acc=>BV ops acc
 |.seq a b,acc=>by simp[TC.asg];rw[gP b (a.asg acc),gP b (a.asg 0),gP a acc,kL]
 |.zn A a b,acc=>by simp[TC.asg];rw[gP b (a.asg _),gP b (a.asg (N2 A.ks 0)),gP a (N2 A.ks acc),gP a (N2 A.ks 0),Ck A.ks acc,kL,kL,kL]
 |.cond _ a b,acc=>by simp[TC.asg];rw[gP b (a.asg acc),gP b (a.asg 0),gP a acc,kL]
 |.block _ b,acc=>gP b acc
 |.zj A _ b,acc|.loop A b,acc=>by simp[TC.asg];rw[gP b (N2 A.ks acc),gP b (N2 A.ks 0),Ck A.ks acc,kL]
 |.defer _ _ t,acc=>by simp[TC.asg]
 |.adj l c,acc=>by simp[TC.asg];rw[gP c (lK l acc),gP c (lK l 0),jQ l acc,kL]
 |.split _ _ _ _ c,acc=>gP c acc
 |.bsp _ a b,acc=>by simp[TC.asg];rw[gP b (a.asg acc),gP b (a.asg 0),gP a acc,kL]
 |.unl _ b,acc=>gP b acc
 |.skip,acc|.exit _,acc|.ret,acc|.zd,acc=>by simp[TC.asg]
def uX {c:TC} (h:aJ (c.asg 0) j=J):aJ (c.asg i) j=J:=by rw[gP,bu,h];simp
def kj {c:TC} (h:aJ i j=J):aJ (c.asg i) j=J:=by rw[gP,bu,h];rfl
def ZY:∀{l:ι} {acc k:Nat},k∈l->aJ (N2 l acc) k=J
 |[],_,_,h=>by cases h
 |x::r,acc,k,h=>by
  simp[N2];rcases aZ.1 h with rfl|h
  .rw[Ck,bu,bu,bj.2 rfl];simp
  .exact ZY h
def Wg:∀{l:Y ua} {acc:Nat} {o:ua} {d:Nat},o∈l->o.dst=Z d->aJ (Sn l acc) d=J
 |[],_,_,_,h,_=>by cases h
 |x::r,acc,o,d,h,hd=>by
  simp[Sn];rcases aZ.1 h with rfl|h
  .rw[hd];rw[BV,bu,bu,bj.2 rfl];simp
  .exact Wg h hd
def Z8:∀{e:gT} {z:ι} {vs:Y TV},j8 e z=Z vs->l! vs=l! z/\∀(j k:Nat),z[j]? =Z k->∃v,vs[j]? =Z v/\e.get k=Z v
 |e,[],vs,h=>by simp[j8,af]at h;subst h;exact⟨rfl,by simp⟩
 |e,k::r,vs,h=>by
  simp[j8]at h;split at h
  .rename_i v L;split at h
   .rename_i l N;simp[af]at h;subst h;let⟨h1,h2⟩:=Z8 N;refine ⟨by simp[h1],λj D A=>?_⟩;cases j with
    |zero=>simp at A;subst A;exact⟨v,rfl,L⟩
    |succ j=>simpa using h2 j D (by grind)
   .cases h
  .cases h
def KX {e:gT} (hi:sB e h):∀{A:ι} {vs:Y TV},j8 e A=Z vs->lJ h vs=J
 |[],vs,z=>by simp[j8,af]at z;subst z;rfl
 |k::r,vs,z=>by
  simp[j8]at z;split at z
  .rename_i v D;split at z
   next l L=>simp[af]at z;subst z;simp[lJ,al];exact⟨hi k v D,KX hi L⟩
   .cases z
  .cases z
def EA:∀{e:gT} {z:ι} {vs:Y TV},l! vs=l! z->∀t v,(abc e z vs).get t=Z v->(∃j:Nat,z[j]? =Z t/\vs[j]? =Z v)\/(t∉z/\e.get t=Z v)
 |e,[],[],_,t,v,h=>.inr ⟨by simp,h⟩
 |e,[],_::_,A,t,v,h|e,_::_,[],A,t,v,h=>by simp at A
 |e,k::r,u::l,A,t,v,h=>by
  simp[abc,PT.get_set]at h;split at h
  next L=>subst L;cases h;exact .inl ⟨0,rfl,rfl⟩
  .rename_i L;rcases EA (by grind) t v h with ⟨j,h1,D⟩|⟨h1,D⟩
   .exact .inl ⟨j+1,by simpa using h1,by simpa using D⟩
   .grind
def vi {e:gT}:∀{A:ι} {k:Nat} {v:TV},(E5 i e A).get k=Z v->k∈A/\e.get k=Z v/\vO v=J/\aJ i k=aa
 |[],k,v,h=>by simp[E5,PT.get]at h
 |x::r,k,v,h=>by
  simp[E5]at h;split at h
  .rename_i u D;split at h
   .rename_i L;rw[PT.get_set]at h;split at h
    .grind
    .obtain⟨h1,z⟩:=vi h;exact⟨by simp[h1],z⟩
   .obtain⟨h1,z⟩:=vi h;exact⟨by simp[h1],z⟩
  .obtain⟨h1,z⟩:=vi h;exact⟨by simp[h1],z⟩
def Lm {e0 e:gT}:∀{z:ι},Kb i e0 e z=J->∀k v,k∈z->e0.get k=Z v->vO v=J->aJ i k=aa->∃D,e.get k=Z D
 |[],_,k,v,h,_,_,_=>by cases h
 |x::r,A,k,v,h,L,hf,N=>by
  simp[Kb,al]at A;rcases aZ.1 h with rfl|h
  .grind
  .exact Lm A.2 k v h L hf N
section walk
variable {P:Program} {E:Nat->Prop} {nt np:Nat}
def U3 (A:agh u=J) (z:bZ h u=Z y):Le y .emp:=by
 cases u with
 |nil=>simp[bZ,af]at z;subst z;exact Le.nilEmp
 |emp=>simp[bZ,af]at z;subst z;exact Le.refl _
 |_=>cases A
def aar {s:TS} (c:iY P E nt np V s Q w) (ty:TypeId) (T:Ty):iY P E nt np V ⟨s.e,s.h.set s.nx (Z (.F ty J T [])),s.nx+1⟩ Q w/\erHF (s.h.set s.nx (Z (.F ty J T [])))=erHF s.h/\bV s.h (s.h.set s.nx (Z (.F ty J T []))):=by
 have hfr:=c.qz.fresh;have D:bV s.h (s.h.set s.nx (Z (.F ty J T []))):=bV.set λr D=>by rw[bw,hfr]at D;cases D
 have L:erHF (s.h.set s.nx (Z (.F ty J T [])))=erHF s.h:=by
  funext n;by_cases hn:n=nm s.nx
  .subst hn;rw[bE,bE,PT.get_set,aD rfl,hfr];rfl
  .refine lT c.qz D (ik.set (by rw[hfr];rfl) rfl) λi e=>?_
   subst e;rw[PT.get_set,av (λe=>hn (by rw[e]))]
 refine ⟨⟨by rw[L];exact c.qn,?_,λn k hk=>uK (c.dom n k hk),fR c.low,c.qz.set D (nX _) (QE _) (λ_ _ he=>by cases he),?_,c.inert,c.size⟩,L,D⟩
 .intro t x A;rw[L];simp[fC]at A;cases he:s.e.get t with
  |none=>rw[he]at A;cases A
  |some q=>
   rw[he]at A;let⟨z,N⟩:=oc s.h q (c.qb t q he);simp[aC,fh D q z N,af]at A;subst A;exact c.env t _ (by simp[fC,he,aC,N])
 .intro t x A;exact lV D x (c.qb t x A)
def A_ :∀{a b:Y TV},lJ h a=J->lJ h b=J->lJ h (a++b)=J
 |[],_,_,z=>z
 |x::r,b,A,z=>by
  simp[lJ,al]at A;simp[gA,lJ,al];exact⟨A.1,A_ A.2 z⟩
def Pt :∀{a:Y TV} (n:Nat),lJ h a=J->lJ h (a.take n)=J
 |[],n,_=>by simp[lJ]
 |x::r,0,_=>rfl
 |x::r,n+1,z=>by
  simp[lJ,al]at z;simp[xD,lJ,al];exact⟨z.1,Pt n z.2⟩
def Pu :∀{a:Y TV} (n:Nat),lJ h a=J->lJ h (a.drop n)=J
 |[],n,_=>by simp[lJ]
 |x::r,0,z=>z
 |x::r,n+1,z=>by
  simp[lJ,al]at z;exact Pu n z.2
def AT {l:Y R} {x:R} (h:l[j]? =Z x):splice l j [x]=l:=by
 have z:j<l! l:=by grind
 rw[aE z,af]at h;unfold splice;subst h;simp
def Wn {s:TS} (c:iY P E nt np V s Q w) {id:Nat} {cty:M TypeId} {l:Y TV} {v:TV} (N:s.h.get id=Z (.C cty l)) (hv:l[j]? =Z v) (hn:agh v=J) (hu:bZ s.h u=Z .emp) (huo:NZ s.h u=J):
 iY P E nt np V ⟨s.e,s.h.set id (Z (.C cty (splice l j [u]))),s.nx⟩ Q w/\xd np V V (erHF s.h) (erHF (s.h.set id (Z (.C cty (splice l j [u]))))) w w:=by
 have D:bV s.h (s.h.set id (Z (.C cty (splice l j [u])))):=bV.set λr D=>by rw[bw,N]at D;cases D
 have hlo:=c.qz.C id _ l N;let⟨l',L⟩:=eR s.h l hlo;have hsp:cI s.h (splice l j [u])=Z (splice l' j [.emp]):=oK j L (by simp[cI,hu]);have hsp':cI (s.h.set id (Z (.C cty (splice l j [u])))) (splice l j [u])=Z (splice l' j [.emp]):=fT D _ _ hsp;let⟨y,hy,hey⟩:=ly L j v hv;have hold:erHF s.h (nm id)=Z (aht cty l'):=by rw[bE,N];cases cty<;>(simp [aC,jJ,L];rfl)
 have hnew:erHF (s.h.set id (Z (.C cty (splice l j [u])))) (nm id)=Z (aht cty (splice l' j [.emp])):=by
  rw[bE,PT.get_set,aD rfl];cases cty<;>(simp [aC,jJ,hsp'];rfl)
 have hoth:∀n,n≠nm id->erHF (s.h.set id (Z (.C cty (splice l j [u])))) n=erHF s.h n:=λn hn'=>by
  refine lT c.qz D (ik.set (by rw[N];rfl) rfl) λi e=>?_
  subst e;rw[PT.get_set,av (λe=>hn' (by rw[e]))]
 have hdom:rf (erHF s.h) (erHF (s.h.set id (Z (.C cty (splice l j [u]))))):=λn b hb'=>by grind
 have hcell:∀ty,cty=Z ty->∀x∈l',x.isCell=J:=λty hty x A=>by
  subst hty;let⟨k,hk⟩:=fY A;let⟨q,_,_,hat⟩:=c.qn.at_ _ _ hold;let⟨ob,_,hob⟩:=hat;let⟨arr,_,hca⟩:=hob;exact (hca.2 k x hk).1
 have hV:JM (erHF s.h) (erHF (s.h.set id (Z (.C cty (splice l j [u]))))):=⟨hdom,λn b b' h1 h2=>by
  by_cases e:n=nm id
  .subst e;rw[hold]at h1;cases h1;rw[hnew]at h2;cases h2;have hle:gF (erHF s.h) (erHF (s.h.set id (Z (.C cty (splice l j [u]))))) l' (splice l' j [.emp]):=by
    have:=gF.splice j (gF.refl hdom l') (b:=[y]) (b':=[.emp]) ⟨(U3 hn hey).toH hdom,trivial⟩;rw[AT hy]at this;exact this
   cases cty with
   |none=>exact fD.told hle
   |some ty=>
    refine fD.C rfl rfl hle λx A=>?_
    have A:x∈splice l' j [.emp]:=A;unfold splice at A;rw[bA,bA,aB]at A;rcases A with (A|A)|A
    .grind
    .subst A;rfl
    .grind
  .rw[hoth n e,h1]at h2;cases h2;exact fD.refl hdom b⟩
 refine ⟨⟨hV.qn c.qn,?_,c.dom,c.low,c.qz.set D (c.qz.low id _ N) (bO _) (λty l2 he=>?_),?_,c.inert,c.size⟩,⟨Ge.refl _ _,λk _ ho=>hdom.own ho,λ_ _=>rfl⟩⟩
 .intro t x A;simp[fC]at A;cases he:s.e.get t with
  |none=>rw[he]at A;cases A
  |some q=>
   rw[he]at A;let⟨z,hz⟩:=oc s.h q (c.qb t q he);simp[aC,fh D q z hz,af]at A;subst A;exact (c.env t _ (by simp[fC,he,aC,hz])).dom hdom
 .simp[eD.C.injEq]at he;obtain⟨_,rfl⟩:=he;refine e9 D _ ?_;exact A_ (A_ (Pt _ hlo) (by simp only[lJ,huo,fy])) (Pu _ hlo)
 .intro t x A;exact lV D x (c.qb t x A)
def iY.congr {s s':TS} (c:iY P E nt np V s Q w) (he:∀t,s'.e.get t=s.e.get t) (hh:∀i,s'.h.get i=s.h.get i) (N:s'.nx=s.nx):iY P E nt np V s' Q w/\erHF s'.h=erHF s.h:=by
 have L:bV s.h s'.h:=λi r hi=>by rw[bw]at hi ⊢;rw[hh];exact hi
 have hH:erHF s'.h=erHF s.h:=by funext n;exact lT c.qz L (λi k=>by rw[hh]) λi _=>hh i
 refine ⟨⟨by rw[hH];exact c.qn,?_,by rw[N];exact c.dom,by rw[N];exact c.low,⟨λi ty l A=>?_,λi b A=>?_⟩,λt v hv=>?_,c.inert,c.size⟩,hH⟩
 .intro t x D;rw[hH];simp[fC,he]at D;cases A:s.e.get t with
  |none=>rw[A]at D;cases D
  |some v=>
   rw[A]at D;let⟨z,hz⟩:=oc s.h v (c.qb t v A);simp[aC,fh L v z hz,af]at D;subst D;exact c.env t _ (by simp[fC,A,aC,hz])
 .rw[hh]at A;exact e9 L l (c.qz.C i _ l A)
 .rw[hh]at A;rw[N];exact c.qz.low i b A
 .rw[he]at hv;exact lV L v (c.qb t v hv)
variable {a:Int}
def Te {f:Nat->M R} {r:R}:∀{m i:Nat},spl a f i m=Z r->∃j,a=aQ j/\f j=Z r
 |0,i,h=>by cases h
 |m+1,i,h=>by
  rcases lF h with ⟨h1,z⟩|⟨_,z⟩
  .grind
  .exact Te z
def af2 {s s':TS} (c:iY P E nt np V s Q w) {kd:IntKind} {v:Int} (h1:agn s i j=Z (kd,v)) (z:Xq s i j kd v=Z s'):iY P E nt np V s' Q w/\erHF s'.h=erHF s.h/\∀t,s'.e.get t=s.e.get t:=by
 unfold agn at h1;unfold Xq at z;cases hk:s.e.get i with
 |none=>rw[hk]at h1;cases h1
 |some x=>
  rw[hk]at h1 z;cases x with
  |f T q=>
   cases T with
   |int kd'=>
    simp[af,aP]at h1;obtain⟨rfl,rfl⟩:=h1;simp[af]at z;subst z;have he:∀t,(s.e.set i (Z (.f (.int kd') q))).get t=s.e.get t:=λt=>by
     rw[PT.get_set];split
     .grind
     .rfl
    let⟨g1,N⟩:=c.congr (s':=⟨s.e.set i (Z (.f (.int kd') q)),s.h,s.nx⟩) he (λ_=>rfl) rfl;exact⟨g1,N,he⟩
   |_=>cases h1
  |H a0 A=>
   simp[]at h1 z;cases L:s.h.get a0 with
   |none=>rw[L]at h1;cases h1
   |some b=>
    rw[L]at h1 z;cases b with
    |C ty l=>
     cases ty with
     |none=>cases h1
     |some ty=>
     simp only[]at h1 z;cases D:l[A+j]? with
     |none=>rw[D]at h1;cases h1
     |some y=>
      rw[D]at h1;cases y with
      |f T q=>
       cases T with
       |int kd'=>
        simp[af,aP]at h1;obtain⟨rfl,rfl⟩:=h1;simp[af]at z;subst z;have hh:∀k,(s.h.set a0 (Z (.C (Z ty) (splice l (A+j) [.f (.int kd') q])))).get k=s.h.get k:=λk=>by
         rw[PT.get_set];split
         next e=>subst e;rw[L,AT D]
         .rfl
        let⟨g1,N⟩:=c.congr (s':=⟨s.e,s.h.set a0 (Z (.C (Z ty) (splice l (A+j) [.f (.int kd') q]))),s.nx⟩) (λ_=>rfl) hh rfl;exact⟨g1,N,λ_=>rfl⟩
       |_=>cases h1
      |_=>cases h1
    |_=>cases h1
  |_=>cases h1
mutual
def Pf (id sz n:Nat):∀v:TV,vO v=J->NL id sz n v=v
 |.f _ _,_|.zk _ _ _ _ _,_|.emp,_|.nil,_|.undef,_|.np,_|.qw,_=>rfl
 |.agg l,h|.qg l,h=>by simp[NL];rw[DK id sz n l h]
 |.ql _ _ _ _,h|.H _ _,h|.qy _ _ _,h|.G _,h|.zm _ _,h|.mp _,h|.qm _ _,h|.qv _ _,h|.sb _,h=>by cases h
def DK (id sz n:Nat):∀l:Y TV,rQ l=J->HU id sz n l=l
 |[],_=>rfl
 |x::r,h=>by
  simp[rQ,al]at h;simp only[HU];rw[Pf id sz n x h.1,DK id sz n r h.2]
end
section subs
variable {id sz n:Nat} {h h':aX}
mutual
def QR (hr:bV h h') (hid:eg h' id=Z (aa,sz,n)):∀(v:TV) (y:AV),bZ h v=Z y->bZ h' (NL id sz n v)=Z y
 |.qy i s m,y,he=>by
  simp[bZ,af]at he;subst he;simp only[NL];split
  .rename_i hq;simp only[al]at hq;have e1:=au hq.1.1;have e2:=au hq.1.2;have e3:=au hq.2;subst e1 e2 e3;simp[bZ,hid,dt,eO,ca,dv]
  .rfl
 |.agg l,y,he|.qg l,y,he|.qv g l,y,he=>by
  simp[bZ]at he;cases hl:cI h l with
  |none=>rw[hl]at he;cases he
  |some l'=>rw[hl]at he;simp only[NL,bZ,xK hr hid l l' hl];exact he
 |.f T v,y,he|.zk T xs j hj off,y,he|.ql _ _ _ _,y,he|.H _ _,y,he|.G _,y,he|.zm _ _,y,he|.emp,y,he|.nil,y,he|.mp _,y,he|.undef,y,he|.np,y,he|.qw,y,he|.qm _ _,y,he|.sb _,y,he=>fh hr _ _ he
def xK (hr:bV h h') (hid:eg h' id=Z (aa,sz,n)):∀(l:Y TV) (l':Y AV),cI h l=Z l'->cI h' (HU id sz n l)=Z l'
 |[],l',he=>by simp[cI,af]at he;subst he;rfl
 |x::r,l',he=>by
  obtain⟨y,l2,rfl,h1,h2⟩:=cZ he;exact p_ (QR hr hid x y h1) (xK hr hid r l2 h2)
end
end subs
variable {T:Ty}
def asl {s:TS} (c:iY P E nt np V s Q w) {n:Nat} {s':TS} (hp:pkS s T i j n=Z s'):iY P E nt np V s' Q w/\xd np V V (erHF s.h) (erHF s'.h) w w/\fw 0 s.e s'.e:=by
 unfold pkS at hp;split at hp
 .rename_i ty l hb;split at hp
  .rename_i hs;have hs:=au hs;subst hs;split at hp
   .rename_i xs m hpk;split at hp
    .cases hp
    .rename_i hmid;cases hp;have hm:dA s.h m:=Q0 n l xs m hpk;let⟨l',hl⟩:=eR s.h l (c.qz.C i _ l hb);have hidlt:=c.qz.low i _ hb;have j8:∀id,((PT.updI (λ_ b=>Xl i T.size n b) 1 0 (dD m s.h)).set i (Z (.F ty aa T xs))).get id=if id=i then Z (.F ty aa T xs) else if aJ m id then (s.h.get id).map uA else (s.h.get id).map (Xl i T.size n):=λid=>by
      rw[PT.get_set];by_cases e:id=i
      .rw[aD e,aD e]
      .rw[av e,av e,PT.get_updI,iI];split
       .cases A:s.h.get id with
        |none=>rfl
        |some b=>
         let⟨p1,s1,n1,e1⟩:=Lk b;simp only[bn,e1,Xl]
       .rfl
     generalize hH2:((PT.updI (λ_ b=>Xl i T.size n b) 1 0 (dD m s.h)).set i (Z (.F ty aa T xs)))=h2 at j8 ⊢;have hr:bV s.h h2:=λid r hi=>by
      rw[bw]at hi ⊢;rw[j8];by_cases e:id=i
      .subst e;rw[hb]at hi;cases hi
      .rw[av e];cases A:s.h.get id with
       |none=>rw[A]at hi;cases hi
       |some b=>
        rw[A]at hi;split
        .exact Po hi
        .cases b<;>first|exact hi|cases hi
     have hnone:∀id,aJ m id=J->erHF h2 (nm id)=U:=λid hi=>by
      have e:id≠i:=λe=>by subst e;exact hmid hi
      let⟨ty',p',T',xs',L⟩:=hm id hi;rw[bE,j8,av e,aD hi,L];rfl
     have hme:ik s.h h2:=λid k=>by
      rw[j8];by_cases e:id=i
      .rw[aD e,e,hb];rfl
      .rw[av e];split
       next hmi=>let⟨ty',p',T',xs',L⟩:=hm id hmi;rw[L];rfl
       .cases A:s.h.get id with
        |none=>rfl
        |some b=>cases b<;>rfl
     have hdom:rf (erHF s.h) (erHF h2):=λq b hq=>by
      rcases L9 hme hq with h0|⟨id,cc,rfl,D,h4⟩
      .exact⟨b,h0⟩
      rw[bE];rw[j8]at D;by_cases e:id=i
      .subst e;rw[hb];simp only[aC,jJ,hl];exact⟨_,rfl⟩
      .rw[av e]at D;cases A:s.h.get id with
       |none=>rw[A]at D;split at D<;>cases D
       |some b0=>
        rw[A]at D;split at D
        .grind
        .simp only[bn,af]at D;subst D;simp only[aC];cases b0 with
         |C ty0 l0=>
          let⟨l0',hl0⟩:=eR s.h l0 (c.qz.C id _ l0 A);exact⟨aht ty0 l0',by cases ty0<;>(simp only[jJ,hl0];rfl)⟩
         |_=>exact⟨_,h4⟩
     have giv:Eg s.h (erHF s.h) (erHF h2) m:=λid hi=>⟨rfl,hnone id hi⟩
     let⟨hle,hlen⟩:=EM hdom n l xs m l' hpk hl giv;have hrow:eg h2 i=Z (aa,T.size,n):=by rw[bw,j8,aD rfl,<-hlen];rfl
     have hV:JM (erHF s.h) (erHF h2):=⟨hdom,λq b b' D h4=>by
      rcases L9 hme h4 with h0|⟨id,cc,rfl,h5,h6⟩
      .rw[D]at h0;cases h0;exact fD.refl hdom _
      rw[bE]at D;rw[j8]at h5;by_cases e:id=i
      .subst e;rw[aD rfl]at h5;cases h5;rw[hb]at D;simp only[aC,jJ,hl,af]at D;subst D;simp only[jJ,eO,ca,dv,af]at h6;subst h6;refine fD.C rfl rfl hle λx L=>?_
       simp only[BC.toMx]at L;obtain⟨q,hq,rfl⟩:=cj.1 L;exact mc T _ q hq
      .rw[av e]at h5;cases A:s.h.get id with
       |none=>rw[A]at h5;split at h5<;>cases h5
       |some b0=>
        rw[A]at h5 D;split at h5
        .grind
        .simp only[bn,af]at h5;subst h5;have:b=b':=by
          simp only[aC]at D;cases b0 with
          |C ty0 l0=>
           let⟨l0',hl0⟩:=eR s.h l0 (c.qz.C id _ l0 A);cases ty0<;>
            (simp only[jJ,hl0,af]at D
             simp only[Xl,jJ,xK hr hrow l0 l0' hl0,af]at h6;rw[<- D,<-h6])
          |F ty1 p1 T1 xs1=>
           have N:jJ h2 (.F ty1 p1 T1 xs1)=Z b:=D;exact fG (N.symm.trans h6)
          |qj p1 s1 n1=>
           have N:jJ h2 (.qj p1 s1 n1)=Z b:=D;exact fG (N.symm.trans h6)
          |mp K1 V1 es1=>
           have N:jJ h2 (.mp K1 V1 es1)=Z b:=D;exact fG (N.symm.trans h6)
          |I F1 a1 x1=>
           have N:jJ h2 (.I F1 a1 x1)=Z b:=D;exact fG (N.symm.trans h6)
          |qp F1 a1 x1 k1 p1=>
           have N:jJ h2 (.qp F1 a1 x1 k1 p1)=Z b:=D;exact fG (N.symm.trans h6)
         subst this;exact fD.refl hdom b⟩
     refine ⟨⟨hV.qn c.qn,?_,c.dom,c.low,⟨λid ty' l2 A=>?_,λid b A=>?_⟩,?_,c.inert,c.size⟩,⟨Ge.refl _ _,λk _ hk=>hdom.own hk,λ_ _=>rfl⟩,?_⟩
     .intro t x L;simp only[fC,PT.get_updI]at L;cases he:s.e.get t with
      |none=>rw[he]at L;cases L
      |some v=>
       rw[he]at L;let⟨z,hz⟩:=oc s.h v (c.qb t v he);simp only[bn,aC,QR hr hrow v z hz,af]at L;subst L;exact (c.env t _ (by simp only[fC,he,aC,hz])).dom hdom
     .rw[j8]at A;by_cases e:id=i
      .rw[aD e]at A;cases A
      .rw[av e]at A;cases hg0:s.h.get id with
       |none=>rw[hg0]at A;split at A<;>cases A
       |some b0=>
        rw[hg0]at A;split at A
        .simp only[bn,af]at A;exact (Be A).elim
        .simp only[bn,af]at A;cases b0 with
         |C ty0 l0=>
          simp only[Xl,eD.C.injEq]at A;obtain⟨_,rfl⟩:=A;let⟨l0',hl0⟩:=eR s.h l0 (c.qz.C id _ l0 hg0);exact kQ _ _ _ (xK hr hrow l0 l0' hl0)
         |_=>cases A
     .rw[j8]at A;by_cases e:id=i
      .subst e;exact hidlt
      .rw[av e]at A;cases hg0:s.h.get id with
       |none=>rw[hg0]at A;split at A<;>cases A
       |some b0=>exact c.qz.low id b0 hg0
     .intro t x L;simp only[PT.get_updI]at L;cases he:s.e.get t with
      |none=>rw[he]at L;cases L
      |some v=>
       rw[he]at L;simp only[bn,af]at L;subst L;let⟨z,hz⟩:=oc s.h v (c.qb t v he);exact Hi _ _ _ (QR hr hrow v z hz)
     .intro k _ v' hv';simp only[PT.get_updI]at hv';cases he:s.e.get k with
      |none=>rw[he]at hv';cases hv'
      |some v=>
       rw[he]at hv';simp only[bn,af]at hv';subst hv';exact⟨v,rfl,λhf=>Pf _ _ _ v hf⟩
   .cases hp
  .cases hp
 .cases hp
def ash {s:TS} (c:iY P E nt np V s Q w) {s':TS} (h:HG s (.qx i j)=Z s'):∃φ',iY P E nt np φ' s' Q w/\xd np V φ' (erHF s.h) (erHF s'.h) w w/\fw (lK [.qx i j] 0) s.e s'.e:=by
 simp only[HG]at h;split at h
 .rename_i b o hk;split at h
  .rename_i cty l hb;split at h
   .rename_i id hv;split at h
    .rename_i ty p T xs D;cases h;have hfr:=c.qz.fresh;have hidlt:=c.qz.low id _ D;have hblt:=c.qz.low b _ hb;have hbid:b≠id:=λe=>by rw[e,D]at hb;cases hb
     have hbn:b≠s.nx:=by omega
     have hin:id≠s.nx:=by omega
     generalize hh2:(((s.h.set id (Z (.qj p T.size (l! xs)))).set s.nx (Z (.F ty p T xs))).set b (Z (.C (Z cty) (splice l (o+j) [.G s.nx]))))=L;have j8:∀k,L.get k=if k=b then Z (.C (Z cty) (splice l (o+j) [.G s.nx])) else if k=s.nx then Z (.F ty p T xs) else if k=id then Z (.qj p T.size (l! xs)) else s.h.get k:=λk=>by
      rw[<- hh2,PT.get_set,PT.get_set,PT.get_set]
     have hr:bV s.h L:=λk r hi=>by
      rw[bw]at hi ⊢;rw[j8];by_cases e1:k=b
      .subst e1;rw[hb]at hi;cases hi
      .rw[av e1];by_cases e2:k=s.nx
       .subst e2;rw[hfr]at hi;cases hi
       .rw[av e2];by_cases N:k=id
        .subst N;rw[aD rfl];rw[D]at hi;exact hi
        .rw[av N];exact hi
     have hlo:=c.qz.C b _ l hb;let⟨l',hl'⟩:=eR s.h l hlo;have hrow:bZ L (.G s.nx)=Z (dt p s.nx T.size (l! xs)):=by
      simp only[bZ,bw,j8];rw[av hbn.symm];simp only[bh,aC,iz]
     have hsp:cI L (splice l (o+j) [.G s.nx])=Z (splice l' (o+j) [dt p s.nx T.size (l! xs)]):=oK _ (fT hr _ _ hl') (by simp only[cI,hrow]);let⟨y,hy,hey⟩:=ly hl' _ _ hv;have hy0:y=dt p id T.size (l! xs):=by
      simp only[bZ,bw,D,aC,iz,af]at hey;exact hey.symm
     subst hy0;have hold:erHF s.h (nm b)=Z ⟨cty,.mx l'⟩:=by rw[bE,hb];simp only[aC,jJ,hl']
     have hnew:erHF L (nm b)=Z ⟨cty,.mx (splice l' (o+j) [dt p s.nx T.size (l! xs)])⟩:=by
      rw[bE,j8,aD rfl];simp only[aC,jJ,hsp]
     have hdead:erHF L (nm id)=U:=by rw[bE,j8,av hbid.symm,av hin,aD rfl];rfl
     have hnx2:erHF L (nm s.nx)=if p&&l! xs==0 then U else Z ⟨ty,.fz (xs.flatMap (bI T))⟩:=by rw[bE,j8,av hbn.symm,aD rfl];rfl
     have hid0:erHF s.h (nm id)=if p&&l! xs==0 then U else Z ⟨ty,.fz (xs.flatMap (bI T))⟩:=by rw[bE,D];rfl
     have hoth:∀n,n≠nm b->n≠nm s.nx->n≠nm id->erHF L n=erHF s.h n:=λn e1 e2 N=>lT c.qz hr (ik.of λk=>by
      rw[j8];by_cases f1:k=b
      .rw[aD f1,f1,hb];exact .inr ⟨rfl,rfl⟩
      .rw[av f1];by_cases f2:k=s.nx
       .rw[aD f2,f2,hfr];exact .inr ⟨rfl,rfl⟩
       .rw[av f2];by_cases f3:k=id
        .rw[aD f3,f3,D];exact .inr ⟨rfl,rfl⟩
        .rw[av f3];exact .inl rfl) λk e=>by
      subst e;rw[j8,av (λe=>e1 (by rw[e])),av (λe=>e2 (by rw[e])),av (λe=>N (by rw[e]))]
     have hnb:nm b≠nm s.nx:=λe=>hbn (ui e)
     have hbi:nm b≠nm id:=λe=>hbid (ui e)
     have hni:nm s.nx≠nm id:=λe=>hin (ui e).symm
     have hinv:gM L (s.nx+1):=by
      refine ⟨λk ty2 l2 hil=>?_,λk q hiq=>?_⟩
      .rw[j8]at hil;split at hil
       .simp only[af,eD.C.injEq]at hil;obtain⟨_,rfl⟩:=hil;exact kQ _ _ _ hsp
       .split at hil
        .cases hil
        .split at hil
         .cases hil
         .exact e9 hr l2 (c.qz.C k _ l2 hil)
      .rw[j8]at hiq;split at hiq
       .omega
       .split at hiq
        .omega
        .split at hiq
         .omega
         .have:=c.qz.low k q hiq;omega
     have hE:∀t x,fC s.e L t=Z x->fC s.e s.h t=Z x:=λt x A=>by
      simp only[fC]at A ⊢;cases he:s.e.get t with
      |none=>rw[he]at A;cases A
      |some q=>
       rw[he]at A;let⟨z,hz⟩:=oc s.h q (c.qb t q he);simp only[aC,fh hr q z hz,af]at A;subst A;simp only[aC,hz]
     by_cases hp:(p&&l! xs==0)=J
     ·
      have hH:erHF L=erHF s.h:=by
       funext n;by_cases e1:n=nm b
       .subst e1;rw[hold,hnew];have:dt p s.nx T.size (l! xs)=dt p id T.size (l! xs):=by unfold dt;rw[aD hp,aD hp]
        rw[this,AT hy]
       .by_cases e2:n=nm s.nx
        .subst e2;rw[hnx2,aD hp,bE,hfr];rfl
        .by_cases N:n=nm id
         .subst N;rw[hdead,hid0,aD hp]
         .exact hoth n e1 e2 N
      refine ⟨V,⟨by rw[hH];exact c.qn,λt x A=>by rw[hH];exact c.env t x (hE t x A),λn q hq=>uK (c.dom n q hq),fR c.low,hinv,λt x A=>lV hr x (c.qb t x A),c.inert,c.size⟩,by rw[hH];exact xd.refl _ _ _ _,fw.refl _ _⟩
     .have hid1:erHF s.h (nm id)=Z ⟨ty,.fz (xs.flatMap (bI T))⟩:=by rw[hid0,av hp]
      let⟨kk,k1,k2,ob,k3,k4⟩:=c.qn.at_ _ _ hid1;have hφn:V (nm s.nx)=U:=by
       cases hq:V (nm s.nx) with
       |none=>rfl
       |some q=>have:=c.dom _ q hq;rw[c8]at this;omega
      let nw:HF:=λn=>if n=nm s.nx then Z ⟨ty,.fz (xs.flatMap (bI T))⟩ else U
      have hsh:HH w w kk ob:=⟨rfl,rfl,rfl,rfl,k3,λ_ _=>rfl,λ_=>rfl⟩
      let⟨φ',p1,p2,p3,p4⟩:=c.qn.wren hid1 k1 hφn hsh k4 nw (by simp[nw]) (by simp only[nw];rw[av hni.symm]);have hb1:eZ (erHF s.h) [nm s.nx,nm id] nw (nm b)=Z ⟨cty,.mx l'⟩:=by
       unfold eZ;rw[av (by simp[hnb,hbi]),hold]
      let⟨kb,b1,b2,ob2,b3,b4⟩:=p4.at_ _ _ hb1;have hlt:o+j<l! l':=by
       rcases bG (o+j) (l! l') with h'|h'
       .exact h'
       .rw[c5 h']at hy;cases hy
      have hob:gR φ' (tot E φ' (eZ (erHF s.h) [nm s.nx,nm id] nw)) w ⟨cty,.mx (splice l' (o+j) [dt p s.nx T.size (l! xs)])⟩ ob2:=by
       rw[qJ rfl]at b4 ⊢;let⟨arr,a1,a2⟩:=b4;refine ⟨arr,a1,?_⟩;unfold u_ at a2 ⊢;refine ⟨by simp only[BC.len]at a2 ⊢;rw[ng (by simp;omega)];exact a2.1,λoff x A=>?_⟩;simp only[BC.get]at A a2;rw[nY (by simp;omega)]at A;split at A
       .exact a2.2 off x A
       .split at A
        .rename_i h3 h4;simp only[bN]at h4;have hj:off=o+j:=by omega
         subst hj;simp only[wG,fJ,af]at A;subst A;let⟨_,v,a3,a4⟩:=a2.2 _ _ hy;unfold dt at a4 ⊢;rw[av hp]at a4 ⊢;refine ⟨rfl,v,a3,?_⟩;cases a4 with
         |@G _ _ _ cc q hφq hn hc hs2=>
          have:=p2.sub _ _ k1;rw[this,af]at hφq;subst hφq;exact .G p1 hn hc hs2
        .exact a2.2 off x A
      let⟨q1,q2⟩:=p4.wset hb1 b1 (⟨rfl,rfl,rfl,rfl,b3,λ_ _=>rfl,λ_=>rfl⟩:HH w w kb ob2) hob (λn=>if n=nm b then Z ⟨cty,.mx (splice l' (o+j) [dt p s.nx T.size (l! xs)])⟩ else U) (by simp);have hH:eZ (eZ (erHF s.h) [nm s.nx,nm id] nw) [nm b] (λn=>if n=nm b then Z ⟨cty,.mx (splice l' (o+j) [dt p s.nx T.size (l! xs)])⟩ else U)=erHF L:=by
       funext n;by_cases e1:n=nm b
       .subst e1;rw[hnew];simp[eZ]
       .by_cases e2:n=nm s.nx
        .subst e2;rw[hnx2,av hp];simp[eZ,nw,hnb.symm]
        .by_cases N:n=nm id
         .subst N;rw[hdead];simp[eZ,nw,hbi.symm,hni.symm]
         .rw[hoth n e1 e2 N];simp[eZ,e1,e2,N]
      rw[hH]at q1 q2;have m:=p2.trans q1;refine ⟨φ',⟨q2,λt x A=>m.zq (c.env t x (hE t x A)),λn q hq=>?_,fR c.low,hinv,λt x A=>lV hr x (c.qb t x A),c.inert,c.size⟩,⟨Ge.refl _ _,m.qr,λk hi=>?_⟩,fw.refl _ _⟩
      .rcases p3 n q hq with h4|h4
       .exact uK (c.dom n q h4)
       .simp only[aB]at h4;subst h4;rw[c8];exact nX _
      .cases hq:φ' k with
       |none=>
        cases hq2:V k with
        |none=>rfl
        |some z=>rw[p2.sub _ _ hq2]at hq;cases hq
       |some z=>
        rcases p3 _ _ hq with h4|h4
        .exact h4.symm
        .simp only[aB]at h4;subst h4;rw[c8]at hi;have:=c.low;omega
    next ty ai js D=>cases h;let⟨φ',p1,p2⟩:=aov c hb hv D;exact⟨φ',p1,p2,fw.refl _ _⟩
    .cases h
   .cases h
  .cases h
 .rename_i id hk;split at h
  .rename_i ty p T xs D;cases h;have hfr:=c.qz.fresh;have hidlt:=c.qz.low id _ D;have hin:id≠s.nx:=by omega
   generalize hh2:((s.h.set id (Z (.qj p T.size (l! xs)))).set s.nx (Z (.F ty p T xs)))=L;have j8:∀k,L.get k=if k=s.nx then Z (.F ty p T xs) else if k=id then Z (.qj p T.size (l! xs)) else s.h.get k:=λk=>by
    rw[<- hh2,PT.get_set,PT.get_set]
   have hr:bV s.h L:=λk r hi=>by
    rw[bw]at hi ⊢;rw[j8];by_cases e2:k=s.nx
    .subst e2;rw[hfr]at hi;cases hi
    .rw[av e2];by_cases N:k=id
     .subst N;rw[aD rfl];rw[D]at hi;exact hi
     .rw[av N];exact hi
   have hrow:bZ L (.G s.nx)=Z (dt p s.nx T.size (l! xs)):=by
    simp only[bZ,bw,j8,bh,aC,iz]
   have hrow0:bZ s.h (.G id)=Z (dt p id T.size (l! xs)):=by
    simp only[bZ,bw,D,aC,iz]
   have hdead:erHF L (nm id)=U:=by rw[bE,j8,av hin,aD rfl];rfl
   have hnx2:erHF L (nm s.nx)=if p&&l! xs==0 then U else Z ⟨ty,.fz (xs.flatMap (bI T))⟩:=by rw[bE,j8,aD rfl];rfl
   have hid0:erHF s.h (nm id)=if p&&l! xs==0 then U else Z ⟨ty,.fz (xs.flatMap (bI T))⟩:=by rw[bE,D];rfl
   have hoth:∀n,n≠nm s.nx->n≠nm id->erHF L n=erHF s.h n:=λn e2 N=>lT c.qz hr (ik.of λk=>by
    rw[j8];by_cases f2:k=s.nx
    .rw[aD f2,f2,hfr];exact .inr ⟨rfl,rfl⟩
    .rw[av f2];by_cases f3:k=id
     .rw[aD f3,f3,D];exact .inr ⟨rfl,rfl⟩
     .rw[av f3];exact .inl rfl) λk e=>by
    subst e;rw[j8,av (λe=>e2 (by rw[e])),av (λe=>N (by rw[e]))]
   have hni:nm s.nx≠nm id:=λe=>hin (ui e).symm
   have hinv:gM L (s.nx+1):=by
    refine ⟨λk ty2 l2 hil=>?_,λk q hiq=>?_⟩
    .rw[j8]at hil;split at hil
     .cases hil
     .split at hil
      .cases hil
      .exact e9 hr l2 (c.qz.C k _ l2 hil)
    .rw[j8]at hiq;split at hiq
     .omega
     .split at hiq
      .omega
      .have:=c.qz.low k q hiq;omega
   have hE:∀t x,t≠i->fC (s.e.set i (Z (.G s.nx))) L t=Z x->fC s.e s.h t=Z x:=λt x ht A=>by
    simp only[fC,PT.get_set]at A ⊢;rw[av ht]at A;cases he:s.e.get t with
    |none=>rw[he]at A;cases A
    |some q=>
     rw[he]at A;let⟨z,hz⟩:=oc s.h q (c.qb t q he);simp only[aC,fh hr q z hz,af]at A;subst A;simp only[aC,hz]
   have hIE:sB (s.e.set i (Z (.G s.nx))) L:=λt x A=>by
    simp only[PT.get_set]at A;split at A
    .cases A;exact Hi _ _ _ hrow
    .exact lV hr x (c.qb t x A)
   have hKp:fw (lK [.qx i j] 0) s.e (s.e.set i (Z (.G s.nx))):=λt ht v' hv'=>by
    simp only[PT.get_set]at hv';split at hv'
    next et=>subst et;simp only[lK]at ht;rw[bu,bj.2 rfl]at ht;simp at ht
    .exact⟨v',hv',λ_=>rfl⟩
   have hk0:=c.env i (dt p id T.size (l! xs)) (by simp only[fC,hk,aC,hrow0]);by_cases hp:(p&&l! xs==0)=J
   .have hH:erHF L=erHF s.h:=by
     funext n;by_cases e2:n=nm s.nx
     .subst e2;rw[hnx2,aD hp,bE,hfr];rfl
     .by_cases N:n=nm id
      .subst N;rw[hdead,hid0,aD hp]
      .exact hoth n e2 N
    have hsame:dt p s.nx T.size (l! xs)=dt p id T.size (l! xs):=by unfold dt;rw[aD hp,aD hp]
    refine ⟨V,⟨by rw[hH];exact c.qn,λt x A=>?_,λn q hq=>uK (c.dom n q hq),fR c.low,hinv,hIE,c.inert,c.size⟩,by rw[hH];exact xd.refl _ _ _ _,hKp⟩;rw[hH];by_cases ht:t=i
    .subst ht;simp only[fC,PT.get_set,bh,aC,hrow,af]at A;subst A;rw[hsame];exact hk0
    .exact c.env t x (hE t x ht A)
   .have hid1:erHF s.h (nm id)=Z ⟨ty,.fz (xs.flatMap (bI T))⟩:=by rw[hid0,av hp]
    let⟨kk,k1,k2,ob,k3,k4⟩:=c.qn.at_ _ _ hid1;have hφn:V (nm s.nx)=U:=by
     cases hq:V (nm s.nx) with
     |none=>rfl
     |some q=>have:=c.dom _ q hq;rw[c8]at this;omega
    let nw:HF:=λn=>if n=nm s.nx then Z ⟨ty,.fz (xs.flatMap (bI T))⟩ else U
    have hsh:HH w w kk ob:=⟨rfl,rfl,rfl,rfl,k3,λ_ _=>rfl,λ_=>rfl⟩
    let⟨φ',p1,p2,p3,p4⟩:=c.qn.wren hid1 k1 hφn hsh k4 nw (by simp[nw]) (by simp only[nw];rw[av hni.symm]);have hH:eZ (erHF s.h) [nm s.nx,nm id] nw=erHF L:=by
     funext n;by_cases e2:n=nm s.nx
     .subst e2;rw[hnx2,av hp];simp[eZ,nw]
     .by_cases N:n=nm id
      .subst N;rw[hdead];simp[eZ,nw,hni.symm]
      .rw[hoth n e2 N];simp[eZ,e2,N]
    rw[hH]at p2 p4;refine ⟨φ',⟨p4,λt x A=>?_,λn q hq=>?_,fR c.low,hinv,hIE,c.inert,c.size⟩,⟨Ge.refl _ _,p2.qr,λk hi=>?_⟩,hKp⟩
    .by_cases ht:t=i
     .subst ht;simp only[fC,PT.get_set,bh,aC,hrow,af]at A;subst A;unfold dt at hk0 ⊢;rw[av hp]at hk0 ⊢;generalize Q.tmps.getD t undef=z at hk0;cases hk0 with
      |@G _ _ _ cc q hφq hn hc hs2=>
       rw[k1,af]at hφq;subst hφq;exact .G p1 hn hc hs2
     .exact p2.zq (c.env t x (hE t x ht A))
    .rcases p3 n q hq with h4|h4
     .exact uK (c.dom n q h4)
     .simp only[aB]at h4;subst h4;rw[c8];exact nX _
    .cases hq:φ' k with
     |none=>
      cases hq2:V k with
      |none=>rfl
      |some z=>rw[p2.sub _ _ hq2]at hq;cases hq
     |some z=>
      rcases p3 _ _ hq with h4|h4
      .exact h4.symm
      .simp only[aB]at h4;subst h4;rw[c8]at hi;have:=c.low;omega
  .cases h
 .cases h
def apu {s:TS} (c:iY P E nt np V s Q w) {ad:Adj} {s':TS} (h:HG s ad=Z s') (hnr:∀k off,ad≠ .qx k off) (hnt:∀k off,ad≠ .jb k off):iY P E nt np V s' Q w/\xd np V V (erHF s.h) (erHF s'.h) w w/\fw (lK [ad] 0) s.e s'.e:=by
 cases ad with
 |qx k off=>exact b8 rfl (hnr k off)
 |jb k off=>exact b8 rfl (hnt k off)
 |fmp k off ty S=>
  simp only[HG]at h;split at h
  .split at h
   .rename_i K' V' es L;split at h
    next hE=>cases h;let⟨h1,h2⟩:=at5 c L hE ty S;exact⟨h1,h2,fw.refl _ _⟩
    .cases h
   .cases h;exact⟨c,xd.refl _ _ _ _,fw.refl _ _⟩
   .cases h
  .cases h
 |frw k off off2 ty=>
  simp only[HG]at h;split at h
  .rename_i o id q _ _;split at h
   .rename_i ai es cty l ho L;split at h
    .rename_i v hv;split at h
     .rename_i hn;cases h;let⟨N,hH⟩:=at1 c ai ty;have hid:id≠s.nx:=λe=>by have:=c.qz.low id _ L;omega
      let⟨c2,t2⟩:=Wn N (id:=id) (cty:=cty) (l:=l) (v:=v) (u:=.G s.nx) (by show (s.h.set s.nx _).get id=_;rw[PT.get_set,av hid];exact L) hv hn (by simp only[bZ,bw,PT.get_set,bh,aC,iz,rY,dt];rfl) (by simp only[NZ,bw,PT.get_set,bh];rfl);exact⟨c2,by rw[<- hH];exact t2,fw.refl _ _⟩
     .cases h;exact⟨c,xd.refl _ _ _ _,fw.refl _ _⟩
    .cases h
   .cases h
  .cases h
 |nil k ty T=>
  simp only[HG]at h;split at h
  .rename_i v hv;split at h
   .rename_i hn;cases h;let⟨N,hH,D⟩:=aar c ty T;refine ⟨⟨N.qn,?_,N.dom,N.low,N.qz,?_,N.inert,N.size⟩,by rw[hH];exact xd.refl _ _ _ _,?_⟩
    .intro t x A;simp only[fC,PT.get_set]at A;split at A
     next et=>subst et;simp only[aC,bZ,bw,PT.get_set,bh,iz,dt,mR,cr,fy,af]at A;subst A;let⟨z,hz⟩:=oc s.h v (c.qb _ v hv);rw[hH];exact U3 hn hz _ _ _ _ (c.env _ _ (by simp only[fC,hv,aC,hz]))
     .exact N.env t x A
    .intro t x A;simp only[PT.get_set]at A;split at A
     .cases A;simp only[NZ,bw,PT.get_set,bh];rfl
     .exact N.qb t x A
    .intro t ht v' hv';simp only[PT.get_set]at hv';split at hv'
     next et=>subst et;simp only[lK]at ht;rw[bu,bj.2 rfl]at ht;simp at ht
     .exact⟨v',hv',λ_=>rfl⟩
   .cases h;exact⟨c,xd.refl _ _ _ _,fw.refl _ _⟩
  .cases h
 |qd k off ty T=>
  simp only[HG]at h;split at h
  .rename_i id o hk;split at h
   .rename_i cty l L;split at h
    .rename_i v hv;split at h
     .rename_i hn;cases h;let⟨N,hH,D⟩:=aar c ty T;have hid:id≠s.nx:=λe=>by have:=c.qz.low id _ L;omega
      let⟨c2,t2⟩:=Wn N (id:=id) (cty:=cty) (l:=l) (v:=v) (u:=.G s.nx) (by show (s.h.set s.nx _).get id=_;rw[PT.get_set,av hid];exact L) hv hn (by simp only[bZ,bw,PT.get_set,bh,aC,iz,dt,mR,cr,fy]) (by simp only[NZ,bw,PT.get_set,bh];rfl);exact⟨c2,by rw[<- hH];exact t2,fw.refl _ _⟩
     .cases h;exact⟨c,xd.refl _ _ _ _,fw.refl _ _⟩
    .cases h
   .cases h
  .cases h
 |mpt k K φ=>
  simp only[HG]at h;split at h
  .rename_i id hk;split at h
   .rename_i K' V' es L;split at h
    .rename_i hE;cases h;have D:bV s.h (s.h.set id (Z (.mp K φ []))):=bV.set λr D=>by rw[bw,L]at D;cases D
     have hH:erHF (s.h.set id (Z (.mp K φ [])))=erHF s.h:=by
      funext n;by_cases hn:n=nm id
      .subst hn;rw[bE,bE,PT.get_set,aD rfl,L];simp only[aC,jJ,ze (XI (wh.1 hE).1),ze (wh.1 hE).2,K6 (wh.1 hE).1,wJ]
      .refine lT c.qz D (ik.set (by rw[L];rfl) rfl) λi e=>?_
       subst e;rw[PT.get_set,av (λe=>hn (by rw[e]))]
     refine ⟨⟨by rw[hH];exact c.qn,?_,c.dom,c.low,c.qz.set D (c.qz.low id _ L) (bO _) (λ_ _ he=>by cases he),λt x A=>lV D x (c.qb t x A),c.inert,c.size⟩,by rw[hH];exact xd.refl _ _ _ _,fw.refl _ _⟩;intro t x A;rw[hH];simp only[fC]at A;cases he:s.e.get t with
     |none=>rw[he]at A;cases A
     |some q=>
      rw[he]at A;let⟨z,hz⟩:=oc s.h q (c.qb t q he);simp only[aC,fh D q z hz,af]at A;subst A;exact c.env t _ (by simp only[fC,he,aC,hz])
    .cases h;exact⟨c,xd.refl _ _ _ _,fw.refl _ _⟩
   .cases h
  .cases h
 |mz k n=>
  simp only[HG]at h;split at h
  .rename_i id hk;split at h
   .rename_i K' V' es L;split at h
    .rename_i hE;cases h;have D:bV s.h (s.h.set id (Z (.C U (aF n .nil)))):=bV.set λr D=>by rw[bw,L]at D;cases D
     have hold:erHF s.h (nm id)=Z ⟨0,.mp []⟩:=by rw[bE,L];simp only[aC,jJ,ze (XI hE),K6 hE,wJ]
     have hvs:∀(h:aX) m,cI h (aF m .nil)=Z (aF m (.f (.raw (.slice U 0 0)))):=λh m=>by
      induction m with
      |zero=>rfl
      |succ m ih=>rw[m8,m8];simp only[cI,bZ,ih]
     have hnew:erHF (s.h.set id (Z (.C U (aF n .nil)))) (nm id)=Z ⟨1,.mp (pM 0 (aF n (.f (.raw (.slice U 0 0)))))⟩:=by
      rw[bE,PT.get_set,aD rfl];simp only[aC,jJ,hvs]
     have hoth:∀q,q≠nm id->erHF (s.h.set id (Z (.C U (aF n .nil)))) q=erHF s.h q:=λq hn'=>lT c.qz D (ik.set (by rw[L];rfl) rfl) λi e=>by
      subst e;rw[PT.get_set,av (λe=>hn' (by rw[e]))]
     have hdom:rf (erHF s.h) (erHF (s.h.set id (Z (.C U (aF n .nil))))):=λq b hb'=>by
      by_cases e:q=nm id
      .subst e;exact⟨_,hold⟩
      .rw[hoth q e]at hb';exact⟨b,hb'⟩
     have hV:JM (erHF s.h) (erHF (s.h.set id (Z (.C U (aF n .nil))))):=⟨hdom,λq b b' h1 h2=>by
      by_cases e:q=nm id
      .subst e;rw[hold]at h1;cases h1;rw[hnew]at h2;cases h2;exact fD.lay n
      .rw[hoth q e,h1]at h2;cases h2;exact fD.refl hdom b⟩
     refine ⟨⟨hV.qn c.qn,?_,c.dom,c.low,c.qz.set D (c.qz.low id _ L) (bO _) (λty l2 he=>?_),λt x A=>lV D x (c.qb t x A),c.inert,c.size⟩,⟨Ge.refl _ _,λk _ ho=>hdom.own ho,λ_ _=>rfl⟩,fw.refl _ _⟩
     .intro t x A;simp only[fC]at A;cases he:s.e.get t with
      |none=>rw[he]at A;cases A
      |some q=>
       rw[he]at A;let⟨z,hz⟩:=oc s.h q (c.qb t q he);simp only[aC,fh D q z hz,af]at A;subst A;exact (c.env t _ (by simp only[fC,he,aC,hz])).dom hdom
     .simp only[eD.C.injEq]at he;obtain⟨_,rfl⟩:=he;exact kQ _ _ _ (hvs _ n)
    .cases h
   .cases h;exact⟨c,xd.refl _ _ _ _,fw.refl _ _⟩
  .cases h
 |pk k off T=>
  simp only[HG]at h;split at h
  .obtain⟨h1,h2,h3⟩:=asl c h;exact⟨h1,h2,h3.mono λk hk=>by simp at hk⟩
  .cases h
def apt {s:TS} (c:iY P E nt np V s Q w) {ad:Adj} {s':TS} (h:HG s ad=Z s'):∃φ',iY P E nt np φ' s' Q w/\xd np V φ' (erHF s.h) (erHF s'.h) w w/\fw (lK [ad] 0) s.e s'.e:=by
 by_cases A:∃k off,ad= .qx k off
 .obtain⟨k,off,rfl⟩:=A;exact ash c h
 .by_cases z:∃k off,ad= .jb k off
  .obtain⟨k,off,rfl⟩:=z;simp[HG]at h;split at h
   .obtain⟨he,φ',h1,D⟩:=aok c h;exact⟨φ',h1,D,by rw[he];exact fw.refl _ _⟩
   .cases h
  .exact⟨V,apu c h (λk off e=>A ⟨k,off,e⟩) λk off e=>z ⟨k,off,e⟩⟩
def Ss {φ:PM} {a:Act} {w:World}:∀{l:Y Adj} {s s':TS},iY P E nt np φ s a w->Wl s l=Z s'->∃φ',iY P E nt np φ' s' a w/\xd np φ φ' (erHF s.h) (erHF s'.h) w w/\fw (lK l 0) s.e s'.e
 |[],s,s',c,h=>by simp[Wl,af]at h;subst h;exact⟨φ,c,xd.refl _ _ _ _,fw.refl _ _⟩
 |ad::r,s,s',c,h=>by
  simp[Wl]at h;split at h
  .rename_i s1 h1;let⟨φ1,c1,D,k1⟩:=apt c h1;let⟨φ2,N,A,k2⟩:=Ss c1 h;refine ⟨φ2,N,D.trans A,(k1.mono ?_).trans (k2.mono ?_)⟩
   .intro k z;cases ad with
    |nil q ty T|qx q off=>simp[lK]at z ⊢;rw[jQ,bu,z];rfl
    |_=>simp[lK]at z
   .intro k z;cases ad with
    |nil q ty T|qx q off=>simp[lK];rw[jQ,bu,z];simp
    |_=>simp[lK];exact z
  .cases h
mutual
def UR {h:aX}:∀(v:TV) (y:AV),vO v=J->bZ h v=Z y->y.all (λ_=>aa)=J
 |.f _ _,y,_,he|.zk _ _ _ _ _,y,_,he|.emp,y,_,he|.nil,y,_,he|.undef,y,_,he|.np,y,_,he|.qw,y,_,he=>by simp[bZ,af]at he;subst he;rfl
 |.agg l,y,hl,he|.qg l,y,hl,he=>by
  simp[bZ]at he;split at he
  .rename_i l' hl';simp[af]at he;subst he;exact Hc l l' hl hl'
  .cases he
 |.ql _ _ _ _,_,h,_|.H _ _,_,h,_|.qy _ _ _,_,h,_|.G _,_,h,_|.zm _ _,_,h,_|.mp _,_,h,_|.qm _ _,_,h,_|.qv _ _,_,h,_=>by cases h
def Hc {h:aX}:∀(l:Y TV) (l':Y AV),rQ l=J->cI h l=Z l'->AV.allL (λ_=>aa) l'=J
 |[],l',_,he=>by simp[cI,af]at he;subst he;rfl
 |x::r,l',hl,he=>by
  obtain⟨y,l2,rfl,e1,e2⟩:=cZ he;simp[rQ,al]at hl;simp[AV.allL,al];exact⟨UR x y hl.1 e1,Hc r l2 hl.2 e2⟩
end
mutual
def Z9 (h:aX):∀(v:TV),vO v=J->NZ h v=J
 |.f _ _,_|.zk _ _ _ _ _,_|.emp,_|.nil,_|.undef,_|.np,_|.qw,_=>rfl
 |.agg l,hl|.qg l,hl=>LX h l hl
 |.ql _ _ _ _,h|.H _ _,h|.qy _ _ _,h|.G _,h|.zm _ _,h|.mp _,h|.qm _ _,h|.qv _ _,h=>by cases h
def LX (h:aX):∀(l:Y TV),rQ l=J->lJ h l=J
 |[],_=>rfl
 |x::r,hl=>by
  simp[rQ,al]at hl;simp[lJ,al];exact⟨Z9 h x hl.1,LX h r hl.2⟩
end
structure Seen (np:Nat) (t:Tm) (x:t.ty.den) (us:List TV) (h1:aX) (φ φ':PM) (H:HF) (E:Nat->Prop) (w:World) (la lu:List AV):Prop where
 qn:sh φ' E (erHF h1) w
 val:∀(j:Nat) y v,lu[j]? =Z y->∃z,la[j]? =Z z/\(co φ (tot E φ H) w z v->co φ' (tot E φ' (erHF h1)) w y v)
 len:l! lu=l! la
 tot_:∀k,tot E φ' (erHF h1) k->tot E φ H k
 qr:∀k,own φ' (erHF h1) k->own φ H k
 dom:∀n k,φ' n=Z k->ow n<l! t.bs
 par:∀n,ow n<np->ow n<l! t.bs->φ' n=φ n
variable {r:Y TV} {B:Y AV}
def NR {t:Tm} {x:t.ty.den} {h1:aX} {l1:Y (M eD)} (I:pw t x r h1 l1) (hinv:gM h i) {vs:Y TV} {σ:PT Nat} {sm:Nat} (A:Kn np t vs h x j σ sm) (hla:cI h vs=Z B) (us:sh V E (erHF h) w):∃φ' lu,cI h1 r=Z lu/\Seen np t x r h1 V φ' (erHF h) E w B lu:=by
 let⟨x1,m1,x2,m2,hx,hmm,gv,gb⟩:=A.ex;have pvg:rk (hZ σ) t.vs x1=Z (k_ (hZ σ) r):=by
  have h3:=vg (hZ σ) t.vs x1;have L:=I.pv;rw[hx,uU]at L;rw[h3,L];rfl
 have pbg:qI (hZ σ) t.bs x2=Z (l1.map (hX (kS (hZ σ)))):=by
  have h3:=xR (hZ σ) t.bs x2;have L:=I.pb;rw[hx,wL]at L;rw[h3,L];rfl
 have hbm:∀nx b,l1[nx]? =Z (Z b)->∃b0,h.get (hZ σ nx)=Z b0/\BM (hZ σ) h j b0 (kS (hZ σ) b):=λnx b D=>by
  let⟨b0,q1,q2⟩:=LV t.bs 0 x2 m2 _ gb pbg nx (kS (hZ σ) b) (by grind);rw[bT]at q1;exact⟨b0,q1,q2.mono λm hj=>by rw[hmm,bu,hj];simp⟩
 let hv:aX:=CF (hZ σ) 0 (l1.map (hX (kS (hZ σ)))) PT.leaf
 have hv_at:∀nx b,l1[nx]? =Z (Z b)->hv.get (hZ σ nx)=Z (kS (hZ σ) b):=λnx b D=>by
  have:=wP (hZ σ) (l1.map (hX (kS (hZ σ)))) 0 PT.leaf (λa b ha D=>by
   simp only[b_,I.len]at ha D;simp only[bT];exact A.inj a b ha D) nx (Z (kS (hZ σ) b)) (by grind)
  grind
 have hv_ex:∀m c,hv.get m=Z c->∃nx b,l1[nx]? =Z (Z b)/\m=hZ σ nx/\c=kS (hZ σ) b:=λm c hj=>by
  by_cases hex:∃nx,nx<l1.length/\m=hZ σ nx
  .obtain⟨nx,hi,rfl⟩:=hex;have hcc:=aE hi;cases hcv:l1[nx] with
   |some b=>rw[hcv]at hcc;rw[hv_at nx b hcc]at hj;cases hj;exact⟨nx,b,hcc,rfl,rfl⟩
   |none=>
    rw[hcv]at hcc;have:=wP (hZ σ) (l1.map (hX (kS (hZ σ)))) 0 PT.leaf (λa b ha D=>by
     simp only[b_,I.len]at ha D;simp only[bT];exact A.inj a b ha D) nx U (by grind)
    rw[bT]at this;have hj':(CF (hZ σ) 0 (l1.map (hX (kS (hZ σ)))) PT.leaf).get (hZ σ nx)=Z c:=hj;rw[this]at hj';simp[PT.get]at hj'
  .have:hv.get m=(PT.leaf:aX).get m:=wO (hZ σ) _ 0 _ m λk N=>by
    grind
   rw[this]at hj;simp[PT.get]at hj
 have rows_in:zW hv h:=λm q hq=>by
  rw[bw]at hq ⊢;cases hc:hv.get m with
  |none=>rw[hc]at hq;cases hq
  |some c=>
   rw[hc]at hq;obtain⟨nx,b,q1,rfl,rfl⟩:=hv_ex m c hc;let⟨b0,q2,q3⟩:=hbm nx b q1;rw[q2];simp only[aC]at hq ⊢;rw[<- q3.G];exact hq
 have rows_h1:∀nx q,eg h1 nx=Z q->eg hv (hZ σ nx)=Z q:=λnx q hq=>by
  rw[bw]at hq ⊢;cases D:h1.get nx with
  |none=>rw[D]at hq;cases hq
  |some b=>
   rw[D]at hq;rw[hv_at nx b ((I.at_ nx b).1 D)];simp only[aC,KC]at hq ⊢;exact hq
 have hd:rf (erHF h) (erHF hv):=λn y hy=>by
  let⟨c,h3,L⟩:=iK hy;obtain⟨nx,b,q1,e,rfl⟩:=hv_ex _ c h3;let⟨b0,q2,q3⟩:=hbm nx b q1;unfold erHF;rw[e,q2];rw[e]at L;cases N:ix n with
  |zero=>
   rw[N]at L;exact BM.erB_some hinv q2 q3 L
  |succ k=>
   rw[N]at L;exact⟨y,(q3.mem _ _).trans L⟩
 have gvv:Eg h (erHF h) (erHF hv) j:=λnx hi=>⟨rfl,by
  cases hc:erHF hv (nm nx) with
  |none=>rfl
  |some y=>
   let⟨c,h3,L⟩:=iK hc;rw[c8]at h3;obtain⟨k,b,q1,rfl,rfl⟩:=hv_ex nx c h3;have N:k<t.bs.length:=by rw[<- I.len];exact (bB.1 q1).1
   have h5:=A.disj _ hi;rw[(A.sig _).2 ⟨k,N,rfl⟩]at h5;cases h5⟩
 have φ:JM (erHF h) (erHF hv):=⟨hd,λn b b' D hb'=>by
  let⟨c,h3,L⟩:=iK hb';obtain⟨nx,bb,q1,e,rfl⟩:=hv_ex _ c h3;let⟨b0,q2,q3⟩:=hbm nx bb q1;unfold erHF at D;rw[e,q2]at D;rw[e]at L;have D:NC h (hZ σ nx) (ix n) b0=Z b:=D;cases N:ix n with
  |zero=>
   rw[N]at L D;exact BM.view hd gvv rows_in q3 D L
  |succ k=>
   rw[N]at L D;have:=(q3.mem _ _).symm.trans D;have L:wu (hZ σ nx) k (kS (hZ σ) bb)=Z b':=L;rw[L]at this;cases this;exact fD.refl hd _⟩
 have rv:=φ.qn us;have T:am5 t x r h1 (hZ σ) V E E (erHF hv) w:=by
  have hat:∀n y,erHF h1 n=Z y->erHF hv (py (hZ σ) n)=Z (y.qx (py (hZ σ))):=λn y hn=>by
   let⟨b,D,hyb⟩:=iK hn;unfold erHF;rw[xi,zA,hv_at _ b ((I.at_ _ b).1 D)];exact Cm rows_h1 hyb
  refine sh.toId I A.inj rv hat (λk N=>.inl N) (λn k y hn L hE=>?_) rv.el;let⟨k',p1,p2,_⟩:=rv.at_ _ _ (hat n y hn)
  grind
 let⟨lu,hlu⟩:=eR h1 r I.ok;have hlug:cI hv (k_ (hZ σ) r)=Z (AV.renL (py (hZ σ)) lu):=pZ rows_h1 r lu hlu;have hle:=Fj hd rows_in t.vs vs x1 m1 _ B _ gv pvg hla hlug (λnx hi=>gvv nx (by grind));have hall:=tf r lu I.lt hlu;refine ⟨_,lu,hlu,T.qn,λm y v hy=>?_,?_,λk N=>hd.tot (T.tot_ k N),λk N=>hd.own (T.qr k N),λn k N=>?_,λnx hi D=>?_⟩
 .rw[oa]at hle;let⟨z,hz,hlz⟩:=hle.get m (y.qx (py (hZ σ))) (by grind);exact⟨z,hz,λhr=>T.val y v (m6 hall y (aY hy)) (hlz _ _ _ _ us hr)⟩
 .have:=hle.length;rw[oa,b_]at this;exact this
 .exact (yS N).1
 .rw[aej D];unfold py;rw[A.fix _ hi,kN]
def Rj {s':TS} (c:iY P E nt np V s' Q w) {A:Ann} {s0 s1:TS} {x:A.D} (L:Oy np A i s0 s'=Z x) (hs:Je A i s0 x=Z s1)
 (hk:∀k,k∈A.zq->k∉A.ks->∀v,s0.e.get k=Z v->vO v=J->aJ i k=aa->∀v',s'.e.get k=Z v'->v'=v):∃φ',iY P E nt np φ' s1 Q w/\xd np V φ' (erHF s'.h) (erHF s1.h) w w:=by
 unfold Oy at L;split at L
 .rename_i hc;simp only[al]at hc;have hnp:=aV hc.1;split at L
  .rename_i s2 h2;let⟨φ2,c2,t2,_⟩:=Ss c h2;split at L
   .rename_i vs hvs;split at L
    .rename_i z m σ sm hM;simp[af]at L;subst L;have B:=x_ hM;unfold Je at hs;split at hs
     .rename_i us h1 hi;let⟨l1,I⟩:=yg hi;split at hs
      .rename_i hlen;have hlen:=au hlen;simp[af]at hs;subst hs;let⟨g1,g2⟩:=Z8 hvs;have hvok:lJ s2.h vs=J:=KX c2.qb hvs;let⟨la,hla⟩:=eR s2.h vs hvok;let⟨φ',lu,hlu,S⟩:=NR (E:=E) I c2.qz B hla c2.qn;refine ⟨φ',⟨S.qn,?_,S.dom,hnp,⟨λam ty l hl=>(I.C am _ l hl).1,λam b hb=>I.lt_len hb⟩,?_,c.inert,c.size⟩,t2.trans ⟨Ge.refl _ _,λk _ h=>S.qr k h,λam hi=>S.par am hi (by omega)⟩⟩
       .intro t y N;simp[fC]at N;cases ht:(abc (E5 i s0.e A.zq) A.ks us).get t with
        |none=>rw[ht]at N;cases N
        |some v=>
         rw[ht]at N;simp[aC]at N;rcases EA hlen t v ht with ⟨j,q1,q2⟩|⟨q1,q2⟩
         .obtain⟨y',p1,p2⟩:=ly hlu j v q2;rw[N]at p2;cases p2;let⟨z,p3,p4⟩:=S.val j y (Q.tmps.getD t undef) p1;refine p4 ?_;let⟨v0,p5,p6⟩:=g2 j t q1;let⟨z',p7,p8⟩:=ly hla j v0 p5;rw[p3]at p7;cases p7;exact c2.env t _ (by simp[fC,p6,aC,p8])
         .obtain⟨k1,k2,k3,k4⟩:=vi q2;let⟨v',k5⟩:=Lm hc.2 t v k1 k2 k3 k4;have:=hk t k1 q1 v k2 k3 k4 v' k5;subst this;have h3:=c.env t y (by simp[fC,k5,aC];rw[U4 s'.h h1 v' k3];exact N);exact h3.restrict (p:=λ_=>aa) (λam k hi _=>by cases hi) (λk hk=>by
           have h4:=S.tot_ k hk;rcases h4 with h4|h4
           .exact .inl h4
           .exact .inr (by
             have hkl:k<w.heap.size:=by
              let⟨n,b,e1,e2⟩:=h4;let⟨k',p1,_,ob,p3,_⟩:=c2.qn.at_ n b e1
              grind
             exact t2.qr k hkl h4)) (UR v' y k3 N)
       .intro t v hv;rcases EA hlen t v hv with ⟨j,q1,q2⟩|⟨q1,q2⟩
        .obtain⟨y',_,p2⟩:=ly hlu j v q2;exact Hi _ _ _ p2
        .exact Z9 _ v (vi q2).2.2.1
      .cases hs
     .cases hs
    .cases L
   .cases L
  .cases L
 .cases L
def Gu {A:Ann} {L N:TS} {x:A.D} (z:Je A i L x=Z N):fw (N2 A.ks 0) L.e N.e/\∀k,k∉A.ks->∀v,N.e.get k=Z v->L.e.get k=Z v:=by
 unfold Je at z;split at z
 .rename_i us h1 hi;split at z
  .rename_i hlen;have hlen:=au hlen;simp[af]at z;subst z;have key:∀k,k∉A.ks->∀v,(abc (E5 i L.e A.zq) A.ks us).get k=Z v->L.e.get k=Z v:=λk hk v hv=>by
    rcases EA hlen k v hv with ⟨j,q1,_⟩|⟨_,q2⟩
    .grind
    .exact (vi q2).2.1
   refine ⟨λk hk v' hv=>?_,key⟩;have hnk:k∉A.ks:=λhm=>by rw[ZY hm]at hk;cases hk
   grind
  .cases z
 .cases z
end walk
inductive Er:TC->SC->Prop
 |skip:Er .skip .skip
 |jz (ops:List ua) (prs:List (Nat×Nat)):Er (.jz ops prs) (.jz ops prs)
 |seq {a b:TC} {a' b':SC}:Er a a'->Er b b'->Er (.seq a b) (.seq a' b')
 |zn (A:Ann) {a b:TC} {a' b':SC}:Er a a'->Er b b'->Er (.zn A a b) (.seq a' b')
 |cond (c:Nat) {a b:TC} {a' b':SC}:Er a a'->Er b b'->Er (.cond c a b) (.cond c a' b')
 |block (id:Nat) {b:TC} {b':SC}:Er b b'->Er (.block id b) (.block id b')
 |zj (A:Ann) (id:Nat) {b:TC} {b':SC}:Er b b'->Er (.zj A id b) (.block id b')
 |loop (A:Ann) {b:TC} {b':SC}:Er b b'->Er (.loop A b) (.loop b')
 |exit (id:Nat):Er (.exit id) (.exit id)
 |ret:Er .ret .ret
 |defer (f:FuncId) (c:List Operand) (t:Nat):Er (.defer f c t) (.defer f c t)
 |adj (l:List Adj) {c:TC} {c':SC}:Er c c'->Er (.adj l c) c'
 |split (k off lo n:Nat) {c:TC} {c':SC}:Er c c'->Er (.split k off lo n c) c'
 |bsp (t:Nat) {a b:TC} {c':SC}:Er a c'->Er b c'->Er (.bsp t a b) c'
 |unl (n:Nat) {b:TC} {b':SC}:Er b b'->Er (.unl n b) (.loop b')
 |zd (c:SC):Er .zd c
def Es {H:PT aj1} {c:TC} {z:SC} (h:Er c z):Er (Kp H i c) z:=by
 unfold Kp;split
 .exact .adj _ h
 .exact .split _ _ _ _ h
 .exact .bsp _ (.split _ _ _ _ h) h
 .exact h
def zQ (H:PT aj1):∀(c:SC) (n:Nat),Er (Hm H c n).1 c
 |.skip,n=>Es .skip
 |.jz o p,n=>Es (.jz o p)
 |.seq a b,n=>by
  have h1:=zQ H a (n+1);have z:=zQ H b (Hm H a (n+1)).2;simp[Hm];split
  .exact .zn _ h1 z
  .exact .seq h1 z
 |.cond c a b,n=>by
  have h1:=zQ H a (n+1);have z:=zQ H b (Hm H a (n+1)).2;exact Es (.cond c h1 z)
 |.block id b,n=>by
  have h1:=zQ H b (n+1);simp[Hm];split
  .exact .zj _ id h1
  .exact .block id h1
 |.loop b,n=>by
  have h1:=zQ H b (n+1);simp[Hm];split
  .exact .loop _ h1
  .exact .unl _ h1
  .exact .zd _
 |.exit id,n=>Es (.exit id)
 |.ret,n=>Es .ret
 |.defer f c t,n=>.defer f c t
 |.zd,n=>.zd _
def abp {σ:Type} {step:σ->M (σ⊕R)} {x:σ} {r:R} (h:iter step x=Z r):∃n,iterN step n x=Z r:=by
 unfold iter at h;split at h
 .exact⟨_,h⟩
 .cases h
def Z0 {α:Type} {o:M (R⊕α)} {k:α->M R} {r:R} (h:jn o k=Z r):(∃x,o=Z (.inr x)/\k x=Z r)\/o=Z (.inl r):=by
 unfold jn at h
 grind
section inv
variable {P:Program} {nt:Nat}
def I2 (id:Nat) (ops:Array Oper) (z:Bool):cE P nt (.region id ops z)= .zd\/
 ((ops.toList.all λo=>match o.dst with|some d=>decide (d<nt)|none=>J)=J/\
   ((∃f caps t,aab ops z=Z (f,caps,t)/\cE P nt (.region id ops z)= .defer f caps t)\/
    ∃l prs,tD P ops ops.toList=Z l/\Pr ops l=Z prs/\cE P nt (.region id ops z)= .jz l prs)):=by
 simp[cE]
 grind
def Jg:Code->Bool
 |.cond (.const (.bool _)) _ _=>aa
 |_=>J
def lU (P:Program) (nt:Nat) (c:Code):∃z,Jg z=J/\cE P nt z=cE P nt c/\∀Q a w,z.wp P Q a w->c.wp P Q a w:=by
 have self:∀c:Code,Jg c=J->∃z,Jg z=J/\cE P nt z=cE P nt c/\∀Q a w,z.wp P Q a w->c.wp P Q a w:=λc h=>⟨c,h,rfl,λ_ _ _ h=>h⟩
 induction c with
 |cond o x y ihx ihy=>
  cases o with
  |const v=>
   cases v with
   |bool b=>
    cases b with
    |true=>
     let⟨z,h1,D,A⟩:=ihx;exact⟨z,h1,D,λQ a w h=>wp_cond_true rfl (A Q a w h)⟩
    |false=>
     let⟨z,h1,D,A⟩:=ihy;exact⟨z,h1,D,λQ a w h=>wp_cond_false rfl (A Q a w h)⟩
   |_=>exact self _ rfl
  |_=>exact self _ rfl
 |_=>exact self _ rfl
variable {c:Operand}
def Ln {α:Prop} {x y:Code} {sc:SC} (z:Jg (.cond c x y)=J) (h:cE P nt (.cond c x y)=sc) (h1:sc≠ .zd) (A:∀t a b,sc≠ .cond t a b):α:=by
 cases c with
 |tmp q=>exact (A _ _ _ h.symm).elim
 |const v=>cases v<;>first|exact (h1 h.symm).elim|cases z
 |_=>exact (h1 h.symm).elim
def ako {c:Code} {sl:Y ua} {prs:Y o!} (A:Jg c=J) (h:cE P nt c= .jz sl prs):∃id ops z,c= .region id ops z/\(ops.toList.all λo=>match o.dst with|some d=>decide (d<nt)|none=>J)=J/\tD P ops ops.toList=Z sl/\Pr ops sl=Z prs:=by
 cases c with
 |region id ops z=>
  rcases I2 (P:=P) (nt:=nt) id ops z with h1|⟨hd,⟨f,caps,t,_,h1⟩|⟨l,p,L,D,h1⟩⟩
  .rw[h1]at h;cases h
  .rw[h1]at h;cases h
  .grind
 |cond o x y=>exact Ln A h (by simp) (by simp)
 |_=>simp[cE]at h
def qo {c:Code} {sc:SC} (h:cE P nt c=sc) (h1:sc≠ .zd) (L:∀a b,sc≠ .jz a b) (D:∀a b t,sc≠ .defer a b t):∀id ops A,c≠ .region id ops A:=by
 rintro id ops A rfl;rcases I2 (P:=P) (nt:=nt) id ops A with z|⟨_,⟨f,caps,t,_,z⟩|⟨l,p,_,_,z⟩⟩<;>rw[z]at h
 .exact h1 h.symm
 .exact D _ _ _ h.symm
 .exact L _ _ h.symm
def agk {c:Code} (z:Jg c=J) (h:cE P nt c= .skip):c= .skip:=by
 have nr:=qo h (by simp) (by simp) (by simp);cases c with
 |skip=>rfl
 |region id ops A=>exact b8 rfl (nr id ops A)
 |cond o x y=>exact Ln z h (by simp) (by simp)
 |_=>simp[cE]at h
def akn {c:Code} (z:Jg c=J) (h:cE P nt c= .ret):c= .ret:=by
 have nr:=qo h (by simp) (by simp) (by simp);cases c with
 |ret=>rfl
 |region id ops A=>exact b8 rfl (nr id ops A)
 |cond o x y=>exact Ln z h (by simp) (by simp)
 |_=>simp[cE]at h
def agl {c:Code} (z:Jg c=J) (h:cE P nt c= .exit i):c= .exit i:=by
 have nr:=qo h (by simp) (by simp) (by simp);cases c with
 |exit id=>simp[cE]at h;rw[h]
 |region id ops A=>exact b8 rfl (nr id ops A)
 |cond o x y=>exact Ln z h (by simp) (by simp)
 |_=>simp[cE]at h
def Z2 {c:Code} {a b:SC} (z:Jg c=J) (h:cE P nt c= .seq a b):∃x y,c= .seq x y/\cE P nt x=a/\cE P nt y=b:=by
 have nr:=qo h (by simp) (by simp) (by simp);cases c with
 |seq x y=>simp[cE]at h;exact⟨x,y,rfl,h.1,h.2⟩
 |region id ops A=>exact b8 rfl (nr id ops A)
 |cond o x y=>exact Ln z h (by simp) (by simp)
 |_=>simp[cE]at h
def agm {c:Code} {a b:SC} (z:Jg c=J) (h:cE P nt c= .cond i a b):∃x y,c= .cond (.tmp i) x y/\cE P nt x=a/\cE P nt y=b:=by
 have nr:=qo h (by simp) (by simp) (by simp);cases c with
 |cond o x y=>
  cases o with
  |tmp q=>simp[cE]at h;obtain⟨rfl,h1,A⟩:=h;exact⟨x,y,rfl,h1,A⟩
  |const v=>cases v<;>first|(simp [cE]at h;done)|cases z
  |_=>simp[cE]at h
 |region id ops D=>exact b8 rfl (nr id ops D)
 |_=>simp[cE]at h
def PI {c:Code} {b:SC} (z:Jg c=J) (h:cE P nt c= .block i b):∃y,c= .block i y/\cE P nt y=b:=by
 have nr:=qo h (by simp) (by simp) (by simp);cases c with
 |block id y=>simp[cE]at h;obtain⟨rfl,h1⟩:=h;exact⟨y,rfl,h1⟩
 |region i ops A=>exact b8 rfl (nr i ops A)
 |cond o x y=>exact Ln z h (by simp) (by simp)
 |_=>simp[cE]at h
def Uc {c:Code} {b:SC} (z:Jg c=J) (h:cE P nt c= .loop b):∃y,c= .loop y/\cE P nt y=b:=by
 have nr:=qo h (by simp) (by simp) (by simp);cases c with
 |loop y=>simp[cE]at h;exact⟨y,rfl,h⟩
 |region id ops A=>exact b8 rfl (nr id ops A)
 |cond o x y=>exact Ln z h (by simp) (by simp)
 |_=>simp[cE]at h
end inv
def ao1 (P:Program) (E:Nat->Prop) (nt np:Nat) (φ:PM) (s:TS) (w:World) (am:Nat) (K:Ex->TS->M R) (r:R):Exit->Act->World->Prop:=
 λe z w'=>∃ex s' φ',e=ex.to/\K ex s'=Z r/\iY P E nt np φ' s' z w'/\xd np φ φ' (erHF s.h) (erHF s'.h) w w'/\fw am s.e s'.e
def iY.bool {s:TS} (c:iY P O i j V s Q w) {t:Nat} (ht:s.e.get t=Z (.f .bool b)):Q.eval (.tmp t)= .bool b:=
 eX (c.env t _ (by simp[fC,ht,aC,bZ];rfl))
def iY.qw {s:TS} (c:iY P O i j V s Q w) {t:Nat} (ht:s.e.get t=Z .qw):∃b,Q.eval (.tmp t)= .bool b:=by
 have:=c.env t .qw (by simp[fC,ht,aC,bZ]);show ∃b,Q.tmps.getD t undef= .bool b;generalize Q.tmps.getD t undef=z at this;cases this with
 |qw=>exact⟨_,rfl⟩
def ad0 {a b:M R} {r:R} (h:Hz a b=Z r):a=Z r/\b=Z r:=by
 unfold Hz at h
 grind
def aoh {E:Nat->Prop} {inert:FuncId->Bool} (hm:P.follows .mixedOrders=J) (hcon:Gg P X) (hin:SD P inert):
 ∀{tc:TC} {sc:SC},Er tc sc->∀(c:Code),cE P i c=sc->∀(R:Type) (s:TS) (K:Ex->TS->M R) (r:R),oS j X W inert tc s K=Z r->∀(φ:PM) (a:Act) (w:World),iY P E i j φ s a w->c.wp P (ao1 P E i j φ s w (tc.asg 0) K r) a w:=by
 intro tc sc hE;induction hE with
 |skip=>
  intro c hc R s K r h φ a w g;let⟨c',hn,N,hsim⟩:=lU P i c;refine hsim _ _ _ ?_;rw[<- N]at hc;rw[agk hn hc];exact wp_skip ⟨.normal,s,φ,rfl,h,g,xd.refl _ _ _ _,fw.refl _ _⟩
 |jz ops prs=>
  intro c hc R s K r h φ a w g;let⟨c',hn,N,hsim⟩:=lU P i c;refine hsim _ _ _ ?_;rw[<- N]at hc;obtain⟨id,os,dr,rfl,h1,h2,h3⟩:=ako hn hc;simp only[oS]at h;refine aff (K:=λs'=>K .normal s') hm hcon g (am:=Sn ops 0) (λnp o d ho hd=>?_) h1 h2 h3 h λa' w' s' φ' q1 L q3 q4=>⟨.normal,s',φ',rfl,q1,L,q3,q4⟩
  have hmem:o∈os.toList:=by have:=Array.mem_of_getElem? ho;simpa using this
  have key:∀(rest:Y Oper) (sl:Y ua),tD P os rest=Z sl->∀o∈rest,∃so∈sl,so.dst=o.dst:=by
   intro rest;induction rest with
   |nil=>intro sl _ o ho;cases ho
   |cons x rest ih=>
    intro sl hsl o ho;simp only[tD]at hsl;split at hsl
    .rename_i l hl;have:∃so,sl=so::l/\so.dst=x.dst:=by
      split at hsl
      .simp only[af]at hsl;exact⟨_,hsl.symm,rfl⟩
      .split at hsl
       .simp only[af]at hsl;exact⟨_,hsl.symm,rfl⟩
       .cases hsl
     obtain⟨so,rfl,hso⟩:=this;rcases aZ.1 ho with rfl|ho
     .exact⟨so,by simp,hso⟩
     .obtain⟨q,hq,hq2⟩:=ih l hl o ho;exact⟨q,by simp[hq],hq2⟩
    .cases hsl
  let⟨so,hso,hd2⟩:=key os.toList ops h2 o hmem;exact Wg hso (by rw[hd2];exact hd)
 |@seq x y x' y' _ _ ihx ihy=>
  intro c hc R s K r h φ a w g;let⟨c',hn,N,hsim⟩:=lU P i c;refine hsim _ _ _ ?_;rw[<- N]at hc;obtain⟨cx,cy,rfl,h1,h2⟩:=Z2 hn hc;simp only[oS]at h;refine wp_seq (wp_mono (ihx cx h1 R s _ r h φ a w g) ?_);rintro e a' w' ⟨ex,s',φ',rfl,z,g',st,kp⟩;have kp':fw ((TC.seq x y).asg 0) s.e s'.e:=kp.mono λk z=>by simp only[TC.asg];exact kj z
  cases ex with
  |normal=>
   refine wp_mono (ihy cy h2 R s' K r z φ' a' w' g') ?_;rintro e2 a2 w2 ⟨ex2,s2,φ2,rfl,hk2,g2,st2,kp2⟩;exact⟨ex2,s2,φ2,rfl,hk2,g2,st.trans st2,kp'.trans (kp2.mono λk z=>by simp only[TC.asg];exact uX z)⟩
  |exit id=>exact⟨.exit id,s',φ',rfl,z,g',st,kp'⟩
  |ret=>exact⟨.ret,s',φ',rfl,z,g',st,kp'⟩
 |@zn A x y x' y' _ _ ihx ihy=>
  intro c hc R s K r h φ a w g;let⟨c',hn,N,hsim⟩:=lU P i c;refine hsim _ _ _ ?_;rw[<- N]at hc;obtain⟨cx,cy,rfl,h1,h2⟩:=Z2 hn hc;simp only[oS]at h;have sub1:∀k,aJ (x.asg 0) k=J->aJ ((TC.zn A x y).asg 0) k=J:=λk z=>by simp only[TC.asg];exact kj (uX z)
  have sub2:∀k,aJ (y.asg 0) k=J->aJ ((TC.zn A x y).asg 0) k=J:=λk z=>by simp only[TC.asg];exact uX z
  have sub3:∀k,aJ (N2 A.ks 0) k=J->aJ ((TC.zn A x y).asg 0) k=J:=λk z=>by simp only[TC.asg];exact kj (kj z)
  rcases Z0 h with ⟨d,h3,h4⟩|h3
  .refine wp_seq (wp_mono (ihx cx h1 _ s _ _ h3 φ a w g) ?_);rintro e a' w' ⟨ex,s',φ',rfl,z,g',st,kp⟩;cases ex with
   |normal=>
    simp only[]at z;let⟨d',q1,L⟩:=dO z;simp only[af,Sum.inr.injEq]at L;subst L;split at h4
    .rename_i s1 hs1;let⟨φ1,g1,Ku⟩:=Rj g' q1 hs1 λk _ _ v hv hf ha v' hv'=>by
      let⟨v0,e1,e2⟩:=kp k ha v' hv';rw[hv]at e1;cases e1;exact e2 hf
     refine wp_mono (ihy cy h2 R s1 K r h4 φ1 a' w' g1) ?_;rintro e2 a2 w2 ⟨ex2,s2,φ2,rfl,hk2,g2,st2,kp2⟩;exact⟨ex2,s2,φ2,rfl,hk2,g2,(st.trans Ku).trans st2,((Gu hs1).1.mono sub3).trans (kp2.mono sub2)⟩
    .cases h4
   |_=>simp only[]at z;let⟨_,_,L⟩:=dO z;simp at L
  .refine wp_seq (wp_mono (ihx cx h1 _ s _ _ h3 φ a w g) ?_);rintro e a' w' ⟨ex,s',φ',rfl,z,g',st,kp⟩;cases ex with
   |normal=>simp only[]at z;let⟨_,_,L⟩:=dO z;simp at L
   |exit id=>
    simp only[]at z;let⟨r',q1,L⟩:=dO z;simp only[af,Sum.inl.injEq]at L;subst L;exact⟨.exit id,s',φ',rfl,q1,g',st,kp.mono sub1⟩
   |ret=>
    simp only[]at z;let⟨r',q1,L⟩:=dO z;simp only[af,Sum.inl.injEq]at L;subst L;exact⟨.ret,s',φ',rfl,q1,g',st,kp.mono sub1⟩
 |@cond t x y x' y' _ _ ihx ihy=>
  intro c hc R s K r h φ a w g;let⟨c',hn,N,hsim⟩:=lU P i c;refine hsim _ _ _ ?_;rw[<- N]at hc;obtain⟨cx,cy,rfl,h1,h2⟩:=agm hn hc;simp only[oS]at h;split at h
  .rename_i b hb;rcases lF h with ⟨rfl,h⟩|⟨rfl,h⟩
   .refine wp_cond_true (g.bool hb) (wp_mono (ihx cx h1 R s K r h φ a w g) ?_);rintro e a' w' ⟨ex,s',φ',rfl,z,g',st,kp⟩;exact⟨ex,s',φ',rfl,z,g',st,kp.mono λk z=>by simp only[TC.asg];exact kj z⟩
   .refine wp_cond_false (g.bool hb) (wp_mono (ihy cy h2 R s K r h φ a w g) ?_);rintro e a' w' ⟨ex,s',φ',rfl,z,g',st,kp⟩;exact⟨ex,s',φ',rfl,z,g',st,kp.mono λk z=>by simp only[TC.asg];exact uX z⟩
  .rename_i hb;let⟨ha,hbb⟩:=ad0 h;let⟨bv,hbv⟩:=g.qw hb;cases bv with
   |true=>
    refine wp_cond_true hbv (wp_mono (ihx cx h1 R s K r ha φ a w g) ?_);rintro e a' w' ⟨ex,s',φ',rfl,z,g',st,kp⟩;exact⟨ex,s',φ',rfl,z,g',st,kp.mono λk z=>by simp only[TC.asg];exact kj z⟩
   |false=>
    refine wp_cond_false hbv (wp_mono (ihy cy h2 R s K r hbb φ a w g) ?_);rintro e a' w' ⟨ex,s',φ',rfl,z,g',st,kp⟩;exact⟨ex,s',φ',rfl,z,g',st,kp.mono λk z=>by simp only[TC.asg];exact uX z⟩
  .cases h
 |@block id b b' _ ih=>
  intro c hc R s K r h φ a w g;let⟨c',hn,N,hsim⟩:=lU P i c;refine hsim _ _ _ ?_;rw[<- N]at hc;obtain⟨cb,rfl,h1⟩:=PI hn hc;simp only[oS]at h;refine wp_block (wp_mono (ih cb h1 R s _ r h φ a w g) ?_);rintro e a' w' ⟨ex,s',φ',rfl,z,g',st,kp⟩;cases ex with
  |normal=>exact⟨.normal,s',φ',rfl,z,g',st,kp⟩
  |ret=>exact⟨.ret,s',φ',rfl,z,g',st,kp⟩
  |exit nt=>
   simp only[Ex.to,Exit.inBlock];simp only[]at z;split at z
   next hb=>rw[aD (au hb)];exact⟨.normal,s',φ',rfl,z,g',st,kp⟩
   next hb=>rw[av (λe=>hb (by rw[e];exact fm id))];exact⟨.exit nt,s',φ',rfl,z,g',st,kp⟩
 |@zj A id b b' _ ih=>
  intro c hc R s K r h φ a w g;let⟨c',hn,N,hsim⟩:=lU P i c;refine hsim _ _ _ ?_;rw[<- N]at hc;obtain⟨cb,rfl,h1⟩:=PI hn hc;simp only[oS]at h;have sub1:∀k,aJ (b.asg 0) k=J->aJ ((TC.zj A id b).asg 0) k=J:=λk z=>by simp only[TC.asg];exact uX z
  have sub3:∀k,aJ (N2 A.ks 0) k=J->aJ ((TC.zj A id b).asg 0) k=J:=λk z=>by simp only[TC.asg];exact kj z
  rcases Z0 h with ⟨d,h3,h4⟩|h3
  .refine wp_block (wp_mono (ih cb h1 _ s _ _ h3 φ a w g) ?_);rintro e a' w' ⟨ex,s',φ',rfl,z,g',st,kp⟩;have fin:aA (Oy j A (b.asg 0) s s') (λx=>Z (bW (α:=R) x))=Z (bW d)->ao1 P E i j φ s w ((TC.zj A id b).asg 0) K r .normal a' w':=by
    intro z;let⟨d',q1,L⟩:=dO z;simp only[af,Sum.inr.injEq]at L;subst L;split at h4
    .rename_i s1 hs1;let⟨φ1,g1,Ku⟩:=Rj g' q1 hs1 λk _ _ v hv hf ha v' hv'=>by
      let⟨v0,e1,e2⟩:=kp k ha v' hv';rw[hv]at e1;cases e1;exact e2 hf
     exact⟨.normal,s1,φ1,rfl,h4,g1,st.trans Ku,(Gu hs1).1.mono sub3⟩
    .cases h4
   cases ex with
   |normal=>exact fin z
   |ret=>simp only[]at z;let⟨_,_,L⟩:=dO z;simp at L
   |exit nt=>
    simp only[Ex.to,Exit.inBlock];simp only[]at z;split at z
    next hb=>rw[aD (au hb)];exact fin z
    .obtain⟨_,_,L⟩:=dO z;simp at L
  .refine wp_block (wp_mono (ih cb h1 _ s _ _ h3 φ a w g) ?_);rintro e a' w' ⟨ex,s',φ',rfl,z,g',st,kp⟩;cases ex with
   |normal=>simp only[]at z;let⟨_,_,L⟩:=dO z;simp at L
   |ret=>
    simp only[]at z;let⟨r',q1,L⟩:=dO z;simp only[af,Sum.inl.injEq]at L;subst L;exact⟨.ret,s',φ',rfl,q1,g',st,kp.mono sub1⟩
   |exit nt=>
    simp only[Ex.to,Exit.inBlock];simp only[]at z;split at z
    .obtain⟨_,_,L⟩:=dO z;simp at L
    next hb=>rw[av (λe=>hb (by rw[e];exact fm id))];let⟨r',q1,L⟩:=dO z;simp only[af,Sum.inl.injEq]at L;subst L;exact⟨.exit nt,s',φ',rfl,q1,g',st,kp.mono sub1⟩
 |@loop A b b' _ ih=>
  intro c hc R s K r h φ a w g;let⟨c',hn,N,hsim⟩:=lU P i c;refine hsim _ _ _ ?_;rw[<- N]at hc;obtain⟨cb,rfl,h1⟩:=Uc hn hc;simp only[oS]at h;let⟨x0,hx0,h⟩:=dO h;let⟨n,hn⟩:=abp h;have sub1:∀k,aJ (b.asg 0) k=J->aJ ((TC.loop A b).asg 0) k=J:=λk z=>by simp only[TC.asg];exact uX z
  have sub3:∀k,aJ (N2 A.ks 0) k=J->aJ ((TC.loop A b).asg 0) k=J:=λk z=>by simp only[TC.asg];exact kj z
  obtain⟨step,hstep⟩:∃step:A.D->M (A.D⊕R),step=λx=>(match Je A (b.asg 0) s x with
   |some s'=>oS j X W inert b s' λex s'=>(match ex with
    |.normal=>aA (Oy j A (b.asg 0) s s') λy=>Z (rh y)
    |ex=>aA (K ex s') λr=>Z (bW r))
   |none=>U):=⟨_,rfl⟩
  have hn:iterN step n x0=Z r:=by rw[hstep];exact hn
  have stepEq:∀x,step x=(match Je A (b.asg 0) s x with
   |some s'=>oS j X W inert b s' λex s'=>(match ex with
    |.normal=>aA (Oy j A (b.asg 0) s s') λy=>Z (rh y)
    |ex=>aA (K ex s') λr=>Z (bW r))
   |none=>U):=λx=>by rw[hstep]
  let Inv:Nat->Act->World->Prop:=λn a w'=>∃x s1 φ1,iterN step n x=Z r/\Je A (b.asg 0) s x=Z s1/\iY P E i j φ1 s1 a w'/\xd j φ φ1 (erHF s.h) (erHF s1.h) w w'
  have head:∀(n:Nat) (x:A.D),iterN step n x=Z r->∃s1,Je A (b.asg 0) s x=Z s1:=by
   intro n x hn;cases n with
   |zero=>cases hn
   |succ n=>
    simp only[iterN]at hn;cases hr:Je A (b.asg 0) s x with
    |some s1=>exact⟨s1,rfl⟩
    |none=>rw[stepEq,hr]at hn;cases hn
  refine Et Inv ?_ (n:=n) ?_
  .rintro n a1 w1 ⟨x,s1,φ1,hi,hr,g1,Ku⟩;cases n with
   |zero=>cases hi
   |succ n=>
    simp only[iterN]at hi;have hse:=stepEq x;rw[hr]at hse;simp only[]at hse;let⟨kp1,kp1'⟩:=Gu hr;split at hi
    .rename_i y hy;rw[hy]at hse;refine wp_mono (ih cb h1 _ s1 _ _ hse.symm φ1 a1 w1 g1) ?_;rintro e a' w' ⟨ex,s',φ',rfl,z,g',st,kp⟩;cases ex with
     |normal=>
      simp only[]at z;let⟨d',q1,L⟩:=dO z;simp only[af,Sum.inl.injEq]at L;subst L;let⟨s2,hs2⟩:=head n d' hi;let⟨φ2,g2,st2⟩:=Rj g' q1 hs2 λk hkk hks v hv hf ha v' hv'=>by
       let⟨v0,e1,e2⟩:=kp k ha v' hv';have:=kp1' k hks v0 e1;rw[hv]at this;cases this;exact e2 hf
      exact⟨n,by omega,d',s2,φ2,hi,hs2,g2,(Ku.trans st).trans st2⟩
     |_=>simp only[]at z;let⟨_,_,L⟩:=dO z;simp at L
    .rename_i r' hy;cases hi;rw[hy]at hse;refine wp_mono (ih cb h1 _ s1 _ _ hse.symm φ1 a1 w1 g1) ?_;rintro e a' w' ⟨ex,s',φ',rfl,z,g',st,kp⟩;cases ex with
     |normal=>simp only[]at z;let⟨_,_,L⟩:=dO z;simp at L
     |exit id=>
      simp only[]at z;let⟨r',q1,L⟩:=dO z;simp only[af,Sum.inr.injEq]at L;subst L;exact⟨.exit id,s',φ',rfl,q1,g',Ku.trans st,(kp1.mono sub3).trans (kp.mono sub1)⟩
     |ret=>
      simp only[]at z;let⟨r',q1,L⟩:=dO z;simp only[af,Sum.inr.injEq]at L;subst L;exact⟨.ret,s',φ',rfl,q1,g',Ku.trans st,(kp1.mono sub3).trans (kp.mono sub1)⟩
    .cases hi
  .obtain⟨s1,hs1⟩:=head n x0 hn;let⟨φ1,g1,Ku⟩:=Rj g hx0 hs1 λk _ _ v hv _ _ v' hv'=>by rw[hv]at hv';cases hv';rfl
   exact⟨x0,s1,φ1,hn,hs1,g1,Ku⟩
 |exit id=>
  intro c hc R s K r h φ a w g;let⟨c',hn,N,hsim⟩:=lU P i c;refine hsim _ _ _ ?_;rw[<- N]at hc;rw[agl hn hc];exact wp_exit ⟨.exit id,s,φ,rfl,h,g,xd.refl _ _ _ _,fw.refl _ _⟩
 |ret=>
  intro c hc R s K r h φ a w g;let⟨c',hn,N,hsim⟩:=lU P i c;refine hsim _ _ _ ?_;rw[<- N]at hc;rw[akn hn hc];exact wp_ret ⟨.ret,s,φ,rfl,h,g,xd.refl _ _ _ _,fw.refl _ _⟩
 |defer f caps t=>
  intro c hc R s K r h φ a w g;simp only[oS]at h;cases h
 |@adj l tc' sc' _ ih=>
  intro c hc R s K r h φ a w g;let⟨c',hn,N,hsim⟩:=lU P i c;refine hsim _ _ _ ?_;rw[<- N]at hc;simp only[oS]at h;split at h
  next s1 hs1=>let⟨φ1,g1,Ku,kp1⟩:=Ss g hs1;refine wp_mono (ih c' hc R s1 K r h φ1 a w g1) ?_;rintro e a' w' ⟨ex,s',φ',rfl,z,g',st,kp⟩;exact⟨ex,s',φ',rfl,z,g',Ku.trans st,(kp1.mono λk z=>by simp only[TC.asg];exact kj z).trans (kp.mono λk z=>by simp only[TC.asg];exact uX z)⟩
  .cases h
 |@split k off lo n tc' sc' _ ih=>
  intro c hc R s K r h φ a w g;let⟨c',hn,N,hsim⟩:=lU P i c;refine hsim _ _ _ ?_;rw[<- N]at hc;simp only[oS]at h;split at h
  .rename_i kd v hv;let⟨np,hj,h2⟩:=Te h;subst hj;split at h2
   .rename_i s1 hs1;let⟨g1,hH,he⟩:=af2 g hv hs1;refine wp_mono (ih c' hc R s1 K r h2 φ a w g1) ?_;rintro e a' w' ⟨ex,s',φ',rfl,z,g',st,kp⟩;exact⟨ex,s',φ',rfl,z,g',by rw[<- hH];exact st,λk z v' hv'=>by
     let⟨v,q1,L⟩:=kp k z v' hv';exact⟨v,by rw[<- he];exact q1,L⟩⟩
   .cases h2
  .cases h
 |@bsp t x y sc' _ _ ihx ihy=>
  intro c hc R s K r h φ a w g;simp only[oS]at h;split at h
  .rename_i v hv;rcases lF h with ⟨rfl,h⟩|⟨rfl,h⟩
   .have he:∀q,(s.e.set t (Z (.f .bool J))).get q=s.e.get q:=λq=>by
     rw[PT.get_set];split
     next e=>subst e;exact hv.symm
     .rfl
    let⟨g1,hH⟩:=g.congr (s':=⟨s.e.set t (Z (.f .bool J)),s.h,s.nx⟩) he (λ_=>rfl) rfl;refine wp_mono (ihx c hc R _ K r h φ a w g1) ?_;rintro e a' w' ⟨ex,s',φ',rfl,z,g',st,kp⟩;exact⟨ex,s',φ',rfl,z,g',by rw[<- hH];exact st,λk z v' hv'=>by
     let⟨v,q1,L⟩:=(kp.mono λk z=>by simp only[TC.asg];exact kj z) k z v' hv';exact⟨v,by rw[<- he];exact q1,L⟩⟩
   .have he:∀q,(s.e.set t (Z (.f .bool aa))).get q=s.e.get q:=λq=>by
     rw[PT.get_set];split
     next e=>subst e;exact hv.symm
     .rfl
    let⟨g1,hH⟩:=g.congr (s':=⟨s.e.set t (Z (.f .bool aa)),s.h,s.nx⟩) he (λ_=>rfl) rfl;refine wp_mono (ihy c hc R _ K r h φ a w g1) ?_;rintro e a' w' ⟨ex,s',φ',rfl,z,g',st,kp⟩;exact⟨ex,s',φ',rfl,z,g',by rw[<- hH];exact st,λk z v' hv'=>by
     let⟨v,q1,L⟩:=(kp.mono λk z=>by simp only[TC.asg];exact uX z) k z v' hv';exact⟨v,by rw[<- he];exact q1,L⟩⟩
  .cases h
 |@unl n b b' _ ih=>
  intro c hc R s K r h φ a w g;let⟨c',hn,N,hsim⟩:=lU P i c;refine hsim _ _ _ ?_;rw[<- N]at hc;obtain⟨cb,rfl,h1⟩:=Uc hn hc;simp only[oS]at h
  let Inv:Nat->Act->World->Prop:=λm a w'=>∃s1 φ1,aji (λs K=>oS j X W inert b s K) m s1 K=Z r/\iY P E i j φ1 s1 a w'/\xd j φ φ1 (erHF s.h) (erHF s1.h) w w'/\fw (b.asg 0) s.e s1.e
  refine Et Inv ?_ (n:=n) ⟨s,φ,h,g,xd.refl _ _ _ _,fw.refl _ _⟩;rintro m a1 w1 ⟨s1,φ1,hi,g1,Ku,kp1⟩;cases m with
  |zero=>cases hi
  |succ m=>
   simp only[aji]at hi;refine wp_mono (ih cb h1 R s1 _ r hi φ1 a1 w1 g1) ?_;rintro e a' w' ⟨ex,s',φ',rfl,z,g',st,kp⟩;cases ex with
   |normal=>exact⟨m,nX m,s',φ',z,g',Ku.trans st,kp1.trans kp⟩
   |exit id=>exact⟨.exit id,s',φ',rfl,z,g',Ku.trans st,kp1.trans kp⟩
   |ret=>exact⟨.ret,s',φ',rfl,z,g',Ku.trans st,kp1.trans kp⟩
 |zd sc'=>
  intro c hc R s K r h;simp[oS]at h
def QX {s:TS} (hinv:gM s.h s.nx) (hiE:sB s.e s.h) (r:sh V O (erHF s.h) w) (en:Qy V (tot O V (erHF s.h)) w (fC s.e s.h) Q):∀(N:Y ResultVar) (rvs:Y RV) (l:Y TV),w9 P N=Z rvs->Tp s rvs=Z l->
 ∃la vs,cI s.h l=Z la/\(N.mapM (afb Q.tmps)).run P w= .ok vs w/\lH V (tot O V (erHF s.h)) w la vs
 |[],rvs,l,A,z=>by
  simp[w9,af]at A;subst A;simp[Tp,af]at z;subst z;exact⟨[],[],rfl,by simp,trivial⟩
 |.tmp t::N,rvs,l,A,z=>by
  simp[w9]at A;split at A
  .rename_i rvs' hrs;simp[af]at A;subst A;simp[Tp]at z;split at z
   .rename_i v D;split at z
    next l' L=>simp[af]at z;subst z;let⟨la,vs,h0,h1,h2⟩:=QX hinv hiE r en N rvs' l' hrs L;simp[rvT]at D;let⟨y,hy⟩:=oc s.h v (hiE t v D);refine ⟨y::la,Q.tmps.getD t undef::vs,p_ hy h0,?_,en t y (by simp[fC,D,aC,hy]),h2⟩;simp[List.mapM_cons,fk,afb,wD,cR];simp_all
    .cases z
   .cases z
  .cases A
 |.cell ad t::N,rvs,l,A,z=>by
  simp[w9]at A;split at A
  .rename_i rvs' sz ag hrs hsz hag;simp[af]at A;subst A;simp[Tp]at z;split at z
   .rename_i v D;split at z
    .rename_i l' L;simp[af]at z;subst z;let⟨la,vs,h0,h1,h2⟩:=QX hinv hiE r en N rvs' l' hrs L;simp[rvT]at D;split at D
     .rename_i id off hp;split at D
      .rename_i ty q hb;let⟨q',hq'⟩:=eR s.h q (hinv.C id _ q hb);let⟨y,e1,e2⟩:=Zm hq' D;let⟨H,hH⟩:=gu s.h;have hR:xc H sz ag (.H (nm id) off)=Z ⟨y,[nm id],[],[],[]⟩:=by
        have hg:H.get (nm id)=Z ⟨ty,.mx q'⟩:=by rw[hH,bE,hb];simp[aC,jJ,hq']
        simp[xc,hg,e2]
       let⟨_,_,_,h3⟩:=Wj (P:=P) hsz hag hR;let⟨qq,v',h4,h5,h6⟩:=h3 V O (erHF s.h) w _ (λi _=>by rw[hH]) r (en ad _ (by simp[fC,hp,aC,bZ]));refine ⟨y::la,v'::vs,p_ e1 h0,?_,h6,h2⟩;have hone:(afb Q.tmps (.cell ad t)).run P w= .ok v' w:=by
        simp[afb,fk,h4,asAddr,wD,cR,h5]
       simp_all
      .cases D
     .cases D
    .cases z
   .cases z
  .cases A
def HB:∀(args:Y TV) (k t:Nat) (x:TV),(Nd k args).get t=Z x->k<=t/\args[t-k]? =Z x
 |[],k,t,x,h=>by simp[Nd,PT.get]at h
 |y::args,k,t,x,h=>by
  rw[Nd,PT.get_set]at h;split at h
  .grind
  .obtain⟨h1,z⟩:=HB args (k+1) t x h
   grind
variable {r:Y TV}
def afx (A:lJ h r=J) (L:r[j]? =Z u):NZ h u=J:=by
 let⟨l',D⟩:=eR h r A;let⟨y,_,z⟩:=ly D j u L;exact Hi _ _ _ z
variable {f:FuncId}
def Xj {inert:FuncId->Bool} (hm:P.follows .mixedOrders=J) (hcon:Gg P X) (hin:SD P inert) {sf:SF} (hf:BQ P f=Z sf) (D:FT) (m:D.pre.ty.den->M D.post.ty.den) (hmod:∀x y,m x=Z y->aev X W inert (Z sf) D x=Z y):qX P f ⟨D.pre,D.post,m⟩:=by
 let⟨fn,c,hfn,hb,hnm,hcode,hres,hnt⟩:=V8 hf;refine ⟨⟨fn,hfn,by rw[hb];rfl,hnm⟩,λx y hxy vs hp l1 rs hq l2 la lr I B hla hlr φ E w us hrep hrel hdom=>?_⟩;have ht:=hmod x y hxy;unfold aev at ht;simp only[]at ht;split at ht
 .rename_i args h hins;let⟨l1',I'⟩:=yg hins;have e1:args=vs:=by have h1:=I.pv;have N:=I'.pv;rw[h1]at N;cases N;rfl
  have e2:l1'=l1:=by have h1:=I.pb;have N:=I'.pb;rw[h1]at N;cases N;rfl
  subst e1 e2;have hget:∀i,h.get i=hp.get i:=λi=>by
   cases h3:hp.get i with
   |some b=>exact (I'.at_ i b).2 ((I.at_ i b).1 h3)
   |none=>
    cases h4:h.get i with
    |none=>rfl
    |some b=>have:=(I.at_ i b).2 ((I'.at_ i b).1 h4);rw[h3]at this;cases this
  have hrow:∀i,eg h i=eg hp i:=λi=>by rw[bw,bw,hget]
  have herH:erHF h=erHF hp:=by
   funext n;unfold erHF;rw[hget];cases h3:hp.get (ow n) with
   |none=>rfl
   |some b=>
    simp only[aC];refine md (λi r hr=>by rw[hrow];exact hr) (λty l e=>?_) _ _;exact (I.C _ _ l (by rw[h3,e])).1
  have hla':cI h args=Z la:=fT (λi r hr=>by rw[hrow];exact hr) args la hla;split at ht
  .rename_i hle;simp only[al]at hle;have hle2:=aV hle.2;have hle:=aV hle.1;have hlen:=hrel.length;have hargl:args.length=la.length:=(gK hla).symm;refine calls_of_wp_defers hfn hb ?_;have hcfg:iY P E fn.ntmps D.pre.bs.length φ ⟨Nd 0 args,h,D.pre.bs.length⟩ {tmps:=us.toArray++yR (fn.ntmps-us.toArray.size) undef,defers:=[]} w:=by
    refine ⟨by rw[herH];exact hrep,?_,hdom,bO _,⟨λi ty l hl=>(I'.C i _ l hl).1,λi b hbb=>I'.lt_len hbb⟩,?_,by simp,by simp;omega⟩
    .intro t z hz;simp only[fC]at hz;cases hx:(Nd 0 args).get t with
     |none=>rw[hx]at hz;cases hz
     |some v0=>
      rw[hx]at hz;let⟨_,N⟩:=HB args 0 t v0 hx;rw[Nat.sub_zero]at N;let⟨y0,q1,q2⟩:=ly hla' t v0 N;simp only[aC]at hz;rw[hz]at q2;cases q2;let⟨v,h3,h4⟩:=hrel.get t z q1;have hlt:t<us.length:=(bB.1 h3).1;have:(us.toArray++yR (fn.ntmps-us.toArray.size) undef).getD t undef=v:=by
       rw[jX,Array.getElem?_append]
       grind
      grind
    .intro t v0 hv0;let⟨_,N⟩:=HB args 0 t v0 hv0;exact afx I'.ok N
   refine wp_mono (aoh (E:=E) hm hcon hin (zQ D.hints sf.code 0) c hcode.symm _ _ _ _ ht φ _ w hcfg) ?_;rintro e a' w' ⟨ex,s',φ',rfl,L,g',st,_⟩;have fin:∀(s':TS) (φ':PM),iY P E fn.ntmps D.pre.bs.length φ' s' a' w'->xd D.pre.bs.length φ φ' (erHF h) (erHF s'.h) w w'->(match Tp s' sf.res with
    |some l=>(match D2 D.pre.bs.length D.post l s'.h with
     |some ⟨y,_,_,_⟩=>(match C_ D.post y with|some _=>Z y|none=>U)
     |none=>U)
    |none=>U)=Z y->Leaves P fn a'.tmps (λen w'=>∃v φ',en= .returned v/\Ge (own φ (erHF hp)) w w'/\(∀k,k<w.heap.size->own φ' (erHF hq) k->own φ (erHF hp) k)/\(∀n,ow n<D.pre.bs.length->φ' n=φ n)/\sh φ' E (erHF hq) w'/\co φ' (tot E φ' (erHF hq)) w' (Ev lr) v) a'.defers .returning w':=by
    intro s' φ' g' st L;split at L
    .rename_i l hl;split at L
     .rename_i y' m' σ sm hM;split at L
      .cases L;let⟨lo,rvs,q0,q1,q2⟩:=QX g'.qz g'.qb g'.qn g'.env fn.results.toList sf.res l hres hl;have A:=x_ hM;let⟨φ2,lu,hlu,S⟩:=NR (np:=D.pre.bs.length) (E:=E) B g'.qz A q0 g'.qn;rw[hlr]at hlu;cases hlu;have hresults:(results fn a'.tmps).run P w'= .ok (if h:rvs.toArray.size=1 then rvs.toArray[0] else .tuple rvs.toArray) w':=by
        rw[Xw,Array.mapM_eq_mapM_toList];simp only[fk,Sem.run_map,q1,cR,wD]
       have hrl:lH φ2 (tot E φ2 (erHF hq)) w' lr rvs:=by
        refine lH.of (by rw[q2.length,S.len]) λj z v hz hv=>?_
        let⟨z0,p1,p2⟩:=S.val j z v hz;let⟨v',p3,p4⟩:=q2.get j z0 p1;rw[hv]at p3;cases p3;exact p2 p4
       have hval:co φ2 (tot E φ2 (erHF hq)) w' (Ev lr) (if h:rvs.toArray.size=1 then rvs.toArray[0] else .tuple rvs.toArray):=by
        have hll:=hrl.length;clear hlr S;cases lr with
        |nil=>
         cases rvs with
         |nil=>exact co.qg (vs:=[]) rfl (by intro j x v hx;simp at hx)
         |cons _ _=>exact hrl.elim
        |cons z lr=>
         cases rvs with
         |nil=>exact hrl.elim
         |cons v rvs=>
          cases lr with
          |nil=>
           cases rvs with
           |nil=>exact hrl.1
           |cons _ _=>exact hrl.2.elim
          |cons y l=>
           cases rvs with
           |nil=>exact hrl.2.elim
           |cons u rvs=>
            rw[dif_neg (by simp)];refine co.qg (vs:=v::u::rvs) (by simpa using hll) λj x' v' hx hv=>?_
            let⟨v'',q1,q2⟩:=hrl.get j x' hx;rw[hv]at q1;cases q1;exact q2
       have st':xd D.pre.bs.length φ φ' (erHF hp) (erHF s'.h) w w':=by rw[<- herH];exact st
       refine EX hresults ⟨_,φ2,rfl,st'.ext,λk L ho=>st'.qr k L (S.qr k ho),λi hi=>?_,S.qn,hval⟩ a'.defers g'.inert;rw[S.par i hi (dw hi hle2),st'.par i hi]
      .cases L
     .cases L
    .cases L
   have fin2:(match Wl s' (at7 D) with
    |some s=>(match Tp s sf.res with
     |some l=>(match D2 D.pre.bs.length D.post l s.h with
      |some ⟨y,_,_,_⟩=>(match C_ D.post y with|some _=>Z y|none=>U)
      |none=>U)
     |none=>U)
    |none=>U)=Z y->Leaves P fn a'.tmps (λen w'=>∃v φ',en= .returned v/\Ge (own φ (erHF hp)) w w'/\(∀k,k<w.heap.size->own φ' (erHF hq) k->own φ (erHF hp) k)/\(∀n,ow n<D.pre.bs.length->φ' n=φ n)/\sh φ' E (erHF hq) w'/\co φ' (tot E φ' (erHF hq)) w' (Ev lr) v) a'.defers .returning w':=by
    intro L;split at L
    next s2 ha=>let⟨φ3,c3,t3,_⟩:=Ss g' ha;exact fin s2 φ3 c3 (st.trans t3) L
    .cases L
   cases ex with
   |exit id=>cases L
   |_=>exact fin2 L
  .cases ht
 .cases ht
abbrev z!:=FuncId×cA
def YR:Y z!->FuncId->M cA
 |[],_=>U
 |(g,c)::r,f=>if ay g f then Z c else YR r f
def O9 (P:Program):Y z!->Prop
 |[]=>True
 |p::r=>aK P (p.1%65536) p.2/\O9 P r
def aaf :∀{l:Y z!},O9 P l->Gg P (YR l)
 |[],_,f,c,h=>by simp[YR]at h
 |(g,d)::r,z,f,c,h=>by
  simp only[YR]at h;split at h
  next A=>have:=au A;subst this;cases h;exact z.1
  .exact aaf z.2 f c h
def UK {inert:FuncId->Bool} (hm:P.follows .mixedOrders=J) (hin:SD P inert) {l:Y z!} (A:O9 P l) {D:FT} {m:D.pre.ty.den->M D.post.ty.den} (z:(BQ P f).isSome=J) (he:∀x,aev (YR l) W inert (BQ P f) D x=m x):qX P f ⟨D.pre,D.post,m⟩:=by
 let⟨L,hf⟩:=iZ.1 z;exact Xj hm (aaf A) hin hf D m λx y hxy=>by rw[<- hf,he];exact hxy
def qX.sub {pre post:Tm} {m m':pre.ty.den->M post.ty.den} (h:qX P f ⟨pre,post,m⟩) (z:∀x y,m' x=Z y->m x=Z y):qX P f ⟨pre,post,m'⟩:=
 ⟨h.zw,λx y hxy=>h.calls x y (z x y hxy)⟩
def aK.sub {P:Program} {f:FuncId} {pre post:Tm} {m m':pre.ty.den->M post.ty.den} (h:aK P f ⟨pre,post,m⟩) (z:dF (l! pre.bs) (l! post.bs)=J) (A:∀x y,m' x=Z y->m x=Z y):aK P f ⟨pre,post,m'⟩:=
 ((h.holds z).sub A).toC z
def s8 {b:Nat}:∀(x y:Y R),chk (bf (ah x) b) (λ_=>Z x)=Z y->aH (ay (ah x) 0) (Hz (Z ([]:Y R)) (chk (bf (ah ([]:Y R)+ah x) b) λ_=>(Z (([]:Y R)++x)))) (chk (bf (ah ([]:Y R)+ah x) b) λ_=>(Z (([]:Y R)++x)))=Z y:=by
 intro x y h;rw[kT,mR,bT,h];cases x with
 |nil=>
  let⟨_,h⟩:=cF h;cases h;show Hz (Z []) (Z [])=_;unfold Hz;rw[aD rfl]
 |cons a r=>rfl
def Yd {pre post:Tm} (z:(BQ P f).isSome=J):qX P f ⟨pre,post,λ_=>U⟩:=by
 let⟨D,hf⟩:=iZ.1 z;let⟨fn,c,hfn,A,hnm,_⟩:=V8 hf;exact⟨⟨fn,hfn,by rw[A];rfl,hnm⟩,λx y h=>by cases h⟩
def qX.orElse {pre post:Tm} {m m':pre.ty.den->M post.ty.den} (h:qX P f ⟨pre,post,m⟩) (h':qX P f ⟨pre,post,m'⟩):qX P f ⟨pre,post,λx=>match m x with|some y=>Z y|none=>m' x⟩:=
 ⟨h.zw,λx y hxy=>by
   cases hm:m x with
   |some z=>rw[show (cA.m ⟨pre,post,λx=>match m x with|some y=>Z y|none=>m' x⟩ x)=Z z by show (match m x with|some y=>Z y|none=>m' x)=Z z;rw[hm]]at hxy;cases hxy;exact h.calls x _ hm
   |none=>rw[show (cA.m ⟨pre,post,λx=>match m x with|some y=>Z y|none=>m' x⟩ x)=m' x by show (match m x with|some y=>Z y|none=>m' x)=m' x;rw[hm]]at hxy;exact h'.calls x y hxy⟩
def aK.orE {pre post:Tm} {m m':pre.ty.den->M post.ty.den} (z:dF (l! pre.bs) (l! post.bs)=J) (h:aK P f ⟨pre,post,m⟩) (h':aK P f ⟨pre,post,m'⟩):aK P f ⟨pre,post,λx=>AI.orE (m x) (m' x)⟩:=by
 have e:(λx=>AI.orE (m x) (m' x))=λx=>match m x with|some y=>Z y|none=>m' x:=by funext x;cases m x<;>rfl
 rw[e];exact ((h.holds z).orElse (h'.holds z)).toC z
def inert (_:FuncId):Bool:=aa
def Ud:SD Tryz.prog inert:=λ_ h=>by cases h
def dR :Y (Nat×R)->PT R
 |[]=>.leaf
 |p::r=>(dR r).set p.1 (Z p.2)
noncomputable abbrev Pg:Program:=Tryz.prog
def cn (D:FT) (m:D.pre.ty.den->M D.post.ty.den):cA:=⟨D.pre,D.post,m⟩
def at0:Pg.follows .mixedOrders=J:=by kernel_rfl
def ac {c:cA} {l:Y z!} (h:aK Pg f c) (t:O9 Pg l) (hf:dY f 65536=J:=by rfl):O9 Pg ((f,c)::l):=⟨by rw[wH (Sm hf)];exact h,t⟩
def ac2 {c:cA} {l:Y z!} (q:FuncId) (z:q%65536=f) (h:aK Pg f c) (t:O9 Pg l):O9 Pg ((q,c)::l):=⟨by rw[z];exact h,t⟩
def an:O9 Pg []:=trivial
inductive OI {R:Type}:Option R->Option R->Prop where
 |rfl {a:Option R}:OI a a
 |chk {b:Bool} {k k':Option R} (h:mP k k'):OI (chk b λ_=>k) (chk b λ_=>k')
 |aH {b:Bool} {t f t' f':Option R} (h1:mP t t') (h2:mP f f'):OI (aH b t f) (aH b t' f')
 |lt {α:Type} {x:α} {k k':α->Option R} (h:∀y,mP (k y) (k' y)):OI (lt x k) (lt x k')
 |jn {α:Type} {o o':Option (R⊕α)} {k k':α->Option R} (h:mP o o') (hk:∀x,mP (k x) (k' x)):OI (jn o k) (jn o' k')
 |aA {α:Type} {o o':Option α} {k k':α->Option R} (h:mP o o') (hk:∀x,mP (k x) (k' x)):OI (aA o k) (aA o' k')
 |iter {σ:Type} {f g:σ->Option (σ⊕R)} {x:σ} (h:∀x,mP (f x) (g x)):OI (gZ f x) (iter g x)
def OI.o {a b:M R} (h:OI a b):mP a b:=by
 cases h with
 |rfl=>exact mP.rfl
 |chk h=>exact mP.chk h
 |aH h g=>exact mP.bcase h g
 |lt h=>exact mP.lt h
 |jn h g=>exact mP.jn h g
 |aA h g=>exact mP.obind h g
 |iter h=>exact mP.iter h
def mk (D:FT) (m:D.pre.ty.den->M D.post.ty.den) {l:Y z!} (N:O9 Pg l) (z:TypeId->M Ty) (he:∀x,aev (YR l) z inert (BQ Pg f) D x=m x:=by intro x;kernel_rfl) (A:(BQ Pg f).isSome=J:=by kernel_rfl) (L:dF (l! D.pre.bs) (l! D.post.bs)=J:=by kernel_rfl):aK Pg f (cn D m):=(UK at0 Ud N A he).toC L
def CE (D:FT) (m n:D.pre.ty.den->M D.post.ty.den) (L:∀x,mP (m x) (n x)) {l:Y z!} (ha:O9 Pg l) (z:TypeId->M Ty) (he:∀x,aev (YR l) z inert (BQ Pg f) D x=n x:=by intro x;kernel_rfl) (A:(BQ Pg f).isSome=J:=by kernel_rfl) (N:dF (l! D.pre.bs) (l! D.post.bs)=J:=by kernel_rfl):aK Pg f (cn D m):=((UK at0 Ud ha A he).sub L).toC N
def H7 (D:FT) (z:(BQ Pg f).isSome=J:=by kernel_rfl) (A:dF (l! D.pre.bs) (l! D.post.bs)=J:=by kernel_rfl):aK Pg f (cn D λ_=>U):=(Yd z).toC A
abbrev aL:Ty:=(.int .i64)
abbrev mf:Ty:=(.st (.pr .str (.pr aL (.pr aL (.pr .bool aL)))))
abbrev s9:Ty:=(.st (.pr .str .bool))
abbrev pO:Ty:=(.st (.pr aL (.pr aL aL)))
abbrev mT:Ty:=(.st (.pr (.sl mf) (.pr (.sl s9) (.pr (.sl itK) (.pr (.sl .str) (.pr (.sl .str) (.sl pO)))))))
abbrev JP:Ty:=(.sl (.sl aL))
abbrev e_:Ty:=(.st (.pr aL (.pr (.sl aL) (.pr JP aL))))
abbrev sx:Ty:=(.st (.pr aL (.pr aL (.pr aL (.pr aL (.pr aL aL))))))
abbrev dQ:Ty:=(.st (.pr aL (.sl aL)))
abbrev ub:Ty:=(.sl .bool)
abbrev aiz:Ty:=(.pr aL (.pr aL .bool))
abbrev il:Ty:=(.st aiz)
abbrev Gl:Ty:=(.st (.pr (.sl dQ) (.pr aL (.pr ub (.sl il)))))
abbrev iC:Ty:=(.st (.pr aL (.pr aL (.pr aL (.pr aL (.pr aL (.pr (.sl aL) (.sl aL))))))))
abbrev I9:Ty:=(.st (.pr aL (.pr aL (.pr .str (.pr aL (.pr aL .str))))))
abbrev uw:Ty:=(.st (.pr .str (.pr aL (.pr (.sl .str) (.sl .sm)))))
abbrev Qx:Ty:=(.st (.pr (.sl I9) (.sl uw)))
abbrev yL:Ty:=(.st (.pr aL (.sl sx)))
abbrev wc:Ty:=(.st (.pr mT (.sl yL)))
abbrev xC:Ty:=(.st (.pr Gl (.pr (.sl aL) (.pr (.sl aL) (.sl e_)))))
abbrev nI:Ty:=(.st (.pr Gl (.pr (.sl aL) (.pr (.sl aL) (.sl aL)))))
abbrev Gd:Ty:=(.sl (.int .u8))
abbrev AL:Ty:=(.st (.pr Gd aL))
abbrev fI:Ty:=(.st (.pr aL aL))
abbrev sA:Ty:=(.st (.pr mT (.sl iC)))
abbrev r?:=Int×Int×Bool×Int
abbrev Wq:=(ζ×r?)
abbrev nH:=(Y Wq)
abbrev F!:=ζ×Bool
abbrev mN:=(Y F!)
abbrev jS:=(ζ×Int)
abbrev di:=(Y ζ)
abbrev c!:=nH×mN×(Y jS)×di×di×Y π
abbrev eC:=c!
abbrev i?:=Int×Int
abbrev tH:=(nH×mN×(Y jS)×di×di×(Y π)×di×i?)
abbrev k!:=Int×η
abbrev jR:=(Y k!)
abbrev e?:=Int×Int×Bool
abbrev dX:=e?
abbrev h?:=(θ)×Y dX
abbrev v?:=jR×Int×h?
abbrev qV:=v?
abbrev k?:=Int×(η)×(Y η)×Int
abbrev xy:=k?
abbrev me:=(ω)
abbrev b?:=Int×Int×Int×Int×Int×(η)×η
abbrev im:=b?
abbrev A!:=Int×Int×(ζ)×Int×Int×ζ
abbrev apw:=A!
abbrev yI:=(Y apw)
abbrev yH:=(ζ×Int×di×Y Sx)
abbrev K?:=Bool×Bool
abbrev T?:=Int×Int×Bool×Bool×K?
abbrev Em:=T?
abbrev y!:=eC×Y (Int×Y me)
abbrev El:=y!
abbrev Ga:=(υ)
abbrev f?:=(η)×(η)×η
abbrev R!:=qV×f?
abbrev j9:=R!
abbrev n!:=η×Int
abbrev ic:=n!
abbrev h!:=qV×(η)×(η)×Y xy
abbrev zV:=h!
abbrev Y6:=(Int×Int×(ζ)×(ζ)×Int×Int×ζ)
abbrev yJ:=(yI×(Y yH)×Int)
abbrev Wr:=(Bool×Y ζ)
abbrev Ya23:=(Int×Int×xy×xy×k?)
abbrev Ya24:=(xy×Int×Int×xy×k?)
abbrev V?:=Int×Int×k?
abbrev Ya25:=(xy×xy×V?)
abbrev j?:=Em×ic×Bool×Y ζ
abbrev aig:=((Y Sx)×j?)
abbrev Ya27:=(Int×Int×xy×k?)
abbrev Ya28:=(xy×V?)
abbrev Ya29:=V?
abbrev W!:=Int×j?
abbrev ad3:=W!
abbrev aif:=(Sx×j?)
abbrev e!:=yJ×(Bool×Y Sx)×di×Y ζ
abbrev am4:=(ν×e!)
abbrev g!:=tH×Y me
abbrev O2:=(Sx×g!)
abbrev F_:=(zV×im×Bool)
abbrev U?:=(Sx×Int×Int×Int)×g!
abbrev aie:=U?
abbrev am3:=(ν×j?)
abbrev am2:=(jS×j?)
abbrev ad2:=(Em×ic×Wr×Y Sx)
abbrev am1:=(Xp×j?)
abbrev Ya42:=(xy×xy×xy×i?)
abbrev aic:=((Y Sx)×g!)
abbrev be {α:Type} (l:Y α):Int:=aQ (ah l)
abbrev cN (n:Int):Int:=bl .i64 (n+1)
abbrev aG {R α:Type} (x:α):M (R⊕α):=Z (bW x)
abbrev cQ {R α:Type} (x:R):M (R⊕α):=Z (rh x)
abbrev bQ {R:Type} (T:Ty) (l:Y T.den) (j:Int) (k:T.den->M R):M R:=chk (fe j (ah l)) λ_=>lt (geti T l j) k
abbrev jY {R:Type} (T:Ty) (l:Y T.den) (j:Int) (k:T.den->M R):M R:=chk (fe j (ah l)) λ_=>chk (fe j (ah l)) λ_=>lt (geti T l j) k
abbrev nh {R α:Type} (j:Int) (l:Y α) (k:M R):M R:=chk (fe j (ah l)) λ_=>k
abbrev bX {R:Type} (b:Bool) (k:M R):M R:=chk b λ_=>k
abbrev bi {R:Type} (a b:Int) (t f:M R):M R:=aH (decide (a=b)) t f
abbrev iE {R:Type} (a b:Int) (t f:M R):M R:=aH (!decide (a=b)) t f
abbrev bM {R:Type} (a b:Int) (t f:M R):M R:=aH (fK a b) t f
abbrev j_ {R:Type} (a b:Int) (t f:M R):M R:=aH (dm a b) t f
def ck (b:Bool) (k:M R):M R:=chk b λ_=>chk b λ_=>k
def eh (s:Sx):Sx:=o6 (Sx.op s,Sx.line s,Sx.name s,Sx.arg s,Sx.index s,ef (Xp.op (Sx.expr s),Xp.n (Sx.expr s),Xp.name (Sx.expr s),Xp.l (Sx.expr s)),Sx.body s,Sx.els s)
def lC (x:Unit):M di:=
 (Z ([[118,97,114],[118,111,108,97,116,105,108,101],[109,117,116,101,120],[114,119,108,111,99,107],[99,111,110,100],[102,117,116,117,114,101],[116,104,114,101,97,100],[105,102],[101,108,115,101],[119,104,105,108,101],[108,111,99,107],[114,101,97,100],[119,114,105,116,101],[116,114,97,110,115,97,99,116,105,111,110],[97,116,111,109,105,99],[119,97,105,116],[110,111,116,105,102,121],[110,111,116,105,102,121,97,108,108],[115,112,97,119,110],[106,111,105,110],[115,101,116],[103,101,116]]))
def kD (x:ζ):M (Bool):=
 (aA (lC ()) λA=>(iter (σ:=Int) (λz=>(bM z (be A) (bQ (.str) A z λD=>(aH (decide ((D:ζ)=x)) (aG J) (cQ (cN z)))) (aG aa))) 0))
def mq (x:Int):M (Bool):=
 (jn (j_ 97 x (j_ x 122 (aG J) (j_ 65 x (aG (dm x 90)) (aG aa))) (j_ 65 x (aG (dm x 90)) (aG aa))) λz=>(Z z))
def sW (x:Int):M (Bool):=
 (jn (j_ 48 x (aG (dm x 57)) (aG aa)) λz=>(Z z))
def qD (x:Int):M (Bool):=
 (jn (aA (mq x) λA=>(aH A (aG J) (aA (sW x) λz=>(aH z (aG J) (aG (decide ((x:Int)=95))))))) λD=>(Z D))
def ft (x:ζ):M (Bool):=
 (jn (bM (be x) 1 (aG J) (bM 12 (be x) (aG J) (nh 0 x (aA (mq (ajq x 0)) λL=>(aH (!L) (aG J) (aA (kD x) λD=>(aG D))))))) λN=>(aH N (Z aa) (iter (σ:=Int) (λz=>(bM z (be x) (nh z x (aA (qD (ajq x z)) λA=>(aH (!A) (aG aa) (cQ (cN z))))) (aG J))) 0)))
def f_ (x:Bool):M (Int):=
 (aH x (Z 1) (Z 0))
def vJ (x:ν):M o?:=
 (bi x.1 4 (Z ((bl .i64 (0-x.2)),J)) (bi x.1 5 (aA (f_ (decide ((x.2:Int)=0))) λz=>(Z (z,J))) (Z (0,aa))))
def tP (x:π):M o?:=
 (bi x.1 6 (Z ((bl .i64 (x.2.1+x.2.2)),J)) (bi x.1 7 (Z ((bl .i64 (x.2.1-x.2.2)),J)) (bi x.1 8 (Z ((bl .i64 (x.2.1*x.2.2)),J)) (bi x.1 9 (bi x.2.2 0 (Z (0,J)) (bX (!decide ((x.2.2:Int)=0)) (Z ((bl .i64 (Int.tdiv x.2.1 x.2.2)),J)))) (bi x.1 10 (bi x.2.2 0 (Z (0,J)) (bX (!decide ((x.2.2:Int)=0)) (Z ((Ca x.2.1 x.2.2),J)))) (bi x.1 11 (aA (f_ (decide ((x.2.1:Int)=x.2.2))) λy1=>(Z (y1,J))) (bi x.1 12 (aA (f_ (!decide ((x.2.1:Int)=x.2.2))) λy2=>(Z (y2,J))) (bi x.1 13 (aA (f_ (fK x.2.1 x.2.2)) λy3=>(Z (y3,J))) (bi x.1 14 (aA (f_ (dm x.2.1 x.2.2)) λy4=>(Z (y4,J))) (bi x.1 15 (aA (f_ (fK x.2.2 x.2.1)) λy5=>(Z (y5,J))) (bi x.1 16 (aA (f_ (dm x.2.2 x.2.1)) λy6=>(Z (y6,J))) (bi x.1 17 (jn (iE x.2.1 0 (aA (f_ (!decide ((x.2.2:Int)=0))) λN=>(aG (N,J))) (aA (f_ aa) λL=>(aG (L,J)))) λx7=>(Z x7)) (bi x.1 18 (jn (iE x.2.1 0 (aA (f_ J) λA=>(aG (A,J))) (aA (f_ (!decide ((x.2.2:Int)=0))) λz=>(aG (z,J)))) λD=>(Z D)) (Z (0,aa)))))))))))))))
def sU (x:ν):M (Int):=
 (bM x.2 1 (Z 0) (bX (!decide ((x.2:Int)=0)) (jn (bM (Ca x.1 x.2) 0 (aG (bl .i64 ((Ca x.1 x.2)+x.2))) (aG (Ca x.1 x.2))) λz=>(Z z))))
def ny (x:Int):M (Int):=
 (jn (bi x 1 (aG J) (aG (decide ((x:Int)=2)))) λD=>(aH D (Z 0) (jn (j_ 3 x (aG (dm x 5)) (aG aa)) λA=>(aH A (Z 1) (jn (j_ 6 x (aG (dm x 18)) (aG aa)) λz=>(aH z (Z 2) (Z (-1))))))))
def mY (rr02_ShapedExpr:Xp->M (Bool)) (x:Xp):M (Bool):=
 (jn (bi (Xp.op x) 2 (aG (J,ef ((Xp.op x),(Xp.n x),(Xp.name x),(Xp.l x)))) (aG ((decide (((Xp.op x):Int)=3)),ef ((Xp.op x),(Xp.n x),(Xp.name x),(Xp.l x))))) λz=>(jn (α:=Bool×Xp) (aA (ny (Xp.op z.2)) λy3=>(iE y3 (aQ (ah (Xp.l z.2))) (aG (J,ef ((Xp.op z.2),(Xp.n z.2),(Xp.name z.2),(Xp.l z.2)))) (aH ((z.1==(!decide (((Xp.name z.2):ζ)=([])))) !=J) (aG (J,ef ((Xp.op z.2),(Xp.n z.2),(Xp.name z.2),(Xp.l z.2)))) (aH z.1 (aA (ft (Xp.name z.2)) λy4=>(aH (!y4) (aG (J,ef ((Xp.op z.2),(Xp.n z.2),(Xp.name z.2),(Xp.l z.2)))) (bM (Xp.n z.2) 0 (aG (J,ef ((Xp.op z.2),(Xp.n z.2),(Xp.name z.2),(Xp.l z.2)))) (iE (Xp.op z.2) 1 (aG ((!decide (((Xp.n z.2):Int)=0)),ef ((Xp.op z.2),(Xp.n z.2),(Xp.name z.2),(Xp.l z.2)))) (aG (aa,ef ((Xp.op z.2),(Xp.n z.2),(Xp.name z.2),(Xp.l z.2)))))))) (bM (Xp.n z.2) 0 (aG (J,ef ((Xp.op z.2),(Xp.n z.2),(Xp.name z.2),(Xp.l z.2)))) (iE (Xp.op z.2) 1 (aG ((!decide (((Xp.n z.2):Int)=0)),ef ((Xp.op z.2),(Xp.n z.2),(Xp.name z.2),(Xp.l z.2)))) (aG (aa,ef ((Xp.op z.2),(Xp.n z.2),(Xp.name z.2),(Xp.l z.2)))))))))) λD=>(aH D.1 (Z aa) (iter (σ:=Int×Xp) (λA=>(bM A.1 (aQ (ah (Xp.l A.2))) (bQ (.ex) (Xp.l A.2) A.1 λL=>(aA (rr02_ShapedExpr L) λN=>(aH (!N) (aG aa) (cQ ((cN A.1),ef ((Xp.op A.2),(Xp.n A.2),(Xp.name A.2),(Xp.l A.2))))))) (aG J))) (0,ef ((Xp.op D.2),(Xp.n D.2),(Xp.name D.2),(Xp.l D.2)))))))
def ij:Nat->Xp->M (Bool)
 |0,_=>U
 |n+1,x=>mY (ij n) x
def tW (n:Nat) (x:Xp):ij (n+1) x=mY (ij n) x:=rfl
def jF (x:Xp):M (Bool):=ij fuel x
def qC (x:Xp):M (Bool):=
 (jn (α:=Bool) (bi (Xp.op x) 0 (bi (Xp.n x) 0 (aH (decide (((Xp.name x):ζ)=([]))) (aG (decide (((aQ (ah (Xp.l x))):Int)=0))) (aG aa)) (aG aa)) (aG aa)) λz=>(Z z))
def kY (rr02_ShapedStmt:Sx->M (Bool)) (rr02_ShapedStmts:(Y Sx)->M (Bool)) (x:Sx):M (Bool):=
 (jn (bM (Sx.op x) 1 (aG (J,eh x)) (aG ((fK 15 (Sx.op x)),eh x))) λx1=>(aH x1.1 (Z aa) (jn (bi (Sx.op x1.2) 2 (aG (J,eh x1.2)) (bi (Sx.op x1.2) 3 (aG (J,eh x1.2)) (bi (Sx.op x1.2) 7 (aG (J,eh x1.2)) (aG ((decide (((Sx.op x1.2):Int)=8)),eh x1.2))))) λN=>(jn (α:=Bool×Sx) (aH N.1 (aH (!decide (((Sx.name N.2):ζ)=([]))) (aG (J,eh N.2)) (aH (!N.1) (aA (ft (Sx.name N.2)) λy4=>(aG ((!y4),eh N.2))) (aG (aa,eh N.2)))) (aH (!N.1) (aA (ft (Sx.name N.2)) λy5=>(aG ((!y5),eh N.2))) (aG (aa,eh N.2)))) λL=>(aH L.1 (Z aa) (jn (α:=Bool×Sx) (bi (Sx.op L.2) 15 (aA (ft (Sx.arg L.2)) λy7=>(aH (!y7) (aG (J,eh L.2)) (iE (Sx.op L.2) 15 (aG ((!decide (((Sx.arg L.2):ζ)=([]))),eh L.2)) (aG (aa,eh L.2))))) (iE (Sx.op L.2) 15 (aG ((!decide (((Sx.arg L.2):ζ)=([]))),eh L.2)) (aG (aa,eh L.2)))) λD=>(aH D.1 (Z aa) (jn (bM 1 (aQ (ah (Sx.index D.2))) (aG (J,eh D.2)) (iE (Sx.op D.2) 1 (bM 0 (aQ (ah (Sx.index D.2))) (aG (J,eh D.2)) (bi (aQ (ah (Sx.index D.2))) 1 (bQ (.ex) (Sx.index D.2) 0 λz9=>(aA (jF z9) λy10=>(aG ((!y10),eh D.2)))) (aG (aa,eh D.2)))) (bi (aQ (ah (Sx.index D.2))) 1 (bQ (.ex) (Sx.index D.2) 0 λz11=>(aA (jF z11) λy12=>(aG ((!y12),eh D.2)))) (aG (aa,eh D.2))))) λx8=>(aH x8.1 (Z aa) (jn (bi (Sx.op x8.2) 1 (aG (J,eh x8.2)) (bi (Sx.op x8.2) 2 (aG (J,eh x8.2)) (bi (Sx.op x8.2) 3 (aG (J,eh x8.2)) (aG ((decide (((Sx.op x8.2):Int)=14)),eh x8.2))))) λz=>(jn (aH z.1 (aA (jF (ef ((Xp.op (Sx.expr z.2)),(Xp.n (Sx.expr z.2)),(Xp.name (Sx.expr z.2)),(Xp.l (Sx.expr z.2))))) λy15=>(aH (!y15) (aG (J,eh z.2)) (aH (!z.1) (aA (qC (ef ((Xp.op (Sx.expr z.2)),(Xp.n (Sx.expr z.2)),(Xp.name (Sx.expr z.2)),(Xp.l (Sx.expr z.2))))) λy16=>(aG ((!y16),eh z.2))) (aG (aa,eh z.2))))) (aH (!z.1) (aA (qC (ef ((Xp.op (Sx.expr z.2)),(Xp.n (Sx.expr z.2)),(Xp.name (Sx.expr z.2)),(Xp.l (Sx.expr z.2))))) λy17=>(aG ((!y17),eh z.2))) (aG (aa,eh z.2)))) λx14=>(aH x14.1 (Z aa) (jn (j_ 2 (Sx.op x14.2) (aG ((dm (Sx.op x14.2) 8),eh x14.2)) (aG (aa,eh x14.2))) λA=>(jn (aH (!A.1) (bM 0 (aQ (ah (Sx.body A.2))) (aG (J,eh A.2)) (iE (Sx.op A.2) 2 (aG ((fK 0 (aQ (ah (Sx.els A.2)))),eh A.2)) (aG (aa,eh A.2)))) (iE (Sx.op A.2) 2 (aG ((fK 0 (aQ (ah (Sx.els A.2)))),eh A.2)) (aG (aa,eh A.2)))) λx19=>(aH x19.1 (Z aa) (jn (aA (rr02_ShapedStmts (Sx.body x19.2)) λy21=>(aH y21 (aA (rr02_ShapedStmts (Sx.els x19.2)) λy22=>(aG y22)) (aG aa))) λx20=>(Z x20)))))))))))))))))
def kr (rr02_ShapedStmt:Sx->M (Bool)) (rr02_ShapedStmts:(Y Sx)->M (Bool)) (x:Y Sx):M (Bool):=
 (iter (σ:=Int) (λz=>(bM z (be x) (nh z x (aA (rr02_ShapedStmt (geti (.sm) x z)) λA=>(aH (!A) (aG aa) (cQ (cN z))))) (aG J))) 0)
mutual
def eE:Nat->Sx->M (Bool)
 |0,_=>U
 |n+1,x=>kY (eE n) (dJ n) x
def dJ:Nat->(Y Sx)->M (Bool)
 |0,_=>U
 |n+1,x=>kr (eE n) (dJ n) x
end
def Bs (n:Nat) (x:Sx):eE (n+1) x=kY (eE n) (dJ n) x:=rfl
def AE (n:Nat) (x:Y Sx):dJ (n+1) x=kr (eE n) (dJ n) x:=rfl
def oY (x:Y Sx):M (Bool):=dJ fuel x
def kW (x:A!):M (Bool):=
 (jn (bM x.1 1 (aG (J,x)) (bM 6 x.1 (aG (J,x)) (aA (ft x.a) λL=>(aH (!L) (aG (J,x)) (bM x.b 0 (aG (J,x)) (iE x.1 1 (aG ((!decide ((x.b:Int)=0)),x)) (aG (aa,x)))))))) λz=>(aH z.1 (Z aa) (jn (α:=Bool×A!) (bi z.2.1 5 (aA (ft z.k) λD=>(aH (!D) (aG (J,z.2)) (iE z.2.1 5 (aG ((!decide ((z.k:ζ)=([]))),z.2)) (aG (aa,z.2))))) (iE z.2.1 5 (aG ((!decide ((z.k:ζ)=([]))),z.2)) (aG (aa,z.2)))) λA=>(aH A.1 (Z aa) (jn (α:=Bool) (bM (-9223372036854775808) A.e (bi A.e 0 (aG J) (bi A.2.1 1 (aG J) (aG (decide ((A.2.1:Int)=2))))) (aG aa)) λN=>(Z N))))))
abbrev y?:=yI×Y yH
abbrev J?:=Int×(yI×Y yH)×(ζ)×Int×di×Y Sx
def qP (x:y?):M (Bool):=
 (iter (σ:=Int×y?) (λD=>(bM D.1 (be D.2.1) (bQ I9 D.2.1 D.1 λz2=>(aA (kW z2) λy3=>(aH (!y3) (aG aa) (cQ ((cN D.1),D.2))))) (aA (iter (σ:=Int×y?) (λA=>(bM A.1 (be A.2.2) (bQ uw A.2.2 A.1 λz5=>(iter (σ:=J?) (λz=>(bM z.1 (be z.c) (bQ (.str) z.c z.1 λz7=>(aA (ft z7) λy8=>(aH (!y8) (aG (bW aa)) (cQ ((cN z.1),z.2))))) (aA (jn (aA (ft z.a) λN=>(aH (!N) (aG (J,z.2.1)) (aA (oY z.h) λL=>(aG ((!L),z.2.1))))) λx9=>(aH x9.1 (aG aa) (cQ ((cN A.1),x9.2)))) λr=>Z (bW r)))) (0,A.2,z5))) (aG (fK 0 (be A.2.2))))) (0,D.2)) λr=>Z (bW r)))) (0,x))
def jD (x:di×ζ):M (Int):=
 (iter (σ:=Int) (λz=>(bM z (be x.1) (bQ (.str) x.1 z λA=>(aH (decide ((A:ζ)=x.2)) (aG z) (cQ (cN z)))) (aG (-1)))) 0)
def ii (x:yI×ζ):M (Int):=
 (iter (σ:=Int) (λz=>(bM z (be x.1) (bQ I9 x.1 z λA=>(aH (decide ((A.2.2.1:ζ)=x.2)) (aG z) (cQ (cN z)))) (aG (-1)))) 0)
def gU (x:(Y yH)×ζ):M (Int):=
 (iter (σ:=Int) (λz=>(bM z (be x.1) (bQ uw x.1 z λA=>(aH (decide ((A.1:ζ)=x.2)) (aG z) (cQ (cN z)))) (aG (-1)))) 0)
def qO (x:(yI×Y yH)×Int×ζ):M (Int):=
 (jn (j_ 0 x.2.1 (bM x.2.1 (be x.1.2) (bQ uw x.1.2 x.2.1 λz2=>(aA (jD (z2.2.2.1,x.2.2)) λy3=>(aG ((dm 0 y3),x.1)))) (aG (aa,x.1))) (aG (aa,x.1))) λz=>(aH z.1 (Z 8) (aA (ii (z.2.1,x.2.2)) λD=>(bM D 0 (aA (gU (z.2.2,x.2.2)) λy5=>(j_ 0 y5 (Z 7) (Z 0))) (nh D z.2.1 (lt ((geti I9 z.2.1 D).1) λA=>(bi A 1 (bQ I9 z.2.1 D λz7=>(iE z7.2.2.2.1 0 (Z 2) (Z 1))) (bi A 2 (Z 1) (jn (bi A 3 (aG ((decide ((A:Int)=3)),z.2)) (bi A 4 (aG ((decide ((A:Int)=4)),z.2)) (bi A 5 (aG ((decide ((A:Int)=5)),z.2)) (aG ((decide ((A:Int)=6)),z.2))))) λL=>(aH L.1 (bQ I9 L.2.1 D λN=>(Z N.1)) (Z 9)))))))))))
def gJ (x:(yI×Y yH)×Int×(ζ)×i?):M (Int):=
 (aA (qO (x.1,x.2.1,x.a)) λz=>(bi z 0 (Z 5) (jn (iE z x.b (aG (!decide ((z:Int)=x.f))) (aG aa)) λA=>(aH A (Z 6) (Z 0)))))
def vT (rr04_Nodes:Xp->M ν) (x:Xp):M ν:=
 (iter (σ:=(π)×Xp) (λz=>(bM z.1.2.2 (aQ (ah (Xp.l z.2))) (bQ (.ex) (Xp.l z.2) z.1.2.2 λD=>(aA (rr04_Nodes D) λA=>(cQ (((bl .i64 (z.1.1+A.1)),(mH z.1.2.1 A.2),(cN z.1.2.2)),ef ((Xp.op z.2),(Xp.n z.2),(Xp.name z.2),(Xp.l z.2)))))) (aG (z.1.1,(cN z.1.2.1))))) ((1,0,0),ef ((Xp.op x),(Xp.n x),(Xp.name x),(Xp.l x))))
def oI:Nat->Xp->M ν
 |0,_=>U
 |n+1,x=>vT (oI n) x
def Aj (n:Nat) (x:Xp):oI (n+1) x=vT (oI n) x:=rfl
def DY (x:Xp):M ν:=oI fuel x
abbrev w?:=(yI×Y yH)×Int×Xp
def vS (rr04_names:w?->M (Int)) (x:w?):M (Int):=
 (jn (α:=Int×(yI×Y yH)×Xp) (bi (Xp.op x.2.2) 2 (aA (gJ (x.1,x.2.1,(Xp.name x.2.2),8,1)) λy2=>(aG (y2,x.1,ef ((Xp.op x.2.2),(Xp.n x.2.2),(Xp.name x.2.2),(Xp.l x.2.2))))) (bi (Xp.op x.2.2) 3 (aA (gJ (x.1,x.2.1,(Xp.name x.2.2),2,2)) λy3=>(aG (y3,x.1,ef ((Xp.op x.2.2),(Xp.n x.2.2),(Xp.name x.2.2),(Xp.l x.2.2))))) (aG (0,x.1,ef ((Xp.op x.2.2),(Xp.n x.2.2),(Xp.name x.2.2),(Xp.l x.2.2)))))) λD=>(iter (σ:=(ν)×(yI×Y yH)×Xp) (λz=>(jn (bM z.1.2 (aQ (ah (Xp.l z.2.2))) (aG ((decide ((z.1.1:Int)=0)),z.2.1,ef ((Xp.op z.2.2),(Xp.n z.2.2),(Xp.name z.2.2),(Xp.l z.2.2)))) (aG (aa,z.2.1,ef ((Xp.op z.2.2),(Xp.n z.2.2),(Xp.name z.2.2),(Xp.l z.2.2))))) λA=>(aH A.1 (bQ (.ex) (Xp.l A.2.2) z.1.2 λL=>(aA (rr04_names (A.2.1,x.2.1,L)) λN=>(cQ ((N,(cN z.1.2)),A.2.1,ef ((Xp.op A.2.2),(Xp.n A.2.2),(Xp.name A.2.2),(Xp.l A.2.2)))))) (aG z.1.1)))) ((D.1,0),D.2.1,ef ((Xp.op D.2.2),(Xp.n D.2.2),(Xp.name D.2.2),(Xp.l D.2.2)))))
def oH:Nat->(w?)->M (Int)
 |0,_=>U
 |n+1,x=>vS (oH n) x
def Ai (n:Nat) (x:w?):oH (n+1) x=vS (oH n) x:=rfl
def DX (x:w?):M (Int):=oH fuel x
def nv (x:w?):M (Int):=
 (aA (jF (ef ((Xp.op x.2.2),(Xp.n x.2.2),(Xp.name x.2.2),(Xp.l x.2.2)))) λL=>(aH (!L) (Z 3) (aA (DY (ef ((Xp.op x.2.2),(Xp.n x.2.2),(Xp.name x.2.2),(Xp.l x.2.2)))) λA=>(jn (bM 24 A.1 (aG (J,x.1,ef ((Xp.op x.2.2),(Xp.n x.2.2),(Xp.name x.2.2),(Xp.l x.2.2)))) (aG ((fK 6 A.2),x.1,ef ((Xp.op x.2.2),(Xp.n x.2.2),(Xp.name x.2.2),(Xp.l x.2.2))))) λz=>(aH z.1 (Z 2) (aA (DX (z.2.1,x.2.1,ef ((Xp.op z.2.2),(Xp.n z.2.2),(Xp.name z.2.2),(Xp.l z.2.2)))) λD=>(Z D)))))))
def c9 (x:Bool):M (Int):=
 (aH x (Z 7) (Z 0))
def jC (x:ν):M (Int):=
 (iE x.1 0 (Z x.1) (Z x.2))
abbrev Q?:=Int×e!
def dW (x:(Int×Int×ζ)×e!):M (Bool×e!):=
 (iter (σ:=Q?) (λz=>(bM z.1 (be z.a.2) (jY (.sm) z.a.2 z.1 λA=>(jn (α:=Bool×e!) (bi (Sx.op A) x.1.1 (aH (decide ((x.1.2.2:ζ)=([]))) (aG (J,z.2)) (aG ((decide (((Sx.name A):ζ)=x.1.2.2)),z.2))) (bi (Sx.op A) x.1.2.1 (aH (decide ((x.1.2.2:ζ)=([]))) (aG (J,z.2)) (aG ((decide (((Sx.name A):ζ)=x.1.2.2)),z.2))) (aG (aa,z.2)))) λD=>(aH D.1 (aG (J,D.2)) (cQ ((cN z.1),D.2))))) (aG (aa,z.2)))) (0,x.2))
abbrev D!:=Int×yJ×(Bool×Y Sx)×Sx×(yI×Y yH)×di×Y ζ
def nu (x:Sx×e!):M Q?:=
 (aA (dW ((7,7,[]),x.2)) λy1=>(bX (ay (ah x.f) (ah y1.f)&&(ay (ah x.b) (ah y1.b)&&(((x.a.1==y1.a.1)&&J)&&ay (ah x.a.2) (ah y1.a.2)&&J))) (aA (dW ((8,8,[]),y1.2)) λy2=>(bX (ay (ah y1.f) (ah y2.f)&&(ay (ah y1.b) (ah y2.b)&&(((y1.a.1==y2.a.1)&&J)&&ay (ah y1.a.2) (ah y2.a.2)&&J))) (aA (dW ((3,3,[]),y2.2)) λy3=>(bX (ay (ah y2.f) (ah y3.f)&&(ay (ah y2.b) (ah y3.b)&&(((y2.a.1==y3.a.1)&&J)&&ay (ah y2.a.2) (ah y3.a.2)&&J))) (bi (Sx.op x.1) 1 (bi (aQ (ah (Sx.index x.1))) 0 (aA (gJ ((x.2.1.1,x.2.1.2.1),x.2.1.2.2,(Sx.name x.1),8,1)) λy4=>(aA (nv ((x.2.1.1,x.2.1.2.1),x.2.1.2.2,ef ((Xp.op (Sx.expr x.1)),(Xp.n (Sx.expr x.1)),(Xp.name (Sx.expr x.1)),(Xp.l (Sx.expr x.1))))) λy5=>(aA (jC (y4,y5)) λy6=>(Z (y6,y3.2))))) (aA (gJ ((x.2.1.1,x.2.1.2.1),x.2.1.2.2,(Sx.name x.1),2,2)) λy7=>(bQ (.ex) (Sx.index x.1) 0 λz8=>(aA (nv ((x.2.1.1,x.2.1.2.1),x.2.1.2.2,z8)) λy9=>(aA (nv ((x.2.1.1,x.2.1.2.1),x.2.1.2.2,ef ((Xp.op (Sx.expr x.1)),(Xp.n (Sx.expr x.1)),(Xp.name (Sx.expr x.1)),(Xp.l (Sx.expr x.1))))) λy10=>(aA (jC (y9,y10)) λy11=>(aA (jC (y7,y11)) λy12=>(Z (y12,y3.2))))))))) (jn (bi (Sx.op x.1) 2 (aG ((decide (((Sx.op x.1):Int)=2)),y3.2.1,y3.a,eh x.1,(x.2.1.1,x.2.1.2.1),y3.d)) (aG ((decide (((Sx.op x.1):Int)=3)),y3.2.1,y3.a,eh x.1,(x.2.1.1,x.2.1.2.1),y3.d))) λD=>(aH D.1 (aA (nv (D.c,x.2.1.2.2,ef ((Xp.op (Sx.expr D.b)),(Xp.n (Sx.expr D.b)),(Xp.name (Sx.expr D.b)),(Xp.l (Sx.expr D.b))))) λy14=>(Z (y14,D.2.1,D.a,D.h))) (bi (Sx.op x.1) 4 (jn (α:=Q?) (aA (gJ (D.c,x.2.1.2.2,(Sx.name D.b),3,3)) λy16=>(aH y1.1 (aA (c9 J) λy17=>(aA (jC (y16,y17)) λy18=>(aG (y18,D.2.1,D.a,D.h)))) (aA (dW ((4,4,(Sx.name D.b)),D.2.1,D.a,D.h)) λy19=>(bX (ay (ah D.k) (ah y19.f)&&(ay (ah D.e) (ah y19.b)&&(((D.a.1==y19.a.1)&&J)&&ay (ah D.a.2) (ah y19.a.2)&&J))) (aA (c9 y19.1) λy20=>(aA (jC (y16,y20)) λy21=>(aG (y21,y19.2)))))))) λx15=>(Z x15)) (jn (bi (Sx.op x.1) 5 (aG ((decide (((Sx.op x.1):Int)=5)),D.2.1,D.a,eh D.b,D.f)) (aG ((decide (((Sx.op x.1):Int)=6)),D.2.1,D.a,eh D.b,D.f))) λA=>(aH A.1 (jn (α:=Q?) (aA (gJ (A.c,x.2.1.2.2,(Sx.name A.b),4,4)) λy24=>(aH y1.1 (aA (c9 J) λy25=>(aA (jC (y24,y25)) λy26=>(aG (y26,A.2.1,A.a,A.h)))) (aA (dW ((5,6,(Sx.name A.b)),A.2.1,A.a,A.h)) λy27=>(bX (ay (ah A.k) (ah y27.f)&&(ay (ah A.e) (ah y27.b)&&(((A.a.1==y27.a.1)&&J)&&ay (ah A.a.2) (ah y27.a.2)&&J))) (aA (c9 y27.1) λy28=>(aA (jC (y24,y28)) λy29=>(aG (y29,y27.2)))))))) λx23=>(Z x23)) (bi (Sx.op x.1) 7 (aA (c9 y1.1) λy30=>(Z (y30,A.2.1,A.a,A.h))) (bi (Sx.op x.1) 8 (jn (aH y1.1 (aA (c9 J) λy32=>(aG (y32,A.2.1,A.a,A.h))) (aA (c9 y2.1) λy33=>(aG (y33,A.2.1,A.a,A.h)))) λx31=>(Z x31)) (jn (bi (Sx.op x.1) 9 (aG ((decide (((Sx.op x.1):Int)=9)),A.2.1,A.a,eh A.b,A.f)) (bi (Sx.op x.1) 10 (aG ((decide (((Sx.op x.1):Int)=10)),A.2.1,A.a,eh A.b,A.f)) (aG ((decide (((Sx.op x.1):Int)=11)),A.2.1,A.a,eh A.b,A.f)))) λz=>(aH z.1 (aA (gJ (z.c,x.2.1.2.2,(Sx.name z.b),5,5)) λy35=>(iE y35 0 (Z (y35,z.2.1,z.a,z.h)) (aA (ii (z.c.1,(Sx.name z.b))) λy36=>(bQ I9 z.c.1 y36 λz37=>(aA (dW ((4,4,z37.2.2.2.2.2),z.2.1,z.a,z.h)) λy38=>(bX (ay (ah z.k) (ah y38.f)&&(ay (ah z.e) (ah y38.b)&&(((z.a.1==y38.a.1)&&J)&&ay (ah z.a.2) (ah y38.a.2)&&J))) (jn (aH y1.1 (aA (c9 J) λy40=>(aG (y40,y38.2))) (aH (!y38.1) (aA (c9 J) λy41=>(aG (y41,y38.2))) (bi (Sx.op z.b) 9 (aA (c9 y2.1) λy42=>(aG (y42,y38.2))) (aA (c9 aa) λy43=>(aG (y43,y38.2)))))) λx39=>(Z x39)))))))) (bi (Sx.op x.1) 12 (aA (gJ (z.c,x.2.1.2.2,(Sx.name z.b),7,7)) λy44=>(iE y44 0 (Z (y44,z.2.1,z.a,z.h)) (aA (gU (z.c.2,(Sx.name z.b))) λy45=>(jn (aH y1.1 (aG (J,z.2.1,z.a,eh z.b,z.h)) (aH y2.1 (aG (J,z.2.1,z.a,eh z.b,z.h)) (aH y3.1 (aG (J,z.2.1,z.a,eh z.b,z.h)) (bi y45 x.2.1.2.2 (aG (J,z.2.1,z.a,eh z.b,z.h)) (aG ((decide ((y45:Int)=0)),z.2.1,z.a,eh z.b,z.h)))))) λL=>(aH L.1 (Z (7,L.2.1,L.a,L.f)) (aA (jD (L.c,(Sx.name L.b))) λy47=>(j_ 0 y47 (Z (8,L.2.1,L.a,L.f)) (bX (bf (ah L.c+ah ([(Sx.name L.b)])) 16) (Z (0,L.2.1,L.a,(L.c++([(Sx.name L.b)])),L.h)))))))))) (bi (Sx.op x.1) 13 (jn (α:=Q?) (aA (gJ (z.c,x.2.1.2.2,(Sx.name z.b),7,7)) λy49=>(aH y1.1 (aA (c9 J) λy50=>(aA (jC (y49,y50)) λy51=>(aG (y51,z.2.1,z.a,z.h)))) (aH y2.1 (aA (c9 J) λy52=>(aA (jC (y49,y52)) λy53=>(aG (y53,z.2.1,z.a,z.h)))) (aA (gU (z.c.2,(Sx.name z.b))) λy54=>(aA (c9 (decide ((y54:Int)=x.2.1.2.2))) λy55=>(aA (jC (y49,y55)) λy56=>(aG (y56,z.2.1,z.a,z.h)))))))) λx48=>(Z x48)) (bi (Sx.op x.1) 14 (jn (α:=D!) (aA (gJ (z.c,x.2.1.2.2,(Sx.name z.b),6,6)) λy58=>(aH y1.1 (aA (c9 J) λy59=>(aA (jC (y58,y59)) λy60=>(aG (y60,z.2.1,z.a,eh z.b,z.f)))) (aA (c9 y3.1) λy61=>(aA (jC (y58,y61)) λy62=>(aG (y62,z.2.1,z.a,eh z.b,z.f)))))) λx57=>(jn (α:=D!) (jn (bi x57.1 0 (aA (jD (x57.k,(Sx.name x57.b))) λy65=>(aG ((dm 0 y65),x57.2.1,x57.a,eh x57.b,x57.f))) (aG (aa,x57.2.1,x57.a,eh x57.b,x57.f))) λx64=>(aH x64.1 (aG (8,x64.2.1,x64.a,eh x64.b,x64.f)) (aG (x57.1,x64.2.1,x64.a,eh x64.b,x64.f)))) λN=>(bX (bf (ah N.k+ah ([(Sx.name N.b)])) 16) (aA (nv (N.c,x.2.1.2.2,ef ((Xp.op (Sx.expr N.b)),(Xp.n (Sx.expr N.b)),(Xp.name (Sx.expr N.b)),(Xp.l (Sx.expr N.b))))) λy66=>(aA (jC (N.1,y66)) λy67=>(Z (y67,N.2.1,N.a,N.e,(N.k++([(Sx.name N.b)]))))))))) (aA (gJ (z.c,x.2.1.2.2,(Sx.name z.b),8,8)) λy68=>(aA (gJ (z.c,x.2.1.2.2,(Sx.arg z.b),6,6)) λy69=>(aA (c9 y1.1) λy70=>(aA (jC (y69,y70)) λy71=>(aA (jC (y68,y71)) λy72=>(Z (y72,z.2.1,z.a,z.h))))))))))))))))))))))))))
abbrev L!:=(Y Sx)×e!
def nC (rr04_walk_all:L!->M am4) (x:L!):M am4:=
 (iter (σ:=Q?) (λL=>(bM L.1 (be x.1) (bQ (.sm) x.1 L.1 λz2=>(aA (nu (eh z2,L.2)) λN=>(bX (ay (ah L.f) (ah L.f)&&(ay (ah L.b) (ah L.b)&&(((L.a.1==N.a.1)&&J)&&ay (ah L.a.2) (ah N.a.2)&&J))) (jn (α:=Int×yJ×Sx×(Bool×Y Sx)×di×Y ζ) (bM 6 (bl .i64 ((be N.a.2)+1)) (aG (2,N.2.1,eh z2,N.2.2)) (aG (N.1,N.2.1,eh z2,N.2.2))) λz=>(iE z.1 0 (aG ((z.1,(Sx.line z.a)),z.2.1,z.d)) (bX (bf (ah z.b.2+ah ([o6 (0,0,[],[],([]:Y Xp),ef (0,0,[],([]:Y Xp)),([]:Y Sx),([]:Y Sx))])) 176) (ck (fe (be z.b.2) (ah (z.b.2++([o6 (0,0,[],[],([]:Y Xp),ef (0,0,[],([]:Y Xp)),([]:Y Sx),([]:Y Sx))])))) (aA (rr04_walk_all ((Sx.body z.a),z.2.1,(z.b.1,(cH (z.b.2++([o6 (0,0,[],[],([]:Y Xp),ef (0,0,[],([]:Y Xp)),([]:Y Sx),([]:Y Sx))])) (be z.b.2) (eh z.a))),z.f)) λD=>(bX (ay (ah z.h) (ah z.h)&&(ay (ah z.c) (ah z.c)&&(((z.b.1==z.b.1)&&J)&&ay (ah (cH (z.b.2++([o6 (0,0,[],[],([]:Y Xp),ef (0,0,[],([]:Y Xp)),([]:Y Sx),([]:Y Sx))])) (be z.b.2) (eh z.a))) (ah (cH (z.b.2++([o6 (0,0,[],[],([]:Y Xp),ef (0,0,[],([]:Y Xp)),([]:Y Sx),([]:Y Sx))])) (be z.b.2) (eh z.a)))&&J))) (jn (bi D.1.1 0 (aA (rr04_walk_all ((Sx.els z.a),D.2)) λy7=>(bX (ay (ah D.f) (ah D.f)&&(ay (ah D.b) (ah D.b)&&(((D.a.1==D.a.1)&&J)&&ay (ah D.a.2) (ah D.a.2)&&J))) (aG y7))) (aG D)) λA=>(bX (dm 0 (bl .i64 ((be A.a.2)-1))&&fK (bl .i64 ((be A.a.2)-1)) (ah A.a.2)) (iE A.1.1 0 (aG (A.1,A.2.1,(aa,(dB (aO (bl .i64 ((be A.a.2)-1))) A.a.2)),A.d)) (cQ ((cN L.1),A.2.1,(aa,(dB (aO (bl .i64 ((be A.a.2)-1))) A.a.2)),A.d)))))))))))))) (aG ((0,0),L.2)))) (0,x.2))
def iS:Nat->(L!)->M am4
 |0,_=>U
 |n+1,x=>nC (iS n) x
def D_ (n:Nat) (x:L!):iS (n+1) x=nC (iS n) x:=rfl
def xn (x:L!):M am4:=iS fuel x
def vU (rr04_Count:(Y Sx)->M (Int)) (x:Y Sx):M (Int):=
 (iter (σ:=ν) (λz=>(bM z.2 (be x) (nh z.2 x (lt (Sx.body (geti (.sm) x z.2)) λD=>(aA (rr04_Count D) λN=>(nh z.2 x (lt (Sx.els (geti (.sm) x z.2)) λA=>(aA (rr04_Count A) λL=>(cQ ((bl .i64 ((bl .i64 (z.1+N))+L)),(cN z.2))))))))) (aG z.1))) ((be x),0))
def oJ:Nat->(Y Sx)->M (Int)
 |0,_=>U
 |n+1,x=>vU (oJ n) x
def Ak (n:Nat) (x:Y Sx):oJ (n+1) x=vU (oJ n) x:=rfl
def DZ (x:Y Sx):M (Int):=oJ fuel x
abbrev s?:=Int×Int×i?
def sV (x:Y apw):M ν:=
 (iter (σ:=υ) (λz=>(bM z.f (be x) (jn (α:=s?) (bQ I9 x z.f λA=>(bX (dm 0 z.f&&dm z.f (ah x)) (aA (ii ((dB (aO z.f) x),A.a)) λy4=>(j_ 0 y4 (cQ (bW (4,A.2.1))) (bM 4 A.b (cQ (bW (2,A.2.1))) (jn (jn (bi A.1 1 (aG ((decide ((A.1:Int)=1)),A)) (aG ((decide ((A.1:Int)=2)),A))) λN=>(aH N.1 (aG (((bl .i64 (z.1+(mH N.c 1))),z.2.1,z.a,z.b),N.2)) (jn (bi A.1 3 (aG ((decide ((A.1:Int)=3)),N.2)) (aG ((decide ((A.1:Int)=4)),N.2))) λx7=>(aH x7.1 (aG ((z.1,(cN z.2.1),z.a,z.b),x7.2)) (bi A.1 5 (aG ((z.1,z.2.1,(cN z.a),z.b),x7.2)) (aG ((z.1,z.2.1,z.a,(cN z.b)),x7.2))))))) λD=>(jn (bM 12 D.1.1 (aG (J,D.2)) (bM 4 D.1.2.1 (aG (J,D.2)) (bM 2 D.1.a (aG (J,D.2)) (aG ((fK 2 D.1.d),D.2))))) λL=>(aH L.1 (cQ (bW (2,L.a))) (bi L.2.1 5 (bX (dm 0 z.f&&dm z.f (ah x)) (aA (ii ((dB (aO z.f) x),L.k)) λy9=>(bM y9 0 (cQ (bW (5,L.a))) (bQ I9 x y9 λz10=>(iE z10.1 3 (cQ (bW (6,L.a))) (aG D.1)))))) (aG D.1)))))))))) λx2=>(cQ (x2.1,x2.2.1,x2.a,x2.d,(cN z.f)))) (aG (0,0)))) (0,0,0,0,0))
def oX (x:y?):M ν:=
 (iter (σ:=Int×y?) (λA=>(bM A.1 (be A.2.2) (bQ uw A.2.2 A.1 λN=>(jn (aA (ii (A.2.1,N.1)) λy4=>(j_ 0 y4 (aG (J,A.2,N)) (bX (dm 0 A.1&&dm A.1 (ah A.2.2)) (aA (gU ((dB (aO A.1) A.2.2),N.1)) λy5=>(aG ((dm 0 y5),A.2,N)))))) λx3=>(aH x3.1 (aG (4,x3.b)) (cQ ((cN A.1),x3.2.1))))) (aA (iter (σ:=Int×y?) (λL=>(bM L.1 (be L.2.2) (bQ uw L.2.2 L.1 λz7=>(bM 4 (be z7.a) (aG (2,z7.2.1)) (iter (σ:=J?) (λz=>(bM z.1 (be z.c) (bQ (.str) z.c z.1 λz9=>(jn (aA (ii (z.2.1.1,z9)) λy11=>(j_ 0 y11 (aG (J,z.2)) (aA (gU (z.2.1.2,z9)) λy12=>(j_ 0 y12 (aG (J,z.2)) (bX (dm 0 z.1&&dm z.1 (ah z.c)) (aA (jD ((dB (aO z.1) z.c),z9)) λy13=>(aG ((dm 0 y13),z.2)))))))) λD=>(aH D.1 (aG (bW (4,D.b))) (cQ ((cN z.1),D.2))))) (aG (rh ((cN L.1),z.2.1))))) (0,L.2,z7)))) (aG (0,0)))) (0,A.2)) λr=>Z (bW r)))) (0,x))
def fB (x:y?):M ν:=
 (aA (qP x) λy1=>(aH (!y1) (Z (3,0)) (aA (sV x.1) λN=>(iE N.1 0 (Z N) (bM 4 (be x.2) (Z (2,0)) (aA (oX x) λL=>(iE L.1 0 (Z L) (iter (σ:=(ν)×y?) (λA=>(bM A.1.2 (be A.2.2) (bQ uw A.2.2 A.1.2 λz5=>(aA (DZ z5.2.2.2) λy6=>(cQ (((bl .i64 (A.1.1+y6)),(cN A.1.2)),A.2)))) (aA (bM 60 A.1.1 (Z (2,0)) (iter (σ:=Int×(yI×Y yH)×e!) (λz=>(bM z.1 (be z.2.1.2) (bQ uw z.2.1.2 z.1 λz8=>(aA (xn (z8.2.2.2,(z.a.1,z.a.2.1,z.1),z.d)) λD=>(bX (ay (ah z.h) (ah z.h)&&(ay (ah z.c) (ah z.c)&&(((z.b.1==z.b.1)&&J)&&ay (ah z.b.2) (ah z.b.2)&&J))) (iE D.1.1 0 (aG D.1) (cQ ((cN z.1),z.2.1,D.2)))))) (aG (0,0)))) (0,A.2,(A.2.1,A.2.2,0),(J,([]:Y Sx)),([]:Y ζ),([]:Y ζ)))) λr=>Z (bW r)))) ((0,0),x)))))))))
abbrev x!:=(Int×Int×Y Sx)×Y π
abbrev V!:=Int×Y π
def zF (rr06_sites:x!->M V!) (x:x!):M V!:=
 (iter (σ:=(ν)×Y π) (λz=>(bM z.1.2 (be x.1.2.2) (nh z.1.2 x.1.2.2 (lt (Sx.line (geti (.sm) x.1.2.2 z.1.2)) λA=>(bX (bf (ah z.2+ah ([(x.1.1,z.1.1,A)])) 24) (nh z.1.2 x.1.2.2 (lt (Sx.body (geti (.sm) x.1.2.2 z.1.2)) λz3=>(aA (rr06_sites ((x.1.1,(cN z.1.1),z3),(z.2++([(x.1.1,z.1.1,A)])))) λD=>(bX (ay (ah (z.2++([(x.1.1,z.1.1,A)]))) (ah (z.2++([(x.1.1,z.1.1,A)])))&&J) (nh z.1.2 x.1.2.2 (lt (Sx.els (geti (.sm) x.1.2.2 z.1.2)) λN=>(aA (rr06_sites ((x.1.1,D.1,N),D.2)) λL=>(bX (ay (ah D.2) (ah D.2)&&J) (cQ ((L.1,(cN z.1.2)),L.2))))))))))))) (aG (z.1.1,z.2)))) ((x.1.2.1,0),x.2))
def qF:Nat->(x!)->M V!
 |0,_=>U
 |n+1,x=>zF (qF n) x
def Jv (n:Nat) (x:x!):qF (n+1) x=zF (qF n) x:=rfl
def K5 (x:x!):M V!:=qF fuel x
def lm (x:mN×ζ):M (Int):=
 (iter (σ:=Int) (λz=>(bM z (be x.1) (bQ s9 x.1 z λA=>(aH (decide ((A.1:ζ)=x.2)) (aG z) (cQ (cN z)))) (aG (-1)))) 0)
abbrev D?:=Int×c!
def mo (x:eC×ζ):M (Int):=
 (iter (σ:=D?) (λz=>(bM z.1 (be z.2.1) (bQ mf z.2.1 z.1 λA=>(aH (decide ((A.1:ζ)=x.2)) (aG z.1) (cQ ((cN z.1),z.2)))) (aG (-1)))) (0,x.1))
abbrev I!:=nH×mN×(Y jS)×Y ζ
def vI (x:y?):M eC:=
 (aA (fB x) λy1=>(iE y1.1 0 (Z (([]:Y Wq),([]:Y F!),([]:Y jS),([]:Y ζ),([]:Y ζ),([]:Y π))) (iter (σ:=Int×(yI×Y yH)×I!) (λL=>(bM L.1 (be L.2.1.1) (bQ I9 L.2.1.1 L.1 λN=>(jn (α:=(yI×Y yH)×I!) (jn (bi N.1 1 (aG ((decide ((N.1:Int)=1)),L.2.1,N,L.2.2)) (aG ((decide ((N.1:Int)=2)),L.2.1,N,L.2.2))) λx5=>(aH x5.1 (iter (σ:=Int×(yI×Y yH)×apw×I!) (λA=>(bM A.1 (mH A.a.b 1) (bX (bf (ah A.b+ah ([(A.a.a,A.1,A.a.b,(decide ((A.a.1:Int)=2)),A.a.c)])) 48) (cQ ((cN A.1),A.2.1,A.a,(A.b++([(A.a.a,A.1,A.a.b,(decide ((A.a.1:Int)=2)),A.a.c)])),A.f))) (aG (bW (A.2.1,A.d))))) (0,x5.2)) (jn (bi N.1 3 (aG ((decide ((N.1:Int)=3)),x5.2)) (aG ((decide ((N.1:Int)=4)),x5.2))) λz=>(aH z.1 (bX (bf (ah z.c+ah ([(z.a.a,(decide ((z.a.1:Int)=4)))])) 24) (aG (z.2.1,z.b,(z.c++([(z.a.a,(decide ((z.a.1:Int)=4)))])),z.h))) (bi N.1 5 (aA (lm (z.c,z.a.h)) λy8=>(bX (bf (ah z.e+ah ([(z.a.a,y8)])) 24) (aG (z.2.1,z.b,z.c,(z.e++([(z.a.a,y8)])),z.k)))) (bX (bf (ah z.k+ah ([z.a.a])) 16) (aG (z.2.1,z.b,z.c,z.e,(z.k++([z.a.a])))))))))) λx4=>(cQ ((cN L.1),x4)))) (aA (iter (σ:=Int×(yI×Y yH)×c!) (λD=>(bM D.1 (be D.2.1.2) (bQ uw D.2.1.2 D.1 λz10=>(bX (bf (ah D.g+ah ([z10.1])) 16) (bQ uw D.2.1.2 D.1 λz11=>(aA (K5 ((D.1,0,z11.2.2.2),D.p)) λy12=>(bX (ay (ah D.p) (ah D.p)&&J) (cQ ((cN D.1),D.2.1,D.a,D.b,D.c,D.e,(D.g++([z10.1])),y12.2))))))) (aG D.2.2))) (0,L.2.1,L.a,L.b,L.c,L.h,([]:Y ζ),([]:Y π))) λr=>Z (bW r)))) (0,x,([]:Y Wq),([]:Y F!),([]:Y jS),([]:Y ζ)))))
abbrev z?:=Int×eC×Y ζ
abbrev M?:=di×(ζ)×r?
def qA (x:c!):M (di×Bool):=
 (iter (σ:=z?) (λA=>(bM A.1 (be A.2.1.1) (jn (α:=z?) (bQ mf A.2.1.1 A.1 λL=>(bX (bf (ah A.2.2+ah ([L.1])) 16) (bi L.a 0 (iE L.2.1 0 (cQ (bW (([]:Y ζ),aa))) (aG ((cN A.1),A.2.1,(A.2.2++([L.1]))))) (jn (α:=Bool×eC×M?) (bM L.a 1 (aG (J,A.2.1,(A.2.2++([L.1])),L)) (bM 4 L.a (aG (J,A.2.1,(A.2.2++([L.1])),L)) (aG ((fK (bl .i64 ((be A.2.1.1)-A.1)) L.a),A.2.1,(A.2.2++([L.1])),L)))) λx4=>(aH x4.1 (cQ (bW (([]:Y ζ),aa))) (iter (σ:=Int×eC×M?) (λD=>(bM D.1 D.e (bQ mf D.2.1.1 (bl .i64 (A.1+D.1)) λz6=>(jn (iE z6.2.1 D.1 (aG (J,D.2)) (aH (!decide ((z6.1:ζ)=D.b)) (aG (J,D.2)) (iE z6.a D.e (aG (J,D.2)) (iE z6.f D.p (aG (J,D.2)) (aG (z6.b,D.2)))))) λx7=>(aH x7.1 (aG (rh (bW (([]:Y ζ),aa)))) (cQ ((cN D.1),x7.2))))) (aG (bW ((bl .i64 (A.1+D.e)),D.2.1,D.a))))) (0,x4.2))))))) λx2=>(cQ x2)) (aA (iter (σ:=z?) (λN=>(bM N.1 (be N.2.1.2.1) (bQ s9 N.2.1.2.1 N.1 λz9=>(bX (bf (ah N.2.2+ah ([z9.1])) 16) (cQ ((cN N.1),N.2.1,(N.2.2++([z9.1])))))) (aA (iter (σ:=z?) (λz=>(bM z.1 (be z.2.1.a) (bQ itK z.2.1.a z.1 λz11=>(bX (bf (ah z.2.2+ah ([z11.1])) 16) (cQ ((cN z.1),z.2.1,(z.2.2++([z11.1])))))) (aA (bX (bf (ah z.2.2+ah z.2.1.b) 16) (bX (bf (ah (z.2.2++z.2.1.b)+ah z.2.1.c) 16) (Z (((z.2.2++z.2.1.b)++z.2.1.c),J)))) λr=>Z (bW r)))) (0,N.2)) λr=>Z (bW r)))) (0,A.2)) λr=>Z (bW r)))) (0,x,([]:Y ζ)))
def ig (x:c!):M (Bool):=
 (jn (bM 12 (be x.1) (aG (J,x)) (bM 4 (be x.2.1) (aG (J,x)) (bM 2 (be x.a) (aG (J,x)) (bM 2 (be x.b) (aG (J,x)) (bM (be x.c) 1 (aG (J,x)) (bM 4 (be x.c) (aG (J,x)) (aG ((fK 60 (be x.h)),x)))))))) λx1=>(aH x1.1 (Z aa) (aA (qA x1.2) λy2=>(aH (!y2.2) (Z aa) (iter (σ:=D?) (λN=>(bM N.1 (be y2.1) (jn (bQ (.str) y2.1 N.1 λz5=>(aA (ft z5) λy6=>(aH (!y6) (aG (J,N.2)) (bX (dm 0 N.1&&dm N.1 (ah y2.1)) (bQ (.str) y2.1 N.1 λz7=>(aA (jD ((dB (aO N.1) y2.1),z7)) λy8=>(aG ((dm 0 y8),N.2)))))))) λx4=>(aH x4.1 (aG aa) (cQ ((cN N.1),x4.2)))) (aA (iter (σ:=D?) (λD=>(bM D.1 (be D.b) (bQ itK D.b D.1 λz10=>(jn (bM z10.2 0 (aG (J,D.2)) (j_ (be D.a) z10.2 (aG (J,D.2)) (bQ s9 D.a z10.2 λz12=>(aG (z12.2,D.2))))) λx11=>(aH x11.1 (aG aa) (cQ ((cN D.1),x11.2))))) (aA (iter (σ:=D?) (λz=>(bM z.1 (be z.k) (jn (bQ pO z.k z.1 λz15=>(jn (bM z15.1 0 (aG (J,z.2,z15)) (aG ((dm (be z.e) z15.1),z.2,z15))) λL=>(aH L.1 (cQ (bW aa)) (jn (bi z.1 0 (aG (J,L.2)) (bQ pO L.2.1.h (bl .i64 (z.1-1)) λz18=>(aG ((!decide ((z18.1:Int)=L.a)),L.2)))) λA=>(aH A.1 (jn (iE A.b 0 (aG (J,A.2.1)) (bM 0 z.1 (bQ pO A.2.1.h (bl .i64 (z.1-1)) λz20=>(aG ((fK A.a z20.1),A.2.1))) (aG (aa,A.2.1)))) λx19=>(aH x19.1 (cQ (bW aa)) (aG x19.2))) (bQ pO A.2.1.h (bl .i64 (z.1-1)) λz21=>(iE A.b (cN z21.2.1) (cQ (bW aa)) (aG A.2.1)))))))) λx14=>(cQ ((cN z.1),x14))) (aG J))) (0,D.2)) λr=>Z (bW r)))) (0,N.2)) λr=>Z (bW r)))) (0,x1.2))))))
def kC (x:ω):M η:=
 (jn (bi x.1 1 (aG ((decide ((x.1:Int)=1)),x)) (bi x.1 6 (aG ((decide ((x.1:Int)=6)),x)) (bi x.1 10 (aG ((decide ((x.1:Int)=10)),x)) (aG ((decide ((x.1:Int)=27)),x))))) λD=>(aH D.1 (Z ([D.a])) (jn (bi x.1 2 (aG ((decide ((x.1:Int)=2)),D.2)) (aG ((decide ((x.1:Int)=3)),D.2))) λz=>(aH z.1 (Z ([z.a,z.b])) (bi x.1 4 (Z ([z.a,z.b,z.c])) (bi x.1 7 (Z ([z.a,z.c])) (jn (bi x.1 8 (aG ((decide ((x.1:Int)=8)),z.2)) (aG ((decide ((x.1:Int)=26)),z.2))) λA=>(aH A.1 (Z ([A.b])) (bi x.1 9 (Z ([A.b,A.c])) (Z ([]:η)))))))))))
def qN (x:Int):M (Bool):=
 (jn (j_ 1 x (aG (dm x 5)) (aG aa)) λz=>(Z z))
def qB (x:(Y me)×Int):M (Bool):=
 (iter (σ:=ν) (λz=>(j_ z.2 (be x.1) (jn (jn (bM z.1 0 (aG J) (aG (dm (be x.1) z.1))) λx3=>(aH x3 (cQ (bW aa)) (bQ sx x.1 z.1 λL=>(aA (qN L.1) λN=>(aH (!N) (cQ (bW J)) (bQ sx x.1 z.1 λD=>(bi D.1 5 (bQ sx x.1 z.1 λA=>(aG A.2.1)) (aG (cN z.1))))))))) λx2=>(cQ (x2,(cN z.2)))) (aG aa))) (x.2,0))
def jZ (x:ν):M (Bool):=
 (jn (j_ 0 x.1 (aG (fK x.1 x.2)) (aG aa)) λz=>(Z z))
def oE (x:eC×i?):M (Bool):=
 (jn (aA (jZ (x.2.1,(be x.1.1))) λL=>(aH L (bQ mf x.1.1 x.2.1 λD=>(bi D.2.1 0 (bQ mf x.1.1 x.2.1 λA=>(iE A.2.2.1 0 (bQ mf x.1.1 x.2.1 λz=>(aG (decide ((z.2.2.1:Int)=x.2.2)))) (aG aa))) (aG aa))) (aG aa))) λN=>(Z N))
def mE (x:eC×Int×Int×s?):M (Bool):=
 (bi x.2.1 6 (jn (aA (jZ (x.b,(be x.1.1))) λy2=>(aH y2 (bQ mf x.1.1 x.b λz3=>(aG (decide ((z3.2.2.1:Int)=0)))) (aG aa))) λx1=>(Z x1)) (bi x.2.1 8 (jn (aA (jZ (x.a,(be x.1.1))) λy5=>(aH y5 (bQ mf x.1.1 x.a λz6=>(aG (decide ((z6.2.2.1:Int)=0)))) (aG aa))) λx4=>(Z x4)) (bi x.2.1 7 (aA (oE (x.1,x.b,x.e)) λy7=>(Z y7)) (bi x.2.1 9 (aA (oE (x.1,x.a,x.e)) λy8=>(Z y8)) (jn (bi x.2.1 11 (aG ((decide ((x.2.1:Int)=11)),x)) (aG ((decide ((x.2.1:Int)=12)),x))) λL=>(aH L.1 (jn (aA (jZ (L.b,(be L.2.1.2.1))) λy11=>(aH y11 (bQ s9 L.2.1.2.1 L.b λz12=>(aG (!z12.2))) (aG aa))) λx10=>(Z x10)) (jn (bi x.2.1 13 (aG ((decide ((x.2.1:Int)=13)),L.2)) (bi x.2.1 14 (aG ((decide ((x.2.1:Int)=14)),L.2)) (bi x.2.1 15 (aG ((decide ((x.2.1:Int)=15)),L.2)) (aG ((decide ((x.2.1:Int)=16)),L.2))))) λA=>(aH A.1 (jn (aA (jZ (A.b,(be A.2.1.2.1))) λy15=>(aH y15 (bQ s9 A.2.1.2.1 A.b λN=>(aG N.2)) (aG aa))) λx14=>(Z x14)) (jn (bi x.2.1 21 (aG ((decide ((x.2.1:Int)=21)),A.2)) (bi x.2.1 22 (aG ((decide ((x.2.1:Int)=22)),A.2)) (aG ((decide ((x.2.1:Int)=23)),A.2)))) λD=>(aH D.1 (aA (jZ (D.b,(be D.2.1.a))) λy18=>(Z y18)) (jn (bi x.2.1 24 (aG ((decide ((x.2.1:Int)=24)),D.2)) (aG ((decide ((x.2.1:Int)=25)),D.2))) λz=>(aH z.1 (aA (jZ (z.b,(be z.2.1.c))) λy20=>(Z y20)) (bi x.2.1 26 (aA (jZ (z.b,(be z.2.1.b))) λy21=>(Z y21)) (bi x.2.1 27 (aA (jZ (z.c,(be z.2.1.b))) λy22=>(Z y22)) (bi x.2.1 3 (jn (bi z.g 4 (aG J) (aG (decide ((z.g:Int)=5)))) λx23=>(Z x23)) (bi x.2.1 4 (jn (j_ 6 z.g (aG (dm z.g 18)) (aG aa)) λx24=>(Z x24)) (Z J)))))))))))))))))
abbrev O!:=Int×Y me
def iH (x:eC×Int×O!):M (Bool):=
 (jn (bM x.a 0 (aG (J,x.1,x.2.2)) (bM 32 x.a (aG (J,x.1,x.2.2)) (aG ((decide (((be x.d):Int)=0)),x.1,x.2.2)))) λx1=>(aH x1.1 (Z aa) (iter (σ:=Int×eC×O!) (λA=>(bM A.1 (be x.d) (bQ sx A.d A.1 λN=>(jn (bM N.1 1 (aG (J,A.2.1,A.2.2,N)) (bM 28 N.1 (aG (J,A.2.1,A.2.2,N)) (aH (((decide ((N.1:Int)=28))==(decide ((A.1:Int)=(bl .i64 ((be x.d)-1))))) !=J) (aG (J,A.2.1,A.2.2,N)) (aA (mE (A.2.1,N)) λy5=>(aH (!y5) (aG (J,A.2.1,A.2.2,N)) (aA (qB (A.d,A.1)) λy6=>(aG ((!y6),A.2.1,A.2.2,N)))))))) λz=>(aH z.1 (aG aa) (jn (α:=Bool×eC×(Int×Y me)×Int×Int×s?) (bi z.b 28 (iE z.s (-1) (aG (J,z.2)) (iE z.b 28 (aA (jZ (z.s,(be z.2.1.h))) λy8=>(aH (!y8) (aG (J,z.2)) (bQ pO z.2.1.h z.s λz9=>(aG ((!decide ((z9.1:Int)=x.2.1)),z.2))))) (aG (aa,z.2)))) (iE z.b 28 (aA (jZ (z.s,(be z.2.1.h))) λy10=>(aH (!y10) (aG (J,z.2)) (bQ pO z.2.1.h z.s λz11=>(aG ((!decide ((z11.1:Int)=x.2.1)),z.2))))) (aG (aa,z.2)))) λL=>(aH L.1 (aG aa) (jn (bi L.b 5 (aA (jZ (L.c,(be x.d))) λy13=>(aH (!y13) (aG (J,L.2)) (bi L.b 10 (aA (jZ (L.e,(be x.d))) λy14=>(aG ((!y14),L.2))) (aG (aa,L.2))))) (bi L.b 10 (aA (jZ (L.e,(be x.d))) λy15=>(aG ((!y15),L.2))) (aG (aa,L.2)))) λx12=>(aH x12.1 (aG aa) (aA (kC x12.d) λy16=>(iter (σ:=Int×eC×O!) (λD=>(bM D.1 (be y16) (bQ aL y16 D.1 λz18=>(aA (jZ (z18,D.a)) λy19=>(aH (!y19) (aG (bW aa)) (cQ ((cN D.1),D.2))))) (aG (rh ((cN A.1),D.2))))) (0,x12.2.1,x12.a)))))))))) (aG J))) (0,x1.2))))
def kB (x:y!):M (Bool):=
 (jn (aA (ig x.1) λN=>(aH (!N) (aG (J,x)) (aG ((!decide (((be x.2):Int)=(be x.1.c))),x)))) λA=>(aH A.1 (Z aa) (iter (σ:=Int×y!) (λz=>(bM z.1 (be z.2.2) (bQ yL z.2.2 z.1 λD=>(aA (iH (z.2.1,z.1,D)) λL=>(aH (!L) (aG aa) (cQ ((cN z.1),z.2))))) (aG J))) (0,A.2))))
def cJ (x:me×g!):M g!:=
 (bX (bf (ah x.2.2+ah ([(x.1.1,x.1.2.1,x.1.a,x.1.b,x.1.c,x.2.1.j)])) 48) (Z (x.2.1,(x.2.2++([(x.1.1,x.1.2.1,x.1.a,x.1.b,x.1.c,x.2.1.j)])))))
abbrev E?:=(Xp×Int)×g!
def rU (rr06_gen_value:E?->M g!) (x:E?):M g!:=
 (jn (α:=g!) (bi (Xp.op x.1.1) 1 (aA (cJ ((1,x.1.2,0,0,(Xp.n x.1.1),0),x.2)) λy2=>(bX (ay (ah x.2.2) (ah x.2.2)&&J) (aG y2))) (bi (Xp.op x.1.1) 2 (aA (jD (x.2.1.g,(Xp.name x.1.1))) λy3=>(j_ 0 y3 (aA (cJ ((2,x.1.2,y3,0,0,0),x.2)) λy4=>(bX (ay (ah x.2.2) (ah x.2.2)&&J) (aG y4))) (aA (mo ((x.2.1.1,x.2.1.2.1,x.2.1.a,x.2.1.b,x.2.1.c,x.2.1.e),(Xp.name x.1.1))) λy5=>(aA (cJ ((6,x.1.2,y5,0,0,0),x.2)) λy6=>(bX (ay (ah x.2.2) (ah x.2.2)&&J) (aG y6)))))) (bi (Xp.op x.1.1) 3 (bQ (.ex) (Xp.l x.1.1) 0 λz7=>(aA (rr06_gen_value ((z7,x.1.2),x.2)) λz=>(bX (ay (ah x.2.2) (ah x.2.2)&&J) (aA (mo ((z.1.1,z.1.2.1,z.1.a,z.1.b,z.1.c,z.1.e),(Xp.name x.1.1))) λy9=>(bQ mf z.1.1 y9 λz10=>(aA (cJ ((7,x.1.2,y9,x.1.2,z10.2.2.1,0),z)) λy11=>(bX (ay (ah z.2) (ah z.2)&&J) (aG y11)))))))) (bi (aQ (ah (Xp.l x.1.1))) 1 (bQ (.ex) (Xp.l x.1.1) 0 λz12=>(aA (rr06_gen_value ((z12,x.1.2),x.2)) λL=>(bX (ay (ah x.2.2) (ah x.2.2)&&J) (aA (cJ ((3,x.1.2,x.1.2,0,(Xp.op x.1.1),0),L)) λy14=>(bX (ay (ah L.2) (ah L.2)&&J) (aG y14)))))) (bQ (.ex) (Xp.l x.1.1) 0 λz15=>(aA (rr06_gen_value ((z15,x.1.2),x.2)) λD=>(bX (ay (ah x.2.2) (ah x.2.2)&&J) (bQ (.ex) (Xp.l x.1.1) 1 λN=>(aA (rr06_gen_value ((N,(cN x.1.2)),D)) λA=>(bX (ay (ah D.2) (ah D.2)&&J) (aA (cJ ((4,x.1.2,x.1.2,(cN x.1.2),(Xp.op x.1.1),0),A)) λy19=>(bX (ay (ah A.2) (ah A.2)&&J) (aG y19))))))))))))) λx1=>(Z x1))
def iX:Nat->(E?)->M g!
 |0,_=>U
 |n+1,x=>rU (iX n) x
def CR (n:Nat) (x:E?):iX (n+1) x=rU (iX n) x:=rfl
def iW (x:E?):M g!:=iX fuel x
def mV (x:Sx×g!):M g!:=
 (bM 0 (aQ (ah (Sx.index x.1))) (bQ (.ex) (Sx.index x.1) 0 λz1=>(aA (iW ((z1,(be x.2.1.g)),x.2)) λD=>(bX (ay (ah x.2.2) (ah x.2.2)&&J) (aA (iW ((ef ((Xp.op (Sx.expr x.1)),(Xp.n (Sx.expr x.1)),(Xp.name (Sx.expr x.1)),(Xp.l (Sx.expr x.1))),(bl .i64 ((be x.2.1.g)+1))),D)) λA=>(bX (ay (ah D.2) (ah D.2)&&J) (aA (mo ((A.1.1,A.1.2.1,A.1.a,A.1.b,A.1.c,A.1.e),(Sx.name x.1))) λy4=>(bQ mf A.1.1 y4 λz5=>(aA (cJ ((9,y4,(bl .i64 ((be x.2.1.g)+1)),(be x.2.1.g),z5.2.2.1,0),A)) λy6=>(bX (ay (ah A.2) (ah A.2)&&J) (Z y6)))))))))) (aA (iW ((ef ((Xp.op (Sx.expr x.1)),(Xp.n (Sx.expr x.1)),(Xp.name (Sx.expr x.1)),(Xp.l (Sx.expr x.1))),(be x.2.1.g)),x.2)) λz=>(bX (ay (ah x.2.2) (ah x.2.2)&&J) (aA (jD (z.1.g,(Sx.name x.1))) λy8=>(j_ 0 y8 (aA (cJ ((2,y8,(be x.2.1.g),0,0,0),z)) λy9=>(bX (ay (ah z.2) (ah z.2)&&J) (Z y9))) (aA (mo ((z.1.1,z.1.2.1,z.1.a,z.1.b,z.1.c,z.1.e),(Sx.name x.1))) λN=>(aA (cJ ((8,N,(be x.2.1.g),0,0,0),z)) λL=>(bX (ay (ah z.2) (ah z.2)&&J) (Z L)))))))))
def kf (x:ζ×g!):M (Int×g!):=
 (iter (σ:=Int×g!) (λz=>(bM z.1 (be z.2.1.a) (bQ itK z.2.1.a z.1 λA=>(aH (decide ((A.1:ζ)=x.1)) (aG z) (cQ ((cN z.1),z.2)))) (aG ((-1),z.2)))) (0,x.2))
def rV (rr06_gen_stmts:aic->M g!) (rr06_gen_stmt:O2->M g!) (rr06_gen_branches:O2->M g!) (rr06_gen_around:aie->M g!) (x:(Y Sx)×g!):M g!:=
 (iter (σ:=Int×g!) (λz=>(bM z.1 (be x.1) (bQ (.sm) x.1 z.1 λA=>(aA (rr06_gen_stmt (A,z.2)) λD=>(bX (ay (ah z.2.2) (ah z.2.2)&&J) (cQ ((cN z.1),D))))) (aG z.2))) (0,x.2))
def tA (rr06_gen_stmts:aic->M g!) (rr06_gen_stmt:O2->M g!) (rr06_gen_branches:O2->M g!) (rr06_gen_around:aie->M g!) (x:Sx×g!):M g!:=
 (jn (α:=g!) (bi (Sx.op x.1) 1 (aA (mV (eh x.1,(x.2.1.1,x.2.1.2.1,x.2.1.a,x.2.1.b,x.2.1.c,x.2.1.e,x.2.1.g,x.2.1.s,(cN x.2.1.s)),x.2.2)) λy2=>(bX (ay (ah x.2.2) (ah x.2.2)&&J) (aG y2))) (jn (bi (Sx.op x.1) 2 (aG ((decide (((Sx.op x.1):Int)=2)),(x.2.1.1,x.2.1.2.1,x.2.1.a,x.2.1.b,x.2.1.c,x.2.1.e,x.2.1.g,x.2.1.s,(cN x.2.1.s)),eh x.1,x.2.2)) (aG ((decide (((Sx.op x.1):Int)=3)),(x.2.1.1,x.2.1.2.1,x.2.1.a,x.2.1.b,x.2.1.c,x.2.1.e,x.2.1.g,x.2.1.s,(cN x.2.1.s)),eh x.1,x.2.2))) λz=>(aH z.1 (aA (rr06_gen_branches (eh z.a,z.2.1,z.d)) λy4=>(bX (ay (ah z.d) (ah z.d)&&J) (aG y4))) (bi (Sx.op x.1) 4 (aA (lm (z.2.1.2.1,(Sx.name z.a))) λy5=>(aA (rr06_gen_around ((eh z.a,11,12,y5),z.2.1,z.d)) λy6=>(bX (ay (ah z.d) (ah z.d)&&J) (aG y6)))) (bi (Sx.op x.1) 5 (aA (lm (z.2.1.2.1,(Sx.name z.a))) λy7=>(aA (rr06_gen_around ((eh z.a,13,14,y7),z.2.1,z.d)) λy8=>(bX (ay (ah z.d) (ah z.d)&&J) (aG y8)))) (bi (Sx.op x.1) 6 (aA (lm (z.2.1.2.1,(Sx.name z.a))) λy9=>(aA (rr06_gen_around ((eh z.a,15,16,y9),z.2.1,z.d)) λy10=>(bX (ay (ah z.d) (ah z.d)&&J) (aG y10)))) (bi (Sx.op x.1) 7 (aA (rr06_gen_around ((eh z.a,17,18,0),z.2.1,z.d)) λy11=>(bX (ay (ah z.d) (ah z.d)&&J) (aG y11))) (bi (Sx.op x.1) 8 (aA (rr06_gen_around ((eh z.a,19,20,0),z.2.1,z.d)) λy12=>(bX (ay (ah z.d) (ah z.d)&&J) (aG y12))) (bi (Sx.op x.1) 9 (aA (kf ((Sx.name z.a),z.2.1,z.d)) λL=>(bX (ay (ah z.d) (ah L.2.2)&&J) (aA (cJ ((21,L.1,0,0,0,0),L.2)) λy14=>(bX (ay (ah L.2.2) (ah L.2.2)&&J) (aG y14))))) (bi (Sx.op x.1) 10 (aA (kf ((Sx.name z.a),z.2.1,z.d)) λD=>(bX (ay (ah z.d) (ah D.2.2)&&J) (aA (cJ ((22,D.1,0,0,0,0),D.2)) λy16=>(bX (ay (ah D.2.2) (ah D.2.2)&&J) (aG y16))))) (bi (Sx.op x.1) 11 (aA (kf ((Sx.name z.a),z.2.1,z.d)) λA=>(bX (ay (ah z.d) (ah A.2.2)&&J) (aA (cJ ((23,A.1,0,0,0,0),A.2)) λy18=>(bX (ay (ah A.2.2) (ah A.2.2)&&J) (aG y18))))) (bi (Sx.op x.1) 12 (aA (jD (z.2.1.c,(Sx.name z.a))) λy19=>(aA (cJ ((24,y19,0,0,0,0),z.2.1,z.d)) λy20=>(bX (ay (ah z.d) (ah z.d)&&J) (aG y20)))) (bi (Sx.op x.1) 13 (aA (jD (z.2.1.c,(Sx.name z.a))) λy21=>(aA (cJ ((25,y21,0,0,0,0),z.2.1,z.d)) λy22=>(bX (ay (ah z.d) (ah z.d)&&J) (aG y22)))) (bi (Sx.op x.1) 14 (aA (iW ((ef ((Xp.op (Sx.expr z.a)),(Xp.n (Sx.expr z.a)),(Xp.name (Sx.expr z.a)),(Xp.l (Sx.expr z.a))),(be x.2.1.g)),z.2.1,z.d)) λN=>(bX (ay (ah z.d) (ah z.d)&&J) (aA (jD (N.1.b,(Sx.name z.a))) λy24=>(aA (cJ ((26,y24,(be x.2.1.g),0,0,0),N)) λy25=>(bX (ay (ah N.2) (ah N.2)&&J) (aG y25)))))) (bi (Sx.op x.1) 15 (aA (jD (z.2.1.g,(Sx.name z.a))) λy26=>(aA (jD (z.2.1.b,(Sx.arg z.a))) λy27=>(aA (cJ ((27,y26,y27,0,0,0),z.2.1,z.d)) λy28=>(bX (ay (ah z.d) (ah z.d)&&J) (aG y28))))) (aG (z.2.1,z.d))))))))))))))))) λx1=>(Z x1))
def nO (rr06_gen_stmts:aic->M g!) (rr06_gen_stmt:O2->M g!) (rr06_gen_branches:O2->M g!) (rr06_gen_around:aie->M g!) (x:Sx×g!):M g!:=
 (aA (iW ((ef ((Xp.op (Sx.expr x.1)),(Xp.n (Sx.expr x.1)),(Xp.name (Sx.expr x.1)),(Xp.l (Sx.expr x.1))),(be x.2.1.g)),x.2)) λA=>(bX (ay (ah x.2.2) (ah x.2.2)&&J) (aA (cJ ((10,(be A.1.g),0,0,0,0),A)) λy2=>(bX (ay (ah A.2) (ah A.2)&&J) (aA (rr06_gen_stmts ((Sx.body x.1),y2)) λz=>(bX (ay (ah y2.2) (ah y2.2)&&J) (bi (Sx.op x.1) 3 (aA (cJ ((5,(be x.2.2),0,0,0,0),(z.1.1,z.1.2.1,z.1.a,z.1.b,z.1.c,z.1.e,z.1.g,x.2.1.j,z.1.s),z.2)) λL=>(bX (ay (ah z.2) (ah z.2)&&J) (ck (fe (be A.2) (ah L.2)) (Z (L.1,(cH L.2 (be A.2) ((geti sx L.2 (be A.2)).1,((geti sx L.2 (be A.2)).2).1,(be L.2),(((geti sx L.2 (be A.2)).2).2).2))))))) (bi (aQ (ah (Sx.els x.1))) 0 (ck (fe (be A.2) (ah z.2)) (Z ((z.1.1,z.1.2.1,z.1.a,z.1.b,z.1.c,z.1.e,z.1.g,x.2.1.j,z.1.s),(cH z.2 (be A.2) ((geti sx z.2 (be A.2)).1,((geti sx z.2 (be A.2)).2).1,(be z.2),(((geti sx z.2 (be A.2)).2).2).2))))) (aA (cJ ((5,0,0,0,0,0),(z.1.1,z.1.2.1,z.1.a,z.1.b,z.1.c,z.1.e,z.1.g,x.2.1.j,z.1.s),z.2)) λD=>(bX (ay (ah z.2) (ah z.2)&&J) (ck (fe (be A.2) (ah D.2)) (aA (rr06_gen_stmts ((Sx.els x.1),D.1,(cH D.2 (be A.2) ((geti sx D.2 (be A.2)).1,((geti sx D.2 (be A.2)).2).1,(be D.2),(((geti sx D.2 (be A.2)).2).2).2)))) λN=>(bX (ay (ah (cH D.2 (be A.2) ((geti sx D.2 (be A.2)).1,((geti sx D.2 (be A.2)).2).1,(be D.2),(((geti sx D.2 (be A.2)).2).2).2))) (ah (cH D.2 (be A.2) ((geti sx D.2 (be A.2)).1,((geti sx D.2 (be A.2)).2).1,(be D.2),(((geti sx D.2 (be A.2)).2).2).2)))&&J) (ck (fe (be z.2) (ah N.2)) (Z (N.1,(cH N.2 (be z.2) ((geti sx N.2 (be z.2)).1,(be N.2),((geti sx N.2 (be z.2)).2).2))))))))))))))))))
def pY (rr06_gen_stmts:aic->M g!) (rr06_gen_stmt:O2->M g!) (rr06_gen_branches:O2->M g!) (rr06_gen_around:aie->M g!) (x:U?):M g!:=
 (aA (cJ ((x.1.2.1,x.1.d,0,0,0,0),x.2)) λA=>(bX (ay (ah x.2.2) (ah x.2.2)&&J) (aA (rr06_gen_stmts ((Sx.body x.1.1),A)) λz=>(bX (ay (ah A.2) (ah A.2)&&J) (aA (cJ ((x.1.a,x.1.d,0,0,0,0),(z.1.1,z.1.2.1,z.1.a,z.1.b,z.1.c,z.1.e,z.1.g,x.2.1.j,z.1.s),z.2)) λD=>(bX (ay (ah z.2) (ah z.2)&&J) (Z D)))))))
mutual
def dP:Nat->aic->M g!
 |0,_=>U
 |n+1,x=>rV (dP n) (eU n) (dh n) (dM n) x
def eU:Nat->O2->M g!
 |0,_=>U
 |n+1,x=>tA (dP n) (eU n) (dh n) (dM n) x
def dh:Nat->O2->M g!
 |0,_=>U
 |n+1,x=>nO (dP n) (eU n) (dh n) (dM n) x
def dM:Nat->aie->M g!
 |0,_=>U
 |n+1,x=>pY (dP n) (eU n) (dh n) (dM n) x
end
def vH (x:(Y Sx)×g!):M g!:=dP fuel x
abbrev B?:=Int×(yI×Y yH)×eC×tH×Int×(Y (Int×Y me))×Y me
def rM (x:y?):M (El×i?):=
 (aA (fB x) λy1=>(iE y1.1 0 (Z (((([]:Y Wq),([]:Y F!),([]:Y jS),([]:Y ζ),([]:Y ζ),([]:Y π)),([]:Y O!)),y1)) (aA (vI x) λy2=>(iter (σ:=(ν)×(yI×Y yH)×y!) (λA=>(bM A.1.2 (be A.2.1.2) (bQ uw A.2.1.2 A.1.2 λz4=>(bQ uw A.2.1.2 A.1.2 λz5=>(aA (vH (z5.2.2.2,(A.a.1,A.a.2.1,A.a.a,A.a.b,A.a.c,A.a.h,z4.2.2.1,0,A.1.1),([]:Y me))) λL=>(bX (ay (ah ([]:Y me)) (ah ([]:Y me))&&J) (aA (cJ ((28,0,0,0,0,0),(L.1.1,L.1.2.1,L.1.a,L.1.b,L.1.c,L.1.e,L.1.g,(-1),L.1.s),L.2)) λy7=>(bX (ay (ah L.2) (ah L.2)&&J) (iter (σ:=B?) (λD=>(bM D.1 (be D.k) (jY sx D.k D.1 λz9=>(aA (kC z9) λN=>(iter (σ:=B?) (λz=>(bM z.1 (be N) (bQ aL N z.1 λz12=>(cQ ((cN z.1),z.2.1,z.a,z.b,(mH z.c (cN z12)),z.h))) (aG (rh ((cN D.1),z.2))))) (0,D.2)))) (aA (bX (bf (ah D.e+ah ([(D.c,D.k)])) 32) (cQ ((L.1.s,(cN A.1.2)),D.2.1,D.a,(D.e++([(D.c,D.k)]))))) λr=>Z (bW r)))) (0,A.2.1,A.a,y7.1,(be y7.1.g),A.d,y7.2)))))))) (aG (A.2.2,0,0)))) ((0,0),x,y2,([]:Y O!))))))
def rL (x:n!):M (Bool):=
 (iter (σ:=Int) (λz=>(bM z (be x.1) (bQ aL x.1 z λA=>(bi A x.2 (aG J) (cQ (cN z)))) (aG aa))) 0)
def xZ (x:n!):M η:=
 (iter (σ:=Int) (λz=>(jn (bM z (be x.1) (bQ aL x.1 z λD=>(aG (fK D x.2))) (aG aa)) λN=>(aH N (cQ (cN z)) (aA (jn (bM z (be x.1) (bQ aL x.1 z λA=>(aG (decide ((A:Int)=x.2)))) (aG aa)) λL=>(aH L (Z x.1) (bX (dm 0 z&&dm z (ah x.1)) (bX (bf (ah ([]:η)+ah (dB (aO z) x.1)) 8) (bX (bf (ah (([]:η)++(dB (aO z) x.1))+ah ([x.2])) 8) (bX (dm 0 z&&dm z (ah x.1)) (bX (bf (ah ((([]:η)++(dB (aO z) x.1))++([x.2]))+ah (List.drop (aO z) x.1)) 8) (Z (((([]:η)++(dB (aO z) x.1))++([x.2]))++(List.drop (aO z) x.1)))))))))) λr=>Z (bW r))))) 0)
abbrev t?:=(η)×Int
abbrev A?:=η×η
def sT (x:A?):M η:=
 (iter (σ:=t?) (λA=>(bM A.2 (be x.1) (bQ aL x.1 A.2 λL=>(aA (xZ (A.1,L)) λy3=>(cQ (y3,(cN A.2))))) (aA (iter (σ:=t?) (λz=>(bM z.2 (be x.2) (bQ aL x.2 z.2 λD=>(aA (xZ (z.1,D)) λN=>(cQ (N,(cN z.2))))) (aG z.1))) (A.1,0)) λr=>Z (bW r)))) (([]:η),0))
def nk (x:Int):M (Int):=
 (jn (bM x 1 (aG J) (aG (fK 100 x))) λz=>(aH z (Z 0) (Z x)))
abbrev q!:=(η)×Y η
def cC (x:k?):M (ν×q!):=
 (bX (bf (ah ([]:η)+ah x.2.1) 8) (iter (σ:=Int×xy×(ν)×(ν)×q!) (λz=>(bM z.1 (be z.2.1.a) (bQ (.sl aL) z.2.1.a z.1 λA=>(bX (bf (ah ([]:η)+ah A) 8) (bX (bf (ah z.h+ah ([(([]:η)++A)])) 24) (cQ ((cN z.1),z.2.1,z.a,z.b,z.c,(z.h++([(([]:η)++A)]))))))) (aG z.d))) (0,x,(0,0),(x.1,x.d),(([]:η)++x.2.1),([]:Y η))))
abbrev R?:=(η)×(Y η)×me×(ν)×i?
def xY (x:(me×Int×Int)×q!):M ((ν×Bool)×q!):=
 (aA (kC x.1.1) λy1=>(iter (σ:=Int×R?) (λz=>(bM z.1 (be y1) (jn (bQ aL y1 z.1 λz4=>(bM z4 0 (aG (J,z.2)) (bQ aL y1 z.1 λz5=>(aG ((dm (be z.2.1) z5),z.2))))) λx3=>(aH x3.1 U (cQ ((cN z.1),x3.2)))) (aA (jn (α:=(Int×Bool×η)×R?) (bi z.b.1 5 (cQ (((z.b.2.1,z.c.2),J),z.2.1,z.a)) (bi z.b.1 1 (aG ((z.b.c,J,([]:η)),z.2)) (bi z.b.1 2 (jY aL z.2.1 z.b.a λz7=>(jY (.sl aL) z.a z.b.a λz8=>(aG ((z7,J,z8),z.2)))) (bi z.b.1 3 (aA (nk z.b.c) λy9=>(jY aL z.2.1 z.b.a λz10=>(aA (vJ (y9,z10)) λL=>(jY (.sl aL) z.a z.b.a λz12=>(aG ((L.1,L.2,z12),z.2)))))) (aA (nk z.b.c) λy13=>(jY aL z.2.1 z.b.a λz14=>(jY aL z.2.1 z.b.b λz15=>(aA (tP (y13,z14,z15)) λD=>(jY (.sl aL) z.a z.b.a λz17=>(jY (.sl aL) z.a z.b.b λN=>(aA (sT (z17,N)) λy19=>(aG ((D.1,D.2,y19),z.2))))))))))))) λA=>(bX (bf (ah ([]:η)+ah A.1.2.2) 8) (ck (fe A.b.2.1 (ah A.2.1)) (ck (fe A.b.2.1 (ah A.a)) (Z ((((cN A.c.1),A.c.2),A.1.2.1),(cH A.2.1 A.b.2.1 A.1.1),(cH A.a A.b.2.1 (([]:η)++A.1.2.2)))))))) λr=>Z (bW r)))) (0,x.2.1,x.2.2,x.1.1,x.1.2,0,0)))
def oD (x:(Int×Y me)×k?):M (xy×Bool):=
 (jn (α:=Bool×(Int×Y me)×xy×i?) (iE (be x.a) x.1.1 (aG (J,x.1,x.2,0,0)) (aG ((!decide (((be x.b):Int)=x.1.1)),x.1,x.2,0,0))) λL=>(aH L.1 (Z ((0,([]:η),([]:Y η),0),aa)) (aA (cC L.a) λy2=>(iter (σ:=Int×(Int×Y me)×(ν)×(ν)×q!) (λA=>(j_ A.1 (be A.2.1.2) (jn (bM A.a.1 0 (aG (J,A.2)) (aG ((dm (be A.2.1.2) A.a.1),A.2))) λz=>(aH z.1 (aG ((0,([]:η),([]:Y η),0),aa)) (bQ sx z.2.1.2 z.a.1 λN=>(aA (qN N.1) λy6=>(aH (!y6) (aG ((z.a.1,z.c,z.h,z.a.2),J)) (bi A.1 (be z.2.1.2) (aG ((0,([]:η),([]:Y η),0),aa)) (aA (xY ((N,z.a),z.f)) λD=>(bX (ay (ah z.h) (ah D.2.2)&&(ay (ah z.c) (ah D.2.1)&&J)) (aH (!D.1.2) (aG ((0,([]:η),([]:Y η),0),aa)) (cQ ((cN A.1),z.2.1,D.1.1,z.b,D.2))))))))))) (aG ((0,([]:η),([]:Y η),0),aa)))) (0,L.2.1,y2.1,L.d,y2.2)))))
abbrev q?:=Int×Int×jR×h?
abbrev C!:=jR×h?
abbrev O?:=Int×Y (Int×η)
def sR (x:c!):M qV:=
 (iter (σ:=Int×eC×Int×O?) (λD=>(bM D.1 (be D.2.1.2.1) (bX (bf (ah D.f+ah ([((-1),([]:η))])) 32) (cQ ((cN D.1),D.2.1,D.a,D.b,(D.f++([((-1),([]:η))]))))) (aA (iter (σ:=Int×eC×Int×Int×jR×θ) (λA=>(bM A.1 (be A.2.1.b) (bX (bf (ah A.h+ah ([aa])) 1) (cQ ((cN A.1),A.2.1,A.a,A.b,A.c,(A.h++([aa]))))) (aA (iter (σ:=Int×eC×q?) (λz=>(bM z.1 (be z.2.1.c) (jn (α:=eC×Int×Int×dX×C!) (bi z.1 0 (aG (z.2.1,z.a,z.b,(1,0,aa),z.f)) (aG (z.2.1,z.a,z.b,(0,0,aa),z.f))) λL=>(bX (bf (ah L.k+ah ([L.b])) 24) (cQ ((cN z.1),L.1,L.2.1,L.a,L.c,L.e,(L.k++([L.b])))))) (aG (z.c,z.b,z.h)))) (0,A.2.1,A.a,A.b,A.c,A.h,([]:Y dX))) λr=>Z (bW r)))) (0,D.2.1,D.a,D.b,D.f,([]:θ))) λr=>Z (bW r)))) (0,x,0,(-1),([]:Y k!)))
def sS (x:eC×v?):M (Bool):=
 (iter (σ:=Int×eC×v?) (λz=>(bM z.1 (be z.2.1.a) (jn (bQ itK z.2.1.a z.1 λL=>(bM L.2 0 (aG (J,z.2)) (bQ itK z.2.1.a z.1 λD=>(aG ((dm (be z.2.1.2.1) D.2),z.2))))) λA=>(aH A.1 (aG aa) (cQ ((cN z.1),A.2)))) (aA (jn (bi (be z.a) (be z.2.1.2.1) (bi (be z.c) (be z.2.1.b) (aG (decide (((be z.h):Int)=(be z.2.1.c)))) (aG aa)) (aG aa)) λN=>(Z N)) λr=>Z (bW r)))) (0,x))
def rK (x:ν):M (Bool):=
 (jn (j_ 0 x.1 (aG (fK x.1 x.2)) (aG aa)) λz=>(Z z))
def vG (x:eC×i?):M (Bool):=
 (jn (bi x.2.1 1 (aG ((decide ((x.2.1:Int)=1)),x.1)) (bi x.2.1 2 (aG ((decide ((x.2.1:Int)=2)),x.1)) (bi x.2.1 5 (aG ((decide ((x.2.1:Int)=5)),x.1)) (bi x.2.1 12 (aG ((decide ((x.2.1:Int)=12)),x.1)) (bi x.2.1 13 (aG ((decide ((x.2.1:Int)=13)),x.1)) (bi x.2.1 14 (aG ((decide ((x.2.1:Int)=14)),x.1)) (aG ((decide ((x.2.1:Int)=15)),x.1)))))))) λx1=>(aH x1.1 (Z (decide ((x.2.2:Int)=(-1)))) (jn (bi x.2.1 3 (aG ((decide ((x.2.1:Int)=3)),x1.2)) (aG ((decide ((x.2.1:Int)=4)),x1.2))) λx2=>(aH x2.1 (aA (rK (x.2.2,(be x2.2.1))) λy3=>(Z y3)) (jn (bi x.2.1 6 (aG ((decide ((x.2.1:Int)=6)),x2.2)) (aG ((decide ((x.2.1:Int)=7)),x2.2))) λL=>(aH L.1 (jn (aA (rK (x.2.2,(be L.a))) λy6=>(aH y6 (bQ s9 L.a x.2.2 λz7=>(aG (!z7.2))) (aG aa))) λx5=>(Z x5)) (jn (bi x.2.1 8 (aG ((decide ((x.2.1:Int)=8)),L.2)) (bi x.2.1 9 (aG ((decide ((x.2.1:Int)=9)),L.2)) (bi x.2.1 10 (aG ((decide ((x.2.1:Int)=10)),L.2)) (aG ((decide ((x.2.1:Int)=11)),L.2))))) λD=>(aH D.1 (jn (aA (rK (x.2.2,(be D.a))) λy10=>(aH y10 (bQ s9 D.a x.2.2 λz11=>(aG z11.2)) (aG aa))) λx9=>(Z x9)) (jn (bi x.2.1 16 (aG ((decide ((x.2.1:Int)=16)),D.2)) (bi x.2.1 17 (aG ((decide ((x.2.1:Int)=17)),D.2)) (bi x.2.1 18 (aG ((decide ((x.2.1:Int)=18)),D.2)) (aG ((decide ((x.2.1:Int)=19)),D.2))))) λA=>(aH A.1 (aA (rK (x.2.2,(be A.b))) λy13=>(Z y13)) (jn (bi x.2.1 20 (aG ((decide ((x.2.1:Int)=20)),A.2)) (aG ((decide ((x.2.1:Int)=21)),A.2))) λz=>(aH z.1 (aA (rK (x.2.2,(be z.e))) λy15=>(Z y15)) (jn (bi x.2.1 22 (aG ((decide ((x.2.1:Int)=22)),z.2)) (aG ((decide ((x.2.1:Int)=23)),z.2))) λN=>(aH N.1 (aA (rK (x.2.2,(be N.c))) λy17=>(Z y17)) (Z aa)))))))))))))))
abbrev P?:=eC×qV×Int×i?
def lj (x:P?):M (Bool):=
 (jn (aA (sS (x.1,x.2.1)) λy2=>(aH (!y2) (aG (J,x.1,x.2.1)) (aA (rK (x.a,(be x.1.c))) λy3=>(aH (!y3) (aG (J,x.1,x.2.1)) (aA (vG (x.1,x.d)) λy4=>(aG ((!y4),x.1,x.2.1))))))) λD=>(aH D.1 (Z aa) (bQ il D.h x.a λL=>(bi x.b 1 (Z (decide ((L.1:Int)=1))) (bi x.b 17 (jn (α:=Bool) (bi L.1 4 (bi L.2.1 x.f (bQ itK D.2.1.a x.f λz7=>(bQ dQ D.a z7.2 λz8=>(aG (decide ((z8.1:Int)=(-1)))))) (aG aa)) (aG aa)) λx6=>(Z x6)) (iE L.1 2 (Z aa) (bi x.b 6 (bQ dQ D.a x.f λz9=>(Z (decide ((z9.1:Int)=(-1))))) (bi x.b 10 (jn (α:=Bool) (bQ dQ D.a x.f λz11=>(bi z11.1 (-1) (bQ dQ D.a x.f λz12=>(aG (decide (((be z12.2):Int)=0)))) (aG aa))) λx10=>(Z x10)) (bi x.b 8 (jn (α:=Bool) (bQ dQ D.a x.f λz14=>(bi z14.1 (-1) (bQ dQ D.a x.f λz15=>(aA (rL (z15.2,x.a)) λy16=>(aG (!y16)))) (aG aa))) λx13=>(Z x13)) (jn (bi x.b 7 (aG ((decide ((x.b:Int)=7)),D.2.1,D.2.2,L)) (aG ((decide ((x.b:Int)=11)),D.2.1,D.2.2,L))) λz=>(aH z.1 (bQ dQ z.a.1 x.f λz18=>(Z (decide ((z18.1:Int)=x.a)))) (bi x.b 9 (bQ dQ z.a.1 x.f λz19=>(aA (rL (z19.2,x.a)) λy20=>(Z y20))) (bi x.b 12 (Z (decide ((z.a.2.1:Int)=(-1)))) (bi x.b 13 (Z (decide ((z.a.2.1:Int)=x.a))) (bi x.b 14 (Z (!z.h)) (bi x.b 15 (Z z.h) (jn (bi x.b 16 (aG ((decide ((x.b:Int)=16)),z.2.1,z.a)) (bi x.b 18 (aG ((decide ((x.b:Int)=18)),z.2.1,z.a)) (aG ((decide ((x.b:Int)=19)),z.2.1,z.a)))) λA=>(aH A.1 (bQ itK A.2.1.a x.f λz22=>(bQ dQ A.a z22.2 λz23=>(Z (decide ((z23.1:Int)=x.a))))) (bi x.b 20 (jn (iE x.f x.a (bQ il A.h x.f λz25=>(aG (decide ((z25.1:Int)=0)))) (aG aa)) λx24=>(Z x24)) (bi x.b 21 (jn (iE x.f x.a (bQ il A.h x.f λz27=>(aG (decide ((z27.1:Int)=5)))) (aG aa)) λx26=>(Z x26)) (bi x.b 22 (bQ (.bool) A.c x.f λz28=>(Z (!z28))) (bi x.b 23 (bQ (.bool) A.c x.f λN=>(Z N)) (Z J)))))))))))))))))))))))
def oW (x:qV×Int):M η:=
 (iter (σ:=Int×qV×η) (λz=>(bM z.1 (be z.2.1.d) (jn (α:=qV×η) (jn (bQ il z.2.1.d z.1 λL=>(bi L.1 3 (bQ il z.2.1.d z.1 λD=>(aG ((decide ((D.2.1:Int)=x.2)),z.2))) (aG (aa,z.2)))) λA=>(aH A.1 (bX (bf (ah A.2.2+ah ([z.1])) 8) (aG (A.2.1,(A.2.2++([z.1]))))) (aG A.2))) λN=>(cQ ((cN z.1),N))) (aG z.2.2))) (0,x.1,([]:η)))
def rJ (x:n!):M η:=
 (iter (σ:=k!) (λz=>(bM z.1 (be x.1) (jn (α:=η) (bQ aL x.1 z.1 λD=>(iE D x.2 (bQ aL x.1 z.1 λA=>(bX (bf (ah z.2+ah ([A])) 8) (aG (z.2++([A]))))) (aG z.2))) λL=>(cQ ((cN z.1),L))) (aG z.2))) (0,([]:η)))
def iG (x:v?):M (Int×C!):=
 (bX (bf (ah ([]:θ)+ah x.a) 1) (bX (bf (ah ([]:Y dX)+ah x.d) 24) (iter (σ:=Int×qV×q?) (λz=>(bM z.1 (be z.2.1.1) (bQ dQ z.2.1.1 z.1 λD=>(bQ dQ z.2.1.1 z.1 λA=>(bX (bf (ah ([]:η)+ah A.2) 8) (bX (bf (ah z.c+ah ([(D.1,(([]:η)++A.2))])) 32) (cQ ((cN z.1),z.2.1,z.a,z.b,(z.c++([(D.1,(([]:η)++A.2))])),z.h)))))) (aG z.d))) (0,x,0,x.2.1,([]:Y k!),(([]:θ)++x.a),(([]:Y dX)++x.d)))))
def nj (x:ν×C!):M (η×C!):=
 (iter (σ:=Int×jR×(θ)×(Y dX)×k!) (λz=>(bM z.1 (be z.b) (jn (α:=jR×(θ)×(Y dX)×k!) (jn (jY il z.b z.1 λL=>(bi L.1 3 (jY il z.b z.1 λD=>(aG ((decide ((D.2.1:Int)=x.1.2)),z.2))) (aG (aa,z.2)))) λA=>(aH A.1 (bX (bf (ah A.h+ah ([z.1])) 8) (aG (A.2.1,A.a,A.b,A.c,(A.h++([z.1]))))) (aG A.2))) λN=>(cQ ((cN z.1),N))) (aG (z.h,z.2.1,z.a,z.b)))) (0,x.2.1,x.a,x.d,x.1.1,([]:η)))
def kA (x:ν×C!):M η:=aA (nj x) λy=>same y.2 x.2 (Z y.1)
abbrev S!:=eC×qV×s?
abbrev W?:=Int×q?
def qu (x:S!):M (qV×o?):=
 (aA (lj (x.1,x.2.1,x.a,x.b,x.c)) λy1=>(aH (!y1) (Z ((([]:Y k!),0,([]:θ),([]:Y dX)),0,aa)) (aA (iG x.2.1) λL=>(jn (α:=W?) (bi x.b 1 (ck (fe x.a (ah L.d)) (aG (0,L.1,0,L.2.1,L.a,(cH L.d x.a (2,(geti il L.d x.a).2))))) (bi x.b 2 (ck (fe x.a (ah L.d)) (aG (0,L.1,0,L.2.1,L.a,(cH L.d x.a (5,(geti il L.d x.a).2))))) (jn (α:=Bool×eC×q?) (bi x.b 6 (aG ((decide ((x.b:Int)=6)),x.1,L.1,0,L.2)) (aG ((decide ((x.b:Int)=10)),x.1,L.1,0,L.2))) λN=>(aH N.1 (ck (fe x.c (ah N.c)) (aG (0,N.a,N.b,(cH N.c x.c (x.a,(geti dQ N.c x.c).2)),N.h))) (jn (bi x.b 7 (aG ((decide ((x.b:Int)=7)),N.2)) (aG ((decide ((x.b:Int)=11)),N.2))) λz=>(aH z.1 (ck (fe x.c (ah z.c)) (aG (0,z.a,z.b,(cH z.c x.c ((-1),(geti dQ z.c x.c).2)),z.h))) (bi x.b 8 (jY dQ z.c x.c λz6=>(aA (sT (z6.2,[x.a])) λy7=>(ck (fe x.c (ah z.c)) (aG (0,z.a,z.b,(cH z.c x.c ((geti dQ z.c x.c).1,y7)),z.h))))) (bi x.b 9 (jY dQ z.c x.c λz8=>(aA (rJ (z8.2,x.a)) λy9=>(ck (fe x.c (ah z.c)) (aG (0,z.a,z.b,(cH z.c x.c ((geti dQ z.c x.c).1,y9)),z.h))))) (bi x.b 12 (aG (0,x.a,z.d)) (bi x.b 13 (aG (0,(-1),z.d)) (bi x.b 14 (ck (fe x.a (ah z.k)) (aG (0,z.a,z.b,z.c,z.e,(cH z.k x.a ((geti il z.k x.a).1,((geti il z.k x.a).2).1,J))))) (bi x.b 15 (ck (fe x.a (ah z.k)) (aG (0,z.a,z.b,z.c,z.e,(cH z.k x.a ((geti il z.k x.a).1,((geti il z.k x.a).2).1,aa))))) (bi x.b 16 (bQ itK z.2.1.a x.c λz10=>(ck (fe z10.2 (ah z.c)) (ck (fe x.a (ah z.k)) (ck (fe x.a (ah (cH z.k x.a (3,(geti il z.k x.a).2)))) (aG (0,z.a,z.b,(cH z.c z10.2 ((-1),(geti dQ z.c z10.2).2)),z.e,(cH (cH z.k x.a (3,(geti il z.k x.a).2)) x.a ((geti il (cH z.k x.a (3,(geti il z.k x.a).2)) x.a).1,x.c,((geti il (cH z.k x.a (3,(geti il z.k x.a).2)) x.a).2).2)))))))) (bi x.b 17 (bQ itK z.2.1.a x.c λz11=>(ck (fe z11.2 (ah z.c)) (ck (fe x.a (ah z.k)) (ck (fe x.a (ah (cH z.k x.a (2,(geti il z.k x.a).2)))) (aG (0,z.a,z.b,(cH z.c z11.2 (x.a,(geti dQ z.c z11.2).2)),z.e,(cH (cH z.k x.a (2,(geti il z.k x.a).2)) x.a ((geti il (cH z.k x.a (2,(geti il z.k x.a).2)) x.a).1,0,((geti il (cH z.k x.a (2,(geti il z.k x.a).2)) x.a).2).2)))))))) (bi x.b 18 (aA (kA ((z.a,x.c),z.f)) λy12=>(bM 0 (be y12) (bQ aL y12 0 λz13=>(jn (aA (rL (y12,x.h)) λy15=>(aH y15 (aG (x.h,z.2.2)) (aG (z13,z.2.2)))) λD=>(ck (fe D.1 (ah D.h)) (aG (D.1,D.2.1,D.a,D.b,D.c,(cH D.h D.1 (4,(geti il D.h D.1).2))))))) (aG ((-1),z.2.2)))) (bi x.b 19 (aA (kA ((z.a,x.c),z.f)) λy16=>(iter (σ:=W?) (λA=>(bM A.1 (be y16) (bQ aL y16 A.1 λz18=>(ck (fe z18 (ah A.h)) (cQ ((cN A.1),A.2.1,A.a,A.b,A.c,(cH A.h z18 (4,(geti il A.h z18).2)))))) (aG (bW ((be y16),A.2))))) (0,z.2.2))) (bi x.b 20 (ck (fe x.c (ah z.k)) (aG (0,z.a,z.b,z.c,z.e,(cH z.k x.c (1,(geti il z.k x.c).2))))) (bi x.b 22 (ck (fe x.c (ah z.e)) (aG (0,z.a,z.b,z.c,(cH z.e x.c J),z.k))) (aG (0,z.2.2)))))))))))))))))))) λx3=>(Z ((x3.b,x3.2.1,x3.f),x3.1,J))))))
abbrev N!:=(η)×η
def vF (x:y!):M zV:=
 (aA (kB x) λy1=>(aH (!y1) (Z ((([]:Y k!),0,([]:θ),([]:Y dX)),([]:η),([]:η),([]:Y xy))) (aA (sR x.1) λy2=>(iter (σ:=Int×El×Int×qV×η) (λD=>(bM D.1 (be D.2.1.1.1) (bQ mf D.2.1.1.1 D.1 λz4=>(bX (bf (ah D.f+ah ([z4.2.2.2.2])) 8) (cQ ((cN D.1),D.2.1,D.a,D.b,(D.f++([z4.2.2.2.2])))))) (aA (iter (σ:=Int×El×Int×qV×N!) (λA=>(bM A.1 (be A.2.1.1.b) (bX (bf (ah A.h+ah ([0])) 8) (cQ ((cN A.1),A.2.1,A.a,A.b,A.c,(A.h++([0]))))) (aA (iter (σ:=Int×El×Int×h!) (λz=>(bM z.1 (be z.2.1.2) (nh z.1 z.2.1.2 (lt ((geti yL z.2.1.2 z.1).1) λN=>(bX (dm 0 N&&dm N N&&bf (aO N) 8) (nh z.1 z.2.1.2 (lt ((geti yL z.2.1.2 z.1).1) λL=>(bX (dm 0 L&&dm L L&&bf (aO L) 24) (bX (bf (ah z.k+ah ([(0,(aF (aO N) (0:Int)),(aF (aO L) ([]:η)),0)])) 64) (cQ ((cN z.1),z.2.1,z.a,z.b,z.c,z.e,(z.k++([(0,(aF (aO N) (0:Int)),(aF (aO L) ([]:η)),0)]))))))))))) (aG z.d))) (0,A.2.1,A.a,A.b,A.c,A.h,([]:Y xy))) λr=>Z (bW r)))) (0,D.2.1,D.a,D.b,D.f,([]:η))) λr=>Z (bW r)))) (0,x,0,y2,([]:η))))))
def xX (x:El×h!):M (Bool):=
 (jn (aA (kB x.1) λy2=>(aH (!y2) (aG (J,x)) (aA (sS (x.1.1,x.2.1)) λy3=>(aH (!y3) (aG (J,x)) (iE (be x.a) (be x.1.1.1) (aG (J,x)) (iE (be x.b) (be x.1.1.b) (aG (J,x)) (aG ((!decide (((be x.f):Int)=(be x.1.2))),x)))))))) λL=>(aH L.1 (Z aa) (iter (σ:=Int×El×h!) (λz=>(bM z.1 (be z.2.1.2) (bQ e_ z.h z.1 λA=>(jn (bM A.1 0 (aG (J,z.2)) (bQ yL z.2.1.2 z.1 λz7=>(j_ (be z7.2) A.1 (aG (J,z.2)) (bQ yL z.2.1.2 z.1 λz8=>(iE (be A.2.1) z8.1 (aG (J,z.2)) (bQ yL z.2.1.2 z.1 λN=>(aG ((!decide (((be A.a):Int)=N.1)),z.2)))))))) λD=>(aH D.1 (aG aa) (cQ ((cN z.1),D.2))))) (aG J))) (0,L.2))))
def xV (x:Int):M (Int):=
 (jn (α:=Bool×η) (bM x 6 (aG (J,[3,3,4,4,5,6,7,8,9,10,11,12,13,14,15,16,18,19,20,21,22,23,2])) (aG ((fK 28 x),[3,3,4,4,5,6,7,8,9,10,11,12,13,14,15,16,18,19,20,21,22,23,2]))) λz=>(aH z.1 (Z 0) (jY aL z.2 (bl .i64 (x-6)) λA=>(Z A))))
def tO (x:me×k?):M (Int):=
 (jn (bi x.1.1 6 (aG ((decide ((x.1.1:Int)=6)),x)) (aG ((decide ((x.1.1:Int)=27)),x))) λz=>(aH z.1 (Z z.2.1.a) (bi x.1.1 7 (bQ aL z.b z.2.1.b λL=>(aA (sU (L,z.2.1.c)) λy3=>(Z (bl .i64 (z.2.1.a+y3))))) (bi x.1.1 9 (bQ aL z.b z.2.1.b λD=>(aA (sU (D,z.2.1.c)) λN=>(Z (bl .i64 (z.2.1.2.1+N))))) (jn (bi x.1.1 10 (aG ((decide ((x.1.1:Int)=10)),z.2.1)) (bi x.1.1 17 (aG ((decide ((x.1.1:Int)=17)),z.2.1)) (bi x.1.1 18 (aG ((decide ((x.1.1:Int)=18)),z.2.1)) (bi x.1.1 19 (aG ((decide ((x.1.1:Int)=19)),z.2.1)) (bi x.1.1 20 (aG ((decide ((x.1.1:Int)=20)),z.2.1)) (aG ((decide ((x.1.1:Int)=28)),z.2.1))))))) λA=>(aH A.1 (Z (-1)) (Z A.a)))))))
def oV (x:El×zV×Int):M (im×Bool):=
 (jn (α:=Bool×El×zV×Int×s?) (aA (xX (x.1,x.2.1)) λy2=>(aH (!y2) (aG (J,x.1,x.2.1,0,0,0,0,0)) (bM x.2.2 0 (aG (J,x.1,x.2.1,0,0,0,0,0)) (aG ((dm (be x.1.2) x.2.2),x.1,x.2.1,0,0,0,0,0))))) λx1=>(aH x1.1 (Z ((0,0,0,0,0,([]:η),([]:η)),aa)) (bQ e_ x1.a.d x.2.2 λz3=>(bQ yL x1.2.1.2 x.2.2 λz4=>(bQ sx z4.2 z3.1 λD=>(bQ il x1.a.1.d x.2.2 λz6=>(bi z6.1 1 (Z ((x.2.2,1,(-1),0,(-1),([]:η),([]:η)),J)) (bi z6.1 4 (bQ il x1.a.1.d x.2.2 λz7=>(Z ((x.2.2,17,z7.2.1,0,D.h,([]:η),([]:η)),J))) (bi z6.1 2 (aA (xV D.1) λy8=>(aA (tO (D,z3)) λy9=>(bi y8 0 (Z ((0,0,0,0,0,([]:η),([]:η)),aa)) (jn (α:=Ga×xy×me×Ga×η) (bi D.1 10 (bQ (.sl aL) z3.a D.2.1 λz11=>(bX (bf (ah (z11:η)) 8) (aG (x1.d,z3,D,(x.2.2,y8,y9,0,D.h),z11)))) (jn (α:=Bool×Ga×xy×me×Int×s?) (bi D.1 7 (aG ((decide ((D.1:Int)=7)),x1.d,z3,D,x.2.2,y8,y9,0,D.h)) (aG ((decide ((D.1:Int)=9)),x1.d,z3,D,x.2.2,y8,y9,0,D.h))) λz=>(aH z.1 (bQ (.sl aL) z.a.a z.b.b λz13=>(bX (bf (ah (z13:η)) 8) (aG (z.2.1,z.a,z.b,z.f,z13)))) (aG (z.2.1,z.a,z.b,z.f,([]:η)))))) λN=>(jn (α:=Ga×Ga×N!) (jn (bi N.a.1 8 (aG (J,N)) (bi N.a.1 9 (aG (J,N)) (aG ((decide ((N.a.1:Int)=26)),N)))) λA=>(aH A.1 (bQ (.sl aL) A.a.a A.b.a λz16=>(bX (bf (ah (z16:η)) 8) (aG (A.2.1,A.c,A.h,z16)))) (aG (A.2.1,A.c,A.h,([]:η))))) λL=>(Z ((L.2.1.1,L.2.1.2.1,L.2.1.a,L.2.1.b,L.2.1.f,L.2.2),J))))))) (Z ((0,0,0,0,0,([]:η),([]:η)),aa)))))))))))
def oe (x:c!):M j9:=
 (aA (sR x) λD=>(bX (dm 0 (be x.b)&&dm (be x.b) (be x.b)&&bf (aO (be x.b)) 8) (bX (dm 0 (be x.c)&&dm (be x.c) (be x.c)&&bf (aO (be x.c)) 8) (iter (σ:=Int×eC×Int×R!) (λz=>(bM z.1 (be z.2.1.1) (bQ mf z.2.1.1 z.1 λA=>(bX (bf (ah z.c+ah ([A.2.2.2.2])) 8) (cQ ((cN z.1),z.2.1,z.a,z.b,(z.c++([A.2.2.2.2])),z.h)))) (aG z.d))) (0,x,0,D,([]:η),(aF (aO (be x.b)) (0:Int)),(aF (aO (be x.c)) (0:Int)))))))
def xU (x:eC×R!):M (Bool):=
 (jn (aA (sS (x.1,x.2.1)) λz=>(aH z (bi (be x.a) (be x.1.1) (bi (be x.b) (be x.1.b) (aG (decide (((be x.f):Int)=(be x.1.c)))) (aG aa)) (aG aa)) (aG aa))) λA=>(Z A))
def EV (x:ν):M (Bool):=
 (jn (j_ 0 x.1 (aG (fK x.1 x.2)) (aG aa)) λz=>(Z z))
def oU (x:n!):M (Bool):=
 (iter (σ:=Int) (λz=>(bM z (be x.1) (jn (bQ aL x.1 z λN=>(bM N 1 (aG J) (bQ aL x.1 z λL=>(j_ x.2 L (aG J) (bM 0 z (bQ aL x.1 z λD=>(bQ aL x.1 (bl .i64 (z-1)) λA=>(aG (dm D A)))) (aG aa)))))) λx2=>(aH x2 (aG aa) (cQ (cN z)))) (aG J))) 0)
abbrev L?:=j9×b?
def vD (x:L?):M (Bool):=
 (bi x.a 3 (bQ aL x.1.2.1 x.b λL=>(Z (decide ((x.c:Int)=L)))) (bi x.a 23 (bQ aL x.1.a x.b λD=>(Z (decide ((x.c:Int)=D)))) (bi x.a 5 (jn (bi x.c 0 (aG J) (aG (decide ((x.c:Int)=1)))) λx3=>(Z x3)) (jn (bi x.a 4 (aG ((decide ((x.a:Int)=4)),x)) (aG ((decide ((x.a:Int)=22)),x))) λz=>(aH z.1 (Z J) (bi x.a 18 (aA (oW (z.2.1.1,z.c)) λA=>(bi (be A) 0 (Z (decide ((z.e:Int)=(-1)))) (jn (j_ 0 z.e (bM z.e (be z.2.1.1.d) (aA (rL (A,z.e)) λy7=>(aG y7)) (aG aa)) (aG aa)) λx6=>(Z x6)))) (bi x.a 19 (aA (oW (z.2.1.1,z.c)) λN=>(Z (decide ((z.e:Int)=(be N))))) (Z (decide ((z.e:Int)=0))))))))))
abbrev G?:=eC×j9×im×Int
def sQ (x:eC×L?):M (j9×Bool):=
 (jn (α:=Bool×G?) (aA (xU (x.1,x.2.1)) λy2=>(aH (!y2) (aG (J,x.1,x.2.1,x.2.2,0)) (aA (EV (x.a,(be x.1.c))) λy3=>(aH (!y3) (aG (J,x.1,x.2.1,x.2.2,0)) (bM x.b 1 (aG (J,x.1,x.2.1,x.2.2,0)) (bM 23 x.b (aG (J,x.1,x.2.1,x.2.2,0)) (aA (lj (x.1,x.2.1.1,x.a,x.b,x.c)) λy4=>(aG ((!y4),x.1,x.2.1,x.2.2,0))))))))) λx1=>(aH x1.1 (Z (((([]:Y k!),0,([]:θ),([]:Y dX)),([]:η),([]:η),([]:η)),aa)) (jn (α:=G?) (jn (bi x1.b.2.1 1 (aG (J,x1.2)) (aG ((decide ((x1.b.2.1:Int)=2)),x1.2))) λx6=>(aH x6.1 (iE x6.b.c (-1) (cQ (((([]:Y k!),0,([]:θ),([]:Y dX)),([]:η),([]:η),([]:η)),aa)) (aG x6.2)) (jn (aA (EV (x6.b.c,(be x6.2.1.h))) λy8=>(aH (!y8) (aG (J,x6.2)) (bQ pO x6.2.1.h x6.b.c λz9=>(aG ((!decide ((z9.1:Int)=x6.b.1)),x6.2))))) λx7=>(aH x7.1 (cQ (((([]:Y k!),0,([]:θ),([]:Y dX)),([]:η),([]:η),([]:η)),aa)) (aG x7.2))))) λx5=>(jn (bi x5.a.2.1 3 (aG (J,x5)) (aG ((decide ((x5.a.2.1:Int)=4)),x5))) λx10=>(jn (bM 0 (be x10.b.e) (iE x10.b.2.1 5 (aH x10.1 (bQ mf x10.2.1.1 x10.b.a λz12=>(aG ((!(!decide ((z12.2.2.1:Int)=0))),x10.2))) (aG (J,x10.2))) (aG (aa,x10.2))) (aG (aa,x10.2))) λx11=>(aH x11.1 (Z (((([]:Y k!),0,([]:θ),([]:Y dX)),([]:η),([]:η),([]:η)),aa)) (jn (bM 0 (be x11.b.k) (iE x11.b.2.1 4 (aG ((!decide ((x11.b.2.1:Int)=22)),x11.2)) (aG (aa,x11.2))) (aG (aa,x11.2))) λL=>(aH L.1 (Z (((([]:Y k!),0,([]:θ),([]:Y dX)),([]:η),([]:η),([]:η)),aa)) (jn (bQ aL L.a.d L.b.1 λz15=>(aA (oU (L.b.e,z15)) λy16=>(aH (!y16) (aG (J,L.2)) (bQ aL L.a.d L.b.1 λz17=>(aA (oU (L.b.k,z17)) λy18=>(aH (!y18) (aG (J,L.2)) (aA (vD (L.a,L.b)) λy19=>(aG ((!y19),L.2))))))))) λz=>(aH z.1 (Z (((([]:Y k!),0,([]:θ),([]:Y dX)),([]:η),([]:η),([]:η)),aa)) (bX (bf (ah ([]:η)+ah z.a.2.1) 8) (bX (bf (ah ([]:η)+ah z.a.a) 8) (bX (bf (ah ([]:η)+ah z.a.d) 8) (jn (α:=Int×eC×j9×im×Int×Int×f?) (bi z.b.2.1 18 (aG (z.b.b,z.2.1,z.a,z.b,z.f,0,(([]:η)++z.a.2.1),(([]:η)++z.a.a),(([]:η)++z.a.d))) (aG ((-1),z.2.1,z.a,z.b,z.f,0,(([]:η)++z.a.2.1),(([]:η)++z.a.a),(([]:η)++z.a.d)))) λA=>(aA (qu (A.2.1,A.a.1,A.b.1,A.b.2.1,A.b.a,A.1)) λy21=>(jn (bi A.b.2.1 4 (ck (fe A.b.a (ah A.g)) (aG (A.b,A.c,y21.1,(cH A.g A.b.a A.b.b),A.p))) (aG (A.b,A.c,y21.1,A.k))) λD=>(jn (bi D.1.2.1 22 (ck (fe D.1.a (ah D.c)) (aG (D.1,D.2.1,D.a,D.b,(cH D.c D.1.a D.1.b),D.h))) (aG D)) λN=>(jY aL N.h N.1.1 λz24=>(ck (fe N.1.1 (ah N.h)) (Z ((N.a,N.b,N.c,(cH N.h N.1.1 (cN z24))),J)))))))))))))))))))))
def sP (x:(Y im)×Int×k!):M (Bool):=
 (iter (σ:=Int) (λA=>(bM A (be x.d) (iter (σ:=Int×Bool×Int) (λz=>(bM z.2.2 x.2.1 (jn (bQ iC x.1 z.2.2 λz4=>(iE z4.1 x.a (aG (z.1,z.2.1)) (jn (aH z.2.1 (aG J) (bQ aL x.d A λz6=>(bi z.1 z6 (bQ iC x.1 z.2.2 λN=>(bi N.2.1 3 (aG J) (bQ iC x.1 z.2.2 λL=>(aG (decide ((L.2.1:Int)=23)))))) (aG aa)))) λx5=>(aG ((cN z.1),x5))))) λD=>(cQ (D.1,D.2,(cN z.2.2)))) (aA (aH (!z.2.1) (aG aa) (cQ (cN A))) λr=>Z (bW r)))) (0,aa,0)) (aG J))) 0)
abbrev u!:=eC×Y im
def vE (x:u!):M ν:=
 (bM 400 (be x.2) (Z (0,2)) (aA (ig x.1) λy1=>(aH (!y1) (Z (0,1)) (aA (oe x.1) λy2=>(iter (σ:=Int×(eC×Y im)×R!) (λz=>(bM z.1 (be z.2.1.2) (bQ iC z.2.1.2 z.1 λA=>(aA (sQ (z.2.1.1,z.2.2,A)) λD=>(jn (aH (!D.2) (aG (J,z.2.1,z.2.2,D.1)) (aA (sP (z.2.1.2,z.1,A.1,A.e)) λy7=>(aH (!y7) (aG (J,z.2.1,z.2.2,D.1)) (aA (sP (z.2.1.2,z.1,A.1,A.k)) λN=>(aG ((!N),z.2.1,z.2.2,D.1)))))) λL=>(aH L.1 (aG (z.1,12)) (cQ ((cN z.1),L.2.1,L.d)))))) (aG (0,0)))) (0,x,y2))))))
def KG {W V:Type} (i:Int) (t1:R->(η)->(Y η)->W) (t2:W->V) (t3:V->xy->Y xy) (x6:Int) (z:El×qV×(ν)×Int×Ga×im×(ν)×(η)×(η)×R×(η)×Y η):M F_:=
 (jn (jn (iE z.e.2.1 16 (aG ((!decide ((z.e.2.1:Int)=2)),z.1,z.2.1,z.a,z.b,z.c,z.e,(x6,z.l,z.v,(cN z.g.2)),z.j,z.m,(t1 z.o z.l z.v))) (aG (aa,z.1,z.2.1,z.a,z.b,z.c,z.e,(x6,z.l,z.v,(cN z.g.2)),z.j,z.m,(t1 z.o z.l z.v)))) λA=>(aH A.1 (bQ yL A.2.1.2 A.b.1 λL=>(aA (oD (L,A.j)) λN=>(aG (A.a,A.b,A.c,A.e,A.g,N.1,A.m,A.o,(t2 A.w))))) (aG (A.a,A.b,A.c,A.e,A.g,A.j,A.m,A.o,(t2 A.w))))) λD=>(bi D.2.1.1 i (Z ((D.1,D.g,D.j,(t3 D.s D.e)),D.c,J)) U))
abbrev w!:=El×zV×i?
def SG (i:Int) (cp:h!->M (Int×jR×(θ)×(Y dX)×(η)×(η)×R×(η)×Y η)) (N ev:R->Int) (k:Int->(El×qV×(ν)×Int×Ga×im×(ν)×(η)×(η)×R×(η)×Y η)->M F_) (x:w!):M F_:=
 (aA (oV (x.1,x.2.1,x.a)) λD=>(aH (!D.2) (Z (((([]:Y k!),0,([]:θ),([]:Y dX)),([]:η),([]:η),([]:Y xy)),(0,0,0,0,0,([]:η),([]:η)),aa)) (aA (qu (x.1.1,x.2.1.1,x.a,D.1.2.1,D.1.a,x.d)) λy2=>(aH (!y2.2.2) (Z (((([]:Y k!),0,([]:θ),([]:Y dX)),([]:η),([]:η),([]:Y xy)),(0,0,0,0,0,([]:η),([]:η)),aa)) (aA (cp x.2.1) λL=>(bi x.a i (bQ yL x.1.2 i λz4=>(bQ sx z4.2 (N L.g) λz5=>(jn (α:=Int×El×qV×(ν)×Int×Ga×im×(ν)×me×(η)×(η)×R×(η)×Y η) (jn (α:=Bool×El×qV×(ν)×Int×Ga×im×(ν)×me×(η)×(η)×R×(η)×Y η) (bi D.1.2.1 1 (aG ((decide ((D.1.2.1:Int)=1)),x.1,y2.1,(i,x.d),0,(0,0,0,0,0),(D.1.1,D.1.2.1,D.1.a,y2.2.1,D.1.f),((N L.g),(ev L.g)),z5,L.f)) (bi D.1.2.1 16 (aG ((decide ((D.1.2.1:Int)=16)),x.1,y2.1,(i,x.d),0,(0,0,0,0,0),(D.1.1,D.1.2.1,D.1.a,y2.2.1,D.1.f),((N L.g),(ev L.g)),z5,L.f)) (aG ((decide ((D.1.2.1:Int)=2)),x.1,y2.1,(i,x.d),0,(0,0,0,0,0),(D.1.1,D.1.2.1,D.1.a,y2.2.1,D.1.f),((N L.g),(ev L.g)),z5,L.f)))) λz=>(aH z.1 (aG (z.j.1,z.2)) (bi D.1.2.1 3 (jY aL z.o z.g.a λz8=>(aG ((bl .i64 ((N L.g)+1)),z.2.1,z.a,z.b,z.c,z.e,(z.g.1,z.g.2.1,z.g.a,z8,z.g.f),z.p))) (bi D.1.2.1 23 (jY aL z.l z.g.a λz9=>(aG ((bl .i64 ((N L.g)+1)),z.2.1,z.a,z.b,z.c,z.e,(z.g.1,z.g.2.1,z.g.a,z9,z.g.f),z.p))) (bi D.1.2.1 4 (jY aL z.i z.m.a λz10=>(ck (fe z.g.a (ah z.o)) (aG ((bl .i64 ((N L.g)+1)),z.2.1,z.a,z.b,z.c,z.e,(z.g.1,z.g.2.1,z.g.a,z10,z.g.f),z.j,z.m,(cH z.o z.g.a z10),z.w)))) (bi D.1.2.1 22 (jY aL z.i z.m.a λz11=>(ck (fe z.g.a (ah z.l)) (aG ((bl .i64 ((N L.g)+1)),z.2.1,z.a,z.b,z.c,z.e,(z.g.1,z.g.2.1,z.g.a,z11,z.g.f),z.j,z.m,z.o,(cH z.l z.g.a z11),z.v)))) (bi D.1.2.1 5 (jY aL z.i z.m.2.1 λz12=>(bi z12 0 (aG (z.m.a,z.2.1,z.a,z.b,z.c,z.e,(z.g.1,z.g.2.1,z.g.a,0,z.g.f),z.p)) (aG ((bl .i64 ((N L.g)+1)),z.2.1,z.a,z.b,z.c,z.e,(z.g.1,z.g.2.1,z.g.a,1,z.g.f),z.p)))) (aG ((bl .i64 ((N L.g)+1)),z.2))))))))) λx6=>(jn (α:=El×qV×(ν)×Int×Ga×im×(ν)×(η)×(η)×R×(η)×Y η) (jn (bi x6.g.2.1 3 (aG (J,x6.2)) (aG ((decide ((x6.g.2.1:Int)=23)),x6.2))) λA=>(aH A.1 (ck (fe A.m.2.1 (ah A.i)) (ck (fe A.m.2.1 (ah A.z)) (aG (A.2.1,A.a,A.b,A.c,A.e,A.g,A.j,A.o,A.l,A.n,(cH A.i A.m.2.1 A.g.b),(cH A.z A.m.2.1 ([A.j.2])))))) (aG (A.2.1,A.a,A.b,A.c,A.e,A.g,A.j,A.B)))) λx13=>(k x6.1 x13))))) U))))))
def oC (x:h!):M (Int×jR×(θ)×(Y dX)×(η)×(η)×(ν)×q!):=
 (aA (iG x.1) λz=>(bX (bf (ah ([]:η)+ah x.2.1) 8) (bX (bf (ah ([]:η)+ah x.a) 8) (bM 0 (be x.d) (bQ e_ x.d 0 λD=>(aA (cC D) λL=>(bM 1 (be x.d) (bQ e_ x.d 1 λA=>(aA (cC A) λN=>U)) (Z (z.1,z.2.1,z.a,z.d,(([]:η)++x.2.1),(([]:η)++x.a),L))))) U))))
def gm (x:w!):M F_:=
 SG 0 oC (λz=>z.1) (λz=>z.2) (KG 0 (λz R T=>(z.1,R,T,z.2)) (λw=>((w.1,w.2.1,w.2.2.1,w.2.2.2))) (λv t=>[t])) x
def oB (x:h!):M (Int×jR×(θ)×(Y dX)×(η)×(η)×Ya29×q!):=
 (aA (iG x.1) λA=>(bX (bf (ah ([]:η)+ah x.2.1) 8) (bX (bf (ah ([]:η)+ah x.a) 8) (bM 0 (be x.d) (bQ e_ x.d 0 λz2=>(aA (cC z2) λD=>(bM 1 (be x.d) (bQ e_ x.d 1 λN=>(aA (cC N) λz=>(bM 2 (be x.d) (bQ e_ x.d 2 λL=>(aA (cC L) λy7=>U)) (Z (A.1,A.2.1,A.a,A.d,(([]:η)++x.2.1),(([]:η)++x.a),(D.1.1,D.1.2,z.1.1,z.2.1,z.2.2,z.1.2),D.2))))) U))) U))))
def gI (x:w!):M F_:=
 SG 0 oB (λz=>z.1) (λz=>z.2.1) (KG 0 (λz R T=>(z.1,R,T,z.2.1,z.2.2)) (λw=>((w.1,w.2.1,w.2.2.1,w.2.2.2.1),w.2.2.2.2)) (λv t=>[t,v.2])) x
def oA (x:h!):M (Int×jR×(θ)×(Y dX)×(η)×(η)×(xy×Int×Int)×q!):=
 (aA (iG x.1) λA=>(bX (bf (ah ([]:η)+ah x.2.1) 8) (bX (bf (ah ([]:η)+ah x.a) 8) (bM 0 (be x.d) (bQ e_ x.d 0 λz2=>(aA (cC z2) λz=>(bM 1 (be x.d) (bQ e_ x.d 1 λN=>(aA (cC N) λD=>(bM 2 (be x.d) (bQ e_ x.d 2 λL=>(aA (cC L) λy7=>U)) (Z (A.1,A.2.1,A.a,A.d,(([]:η)++x.2.1),(([]:η)++x.a),((z.1.1,z.2.1,z.2.2,z.1.2),D.1),D.2))))) U))) U))))
def gk (x:w!):M F_:=
 SG 1 oA (λz=>z.2.1) (λz=>z.2.2) (KG 1 (λz R T=>(z.1,z.2.1,R,T,z.2.2)) (λw=>(w.1,(w.2.1,w.2.2.1,w.2.2.2.1,w.2.2.2.2))) (λv t=>[v.1,t])) x
def oz (x:h!):M (Int×jR×(θ)×(Y dX)×(η)×(η)×Ya27×q!):=
 (aA (iG x.1) λD=>(bX (bf (ah ([]:η)+ah x.2.1) 8) (bX (bf (ah ([]:η)+ah x.a) 8) (bM 0 (be x.d) (bQ e_ x.d 0 λz2=>(aA (cC z2) λL=>(bM 1 (be x.d) (bQ e_ x.d 1 λz4=>(aA (cC z4) λA=>(bM 2 (be x.d) (bQ e_ x.d 2 λz6=>(aA (cC z6) λz=>(bM 3 (be x.d) (bQ e_ x.d 3 λN=>(aA (cC N) λy9=>U)) (Z (D.1,D.2.1,D.a,D.d,(([]:η)++x.2.1),(([]:η)++x.a),(L.1.1,L.1.2,(A.1.1,A.2.1,A.2.2,A.1.2),z.1.1,z.2.1,z.2.2,z.1.2),L.2))))) U))) U))) U))))
def kc (x:w!):M F_:=
 SG 0 oz (λz=>z.1) (λz=>z.2.1) (KG 0 (λz R T=>(z.1,R,T,z.2.1,z.a,z.d)) (λw=>((w.1,w.2.1,w.2.2.1,w.2.2.2.1),w.2.2.2.2.1,w.2.2.2.2.2)) (λv t=>[t,v.2.1,v.2.2])) x
def oy (x:h!):M (Int×jR×(θ)×(Y dX)×(η)×(η)×Ya28×q!):=
 (aA (iG x.1) λD=>(bX (bf (ah ([]:η)+ah x.2.1) 8) (bX (bf (ah ([]:η)+ah x.a) 8) (bM 0 (be x.d) (bQ e_ x.d 0 λz2=>(aA (cC z2) λA=>(bM 1 (be x.d) (bQ e_ x.d 1 λz4=>(aA (cC z4) λL=>(bM 2 (be x.d) (bQ e_ x.d 2 λz6=>(aA (cC z6) λz=>(bM 3 (be x.d) (bQ e_ x.d 3 λN=>(aA (cC N) λy9=>U)) (Z (D.1,D.2.1,D.a,D.d,(([]:η)++x.2.1),(([]:η)++x.a),((A.1.1,A.2.1,A.2.2,A.1.2),L.1.1,L.1.2,z.1.1,z.2.1,z.2.2,z.1.2),L.2))))) U))) U))) U))))
def iV (x:w!):M F_:=
 SG 1 oy (λz=>z.2.1) (λz=>z.a) (KG 1 (λz R T=>(z.1,z.2.1,R,T,z.a,z.d)) (λw=>(w.1,(w.2.1,w.2.2.1,w.2.2.2.1,w.2.2.2.2.1),w.2.2.2.2.2)) (λv t=>[v.1,t,v.2.2])) x
def ox (x:h!):M (Int×jR×(θ)×(Y dX)×(η)×(η)×(xy×xy×Int×Int)×q!):=
 (aA (iG x.1) λD=>(bX (bf (ah ([]:η)+ah x.2.1) 8) (bX (bf (ah ([]:η)+ah x.a) 8) (bM 0 (be x.d) (bQ e_ x.d 0 λz2=>(aA (cC z2) λA=>(bM 1 (be x.d) (bQ e_ x.d 1 λz4=>(aA (cC z4) λz=>(bM 2 (be x.d) (bQ e_ x.d 2 λz6=>(aA (cC z6) λL=>(bM 3 (be x.d) (bQ e_ x.d 3 λN=>(aA (cC N) λy9=>U)) (Z (D.1,D.2.1,D.a,D.d,(([]:η)++x.2.1),(([]:η)++x.a),((A.1.1,A.2.1,A.2.2,A.1.2),(z.1.1,z.2.1,z.2.2,z.1.2),L.1),L.2))))) U))) U))) U))))
def ie (x:w!):M F_:=
 SG 2 ox (λz=>z.a) (λz=>z.d) (KG 2 (λz R T=>(z.1,z.2.1,z.a,R,T,z.d)) (λw=>(w.1,w.2.1,(w.2.2.1,w.2.2.2.1,w.2.2.2.2.1,w.2.2.2.2.2))) (λv t=>[v.1,v.2.1,t])) x
def ov (x:h!):M (Int×jR×(θ)×(Y dX)×(η)×(η)×Ya23×q!):=
 (aA (iG x.1) λL=>(bX (bf (ah ([]:η)+ah x.2.1) 8) (bX (bf (ah ([]:η)+ah x.a) 8) (bM 0 (be x.d) (bQ e_ x.d 0 λz2=>(aA (cC z2) λy3=>(bM 1 (be x.d) (bQ e_ x.d 1 λz4=>(aA (cC z4) λD=>(bM 2 (be x.d) (bQ e_ x.d 2 λz6=>(aA (cC z6) λA=>(bM 3 (be x.d) (bQ e_ x.d 3 λz8=>(aA (cC z8) λz=>(bM 4 (be x.d) (bQ e_ x.d 4 λN=>(aA (cC N) λy11=>U)) (Z (L.1,L.2.1,L.a,L.d,(([]:η)++x.2.1),(([]:η)++x.a),(y3.1.1,y3.1.2,(D.1.1,D.2.1,D.2.2,D.1.2),(A.1.1,A.2.1,A.2.2,A.1.2),z.1.1,z.2.1,z.2.2,z.1.2),y3.2))))) U))) U))) U))) U))))
def oh (x:w!):M F_:=
 SG 0 ov (λz=>z.1) (λz=>z.2.1) (KG 0 (λz R T=>(z.1,R,T,z.2.1,z.a,z.b,z.f)) (λw=>((w.1,w.2.1,w.2.2.1,w.2.2.2.1),w.2.2.2.2.1,w.2.2.2.2.2.1,w.2.2.2.2.2.2)) (λv t=>[t,v.2.1,v.2.2.1,v.2.2.2])) x
def ou (x:h!):M (Int×jR×(θ)×(Y dX)×(η)×(η)×Ya24×q!):=
 (aA (iG x.1) λL=>(bX (bf (ah ([]:η)+ah x.2.1) 8) (bX (bf (ah ([]:η)+ah x.a) 8) (bM 0 (be x.d) (bQ e_ x.d 0 λz2=>(aA (cC z2) λD=>(bM 1 (be x.d) (bQ e_ x.d 1 λz4=>(aA (cC z4) λy5=>(bM 2 (be x.d) (bQ e_ x.d 2 λz6=>(aA (cC z6) λA=>(bM 3 (be x.d) (bQ e_ x.d 3 λz8=>(aA (cC z8) λz=>(bM 4 (be x.d) (bQ e_ x.d 4 λN=>(aA (cC N) λy11=>U)) (Z (L.1,L.2.1,L.a,L.d,(([]:η)++x.2.1),(([]:η)++x.a),((D.1.1,D.2.1,D.2.2,D.1.2),y5.1.1,y5.1.2,(A.1.1,A.2.1,A.2.2,A.1.2),z.1.1,z.2.1,z.2.2,z.1.2),y5.2))))) U))) U))) U))) U))))
def og (x:w!):M F_:=
 SG 1 ou (λz=>z.2.1) (λz=>z.a) (KG 1 (λz R T=>(z.1,z.2.1,R,T,z.a,z.b,z.f)) (λw=>(w.1,(w.2.1,w.2.2.1,w.2.2.2.1,w.2.2.2.2.1),w.2.2.2.2.2.1,w.2.2.2.2.2.2)) (λv t=>[v.1,t,v.2.2.1,v.2.2.2])) x
def oq (x:h!):M (Int×jR×(θ)×(Y dX)×(η)×(η)×Ya25×q!):=
 (aA (iG x.1) λL=>(bX (bf (ah ([]:η)+ah x.2.1) 8) (bX (bf (ah ([]:η)+ah x.a) 8) (bM 0 (be x.d) (bQ e_ x.d 0 λz2=>(aA (cC z2) λD=>(bM 1 (be x.d) (bQ e_ x.d 1 λz4=>(aA (cC z4) λA=>(bM 2 (be x.d) (bQ e_ x.d 2 λz6=>(aA (cC z6) λy7=>(bM 3 (be x.d) (bQ e_ x.d 3 λz8=>(aA (cC z8) λz=>(bM 4 (be x.d) (bQ e_ x.d 4 λN=>(aA (cC N) λy11=>U)) (Z (L.1,L.2.1,L.a,L.d,(([]:η)++x.2.1),(([]:η)++x.a),((D.1.1,D.2.1,D.2.2,D.1.2),(A.1.1,A.2.1,A.2.2,A.1.2),y7.1.1,y7.1.2,z.1.1,z.2.1,z.2.2,z.1.2),y7.2))))) U))) U))) U))) U))))
def mn (x:w!):M F_:=
 SG 2 oq (λz=>z.a) (λz=>z.b) (KG 2 (λz R T=>(z.1,z.2.1,z.a,R,T,z.b,z.f)) (λw=>(w.1,w.2.1,(w.2.2.1,w.2.2.2.1,w.2.2.2.2.1,w.2.2.2.2.2.1),w.2.2.2.2.2.2)) (λv t=>[v.1,v.2.1,t,v.2.2.2])) x
def ol (x:h!):M (Int×jR×(θ)×(Y dX)×(η)×(η)×Ya42×q!):=
 (aA (iG x.1) λL=>(bX (bf (ah ([]:η)+ah x.2.1) 8) (bX (bf (ah ([]:η)+ah x.a) 8) (bM 0 (be x.d) (bQ e_ x.d 0 λz2=>(aA (cC z2) λD=>(bM 1 (be x.d) (bQ e_ x.d 1 λz4=>(aA (cC z4) λA=>(bM 2 (be x.d) (bQ e_ x.d 2 λz6=>(aA (cC z6) λz=>(bM 3 (be x.d) (bQ e_ x.d 3 λz8=>(aA (cC z8) λy9=>(bM 4 (be x.d) (bQ e_ x.d 4 λN=>(aA (cC N) λy11=>U)) (Z (L.1,L.2.1,L.a,L.d,(([]:η)++x.2.1),(([]:η)++x.a),((D.1.1,D.2.1,D.2.2,D.1.2),(A.1.1,A.2.1,A.2.2,A.1.2),(z.1.1,z.2.1,z.2.2,z.1.2),y9.1),y9.2))))) U))) U))) U))) U))))
def li (x:w!):M F_:=
 SG 3 ol (λz=>z.b) (λz=>z.f) (KG 3 (λz R T=>(z.1,z.2.1,z.a,z.b,R,T,z.f)) (λw=>(w.1,w.2.1,w.2.2.1,(w.2.2.2.1,w.2.2.2.2.1,w.2.2.2.2.2.1,w.2.2.2.2.2.2))) (λv t=>[v.1,v.2.1,v.2.2.1,t])) x
def Cj (x:w!):M F_:=orE (oh x) (orE (og x) (orE (mn x) (orE (li x) (orE (kc x) (orE (iV x) (orE (ie x) (orE (gI x) (orE (gk x) (gm x)))))))))
def xW (x:El×zV×Y ν):M ((Y im)×h!):=
 (iter (σ:=Int×(Y im)×El×zV×Int) (λA=>(jn (bM A.1 (be x.2.2) (aG ((fK (be A.2.1) 400),A.2)) (aG (aa,A.2))) λz=>(aH z.1 (jn (α:=(Y im)×El×zV×Int) (bQ fI x.2.2 A.1 λL=>(aA (Cj (z.a,z.b,L)) λD=>(aH D.2.2 (bX (bf (ah z.2.1+ah ([D.2.1])) 88) (aG ((z.2.1++([D.2.1])),z.a,D.1,z.f))) (aG z.2)))) λN=>(cQ ((cN A.1),N))) (aG (z.2.1,z.b))))) (0,([]:Y im),x.1,x.2.1,0))
def Bc (x:El×Y ν):M ((eC×Y im)×h!):=
 (aA (kB x.1) λD=>(aH (!D) (Z (((([]:Y Wq),([]:Y F!),([]:Y jS),([]:Y ζ),([]:Y ζ),([]:Y π)),([]:Y im)),(([]:Y k!),0,([]:θ),([]:Y dX)),([]:η),([]:η),([]:Y xy))) (aA (vF x.1) λA=>(aA (xW (x.1,A,x.2)) λz=>(Z ((x.1.1,z.1),z.2))))))
abbrev J!:=Int×t?
def bH (x:J!):M J!:=
 (jn (j_ (be x.2.1) x.2.2 (aG (J,x.2)) (aG ((fK x.1 1),x.2))) λz=>(aH z.1 (Z (0,z.2)) (lt (cN z.2.2) λD=>(bQ (.int .u8) z.2.1 (bl .i64 (D-1)) λA=>(bX (!decide ((x.1:Int)=0)) (Z ((Ca (bl .i64 A) x.1),z.2.1,(cN z.2.2))))))))
def sY (x:Int):M (Xp):=
 (Z (ef (1,x,[],([]:Y Xp))))
def qE (x:ζ):M (Xp):=
 (Z (ef (2,0,x,([]:Y Xp))))
def oZ (x:Int×Xp×Xp):M (Xp):=
 (Z (ef (x.1,0,[],[ef ((Xp.op x.2.1),(Xp.n x.2.1),(Xp.name x.2.1),(Xp.l x.2.1)),ef ((Xp.op x.2.2),(Xp.n x.2.2),(Xp.name x.2.2),(Xp.l x.2.2))])))
def j6 (x:ζ×Xp):M (Sx):=
 (Z (o6 (1,0,x.1,[],([]:Y Xp),ef ((Xp.op x.2),(Xp.n x.2),(Xp.name x.2),(Xp.l x.2)),([]:Y Sx),([]:Y Sx))))
def tR (x:Unit):M yI:=
 (Z ([(1,0,[120],0,0,[]),(1,0,[121],0,1,[]),(2,0,[118],0,0,[]),(1,0,[113],2,0,[]),(3,0,[109],0,0,[]),(3,0,[110],0,0,[]),(4,0,[114],0,0,[]),(5,0,[99],0,0,[109]),(6,0,[102],0,0,[])]))
def pL (x:η):M (Y ν):=
 (iter (σ:=Int×Y ν) (λz=>(bM z.1 (be x) (bQ (.int .u8) x z.1 λD=>(bQ (.int .u8) x z.1 λA=>(bX (bf (ah z.2+ah ([((Ca (bl .i64 D) 4),(bl .i64 ((Ca (bl .i64 (Int.tdiv (bl .i64 A) 4)) 5)-1)))])) 16) (cQ ((cN z.1),(z.2++([((Ca (bl .i64 D) 4),(bl .i64 ((Ca (bl .i64 (Int.tdiv (bl .i64 A) 4)) 5)-1)))]))))))) (aG z.2))) (0,([]:Y ν)))
def o_ (rmade_maker_expr:ad3->M am1) (x:W!):M am1:=
 (aA (bH (10,x.a)) λy1=>(jn (α:=Bool×Em×ic×Wr×(Int×Int×ζ)×Y ζ) (bM y1.1 2 (aG (J,x.2.1,y1.2,x.d,(0,0,[]),[[97],[98],[120],[121],[118],[120],[121]])) (bi x.1 0 (aG ((dm 7 y1.1),x.2.1,y1.2,x.d,(0,0,[]),[[97],[98],[120],[121],[118],[120],[121]])) (aG (aa,x.2.1,y1.2,x.d,(0,0,[]),[[97],[98],[120],[121],[118],[120],[121]])))) λz=>(aH z.1 (aA (bH (4,z.a)) λy3=>(aA (sY y3.1) λy4=>(Z (ef ((Xp.op y4),(Xp.n y4),(Xp.name y4),(Xp.l y4)),z.2.1,y3.2,z.b)))) (bM y1.1 7 (aA (bH ((be z.h),z.a)) λy5=>(jY (.str) z.h y5.1 λz6=>(aA (qE z6) λy7=>(Z (ef ((Xp.op y7),(Xp.n y7),(Xp.name y7),(Xp.l y7)),z.2.1,y5.2,z.b))))) (bi y1.1 7 (aA (rmade_maker_expr (0,z.2.1,z.a,z.b)) λN=>(bX (((z.b.1==N.b)&&J)&&ay (ah z.b.2) (ah N.f)&&J) (Z (ef (3,0,[113],[ef ((Xp.op N.1),(Xp.n N.1),(Xp.name N.1),(Xp.l N.1))]),N.2)))) (aA (bH ((aQ (ah ([6,7,8,11,13,17]))),z.a)) λy9=>(jY aL ([6,7,8,11,13,17]) y9.1 λz10=>(aA (rmade_maker_expr ((bl .i64 (x.1-1)),z.2.1,y9.2,z.b)) λA=>(bX (((z.b.1==A.b)&&J)&&ay (ah z.b.2) (ah A.f)&&J) (aA (rmade_maker_expr ((bl .i64 (x.1-1)),A.2)) λL=>(bX (((A.b==L.b)&&J)&&ay (ah A.f) (ah L.f)&&J) (aA (oZ (z10,A.1,L.1)) λD=>(Z (ef ((Xp.op D),(Xp.n D),(Xp.name D),(Xp.l D)),L.2))))))))))))))
def iJ:Nat->ad3->M am1
 |0,_=>U
 |n+1,x=>o_ (iJ n) x
def AF (n:Nat) (x:W!):iJ (n+1) x=o_ (iJ n) x:=rfl
def fo (x:W!):M am1:=iJ fuel x
def eT (x:ζ×j?):M (Bool×j?):=
 (aA (jD (x.f,x.1)) λz=>(Z ((dm 0 z),x.2)))
def nQ (rmade_maker_stmts:am3->M ad2) (rmade_maker_stmt:ad3->M aif) (rmade_maker_block:am2->M aig) (x:ν×j?):M ad2:=
 (iter (σ:=Int×Em×ic×(Y Sx)×Bool×Y ζ) (λA=>(jn (bM A.1 x.1.2 (bi A.1 0 (aG (J,A.2)) (aG ((fK 0 A.2.1.2.1),A.2))) (aG (aa,A.2))) λz=>(aH z.1 (aA (rmade_maker_stmt (x.1.1,z.2.1,z.a,z.f)) λD=>(bX (((z.c==z.c)&&J)&&ay (ah z.h) (ah z.h)&&J) (bX (bf (ah z.b+ah ([eh D.1])) 176) (cQ ((cN A.1),D.2.1,D.a,(z.b++([eh D.1])),D.d))))) (aG (z.2.1,z.a,z.f,z.b))))) (0,x.2.1,x.a,([]:Y Sx),x.d))
abbrev n?:=Bool×Em×ic×Y6×Bool×Y ζ
def o9 (rmade_maker_stmts:am3->M ad2) (rmade_maker_stmt:ad3->M aif) (rmade_maker_block:am2->M aig) (x:W!):M aif:=
 (aA (bH (18,x.a)) λy1=>(jn (α:=n?) (bM 0 x.1 (lt (bl .i64 (x.2.1.2.1-1)) λz3=>(bM 0 z3 (aG ((!x.2.1.b),(x.2.1.1,(bl .i64 (x.2.1.2.1-1)),x.2.1.2.2),y1.2,(0,0,[],[],0,0,[]),x.d)) (aG (aa,(x.2.1.1,(bl .i64 (x.2.1.2.1-1)),x.2.1.2.2),y1.2,(0,0,[],[],0,0,[]),x.d)))) (aG (aa,(x.2.1.1,(bl .i64 (x.2.1.2.1-1)),x.2.1.2.2),y1.2,(0,0,[],[],0,0,[]),x.d))) λx2=>(bM y1.1 4 (jY (.str) ([[120],[121],[120],[118]]) y1.1 λz4=>(aA (fo (1,x2.2.1,x2.a,x2.f)) λy5=>(bX (((x2.c==y5.b)&&J)&&ay (ah x2.h) (ah y5.f)&&J) (aA (j6 (z4,y5.1)) λy6=>(Z (eh y6,y5.2)))))) (bi y1.1 4 (aA (bH (2,x2.a)) λy7=>(jY (.str) ([[97],[98]]) y7.1 λz8=>(aA (fo (1,x2.2.1,y7.2,x2.f)) λy9=>(bX (((x2.c==y9.b)&&J)&&ay (ah x2.h) (ah y9.f)&&J) (aA (j6 (z8,y9.1)) λy10=>(Z (eh y10,y9.2))))))) (bi y1.1 5 (aA (fo (0,x2.2.1,x2.a,x2.f)) λy11=>(bX (((x2.c==y11.b)&&J)&&ay (ah x2.h) (ah y11.f)&&J) (aA (fo (1,y11.2)) λy12=>(bX (((y11.b==y12.b)&&J)&&ay (ah y11.f) (ah y12.f)&&J) (Z (o6 (1,0,[113],[],[ef ((Xp.op y11.1),(Xp.n y11.1),(Xp.name y11.1),(Xp.l y11.1))],ef ((Xp.op y12.1),(Xp.n y12.1),(Xp.name y12.1),(Xp.l y12.1)),([]:Y Sx),([]:Y Sx)),y12.2)))))) (jn (bi y1.1 6 (aG ((fK 0 x.1),x2.2)) (aG (aa,x2.2))) λx13=>(aH x13.1 (aA (fo (1,x13.2.1,x13.a,x13.f)) λL=>(bX (((x13.c==L.b)&&J)&&ay (ah x13.h) (ah L.f)&&J) (aA (rmade_maker_stmts (((bl .i64 (x.1-1)),1),L.2)) λy15=>(bX (((L.b==L.b)&&J)&&ay (ah L.f) (ah L.f)&&J) (jn (α:=Em×ic×Y6×(Int×Int×(ζ)×(ζ)×Int×Int×(ζ)×Y Xp)×Wr×(Y Sx)×Y Sx) (aA (bH (2,y15.2.1)) λy17=>(bi y17.1 1 (aA (rmade_maker_stmts (((bl .i64 (x.1-1)),1),y15.1,y17.2,y15.a)) λy18=>(bX (((y15.a.1==y15.a.1)&&J)&&ay (ah y15.a.2) (ah y15.a.2)&&J) (aG (y18.1,y18.2.1,x13.b,(2,0,[],[],(Xp.op L.1),(Xp.n L.1),(Xp.name L.1),(Xp.l L.1)),y18.a,y15.d,y18.d)))) (aG (y15.1,y17.2,x13.b,(2,0,[],[],(Xp.op L.1),(Xp.n L.1),(Xp.name L.1),(Xp.l L.1)),y15.a,y15.d,([]:Y Sx))))) λx16=>(Z (o6 (x16.b.1,x16.b.2.1,x16.b.a,x16.b.b,([]:Y Xp),ef x16.b.f,x16.h),x16.1,x16.2.1,x16.c))))))) (jn (bi y1.1 7 (aG ((fK 0 x.1),x13.2)) (aG (aa,x13.2))) λz=>(aH z.1 (aA (qE ([98])) λy20=>(aA (sY 2) λy21=>(aA (oZ (13,y20,y21)) λy22=>(aA (rmade_maker_stmts (((bl .i64 (x.1-1)),1),(z.2.1.1,z.2.1.2.1,z.2.1.a,z.2.1.b,z.2.1.c,J),z.a,z.f)) λy23=>(bX (((z.c==z.c)&&J)&&ay (ah z.h) (ah z.h)&&J) (aA (qE ([98])) λy24=>(aA (sY 1) λy25=>(aA (oZ (6,y24,y25)) λy26=>(aA (j6 ([98],y26)) λy27=>(bX (bf (ah y23.d+ah ([eh y27])) 176) (Z (o6 (3,0,[],[],([]:Y Xp),ef ((Xp.op y22),(Xp.n y22),(Xp.name y22),(Xp.l y22)),(y23.d++([eh y27])),([]:Y Sx)),(y23.1.1,y23.1.2.1,y23.1.a,y23.1.b,y23.1.c,z.2.1.h),y23.2.1,y23.a)))))))))))) (jn (α:=n?) (bi y1.1 8 (aH x2.1 (jY (.str) ([[109],[110]]) (bl .i64 (y1.1-8)) λz29=>(aA (eT (z29,z.2.1,z.a,z.f)) λy30=>(bX (((z.c==y30.b)&&J)&&ay (ah z.h) (ah y30.f)&&J) (aG ((!y30.1),y30.2.1,y30.a,z.b,y30.d))))) (aG (aa,z.2))) (bi y1.1 9 (aH x2.1 (jY (.str) ([[109],[110]]) (bl .i64 (y1.1-8)) λz31=>(aA (eT (z31,z.2.1,z.a,z.f)) λy32=>(bX (((z.c==y32.b)&&J)&&ay (ah z.h) (ah y32.f)&&J) (aG ((!y32.1),y32.2.1,y32.a,z.b,y32.d))))) (aG (aa,z.2))) (aG (aa,z.2)))) λA=>(aH A.1 (jY (.str) ([[109],[110]]) (bl .i64 (y1.1-8)) λz33=>(aA (rmade_maker_block ((z33,(bl .i64 (x.1-1))),A.2.1,A.a,A.f)) λy34=>(bX (((A.c==A.c)&&J)&&ay (ah A.h) (ah A.h)&&J) (Z (o6 (4,0,z33,[],([]:Y Xp),ef (0,0,[],([]:Y Xp)),y34.1,([]:Y Sx)),y34.2))))) (jn (α:=n?) (bi y1.1 10 (aH x2.1 (aA (eT ([114],A.2.1,A.a,A.f)) λy36=>(bX (((A.c==y36.b)&&J)&&ay (ah A.h) (ah y36.f)&&J) (aG ((!y36.1),y36.2.1,y36.a,A.b,y36.d)))) (aG (aa,A.2))) (bi y1.1 11 (aH x2.1 (aA (eT ([114],A.2.1,A.a,A.f)) λy37=>(bX (((A.c==y37.b)&&J)&&ay (ah A.h) (ah y37.f)&&J) (aG ((!y37.1),y37.2.1,y37.a,A.b,y37.d)))) (aG (aa,A.2))) (aG (aa,A.2)))) λx35=>(aH x35.1 (aA (rmade_maker_block (([114],(bl .i64 (x.1-1))),x35.2.1,x35.a,x35.f)) λy38=>(bX (((x35.c==x35.c)&&J)&&ay (ah x35.h) (ah x35.h)&&J) (Z (o6 ((bl .i64 ((bl .i64 (y1.1-10))+5)),0,[114],[],([]:Y Xp),ef (0,0,[],([]:Y Xp)),y38.1,([]:Y Sx)),y38.2)))) (jn (bi y1.1 12 (aG (x2.1,x35.2)) (aG (aa,x35.2))) λN=>(aH N.1 (aA (bH (2,N.a)) λy40=>(aA (rmade_maker_stmts ((0,(bl .i64 (1+y40.1))),(N.2.1.1,N.2.1.2.1,N.2.1.a,J,N.2.1.f),y40.2,N.f)) λy41=>(bX (((N.c==N.c)&&J)&&ay (ah N.h) (ah N.h)&&J) (Z (o6 (7,0,[],[],([]:Y Xp),ef (0,0,[],([]:Y Xp)),y41.d,([]:Y Sx)),(y41.1.1,y41.1.2.1,y41.1.a,aa,y41.1.f),y41.2.1,y41.a))))) (jn (bi y1.1 13 (aH x2.1 (aG ((!N.2.1.c),N.2)) (aG (aa,N.2))) (aG (aa,N.2))) λD=>(aH D.1 (aA (rmade_maker_stmts (((bl .i64 (x.1-1)),2),(D.2.1.1,D.2.1.2.1,D.2.1.a,D.2.1.b,J,D.2.1.h),D.a,D.f)) λy43=>(bX (((D.c==D.c)&&J)&&ay (ah D.h) (ah D.h)&&J) (Z (o6 (8,0,[],[],([]:Y Xp),ef (0,0,[],([]:Y Xp)),y43.d,([]:Y Sx)),(y43.1.1,y43.1.2.1,y43.1.a,y43.1.b,aa,y43.1.h),y43.2.1,y43.a)))) (jn (α:=n?) (bi y1.1 14 (aH x2.1 (aH (!D.2.1.c) (aA (eT ([109],D.2.1,D.a,D.f)) λy45=>(bX (((D.c==y45.b)&&J)&&ay (ah D.h) (ah y45.f)&&J) (aG ((!y45.1),y45.2.1,y45.a,D.b,y45.d)))) (aG (aa,D.2))) (aG (aa,D.2))) (aG (aa,D.2))) λx44=>(aH x44.1 (aA (qE ([120])) λy46=>(aA (j6 ([97],y46)) λy47=>(Z (o6 (4,0,[109],[],([]:Y Xp),ef (0,0,[],([]:Y Xp)),[o6 (9,0,[99],[],([]:Y Xp),ef (0,0,[],([]:Y Xp)),([]:Y Sx),([]:Y Sx)),eh y47],([]:Y Sx)),x44.2.1,x44.a,x44.f)))) (jn (α:=n?) (bi y1.1 15 (aH x2.1 (aA (eT ([109],x44.2.1,x44.a,x44.f)) λy49=>(bX (((x44.c==y49.b)&&J)&&ay (ah x44.h) (ah y49.f)&&J) (aG ((!y49.1),y49.2.1,y49.a,x44.b,y49.d)))) (aG (aa,x44.2))) (aG (aa,x44.2))) λx48=>(aH x48.1 (aA (bH (2,x48.a)) λy50=>(Z (o6 (4,0,[109],[],([]:Y Xp),ef (0,0,[],([]:Y Xp)),[o6 ((bl .i64 (10+y50.1)),0,[99],[],([]:Y Xp),ef (0,0,[],([]:Y Xp)),([]:Y Sx),([]:Y Sx))],([]:Y Sx)),x48.2.1,y50.2,x48.f))) (jn (bi y1.1 16 (aH (!x48.2.1.b) (aH (!x48.2.1.h) (aG ((!x48.2.1.a),x48.2)) (aG (aa,x48.2))) (aG (aa,x48.2))) (aG (aa,x48.2))) λx51=>(aH x51.1 (aA (fo (1,(x51.2.1.1,x51.2.1.2.1,J,x51.2.1.d),x51.a,x51.f)) λy52=>(bX (((x51.c==y52.b)&&J)&&ay (ah x51.h) (ah y52.f)&&J) (Z (o6 (14,0,[102],[],([]:Y Xp),ef ((Xp.op y52.1),(Xp.n y52.1),(Xp.name y52.1),(Xp.l y52.1)),([]:Y Sx),([]:Y Sx)),y52.2)))) (jn (α:=n?) (bi y1.1 17 (aH (!x51.2.1.b) (aA (bH (2,x51.a)) λy54=>(aG ((decide ((y54.1:Int)=1)),x51.2.1,y54.2,x51.d))) (aG (aa,x51.2))) (aG (aa,x51.2))) λx53=>(aH x53.1 (Z (o6 (15,0,[97],[102],([]:Y Xp),ef (0,0,[],([]:Y Xp)),([]:Y Sx),([]:Y Sx)),x53.2.1,x53.a,x53.f)) (aA (fo (1,x53.2.1,x53.a,x53.f)) λy55=>(bX (((x53.c==y55.b)&&J)&&ay (ah x53.h) (ah y55.f)&&J) (aA (j6 ([120],y55.1)) λy56=>(Z (eh y56,y55.2))))))))))))))))))))))))))))))
def nR (rmade_maker_stmts:am3->M ad2) (rmade_maker_stmt:ad3->M aif) (rmade_maker_block:am2->M aig) (x:jS×j?):M aig:=
 (bX (bf (ah x.f+ah ([x.1.1])) 16) (aA (bH (2,x.a)) λA=>(aA (rmade_maker_stmts ((x.1.2,(bl .i64 (1+A.1))),x.2.1,A.2,x.b,(x.f++([x.1.1])))) λz=>(bX (((x.b==x.b)&&J)&&ay (ah (x.f++([x.1.1]))) (ah (x.f++([x.1.1])))&&J) (bX (dm 0 (bl .i64 ((be z.a.2)-1))&&fK (bl .i64 ((be z.a.2)-1)) (ah z.a.2)) (Z (z.d,z.1,z.2.1,aa,(dB (aO (bl .i64 ((be z.a.2)-1))) z.a.2))))))))
mutual
def dN:Nat->am3->M ad2
 |0,_=>U
 |n+1,x=>nQ (dN n) (eJ n) (dZ n) x
def eJ:Nat->ad3->M aif
 |0,_=>U
 |n+1,x=>o9 (dN n) (eJ n) (dZ n) x
def dZ:Nat->am2->M aig
 |0,_=>U
 |n+1,x=>nR (dN n) (eJ n) (dZ n) x
end
def rN (x:ν×j?):M ad2:=dN fuel x
abbrev p?:=Em×yI×di×jS×ic×Wr×(Y yH)×di×Y Sx
def pK (x:η):M y?:=
 (aA (tR ()) λy1=>(aA (bH (3,x,0)) λy2=>(iter (σ:=Int×Em×yI×di×ic×Wr×Y yH) (λD=>(bM D.1 (bl .i64 (2+y2.1)) (jY (.str) D.b D.1 λz4=>(jn (α:=p?) (bi D.1 0 (iter (σ:=Int×p?) (λN=>(bM N.1 (bl .i64 (2+y2.1)) (jY (.str) N.b N.1 λz7=>(bX (bf (ah N.B+ah ([o6 (12,0,z7,[],([]:Y Xp),ef (0,0,[],([]:Y Xp)),([]:Y Sx),([]:Y Sx))])) 176) (cQ ((cN N.1),N.2.1,N.a,N.b,N.c,N.e,N.g,N.j,N.m,(N.B++([o6 (12,0,z7,[],([]:Y Xp),ef (0,0,[],([]:Y Xp)),([]:Y Sx),([]:Y Sx))])))))) (aG (bW N.2)))) (1,(D.1,D.2.1.2),D.a,D.b,(z4,0),D.c,D.e,D.k,[[97],[98]],([]:Y Sx))) (aG ((D.1,D.2.1.2),D.a,D.b,(z4,0),D.c,D.e,D.k,[[97],[98]],([]:Y Sx)))) λL=>(aA (bH (3,L.c)) λy8=>(aA (rN ((2,(bl .i64 (1+y8.1))),L.1,y8.2,L.e)) λy9=>(bX (((L.e.1==L.e.1)&&J)&&ay (ah L.e.2) (ah L.e.2)&&J) (bX (bf (ah L.s+ah y9.d) 176) (jn (α:=p?) (jn (α:=Bool×p?) (bi D.1 0 (aA (bH (3,y9.2.1)) λy12=>(aG ((decide ((y12.1:Int)=2)),y9.1,L.2.1,L.a,L.b,y12.2,y9.a,L.g,L.j,(L.s++y9.d)))) (aG (aa,y9.1,L.2.1,L.a,L.b,y9.2.1,y9.a,L.g,L.j,(L.s++y9.d)))) λz=>(aH z.1 (jY (.str) z.b 1 λz13=>(bX (bf (ah z.B+ah ([o6 (13,0,z13,[],([]:Y Xp),ef (0,0,[],([]:Y Xp)),([]:Y Sx),([]:Y Sx))])) 176) (aG (z.2.1,z.a,z.b,z.c,z.e,z.g,z.j,z.m,(z.B++([o6 (13,0,z13,[],([]:Y Xp),ef (0,0,[],([]:Y Xp)),([]:Y Sx),([]:Y Sx))])))))) (aG z.2))) λA=>(bX (bf (ah A.g+ah ([(A.b.1,A.b.2,A.p)])) 72) (cQ ((cN D.1),A.1,A.2.1,A.a,A.c,A.e,(A.g++([(A.b.1,A.b.2,A.p)])))))))))))) (aA (aA (fB (D.a,D.k)) λy14=>(iE y14.1 0 (aA (tR ()) λy15=>(aA (sY 1) λy16=>(aA (j6 ([120],y16)) λy17=>(Z (y15,[([109,97,105,110],0,[[97],[98]],[eh y17])]))))) (Z (D.a,D.k)))) λr=>Z (bW r)))) (0,(0,20,aa,aa,aa,aa),y1,[[109,97,105,110],[116,49],[116,50],[116,51]],y2.2,(J,([]:Y ζ)),([]:Y yH)))))
def zo (x:η):M El:=
 (aA (pK x) λA=>(aA (rM A) λz=>(Z z.1)))
def tS (x:A?):M u!:=
 (aA (zo x.1) λD=>(aA (pL x.2) λA=>(aA (Bc (D,A)) λz=>(Z z.1))))
def oT (x:Unit):M eC:=
 (iter (σ:=D?) (λA=>(bM A.1 (aQ (ah ([[109,97,105,110],[116,49],[116,50],[116,51]]))) (iter (σ:=D?) (λz=>(bM z.1 6 (bX (bf (ah z.k+ah ([(A.1,z.1,(bl .i64 ((bl .i64 ((bl .i64 (10*A.1))+z.1))+1)))])) 24) (cQ ((cN z.1),z.2.1,z.a,z.b,z.c,z.e,(z.k++([(A.1,z.1,(bl .i64 ((bl .i64 ((bl .i64 (10*A.1))+z.1))+1)))]))))) (aG (rh ((cN A.1),z.2))))) (0,A.2)) (aG A.2))) (0,[([120],0,0,aa,0),([121],0,0,aa,1),([118],0,0,J,0),([113],0,2,aa,0),([113],1,2,aa,0)],[([109],aa),([110],aa),([114],J)],[([99],0)],[[102]],[[109,97,105,110],[116,49],[116,50],[116,51]],([]:Y π)))
def l7 (x:R!):M η:=
 (iter (σ:=k!) (λz=>(bM z.1 (be x.1.d) (jn (α:=η) (bQ il x.1.d z.1 λA=>(bi A.1 3 (bX (bf (ah z.2+ah ([z.1])) 8) (aG (z.2++([z.1])))) (aG z.2))) λD=>(cQ ((cN z.1),D))) (aG z.2))) (0,([]:η)))
def uN (x:Unit):M η:=
 (Z ([3,3,3,3,3,4,4,4,4,4,5,5,5,6,6,6,7,7,7,8,9,10,11,12,13,14,14,15,16,16,17,17,18,18,19,20,1,1,2,21,22,23,23]))
def pD (x:ν×t?):M J!:=
 (jn (bi x.1.1 3 (aG ((decide ((x.1.1:Int)=3)),x.2)) (aG ((decide ((x.1.1:Int)=4)),x.2))) λL=>(aH L.1 (aA (bH (8,L.2)) λy2=>(jY aL ([0,0,0,1,1,2,3,4]) y2.1 λz3=>(Z (z3,y2.2)))) (jn (bi x.1.1 6 (aG ((decide ((x.1.1:Int)=6)),L.2)) (aG ((decide ((x.1.1:Int)=7)),L.2))) λA=>(aH A.1 (aA (bH (2,A.2)) λy5=>(Z y5)) (jn (bi x.1.1 8 (aG ((decide ((x.1.1:Int)=8)),A.2)) (bi x.1.1 9 (aG ((decide ((x.1.1:Int)=9)),A.2)) (bi x.1.1 10 (aG ((decide ((x.1.1:Int)=10)),A.2)) (aG ((decide ((x.1.1:Int)=11)),A.2))))) λz=>(aH z.1 (Z (2,z.2)) (jn (bi x.1.1 16 (aG ((decide ((x.1.1:Int)=16)),z.2)) (bi x.1.1 17 (aG ((decide ((x.1.1:Int)=17)),z.2)) (bi x.1.1 18 (aG ((decide ((x.1.1:Int)=18)),z.2)) (bi x.1.1 19 (aG ((decide ((x.1.1:Int)=19)),z.2)) (bi x.1.1 22 (aG ((decide ((x.1.1:Int)=22)),z.2)) (aG ((decide ((x.1.1:Int)=23)),z.2))))))) λD=>(aH D.1 (Z (0,D.2)) (jn (bi x.1.1 20 (aG ((decide ((x.1.1:Int)=20)),D.2)) (aG ((decide ((x.1.1:Int)=21)),D.2))) λN=>(aH N.1 (aA (bH (3,N.2)) λy9=>(Z ((Ca (bl .i64 ((cN x.1.2)+y9.1)) 4),y9.2))) (Z ((-1),N.2))))))))))))
def rF (x:(j9×Int×Int)×t?):M J!:=
 (bi x.1.2.1 3 (bQ aL x.1.1.2.1 x.1.2.2 λz1=>(Z (z1,x.2))) (bi x.1.2.1 23 (bQ aL x.1.1.a 0 λN=>(Z (N,x.2))) (jn (bi x.1.2.1 4 (aG ((decide ((x.1.2.1:Int)=4)),x.2,x.1.1)) (aG ((decide ((x.1.2.1:Int)=22)),x.2,x.1.1))) λz=>(aH z.1 (aA (bH (3,z.2.1)) λy4=>(Z y4)) (bi x.1.2.1 5 (aA (bH (2,z.2.1)) λy5=>(Z y5)) (bi x.1.2.1 18 (aA (l7 z.2.2) λA=>(bM 0 (be A) (aA (bH ((be A),z.2.1)) λD=>(bQ aL A D.1 λL=>(Z (L,D.2)))) (Z ((-1),z.2.1)))) (bi x.1.2.1 19 (aA (l7 z.2.2) λy9=>(Z ((be y9),z.2.1))) (Z (0,z.2.1)))))))))
def gH (x:ic×η):M (η×ic×η):=
 (iter (σ:=Int×ic×N!) (λz=>(bM z.1 (be x.2) (jn (α:=ic×N!) (jY aL z.a z.1 λD=>(jn (α:=Bool×ic×N!) (j_ (be z.a) (bl .i64 (z.1+3)) (aA (bH (2,z.2.1)) λL=>(aG ((decide ((L.1:Int)=1)),L.2,z.2.2))) (aG (aa,z.2))) λA=>(aH A.1 (bX (bf (ah A.d+ah ([D])) 8) (aG (A.2.1,A.a,(A.d++([D]))))) (aG A.2)))) λN=>(cQ ((cN z.1),N))) (aG (z.d,z.2.1,z.a)))) (0,x.1,x.2,([]:η)))
abbrev E!:=ic×(η)×(η)×(η)×(η)×j9×eC×Ga×Int×s?
def rG (x:(j9×nH×mN×(Y jS)×di×di×Y π)×ic×(η)×f?):M (im×ic×(η)×f?):=
 (aA (bH (4,x.2.1)) λL=>(aA (uN ()) λy2=>(aA (bH ((be y2),L.2)) λy3=>(bQ aL y2 y3.1 λz4=>(aA (bH (6,y3.2)) λy5=>(jn (α:=E!) (jn (α:=Bool×E!) (bi z4 1 (aG (J,y5.2,x.a,x.b,x.c,x.h,x.1.1,x.1.2,(0,0,0,0,0),L.1,z4,0,0,(bl .i64 ((bl .i64 (L.1*6))+y5.1)))) (aG ((decide ((z4:Int)=2)),y5.2,x.a,x.b,x.c,x.h,x.1.1,x.1.2,(0,0,0,0,0),L.1,z4,0,0,(bl .i64 ((bl .i64 (L.1*6))+y5.1))))) λN=>(aH N.1 (aG (N.2.1,N.a,N.b,N.c,N.e,N.g,N.j,N.m,N.o,N.l,N.n,N.i,(-1))) (aG N.2))) λD=>(aA (pD ((D.o,L.1),D.1)) λy8=>(aA (rF ((D.e,D.o,y8.1),y8.2)) λy9=>(jn (α:=ic×(η)×(η)×(η)×(η)×Ga×Int×Int×Int×Int×k!) (jn (bi D.o 5 (aG (J,y9.2,D.2.1,D.a,D.b,D.c,D.j,D.m,D.o,y8.1,y9.1,D.y)) (bi D.o 3 (bQ mf D.g.1 y8.1 λz12=>(aG ((fK 0 z12.2.2.1),y9.2,D.2.1,D.a,D.b,D.c,D.j,D.m,D.o,y8.1,y9.1,D.y))) (bi D.o 4 (bQ mf D.g.1 y8.1 λz13=>(aG ((fK 0 z13.2.2.1),y9.2,D.2.1,D.a,D.b,D.c,D.j,D.m,D.o,y8.1,y9.1,D.y))) (aG (aa,y9.2,D.2.1,D.a,D.b,D.c,D.j,D.m,D.o,y8.1,y9.1,D.y))))) λA=>(aH A.1 (bi L.1 0 (aA (gH (A.2.1,A.a)) λy14=>(bX (ay (ah A.a) (ah y14.2.2)&&J) (aG (y14.2.1,y14.2.2,A.b,A.c,A.e,A.g,A.j,A.m,A.o,A.l,A.v,y14.1)))) (bi L.1 1 (aA (gH (A.2.1,A.b)) λy15=>(bX (ay (ah A.b) (ah y15.2.2)&&J) (aG (y15.2.1,A.a,y15.2.2,A.c,A.e,A.g,A.j,A.m,A.o,A.l,A.v,y15.1)))) (bi L.1 2 (aA (gH (A.2.1,A.c)) λy16=>(bX (ay (ah A.c) (ah y16.2.2)&&J) (aG (y16.2.1,A.a,A.b,y16.2.2,A.e,A.g,A.j,A.m,A.o,A.l,A.v,y16.1)))) (bi L.1 3 (aA (gH (A.2.1,A.e)) λy17=>(bX (ay (ah A.e) (ah y17.2.2)&&J) (aG (y17.2.1,A.a,A.b,A.c,y17.2.2,A.g,A.j,A.m,A.o,A.l,A.v,y17.1)))) U)))) (aG (A.2.1,A.a,A.b,A.c,A.e,A.g,A.j,A.m,A.o,A.l,A.v,([]:η))))) λx10=>(jn (α:=ic×(η)×(η)×(η)×(η)×Ga×b?) (jn (bi x10.j 4 (aG (J,x10)) (aG ((decide ((x10.j:Int)=22)),x10))) λz=>(aH z.1 (bi L.1 0 (aA (gH (z.2.1,z.a)) λy20=>(bX (ay (ah z.a) (ah y20.2.2)&&J) (aG (y20.2.1,y20.2.2,z.b,z.c,z.e,z.g,z.j,z.m,z.o,z.l,z.n,z.y,y20.1)))) (bi L.1 1 (aA (gH (z.2.1,z.b)) λy21=>(bX (ay (ah z.b) (ah y21.2.2)&&J) (aG (y21.2.1,z.a,y21.2.2,z.c,z.e,z.g,z.j,z.m,z.o,z.l,z.n,z.y,y21.1)))) (bi L.1 2 (aA (gH (z.2.1,z.c)) λy22=>(bX (ay (ah z.c) (ah y22.2.2)&&J) (aG (y22.2.1,z.a,z.b,y22.2.2,z.e,z.g,z.j,z.m,z.o,z.l,z.n,z.y,y22.1)))) (bi L.1 3 (aA (gH (z.2.1,z.e)) λy23=>(bX (ay (ah z.e) (ah y23.2.2)&&J) (aG (y23.2.1,z.a,z.b,z.c,y23.2.2,z.g,z.j,z.m,z.o,z.l,z.n,z.y,y23.1)))) U)))) (aG (z.2.1,z.a,z.b,z.c,z.e,z.g,z.j,z.m,z.o,z.l,z.n,z.y,([]:η))))) λx18=>(Z (x18.k,x18.1,x18.2.1,x18.a,x18.b,x18.c))))))))))))
abbrev l?:=ic×j9×eC×(η)×f?
abbrev Q!:=ic×j9×eC×(Y im)×(η)×f?
abbrev S?:=Bool×l?
def tK (x:(j9×eC×Int×Bool)×t?):M ((Y im)×t?):=
 (bX (dm 0 (be x.1.2.1.c)&&dm (be x.1.2.1.c) (be x.1.2.1.c)&&bf (aO (be x.1.2.1.c)) 24&&decide (((be x.1.2.1.c):Int)=4)) (jn (α:=l?) (bM 0 (aQ 4) (jn (α:=l?) (jn (α:=S?) (aH x.1.d (bQ aL x.1.1.d 0 λz4=>(bM 1 z4 (aA (bH (3,x.2)) λy5=>(aG ((decide ((y5.1:Int)=2)),y5.2,x.1.1,x.1.2.1,([]:η),([]:η),([]:η),([]:η)))) (aG (aa,x.2,x.1.1,x.1.2.1,([]:η),([]:η),([]:η),([]:η))))) (aG (aa,x.2,x.1.1,x.1.2.1,([]:η),([]:η),([]:η),([]:η)))) λx3=>(aH x3.1 (bX (bf (ah x3.c+ah ([1])) 8) (aG (x3.2.1,x3.a,x3.b,(x3.c++([1])),x3.h))) (aG x3.2))) λx2=>(bM 1 (aQ 4) (jn (α:=l?) (jn (α:=S?) (aH x.1.d (bQ aL x2.2.1.d 1 λz8=>(bM 1 z8 (aA (bH (3,x2.1)) λy9=>(aG ((decide ((y9.1:Int)=2)),y9.2,x2.2))) (aG (aa,x2)))) (aG (aa,x2))) λx7=>(aH x7.1 (bX (bf (ah x7.e+ah ([1])) 8) (aG (x7.2.1,x7.a,x7.b,x7.c,(x7.e++([1])),x7.k))) (aG x7.2))) λx6=>(bM 2 (aQ 4) (jn (α:=l?) (jn (α:=S?) (aH x.1.d (bQ aL x6.2.1.d 2 λz12=>(bM 1 z12 (aA (bH (3,x6.1)) λy13=>(aG ((decide ((y13.1:Int)=2)),y13.2,x6.2))) (aG (aa,x6)))) (aG (aa,x6))) λN=>(aH N.1 (bX (bf (ah N.g+ah ([1])) 8) (aG (N.2.1,N.a,N.b,N.c,N.e,(N.g++([1])),N.p))) (aG N.2))) λx10=>(bM 3 (aQ 4) (jn (α:=l?) (jn (α:=S?) (aH x.1.d (bQ aL x10.2.1.d 3 λz16=>(bM 1 z16 (aA (bH (3,x10.1)) λy17=>(aG ((decide ((y17.1:Int)=2)),y17.2,x10.2))) (aG (aa,x10)))) (aG (aa,x10))) λL=>(aH L.1 (bX (bf (ah L.p+ah ([1])) 8) (aG (L.2.1,L.a,L.b,L.c,L.e,L.g,(L.p++([1]))))) (aG L.2))) λx14=>(bM 4 (aQ 4) (jn (α:=l?) (jn (α:=S?) (aH x.1.d (bQ aL x14.2.1.d 4 λz20=>(bM 1 z20 (aA (bH (3,x14.1)) λy21=>(aG ((decide ((y21.1:Int)=2)),y21.2,x14.2))) (aG (aa,x14)))) (aG (aa,x14))) λx19=>(aH x19.1 U (aG x19.2))) λx18=>U) (aG x14))) (aG x10))) (aG x6))) (aG x2))) (aG (x.2,x.1.1,x.1.2.1,([]:η),([]:η),([]:η),([]:η)))) λx1=>(iter (σ:=Q!) (λx22=>(jn (bM (be x22.b) x.1.a (aG ((fK x22.1.2 (be x22.1.1)),x22)) (aG (aa,x22))) λA=>(aH A.1 (jn (α:=Q!) (aA (rG ((A.a,A.b),A.2.1,A.h)) λD=>(bX (ay (ah A.s) (ah D.h)&&(ay (ah A.j) (ah D.c)&&(ay (ah A.g) (ah D.b)&&(ay (ah A.e) (ah D.a)&&J)))) (aA (sQ (A.b,A.a,D.1)) λy26=>(aH (!y26.2) (aG (D.2.1,A.a,A.b,A.c,D.2.2)) (jn (α:=ic×j9×eC×(Y im)×im×j9×(η)×f?) (jn (bi D.1.2.1 3 (aG (J,D.2.1,A.a,A.b,A.c,D.1,y26.1,D.2.2)) (aG ((decide ((D.1.2.1:Int)=23)),D.2.1,A.a,A.b,A.c,D.1,y26.1,D.2.2))) λz=>(aH z.1 (bi z.e.1 0 (bQ aL z.a.d 0 λz29=>(bX (bf (ah z.j+ah ([z29])) 8) (aG (z.2.1,z.a,z.b,z.c,(0,z.e.2),z.g,(z.j++([z29])),z.s)))) (bi z.e.1 1 (bQ aL z.a.d 1 λz30=>(bX (bf (ah z.m+ah ([z30])) 8) (aG (z.2.1,z.a,z.b,z.c,(1,z.e.2),z.g,z.j,(z.m++([z30])),z.B)))) (bi z.e.1 2 (bQ aL z.a.d 2 λz31=>(bX (bf (ah z.o+ah ([z31])) 8) (aG (z.2.1,z.a,z.b,z.c,(2,z.e.2),z.g,z.j,z.m,(z.o++([z31])),z.w)))) (bi z.e.1 3 (bQ aL z.a.d 3 λz32=>(bX (bf (ah z.w+ah ([z32])) 8) (aG (z.2.1,z.a,z.b,z.c,(3,z.e.2),z.g,z.j,z.m,z.o,(z.w++([z32])))))) U)))) (aG z.2))) λx27=>(bX (bf (ah x27.b+ah ([x27.c])) 88) (aG (x27.1,x27.e,x27.a,(x27.b++([x27.c])),x27.k)))))))) λx24=>(cQ x24)) (aG (A.c,A.2.1))))) (x1.1,x1.2.1,x1.a,([]:Y im),x1.d))))
abbrev U!:=ic×eC×j9×(Y im)×Y im
def rH (x:n!):M u!:=
 (jn (bM 600 (be x.1) (bX (dm 0 600&&dm 600 (ah x.1)) (aG (dB (aO 600) x.1))) (aG x.1)) λx1=>(aA (oT ()) λy2=>(aA (oe y2) λy3=>(aA (bH (3,x1,0)) λy4=>(iter (σ:=Int×ic×eC×j9×Y im) (λA=>(j_ A.1 (bl .i64 (1+y4.1)) (bX (bf (ah A.f+ah ([(0,20,A.1,0,0,([]:η),([]:η)),(A.1,1,(-1),0,(-1),([]:η),([]:η))])) 88) (cQ ((cN A.1),A.2.1,A.a,A.b,(A.f++([(0,20,A.1,0,0,([]:η),([]:η)),(A.1,1,(-1),0,(-1),([]:η),([]:η))]))))) (aA (iter (σ:=Int×U!) (λz=>(bM z.1 (be A.f) (jn (α:=U!) (jY iC z.c z.1 λL=>(aA (sQ (z.a,z.b,L)) λy9=>(aH y9.2 (bX (bf (ah z.h+ah ([L])) 88) (aG (z.2.1,z.a,y9.1,z.c,(z.h++([L]))))) (aG z.2)))) λx7=>(cQ ((cN z.1),x7))) (aA (aA (tK ((z.b,z.a,(Jm (mH x.2 0) 60),aa),z.2.1)) λD=>(bX (bf (ah z.h+ah D.1) 88) (aA (vE (z.a,(z.h++D.1))) λy11=>(iE y11.2 0 (aA (oT ()) λN=>(Z (N,([]:Y im)))) (Z (z.a,(z.h++D.1))))))) λr=>Z (bW r)))) (0,A.2.1,A.a,A.b,A.f,([]:Y im))) λr=>Z (bW r)))) (1,y4.2,y2,y3,[(0,1,(-1),0,(-1),([]:η),([]:η))]))))))
def l8 (x:(η×(η)×η)×Int):M u!:=
 (bM 0 (be x.1.2.2) (aA (rH (x.1.2.2,x.2)) λA=>(Z A)) (bX (dm 0 (Jm (be x.1.2.1) x.2)&&dm (Jm (be x.1.2.1) x.2) (ah x.1.2.1)) (aA (tS (x.1.1,(dB (aO (Jm (be x.1.2.1) x.2)) x.1.2.1))) λz=>(Z z))))
def Ok (o:M R) (Q:R->Prop):Prop:=∃y,o=Z y/\Q y
def Ok.mono {o:M R} {Q Q':R->Prop} (h:Ok o Q) (z:∀y,Q y->Q' y):Ok o Q':=by let⟨y,h1,A⟩:=h;exact⟨y,h1,z y A⟩
def aj {y:R} {Q:R->Prop} (h:Q y):Ok (Z y) Q:=⟨y,rfl,h⟩
def aso {o:M R} {y:R} {Q:R->Prop} (e:o=Z y) (h:Q y):Ok o Q:=⟨y,e,h⟩
def a8 {k:M R} {Q:R->Prop} (h:b=J) (z:Ok k Q):Ok (chk b λ_=>k) Q:=by subst h;exact z
def aN {t f:M R} {Q:R->Prop} (ht:b=J->Ok t Q) (hf:b=aa->Ok f Q):Ok (aH b t f) Q:=by
 cases b with
 |true=>exact ht rfl
 |false=>exact hf rfl
def fO {t f:M R} {Q:R->Prop} (h:b=J) (ht:Ok t Q):Ok (aH b t f) Q:=by subst h;exact ht
def gB {t f:M R} {Q:R->Prop} (h:b=aa) (hf:Ok f Q):Ok (aH b t f) Q:=by subst h;exact hf
def ax {α:Type} {o:M α} {k:α->M R} {P:α->Prop} {Q:R->Prop} (h:Ok o P) (A:∀x,P x->Ok (k x) Q):Ok (aA o k) Q:=by
 obtain⟨x,rfl,z⟩:=h;exact A x z
def aT {α:Type} {o:M α} {k:α->M R} {x:α} {Q:R->Prop} (h:o=Z x) (z:Ok (k x) Q):Ok (aA o k) Q:=by subst h;exact z
def aS {α:Type} {x:α} {k:α->M R} {Q:R->Prop} (h:Ok (k x) Q):Ok (lt x k) Q:=h
def aU {α:Type} {o:M (R⊕α)} {k:α->M R} {Q:R->Prop} (P:α->Prop) (h:Ok o λr=>match r with|.inl r=>Q r|.inr x=>P x) (A:∀x,P x->Ok (k x) Q):Ok (jn o k) Q:=by
 obtain⟨r,rfl,z⟩:=h;cases r with
 |inl r=>exact⟨r,rfl,z⟩
 |inr x=>exact A x z
def gV {α:Type} {o:M (R⊕α)} {k:α->M R} {Q:R->Prop} (h:Ok o λr=>match r with|.inl r=>Q r|.inr x=>Ok (k x) Q):Ok (jn o k) Q:=aU (λx=>Ok (k x) Q) h λ_ h=>h
def ak5 {α:Type} {a b:α} {r:M R} {Q:R->Prop} (e:a=b) (h:Ok r Q):Ok (same a b r) Q:=by unfold same;rw[aD e];exact h
def rx {σ:Type} {f:σ->M (σ⊕R)} {Q:R->Prop} (μ:σ->Nat) (I:σ->Prop) (h:∀x,I x->Ok (f x) λr=>match r with|.inl y=>I y/\μ y<μ x|.inr r=>Q r) {x:σ} (A:I x):Ok (iter f x) Q:=by
 have key:∀n x,μ x<n->I x->∃m r,iterN f m x=Z r/\Q r:=by
  intro n;induction n with
  |zero=>intro x hm;omega
  |succ n D=>
   intro x hm A;let⟨r,h1,z⟩:=h x A;cases r with
   |inl y=>
    let⟨m,r,N,L⟩:=D y (by have:=z.2;omega) z.1;exact⟨m+1,r,by rw[iterN,h1];exact N,L⟩
   |inr r=>exact⟨1,r,by rw[iterN,h1],z⟩
 let⟨m,r,h1,z⟩:=key (μ x+1) x (nX _) A;exact⟨r,Bf h1,z⟩
def cm {σ:Type} {f:σ->M (σ⊕R)} {Q:R->Prop} (n:Nat) (I:Nat->σ->Prop) (h0:∀i x,i<n->I i x->Ok (f x) λr=>match r with|.inl y=>I (i+1) y|.inr r=>Q r) (h1:∀x,I n x->Ok (f x) λr=>match r with|.inl _=>False|.inr r=>Q r) {x:σ} (D:I 0 x):Ok (iter f x) Q:=by
 have key:∀m i x,i+m=n->I i x->∃k r,iterN f k x=Z r/\Q r:=by
  intro m;induction m with
  |zero=>
   intro i x hi D;have:i=n:=by omega
   subst this;let⟨r,A,z⟩:=h1 x D;cases r with
   |inl y=>exact z.elim
   |inr r=>exact⟨1,r,by rw[iterN,A],z⟩
  |succ m L=>
   intro i x hi D;let⟨r,A,z⟩:=h0 i x (by omega) D;cases r with
   |inl y=>
    let⟨k,r,g3,N⟩:=L (i+1) y (by omega) z;exact⟨k+1,r,by rw[iterN,A];exact g3,N⟩
   |inr r=>exact⟨1,r,by rw[iterN,A],z⟩
 let⟨m,r,A,z⟩:=key n 0 x (by omega) D;exact⟨r,Bf A,z⟩
def itQ {σ:Type} (f:σ->M (σ⊕R)) (Q:R->Prop):σ⊕R->Prop
 |.inl y=>Ok (iter f y) Q
 |.inr r=>Q r
def jnQ {α:Type} (k:α->M R) (Q:R->Prop):R⊕α->Prop
 |.inl r=>Q r
 |.inr x=>Ok (k x) Q
def ak4 {σ:Type} {f:σ->M (σ⊕R)} {x:σ} {Q:R->Prop} (h:Ok (f x) (itQ f Q)):Ok (iter f x) Q:=by
 let⟨r,h1,D⟩:=h;cases r with
 |inr r=>exact⟨r,Bf (n:=1) (by rw[iterN,h1]),D⟩
 |inl y=>
  let⟨z,A,L⟩:=D;unfold iter at A;split at A
  .exact⟨z,Bf (n:=_+1) (by rw[iterN,h1];exact A),L⟩
  .cases A
def ZL {σ:Type} {f:σ->M (σ⊕R)} {y:σ} {Q:R->Prop} (h:Ok (iter f y) Q):Ok (Z (.inl y)) (itQ f Q):=⟨_,rfl,h⟩
def ZK {σ:Type} {f:σ->M (σ⊕R)} {r:R} {Q:R->Prop} (h:Ok (Z r) Q):Ok (Z (.inr r)) (itQ f Q):=by
 let⟨_,h1,z⟩:=h;cases h1;exact⟨_,rfl,z⟩
def ZI {α:Type} {o:M (R⊕α)} {k:α->M R} {Q:R->Prop} (h:Ok o (jnQ k Q)):Ok (jn o k) Q:=by
 obtain⟨r,rfl,z⟩:=h;cases r with
 |inl r=>exact⟨r,rfl,z⟩
 |inr x=>exact z
def ZJ {α:Type} {r:R} {k:α->M R} {Q:R->Prop} (h:Ok (Z r) Q):Ok (Z (.inl r)) (jnQ k Q):=by
 let⟨_,h1,z⟩:=h;cases h1;exact⟨_,rfl,z⟩
def ZH {α:Type} {x:α} {k:α->M R} {Q:R->Prop} (h:Ok (k x) Q):Ok (Z (.inr x)) (jnQ k Q):=⟨_,rfl,h⟩
def oQ {α:Type} (k:α->M R) (Q:R->Prop) (x:α):Prop:=Ok (k x) Q
def TO {α:Type} {o:M α} {k:α->M R} {Q:R->Prop} (h:Ok o (oQ k Q)):Ok (aA o k) Q:=ax h λ_ h=>h
def TN {α:Type} {x:α} {k:α->M R} {Q:R->Prop} (h:Ok (k x) Q):Ok (Z x) (oQ k Q):=⟨_,rfl,h⟩
variable {a:Int}
def Kc :fe a i=J↔0<=a/\a<i:=by simp[fe,dm,fK]
def Rm {b:Int}:dm a b=J↔a<=b:=by simp[dm]
def pX {b:Int}:fK a b=J↔a<b:=by simp[fK]
def g9 {b:Int}:fK a b=aa↔b<=a:=by simp[fK]
def mX {b:Int}:dm a b=aa↔b<a:=by simp[dm]
def abf :bf i j=J↔i<=1099511627776/\i*j<=1099511627776:=by simp[bf]
def cz {o:M R} {v:R} (h:Ok o (·=v)):o=Z v:=by let⟨y,h1,z⟩:=h;rw[h1,z]
section steps
variable {R:Type} {k t f:M R} {Q:R->Prop}
def aM (h0:0<=a) (h1:a<i) (z:Ok k Q):Ok (chk (fe a i) λ_=>k) Q:=a8 (Kc.2 ⟨h0,h1⟩) z
def bt (h0:i<=1073741824) (h1:j<=1024) (z:Ok k Q):Ok (chk (bf i j) λ_=>k) Q:=
 a8 (abf.2 ⟨by omega,c4 (Nat.mul_le_mul h0 h1) (by omega)⟩) z
def a! {i j:Nat} (d:Ok k Q) (h:i<=1073741824:=by first|omega|(simp;omega)|(dsimp only;omega)) (g:j<=1024:=by omega):Ok (chk (bf i j) λ_=>k) Q:=bt h g d
def cY {a:Bool} (h:Ok (chk a λ_=>chk b λ_=>k) Q):Ok (chk (a&&b) λ_=>k) Q:=by
 cases a with
 |true=>exact h
 |false=>let⟨y,h,_⟩:=h;cases h
def dL {b:Int} (h:a<=b) (z:Ok k Q):Ok (chk (dm a b) λ_=>k) Q:=a8 (Rm.2 h) z
def a? {a b:Int} (d:Ok k Q) (h:a<=b:=by first|omega|(simp;omega)|(dsimp only;omega)):Ok (chk (dm a b) λ_=>k) Q:=dL h d
def Cg {b:Int} (h:a<b) (z:Ok k Q):Ok (chk (fK a b) λ_=>k) Q:=a8 (pX.2 h) z
def ZM {p:Prop} {i:Decidable p} (h:p) (z:Ok k Q):Ok (chk (decide p) λ_=>k) Q:=a8 (aR h) z
def AZ {p:Prop} {i:Decidable p} (h:¬p) (z:Ok k Q):Ok (chk (!decide p) λ_=>k) Q:=a8 (by simp[h]) z
def mA (h:i=j) (z:Ok k Q):Ok (chk (ay i j) λ_=>k) Q:=a8 (by subst h;exact fm i) z
def C9 (z:Ok k Q):Ok (chk J λ_=>k) Q:=z
def bL {b:Int} (ht:a<b->Ok t Q) (hf:b<=a->Ok f Q):Ok (aH (fK a b) t f) Q:=aN (λh=>ht (pX.1 h)) (λh=>hf (g9.1 h))
def fc {b:Int} (ht:a<=b->Ok t Q) (hf:b<a->Ok f Q):Ok (aH (dm a b) t f) Q:=aN (λh=>ht (Rm.1 h)) (λh=>hf (mX.1 h))
def aI {p:Prop} {i:Decidable p} (ht:p->Ok t Q) (hf:¬p->Ok f Q):Ok (aH (decide p) t f) Q:=aN (λh=>ht (bx h)) (λh=>hf (Xd h))
def ch {p:Prop} {i:Decidable p} (ht:¬p->Ok t Q) (hf:p->Ok f Q):Ok (aH (!decide p) t f) Q:=aN (λh=>ht (by simpa using h)) (λh=>hf (by simpa using h))
def em (ht:b=aa->Ok t Q) (hf:b=J->Ok f Q):Ok (aH (!b) t f) Q:=aN (λh=>ht (by simpa using h)) (λh=>hf (by simpa using h))
def ZN (ht:Ok t Q):Ok (aH J t f) Q:=ht
def iT (hf:Ok f Q):Ok (aH aa t f) Q:=hf
def cu (z:Ok k Q) (h0:0<=a:=by first|omega|(dsimp only;omega)) (h1:a<i:=by first|omega|(dsimp only;omega)):Ok (chk (fe a i) λ_=>k) Q:=aM h0 h1 z
def du {b:Int} (ht:Ok t Q) (h:a<b:=by first|omega|(dsimp only[ak];omega)):Ok (aH (fK a b) t f) Q:=bL (λ_=>ht) λg=>b8 h (Ei.2 g)
def dg {b:Int} (hf:Ok f Q) (h:b<=a:=by first|omega|(dsimp only[ak];omega)):Ok (aH (fK a b) t f) Q:=bL (λg=>b8 g (Ei.2 h)) λ_=>hf
end steps
def sC:(∀(p:Prop) [Decidable p],(decide p=J)=p)/\(∀p:Prop,(True\/p)=True)/\(∀p:Prop,(p\/True)=True)/\(∀p:Prop,(True->p)=p)/\(∀p:Prop,(True/\p)=p)/\∀p:Prop,(p/\True)=p:=⟨λ_=>bU,true_or,or_true,λ_=>true_implies _,true_and,and_true⟩
def NP:(∀i:Decidable True,@decide True i=J)/\(∀i:Decidable False,@decide False i=aa)/\(∀{R:Type} (t f:M R),aH J t f=t)/\(∀{R:Type} (t f:M R),aH aa t f=f)/\(∀{α R:Type} (x:α) (k:α->M R),jn (Z (.inr x)) k=k x)/\(∀{α R:Type} (r:R) (k:α->M R),jn (Z (.inl r)) k=Z r)/\(∀{α R:Type} (x:α) (k:α->M R),aA (Z x) k=k x)/\(∀{α R:Type} (x:α) (k:α->M R),lt x k=k x)/\(!J)=aa/\(!aa)=J:=⟨decide_true,decide_false,λ_ _=>rfl,λ_ _=>rfl,λ_ _=>rfl,λ_ _=>rfl,λ_ _=>rfl,λ_ _=>rfl,rfl,rfl⟩
structure IM (p q:Prop):Prop where
 h:p->q
inductive OS {R:Type}:Option R->(R->Prop)->Prop where
 |cand {a b:Bool} {k:Option R} {Q:R->Prop} (h:Ok (chk a λ_=>chk b λ_=>k) Q):OS (chk (a&&b) λ_=>k) Q
 |fe {j:Int} {n:Nat} {k:Option R} {Q:R->Prop} (h0:0<=j) (h1:j<n) (hk:Ok k Q):OS (chk (fe j n) λ_=>k) Q
 |room {n b:Nat} {k:Option R} {Q:R->Prop} (h0:n<=1073741824) (h1:b<=1024) (hk:Ok k Q):OS (chk (bf n b) λ_=>k) Q
 |cile {a b:Int} {k:Option R} {Q:R->Prop} (h:a<=b) (hk:Ok k Q):OS (chk (dm a b) λ_=>k) Q
 |cilt {a b:Int} {k:Option R} {Q:R->Prop} (h:a<b) (hk:Ok k Q):OS (chk (fK a b) λ_=>k) Q
 |cdec {p:Prop} {i:Decidable p} {k:Option R} {Q:R->Prop} (h:p) (hk:Ok k Q):OS (chk (decide p) λ_=>k) Q
 |cndec {p:Prop} {i:Decidable p} {k:Option R} {Q:R->Prop} (h:¬p) (hk:Ok k Q):OS (chk (!decide p) λ_=>k) Q
 |cbeq {a b:Nat} {k:Option R} {Q:R->Prop} (h:a=b) (hk:Ok k Q):OS (chk (ay a b) λ_=>k) Q
 |cT {k:Option R} {Q:R->Prop} (hk:Ok k Q):OS (chk J λ_=>k) Q
 |lt {α:Type} {x:α} {k:α->Option R} {Q:R->Prop} (h:Ok (k x) Q):OS (lt x k) Q
 |b1 {t f:Option R} {Q:R->Prop} (h:Ok t Q):OS (aH J t f) Q
 |b0 {t f:Option R} {Q:R->Prop} (h:Ok f Q):OS (aH aa t f) Q
 |fK {a b:Int} {t f:Option R} {Q:R->Prop} (ht:IM (a<b) (Ok t Q)) (hf:IM (b<=a) (Ok f Q)):OS (aH (fK a b) t f) Q
 |dm {a b:Int} {t f:Option R} {Q:R->Prop} (ht:IM (a<=b) (Ok t Q)) (hf:IM (b<a) (Ok f Q)):OS (aH (dm a b) t f) Q
 |dec {p:Prop} {i:Decidable p} {t f:Option R} {Q:R->Prop} (ht:IM p (Ok t Q)) (hf:IM (¬p) (Ok f Q)):OS (aH (decide p) t f) Q
 |ndec {p:Prop} {i:Decidable p} {t f:Option R} {Q:R->Prop} (ht:IM (¬p) (Ok t Q)) (hf:IM p (Ok f Q)):OS (aH (!decide p) t f) Q
 |not {b:Bool} {t f:Option R} {Q:R->Prop} (ht:IM (b=aa) (Ok t Q)) (hf:IM (b=J) (Ok f Q)):OS (aH (!b) t f) Q
 |aH {b:Bool} {t f:Option R} {Q:R->Prop} (ht:IM (b=J) (Ok t Q)) (hf:IM (b=aa) (Ok f Q)):OS (aH b t f) Q
 |jc {α:Type} {o:Option (R⊕α)} {k:α->Option R} {Q:R->Prop} (h:Ok o λr=>match r with|.inl r=>Q r|.inr x=>Ok (k x) Q):OS (jn o k) Q
 |some {y:R} {Q:R->Prop} (h:Q y):OS (Z y) Q
def OS.ok {o:M R} {Q:R->Prop} (h:OS o Q):Ok o Q:=by
 cases h with
 |cand h=>exact cY h
 |fe a b h=>exact aM a b h
 |room a b h=>exact bt a b h
 |cile a h=>exact dL a h
 |cilt a h=>exact Cg a h
 |cdec a h=>exact ZM a h
 |cndec a h=>exact AZ a h
 |cbeq a h=>exact mA a h
 |cT h|lt h|b1 h|b0 h=>exact h
 |fK a b=>exact bL a.h b.h
 |dm a b=>exact fc a.h b.h
 |dec a b=>exact aI a.h b.h
 |ndec a b=>exact ch a.h b.h
 |not a b=>exact em a.h b.h
 |aH a b=>exact aN a.h b.h
 |jc h=>
  let⟨r,e,h⟩:=h;exact gV ⟨r,e,by cases r<;>exact h⟩
 |some h=>exact aj h
def bcT (t f:M R):aH J t f=t:=rfl
def bcF (t f:M R):aH aa t f=f:=rfl
def jnr {α:Type} (x:α) (k:α->M R):jn (Z (.inr x)) k=k x:=rfl
def ZO {α:Type} (x:α) (k:α->M R):aA (Z x) k=k x:=rfl
inductive JQ:Int->Prop where
 |k1:JQ 1
 |k2:JQ 2
 |k3:JQ 3
 |k4:JQ 4
 |k5:JQ 5
 |k6:JQ 6
 |k7:JQ 7
 |k8:JQ 8
 |k9:JQ 9
 |k10:JQ 10
 |k11:JQ 11
 |k12:JQ 12
 |k13:JQ 13
 |k14:JQ 14
 |k15:JQ 15
 |k16:JQ 16
 |k17:JQ 17
 |k18:JQ 18
 |k19:JQ 19
 |k20:JQ 20
 |k21:JQ 21
 |k22:JQ 22
 |k23:JQ 23
 |no {k:Int} (h:¬k=1/\¬k=2/\¬k=3/\¬k=4/\¬k=5/\¬k=6/\¬k=7/\¬k=8/\¬k=9/\¬k=10/\¬k=11/\¬k=12/\¬k=13/\¬k=14/\¬k=15/\¬k=16/\¬k=17/\¬k=18/\¬k=19/\¬k=20/\¬k=21/\¬k=22/\¬k=23) (h2:k<1\/23<k):JQ k
def kdI (k:Int):JQ k:=by
 by_cases h:k<1\/23<k
 .exact .no (by omega) h
 .have:k=1\/k=2\/k=3\/k=4\/k=5\/k=6\/k=7\/k=8\/k=9\/k=10\/k=11\/k=12\/k=13\/k=14\/k=15\/k=16\/k=17\/k=18\/k=19\/k=20\/k=21\/k=22\/k=23:=by omega
  repeat' (rcases this with rfl|this)
  all_goals first|(subst this;constructor)|constructor
def iQ {n:Int} (h0: -9223372036854775808<=n:=by omega) (h1:n<=9223372036854775807:=by omega):bl .i64 n=n:=by
 rw[JY];unfold Pa;simp[dm,h0,h1]
def gQ (h:i<9223372036854775807:=by omega):bl .i64 ((i:Int)+1)=((i+1:Nat):Int):=by rw[iQ];omega
variable {T:Ty}
def xu (xs:Y T.den) (i:Nat):geti _ xs (i:Int)=xs.getD i T.zero:=by unfold geti;simp
def CQ (xs:η) (i:Nat):geti aL xs (i:Int)=xs.getD i 0:=xu (T:=aL) xs i
def bP {xs:Y T.den} {j:Int} (h0:0<=j) (h1:j<l! xs):geti _ xs j∈xs:=by
 unfold geti;rw[aw,aE (by omega)];exact List.getElem_mem _
def b7 (xs:Y R) (j:Int) (x:R):l! (cH xs j x)=l! xs:=by unfold cH;simp
def EB {xs:Y R} {x y:R} (h:y∈cH xs a x):y∈xs\/y=x:=List.mem_or_eq_of_mem_set h
def iy {σ:Type} {f:σ->M (σ⊕R)} {Q:R->Prop} (n:Nat) (hn:n<=1000000) (I:Nat->σ->Prop) (h0:∀i x,i<n->I i x->Ok (f x) λr=>match r with|.inl y=>I (i+1) y|.inr r=>Q r) (h1:∀x,I n x->Ok (f x) λr=>match r with|.inl _=>False|.inr r=>Q r) {x:σ} (D:I 0 x):Ok (gZ f x) Q:=by
 have key:∀m i x,i+m=n->I i x->∃r,iterN f (m+1) x=Z r/\Q r:=by
  intro m;induction m with
  |zero=>
   intro i x hi D;have:i=n:=by omega
   subst this;let⟨r,A,z⟩:=h1 x D;cases r with
   |inl y=>exact z.elim
   |inr r=>exact⟨r,by rw[iterN,A],z⟩
  |succ m L=>
   intro i x hi D;let⟨r,A,z⟩:=h0 i x (by omega) D;cases r with
   |inl y=>
    let⟨r,g3,N⟩:=L (i+1) y (by omega) z;exact⟨r,by rw[iterN,A];exact g3,N⟩
   |inr r=>exact⟨r,ye (n:=1) (by rw[iterN,A]) (by omega),z⟩
 let⟨r,A,z⟩:=key n 0 x (by omega) D;exact⟨r,ye A (by omega),z⟩
def afw {σ:Type} {f:σ->M (σ⊕R)} {Q:R->Prop} (n:Nat) (μ:σ->Nat) (I:σ->Prop) (h:∀x,I x->Ok (f x) λr=>match r with|.inl y=>I y/\μ y<μ x|.inr r=>Q r) {x:σ} (L:μ x<=n/\n<=1000000) (A:I x):Ok (gZ f x) Q:=by
 have key:∀n x,μ x<n->I x->∃r,iterN f n x=Z r/\Q r:=by
  intro n;induction n with
  |zero=>intro x hm;omega
  |succ n D=>
   intro x hm A;let⟨r,h1,z⟩:=h x A;cases r with
   |inl y=>
    let⟨r,h3,N⟩:=D y (by have:=z.2;omega) z.1;exact⟨r,by rw[iterN,h1];exact h3,N⟩
   |inr r=>exact⟨r,by rw[iterN,h1],z⟩
 let⟨r,h1,z⟩:=key (n+1) x (Nat.lt_succ_of_le L.1) A;exact⟨r,ye h1 (by omega),z⟩
abbrev WT:Type:=Y (ζ×Int×Int×Bool×Int)×Y (ζ×Bool)×Y (ζ×Int)×Y ζ×Y ζ×Y π
abbrev H!:=Y (Int×η)×Int×θ×Y (Int×Int×Bool)
abbrev SY:Type:=H!
def agp (a b:Int):rK (a,b)=Z (decide (0<=a/\a<b)):=by
 refine cz ?_;unfold rK j_ aG;with_reducible repeat' first|apply OS.ok;constructor|refine IM.mk λ_=>?_
 .by_cases h:a<b<;>simp[*,fK]
 .simp;omega
def Zf (l:η) (n:Int) (L:l! l<=1000000):rL (l,n)=Z (l.contains n):=by
 refine cz ?_;unfold rL bi bM bQ be cQ aG cN;refine cm (l! l) (λi x=>x=(i:Int)/\∀k,k<i->l.getD k 0≠n) ?_ ?_ ⟨rfl,λk z=>by omega⟩
 .rintro i x hi ⟨rfl,A⟩;with_reducible repeat' first|apply OS.ok;constructor|refine IM.mk λ_=>?_
  all_goals try simp only[ak,sC] at*
  .omega
  .omega
  .rename_i h;rw[CQ]at h;show J=_
   symm
   rw[oR,<-h,aw,aE hi];exact List.getElem_mem _
  .rename_i h;rw[CQ]at h;refine ⟨gQ,λk z=>?_⟩;rcases bG k i with h1|h1
   .exact A k h1
   .rw[show k=i by omega];exact h
  .omega
 .rintro x ⟨rfl,A⟩;with_reducible repeat' first|apply OS.ok;constructor|refine IM.mk λ_=>?_
  all_goals try simp only[ak,sC] at*
  .omega
  .omega
  .omega
  .omega
  .symm
   rw[QF];intro D;rw[oR]at D;let⟨k,z,he⟩:=List.getElem_of_mem D;exact A k z (by rw[aw,aE z];exact he)
def iL {xs:Y T.den} {p:T.den->Prop} (h:∀k:Nat,k<ah xs->p (geti _ xs (k:Int))):∀c∈xs,p c:=λc A=>by
 let⟨k,z,he⟩:=List.getElem_of_mem A;have:=h k z;rw[xu,aw,aE z,wF,he]at this;exact this
def SE (w:WT) (s:SY) (hw:l! w.2.2.1<=1000000):Ok (sS (w,s)) λb=>b=J->(∀c∈w.2.2.1,0<=c.2/\c.2<l! w.2.1)/\l! s.1=l! w.2.1/\l! s.2.2.1=l! w.2.2.2.1/\l! s.2.2.2=l! w.2.2.2.2.1:=by
 unfold sS aW bm bF dk bi bM bQ be cQ aG cN;refine cm (l! w.2.2.1) (λi x=>x.1=(i:Int)/\x.2=(w,s)/\∀k:Nat,k<i->0<=(geti itK w.2.2.1 (k:Int)).2/\(geti itK w.2.2.1 (k:Int)).2<l! w.2.1) ?_ ?_ ⟨rfl,rfl,λk hk=>by omega⟩
 .rintro i ⟨N,L⟩ hi ⟨A,z,D⟩;dsimp only at A z;subst A z;with_reducible repeat' first|apply OS.ok;constructor|refine IM.mk λ_=>?_
  all_goals try simp only[ak,sC] at*
  all_goals first|omega|skip
  .intro h;cases h
  .intro h;cases h
  .refine ⟨gQ,λk hk=>?_⟩;rcases bG k i with h1|h1
   .exact D k h1
   next h2 h3=>rw[show k=i by omega];exact⟨h2,h3⟩
 .rintro⟨N,L⟩ ⟨A,z,D⟩;dsimp only at A z;subst A z;with_reducible repeat' first|apply OS.ok;constructor|refine IM.mk λ_=>?_
  all_goals try simp only[ak,sC] at*
  all_goals first|omega|skip
  refine ax (P:=λb=>b=J->l! s.1=l! w.2.1/\l! s.2.2.1=l! w.2.2.2.1/\l! s.2.2.2=l! w.2.2.2.2.1) ?_ ?_
  .with_reducible repeat' first|apply OS.ok;constructor|refine IM.mk λ_=>?_
   all_goals try simp only[ak,sC] at*
   .intro h;omega
   .intro h;cases h
   .intro h;cases h
  .intro b hb;with_reducible repeat' first|apply OS.ok;constructor|refine IM.mk λ_=>?_
   exact λh=>⟨iL (T:=itK) D,hb h⟩
structure NM (w:WT) (k o:Int):Prop where
 k1:1<=k
 k2:k<=23
 ce:k=3\/k=4->0<=o/\o<l! w.1
 lk:6<=k/\k<=11->0<=o/\o<l! w.2.1
 cd:16<=k/\k<=19->0<=o/\o<l! w.2.2.1
 th:k=20\/k=21->0<=o/\o<l! w.2.2.2.2.1
 fu:k=22\/k=23->0<=o/\o<l! w.2.2.2.1
 no:k=1\/k=2\/k=5\/(12<=k/\k<=15)->o= -1
 mu:k=6\/k=7->(geti s9 w.2.1 o).2=aa
 rw:8<=k/\k<=11->(geti s9 w.2.1 o).2=J
def ag1 (w:WT) (k o:Int):Ok (vG (w,k,o)) λb=>b=J->NM w k o:=by
 unfold vG aW bm bF cG bi bQ be aG;cases kdI k
 case no z _=>
  simp only[z,cX,dK,NP];exact aj nofun
 all_goals simp only[cX,dK,NP,agp]
 all_goals with_reducible repeat' first|apply OS.ok;constructor|refine IM.mk λ_=>?_
 all_goals try simp only[ak,sC] at*
 all_goals first|omega|(intro h;cases h;done)|(intro h;constructor<;>first|omega|(intro A;first|omega|(simpa using h)))
structure SB (n:Nat) (s:SY):Prop where
 n1:n<=100000
 lk:l! s.1<=1000
 rd:∀l∈s.1,l! l.2<=n
 dn:l! s.2.2.1<=1000
 th:l! s.2.2.2<=1000
structure EN (w:WT) (s:SY) (t k o:Int):Prop where
 nm:NM w k o
 t0:0<=t
 t1:t<l! w.2.2.2.2.1
 cd:∀c∈w.2.2.1,0<=c.2/\c.2<l! w.2.1
 e1:l! s.1=l! w.2.1
 e2:l! s.2.2.1=l! w.2.2.2.1
 e3:l! s.2.2.2=l! w.2.2.2.2.1
structure Xa (w:WT) (s:SY) (t k o:Int):Prop where
 b:k=1->(geti il s.2.2.2 t).1=1
 wk:k=17->(geti il s.2.2.2 t).1=4/\(geti il s.2.2.2 t).2.1=o/\(geti dQ s.1 (geti itK w.2.2.1 o).2).1= -1
 r:k≠1->k≠17->(geti il s.2.2.2 t).1=2
 aq:k=6\/k=8\/k=10->(geti dQ s.1 o).1= -1
 wr:k=10->(geti dQ s.1 o).2.length=0
 ra:k=8->(geti dQ s.1 o).2.contains t=aa
 rl:k=7\/k=11->(geti dQ s.1 o).1=t
 rr:k=9->(geti dQ s.1 o).2.contains t=J
 xb:k=12->s.2.1= -1
 xe:k=13->s.2.1=t
 ab:k=14->(geti il s.2.2.2 t).2.2=aa
 ae:k=15->(geti il s.2.2.2 t).2.2=J
 nt:k=16\/k=18\/k=19->(geti dQ s.1 (geti itK w.2.2.1 o).2).1=t
 sp:k=20->¬o=t/\(geti il s.2.2.2 o).1=0
 jo:k=21->¬o=t/\(geti il s.2.2.2 o).1=5
 se:k=22->geti (.bool) s.2.2.1 o=aa
 ge:k=23->geti (.bool) s.2.2.1 o=J
def Nw (w:WT) (s:SY) (D:SB i s) (hw:l! w.2.2.1<=1000) (t k o:Int):Ok (lj (w,s,t,k,o)) λb=>b=J->EN w s t k o/\Xa w s t k o:=by
 unfold lj aW bm bF cg dE dk bi iE bQ be aG;refine aU (λx=>x.2=(w,s)/\(x.1=aa->EN w s t k o)) ?_ ?_
 .refine ax (SE w s (by omega)) λb N=>?_
  with_reducible repeat' first|apply OS.ok;constructor|refine IM.mk λ_=>?_
  .exact⟨rfl,nofun⟩
  .simp only[agp,ZO];with_reducible repeat' first|apply OS.ok;constructor|refine IM.mk λ_=>?_
   .exact⟨rfl,nofun⟩
   .refine ax (ag1 w k o) λc L=>?_
    with_reducible repeat' first|apply OS.ok;constructor|refine IM.mk λ_=>?_
    all_goals try simp only[ak,sC] at*
    rename_i h1 h2;obtain⟨f1,f2,f3,f4⟩:=N h1;exact λh=>⟨L (by simpa using h),by omega,by omega,f1,f2,f3,f4⟩
 .rintro⟨x1,x2⟩ ⟨z,A⟩;dsimp only at z A;subst z;refine aN (λh=>aj λh=>by cases h) (λh=>?_);have he:=A h;obtain⟨nm,t0,t1,cd,e1,e2,e3⟩:=id he;obtain⟨_,_,ce,lk,cn,th,fu⟩:=nm;have hm:16<=k/\k<=19->0<=(geti itK w.2.2.1 o).2/\(geti itK w.2.2.1 o).2<l! w.2.1:=λh=>cd _ (bP (cn h).1 (cn h).2)
  have hH:6<=k/\k<=11->rL ((geti dQ s.1 o).2,t)=Z ((geti dQ s.1 o).2.contains t):=λh=>Zf _ _ (by
   have:=D.rd _ (bP (T:=dQ) (lk h).1 (by have:=(lk h).2;omega));have:=D.n1;omega)
  cases kdI k
  case no hk _=>omega
  all_goals simp only[cX,dK,NP]
  all_goals with_reducible repeat' first|apply OS.ok;constructor|refine IM.mk λ_=>?_
  all_goals try simp only[hH (by omega),ZO]
  all_goals with_reducible repeat' first|apply OS.ok;constructor|refine IM.mk λ_=>?_
  all_goals try simp only[ak,sC] at*
  all_goals first|omega|(intro h;cases h;done)|exact (hm ⟨by decide,by decide⟩).1|(rw [e1];exact (hm ⟨by decide,by decide⟩).2)|(intro h;refine ⟨he,?_⟩;constructor<;>first|omega|(intros;first|omega|assumption|(simpa using h)|exact⟨by assumption,by first|assumption|exact⟨by assumption,by assumption⟩⟩))|(refine ⟨he,?_⟩;constructor<;>first|omega|(intros;first|omega|assumption))
def mU:η->Int->η
 |[],n=>[n]
 |x::r,n=>if x<n then x::mU r n else if x=n then x::r else n::x::r
def Gz (n:Int):∀(i:Nat) (l:η),i<=l! l->(∀k,k<i->l.getD k 0<n)->mU l n=l.take i++mU (l.drop i) n
 |0,l,_,_=>by simp
 |i+1,[],h,_=>by simp at h
 |i+1,x::r,h,z=>by
  have h0:=z 0 (by omega);simp at h0;have:=Gz n i r (by simpa using h) (λk A=>by have:=z (k+1) (by omega);simpa using this);rw[mU,aD h0,this,xD,I_,gA]
def H0 (n:Int):∀l:η,l! (mU l n)<=l! l+1
 |[]=>by simp[mU]
 |x::r=>by
  have:=H0 n r;rw[mU];split
  .simp;omega
  .split<;>simp
def KF {n y:Int}:∀{l:η},y∈mU l n↔y=n\/y∈l
 |[]=>by simp[mU]
 |x::r=>by
  have:=KF (n:=n) (y:=y) (l:=r);rw[mU];split
  .simp[this];constructor
   .rintro (h|h|h)<;>simp[h]
   .rintro (h|h|h)<;>simp[h]
  .split
   next h=>subst h;simp
   .simp
def JS:η->Prop
 |[]=>True
 |x::r=>(∀y∈r,x<y)/\JS r
def TI :∀{l:η},JS l->JS (mU l a)
 |[],_=>by simp[mU,JS]
 |x::r,h=>by
  rw[mU];split
  .rename_i A;refine ⟨λy z=>?_,TI h.2⟩;rcases KF.1 z with rfl|z
   .exact A
   .exact h.1 y z
  .split
   .exact h
   .rename_i h1 D;refine ⟨λy z=>?_,h⟩;rcases aZ.1 z with rfl|z
    .omega
    .have:=h.1 y z;omega
def ain (l:η) (n:Int) (hl:l! l<=1000000):xZ (l,n)=Z (mU l n):=by
 refine cz ?_;unfold xZ bM bX bQ be cQ aG cN;have fin:∀i:Nat,i<=l! l->(∀k,k<i->l.getD k 0<n)->(i<l! l->¬l.getD i 0<n/\l.getD i 0≠n)->l.take i++[n]++l.drop i=mU l n:=λi hi L hn=>by
  rw[Gz n i l hi L];cases hd:l.drop i with
  |nil=>simp[mU]
  |cons y r=>
   have hlt:i<l! l:=by
    rcases bG i (l! l) with h|h
    .exact h
    .rw[List.drop_eq_nil_of_le h]at hd;cases hd
   have A:l.getD i 0=y:=by
    rw[aw,<-List.head?_drop,hd];rfl
   let⟨h1,N⟩:=hn hlt;rw[A]at h1 N;rw[mU,av h1,av N];simp
 refine cm (l! l) (λi x=>x=(i:Int)/\∀k,k<i->l.getD k 0<n) ?_ ?_ ⟨rfl,λk L=>by omega⟩
 .rintro i x hi ⟨rfl,z⟩;by_cases hlt:l.getD i 0<n
  .with_reducible repeat' first|apply OS.ok;constructor|refine IM.mk λ_=>?_
   all_goals try simp only[ak,sC] at*
   all_goals first|omega|skip
   .refine ⟨gQ,λk L=>?_⟩;rcases bG k i with h1|h1
    .exact z k h1
    .rw[show k=i by omega];exact hlt
   next h=>exact b8 hlt (Ei.2 h)
  .have key:l.getD i 0=n->mU l n=l:=λhe=>by
    rw[Gz n i l (by omega) z];cases hd:l.drop i with
    |nil=>have:=eW ah hd;simp at this;omega
    |cons y r=>
     have A:l.getD i 0=y:=by rw[aw,<-List.head?_drop,hd];rfl
     rw[A]at he;rw[mU,av (by omega),aD he,<-hd,DG]
   with_reducible repeat' first|apply OS.ok;constructor|refine IM.mk λ_=>?_
   all_goals try simp only[ak,sC] at*
   all_goals first|omega|skip
   next h=>exact b8 h hlt
   .refine ax (P:=λr=>r=mU l n) ?_ λr D=>aj D
    with_reducible repeat' first|apply OS.ok;constructor|refine IM.mk λ_=>?_
    all_goals try simp only[ak,sC] at*
    all_goals first|omega|skip
    next h=>exact (key h).symm
    .simp;omega
    .simp;omega
    .simp;omega
    next h=>simpa using fin i (by omega) z (λ_=>⟨hlt,h⟩)
 .rintro x ⟨rfl,z⟩;with_reducible repeat' first|apply OS.ok;constructor|refine IM.mk λ_=>?_
  all_goals try simp only[ak,sC] at*
  all_goals first|omega|skip
  refine ax (P:=λr=>r=mU l n) ?_ λr D=>aj D
  with_reducible repeat' first|apply OS.ok;constructor|refine IM.mk λ_=>?_
  all_goals try simp only[ak,sC] at*
  all_goals first|omega|skip
  .simp;omega
  .simp;omega
  .simp;omega
  .simpa using fin (l! l) (by omega) z (λh=>by omega)
def xI (a b:η):η:=b.foldl mU (a.foldl mU [])
def yi:∀(b acc:η),l! (b.foldl mU acc)<=l! acc+l! b
 |[],acc=>by simp
 |x::r,acc=>by
  have:=yi r (mU acc x);have:=H0 x acc;rw[ue,bK];omega
def LZ:∀{b acc:η},JS acc->JS (b.foldl mU acc)
 |[],_,h=>h
 |x::r,acc,h=>by rw[ue];exact LZ (TI h)
def LY :∀{b acc:η},a∈b.foldl mU acc↔a∈acc\/a∈b
 |[],acc=>by simp
 |x::r,acc=>by
  rw[ue,LY,KF];simp;constructor
  .rintro ((h|h)|h)<;>simp[h]
  .rintro (h|h|h)<;>simp[h]
def S6 (a b:η):JS (xI a b):=LZ (LZ trivial)
variable {z:η}
def AQ {b:η} {y:Int}:y∈xI z b↔y∈z\/y∈b:=by unfold xI;rw[LY,LY];simp
def aeq (a b:η):l! (xI a b)<=l! a+l! b:=by
 have:=yi b (a.foldl mU []);have:=yi a [];unfold xI;simp at *;omega
def PQ {acc:η} (hi:i<l! z):(z.take (i+1)).foldl mU acc=mU ((z.take i).foldl mU acc) (z.getD i 0):=by
 rw[pQ hi,ey,aw,aE hi];rfl
def Wv (a b:η) (ha:l! a<=400000) (hb:l! b<=400000):sT (a,b)=Z (xI a b):=by
 refine cz ?_;unfold sT bM bQ be cQ aG cN;refine cm (l! a) (λi x=>x.2=(i:Int)/\x.1=(a.take i).foldl mU []) ?_ ?_ ⟨rfl,rfl⟩
 .rintro i ⟨D,A⟩ hi ⟨h1,z⟩;dsimp only at h1 z;subst h1 z;have L:l! ((a.take i).foldl mU [])<=1000000:=by have:=yi (a.take i) [];have:=m_ i a;simp at *;omega
  with_reducible repeat' first|apply OS.ok;constructor|refine IM.mk λ_=>?_
  all_goals try simp only[ak,sC] at*
  all_goals first|omega|skip
  refine aT (ain _ _ L) (aj ?_);dsimp only;refine ⟨gQ,?_⟩;rw[CQ,PQ hi]
 .rintro⟨D,A⟩ ⟨h1,z⟩;dsimp only at h1 z;subst h1 z;rw[cv];have hla:=yi a [];with_reducible repeat' first|apply OS.ok;constructor|refine IM.mk λ_=>?_
  all_goals try simp only[ak,sC] at*
  all_goals first|omega|skip
  refine ax (P:=λr=>r=xI a b) ?_ λr N=>aj N
  refine cm (l! b) (λi x=>x.2=(i:Int)/\x.1=(b.take i).foldl mU (a.foldl mU [])) ?_ ?_ ⟨rfl,rfl⟩
  .rintro i ⟨D,A⟩ hi ⟨h1,z⟩;dsimp only at h1 z;subst h1 z;have L:l! ((b.take i).foldl mU (a.foldl mU []))<=1000000:=by have:=yi (b.take i) (a.foldl mU []);have:=m_ i b;simp at *;omega
   with_reducible repeat' first|apply OS.ok;constructor|refine IM.mk λ_=>?_
   all_goals try simp only[ak,sC] at*
   all_goals first|omega|skip
   refine aT (ain _ _ L) (aj ?_);dsimp only;refine ⟨gQ,?_⟩;rw[CQ,PQ hi]
  .rintro⟨D,A⟩ ⟨h1,z⟩;dsimp only at h1 z;subst h1 z;rw[cv];with_reducible repeat' first|apply OS.ok;constructor|refine IM.mk λ_=>?_
   all_goals try simp only[ak,sC] at*
   all_goals first|omega|rfl
def NJ (c:Int) (x:e?):Bool:=decide (x.1=3)&&decide (x.2.1=c)
def wl (th:Y e?) (c:Int):Nat->η
 |0=>[]
 |i+1=>if NJ c (geti il th (i:Int)) then wl th c i++[(i:Int)] else wl th c i
def xh (th:Y e?) (c:Int):∀i,l! (wl th c i)<=i
 |0=>bO _
 |i+1=>by have:=xh th c i;rw[wl];split<;>simp<;>omega
def xg {th:Y e?} {c u:Int}:∀{i:Nat},u∈wl th c i↔0<=u/\u<i/\NJ c (geti il th u)=J
 |0=>by simp[wl];omega
 |i+1=>by
  have z:= @xg th c u i;rw[wl];by_cases A:u=(i:Int)
  .subst A;split
   next h=>simp[h];omega
   next h=>rw[z];simp[h]
  .split
   .rw[bA,z,aB];constructor
    .rintro (h|h)
     .exact⟨h.1,by omega,h.2.2⟩
     .exact b8 h A
    .intro h;exact .inl ⟨h.1,by omega,h.2.2⟩
   .rw[z];constructor
    .intro h;exact⟨h.1,by omega,h.2.2⟩
    .intro h;exact⟨h.1,by omega,h.2.2⟩
variable {k:Y (Int×Int×Bool)}
def asb (h1:(geti il k (i:Int)).1=3) (z:(geti il k (i:Int)).2.1=a):wl k a (i+1)=wl k a i++[(i:Int)]:=by
 rw[wl,aD];unfold NJ;rw[h1,z];simp
def an0 (h1:¬(geti il k (i:Int)).1=3):wl k a (i+1)=wl k a i:=by
 rw[wl,av];unfold NJ;rw[cD h1];simp
def amz (h1:¬(geti il k (i:Int)).2.1=a):wl k a (i+1)=wl k a i:=by
 rw[wl,av];unfold NJ;rw[cD h1];simp
def Y8 (s:SY) (c:Int) (A:l! s.2.2.2<=1000):oW (s,c)=Z (wl s.2.2.2 c (l! s.2.2.2)):=by
 refine cz ?_;unfold oW cg bi bM bX bQ be cQ aG cN;refine cm (l! s.2.2.2) (λi x=>x=((i:Int),s,wl s.2.2.2 c i)) ?_ ?_ rfl
 .rintro i x hi rfl;have D:=xh s.2.2.2 c i;with_reducible repeat' first|apply OS.ok;constructor|refine IM.mk λ_=>?_
  all_goals try simp only[ak,sC] at*
  all_goals first|omega|skip
  all_goals first|(simp;omega)|skip
  next h1 z=>rw[asb h1 z,gQ]
  next h1 z=>rw[amz z,gQ]
  next h1=>rw[an0 h1,gQ]
 .rintro x rfl;with_reducible repeat' first|apply OS.ok;constructor|refine IM.mk λ_=>?_
  all_goals try simp only[ak,sC] at*
  all_goals first|omega|rfl
def wo (l:η) (n:Int):η:=l.filter λx=> !decide (x=n)
def Xe (l:η) (n:Int) (A:l! l<=1000000):rJ (l,n)=Z (wo l n):=by
 refine cz ?_;unfold rJ bM iE bX bQ be cQ aG cN;refine cm (l! l) (λi x=>x=((i:Int),wo (l.take i) n)) ?_ ?_ rfl
 .rintro i x hi rfl;have z:l! (wo (l.take i) n)<=i:=c4 (DH ..) (m_ ..);have ht:wo (l.take (i+1)) n=if geti aL l (i:Int)=n then wo (l.take i) n else wo (l.take i) n++[geti aL l (i:Int)]:=by
   unfold wo;rw[pQ hi,List.filter_append,CQ,aw,aE hi];by_cases h:l[i]=n<;>simp[h]
  with_reducible repeat' first|apply OS.ok;constructor|refine IM.mk λ_=>?_
  all_goals try simp only[ak,sC] at*
  all_goals first|omega|skip
  .simp;omega
  next h=>rw[ht,av h,gQ]
  next h=>rw[ht,aD h,gQ]
 .rintro x rfl;with_reducible repeat' first|apply OS.ok;constructor|refine IM.mk λ_=>?_
  all_goals try simp only[ak,sC] at*
  all_goals first|omega|(rw [cv])
def pA {xs:Y T.den} (hi:i<ah xs):dB (i+1) xs=dB i xs++[geti _ xs (i:Int)]:=by
 rw[pQ hi,xu,aw,aE hi];rfl
def sj (s:SY) (z:SB i s):iG s=Z (s.2.1,s.1,s.2.2.1,s.2.2.2):=by
 refine cz ?_;let⟨A,N,L,D⟩:=s;have hn:=z.n1;have g1:=z.lk;have g2:=z.dn;have g3:=z.th;dsimp only at g1 g2 g3;unfold iG aW bm bF cg dk bM bX bQ be cQ aG cN;with_reducible repeat' first|apply OS.ok;constructor|refine IM.mk λ_=>?_
 all_goals try simp only[ak,sC] at*
 .simp;omega
 .omega
 .simp;omega
 .omega
 refine cm (l! A) (λn x=>x=((n:Int),(A,N,L,D),0,N,A.take n,L,D)) ?_ ?_ ?_
 .rintro n x hi rfl;have hg:=z.rd _ (bP (T:=dQ) (xs:=A) (j:=(n:Int)) (by omega) (by omega));with_reducible repeat' first|apply OS.ok;constructor|refine IM.mk λ_=>?_
  all_goals try simp only[ak,sC] at*
  all_goals first|omega|skip
  .simp;omega
  .simp;omega
  .rw[gQ,pA (T:=dQ) hi];rfl
 .rintro x rfl;with_reducible repeat' first|apply OS.ok;constructor|refine IM.mk λ_=>?_
  all_goals try simp only[ak,sC] at*
  all_goals first|omega|skip
  simp
 .simp
def I7 (s:SY) (c:Int) (D:l! s.2.2.2<=1000):kA ((s.2.1,c),s.1,s.2.2.1,s.2.2.2)=Z (wl s.2.2.2 c (l! s.2.2.2)):=by
 refine cz ?_;unfold kA;refine ax (P:=λy=>y=(wl s.2.2.2 c (l! s.2.2.2),s.1,s.2.2.1,s.2.2.2)) ?_ λy A=>by subst A;exact ak5 rfl (aj rfl)
 unfold nj aW bm bF cg dk bi bM bX jY be cQ aG cN;refine cm (l! s.2.2.2) (λi x=>x=((i:Int),s.1,s.2.2.1,s.2.2.2,s.2.1,wl s.2.2.2 c i)) ?_ ?_ rfl
 .rintro i x hi rfl;have L:=xh s.2.2.2 c i;with_reducible repeat' first|apply OS.ok;constructor|refine IM.mk λ_=>?_
  all_goals try simp only[ak,sC] at*
  all_goals first|omega|skip
  all_goals first|(simp;omega)|skip
  next h1 z=>rw[asb h1 z,gQ]
  next h1 z=>rw[amz z,gQ]
  next h1=>rw[an0 h1,gQ]
 .rintro x rfl;with_reducible repeat' first|apply OS.ok;constructor|refine IM.mk λ_=>?_
  all_goals try simp only[ak,sC] at*
  all_goals first|omega|rfl
structure AP (n:Nat) (s y:SY):Prop where
 a1:l! y.1=l! s.1
 a2:l! y.2.2.1=l! s.2.2.1
 a3:l! y.2.2.2=l! s.2.2.2
 rd:∀l∈y.1,l! l.2<=n+1
def AP.toSB {s y:SY} (h:AP i s y) (z:SB i s) (A:i+1<=100000):SB (i+1) y:=
 ⟨A,by rw[h.a1];exact z.lk,h.rd,by rw[h.a2];exact z.dn,by rw[h.a3];exact z.th⟩
def AP.same {s:SY} (z:SB i s) (x:Int) (d:θ) (t:Y e?) (hd:l! d=l! s.2.2.1) (ht:l! t=l! s.2.2.2):AP i s (s.1,x,d,t):=
 ⟨rfl,hd,ht,λl A=>fR (z.rd l A)⟩
def AP.set {s:SY} (z:SB i s) (j a:Int) (r:η) (A:l! r<=i+1) (x:Int) (d:θ) (t:Y e?) (hd:l! d=l! s.2.2.1) (ht:l! t=l! s.2.2.2):AP i s (cH s.1 j (a,r),x,d,t):=
 ⟨b7 _ _ _,hd,ht,λl D=>by
   rcases EB D with h|rfl
   .exact fR (z.rd l h)
   .exact A⟩
def Ej (th:Y e?) (t st:Int):Y e?:=cH th t (st,(geti il th t).2)
def XA (lk:Y k!) (o t:Int):Y k!:=cH lk o (t,(geti dQ lk o).2)
def rdP (lk:Y k!) (o:Int) (l:η):Y k!:=cH lk o ((geti dQ lk o).1,l)
def cdP (th:Y e?) (t c:Int):Y e?:=cH th t ((geti il th t).1,c,(geti il th t).2.2)
def atP (th:Y e?) (t:Int) (b:Bool):Y e?:=cH th t ((geti il th t).1,(geti il th t).2.1,b)
def Jh (th:Y e?) (l:η):Y e?:=l.foldl (λx u=>Ej x u 4) th
def Dy (l:η) (u:Int):Int:=if (l! l)=0 then -1 else if l.contains u then u else geti aL l 0
def Px (w:WT) (o:Int):Int:=(geti itK w.2.2.1 o).2
def uv (w:WT) (s:SY) (t k o u:Int):SY×Int:=
 if k=1 then ((s.1,s.2.1,s.2.2.1,Ej s.2.2.2 t 2),0)
 else if k=2 then ((s.1,s.2.1,s.2.2.1,Ej s.2.2.2 t 5),0)
 else if k=6\/k=10 then ((XA s.1 o t,s.2),0)
 else if k=7\/k=11 then ((XA s.1 o (-1),s.2),0)
 else if k=8 then ((rdP s.1 o (xI (geti dQ s.1 o).2 [t]),s.2),0)
 else if k=9 then ((rdP s.1 o (wo (geti dQ s.1 o).2 t),s.2),0)
 else if k=12 then ((s.1,t,s.2.2),0)
 else if k=13 then ((s.1,-1,s.2.2),0)
 else if k=14 then ((s.1,s.2.1,s.2.2.1,atP s.2.2.2 t J),0)
 else if k=15 then ((s.1,s.2.1,s.2.2.1,atP s.2.2.2 t aa),0)
 else if k=16 then ((XA s.1 (Px w o) (-1),s.2.1,s.2.2.1,cdP (Ej s.2.2.2 t 3) t o),0)
 else if k=17 then ((XA s.1 (Px w o) t,s.2.1,s.2.2.1,cdP (Ej s.2.2.2 t 2) t 0),0)
 else if k=18 then (if (l! (wl s.2.2.2 o (l! s.2.2.2)))=0 then (s,-1) else ((s.1,s.2.1,s.2.2.1,Ej s.2.2.2 (Dy (wl s.2.2.2 o (l! s.2.2.2)) u) 4),Dy (wl s.2.2.2 o (l! s.2.2.2)) u))
 else if k=19 then ((s.1,s.2.1,s.2.2.1,Jh s.2.2.2 (wl s.2.2.2 o (l! s.2.2.2))),(l! (wl s.2.2.2 o (l! s.2.2.2)):Int))
 else if k=20 then ((s.1,s.2.1,s.2.2.1,Ej s.2.2.2 o 1),0)
 else if k=22 then ((s.1,s.2.1,cH s.2.2.1 o J,s.2.2.2),0)
 else (s,0)
def J9 (l:η):∀th,l! (Jh th l)=l! th:=by
 induction l with
 |nil=>intro th;rfl
 |cons x r z=>intro th;unfold Jh;rw[ue];exact (z _).trans (b7 ..)
def ag2 (hi:i<l! z):Jh k (z.take (i+1))=Ej (Jh k (z.take i)) (geti aL z (i:Int)) 4:=by
 unfold Jh;rw[pQ hi,ey,CQ,aw,aE hi];rfl
def Ki (u:Int) (l:¬l! z=0):Dy z u∈z:=by
 unfold Dy;rw[av l];split
 next h=>exact oR.1 h
 .exact bP (T:=aL) (by omega) (by omega)
def W2 (w:WT) (s:SY) (z:SB i s) (hw:l! w.2.2.1<=1000) (t k o u:Int):Ok (qu (w,s,t,k,o,u)) λy=>(y.2.2=J->EN w s t k o/\Xa w s t k o/\AP i s y.1/\(y.1,y.2.1)=uv w s t k o u)/\(y.2.2=aa->y.1=([],0,[],[]))/\(lj (w,s,t,k,o)=Z J->y.2.2=J):=by
 unfold qu aW bm bF cG cg dE dk ip ck bi bM bQ jY be cQ aG cN;obtain⟨b,N,hb⟩:=Nw w s z hw t k o;refine aT N ?_;refine em (λh=>aj ⟨nofun,λ_=>rfl,λh2=>(by rw[N,h]at h2;cases h2)⟩) (λh=>?_);obtain⟨he,hry⟩:=hb h;refine aT (sj s z) ?_;suffices hmain:Ok _ _ from aU (λx=>AP i s (x.2.2.2.1,x.2.1,x.2.2.2.2)/\((x.2.2.2.1,x.2.1,x.2.2.2.2),x.1)=uv w s t k o u) hmain λx hx=>aj ⟨λ_=>⟨he,hry,hx⟩,nofun,λ_=>rfl⟩
 obtain⟨nm,t0,t1,cd,e1,e2,e3⟩:=id he;obtain⟨_,_,ce,lk,cn,th,fu⟩:=nm;have hn:=z.n1;have hlk:=z.lk;have hm:16<=k/\k<=19->0<=(geti itK w.2.2.1 o).2/\(geti itK w.2.2.1 o).2<l! w.2.1:=λh=>cd _ (bP (cn h).1 (cn h).2)
 have L:∀j:Int,0<=j->j<l! s.1->(geti dQ s.1 j).2.length<=i:=λj h0 h1=>z.rd _ (bP (T:=dQ) h0 h1)
 cases kdI k
 case no hk _=>omega
 all_goals simp only[cX,dK,NP]
 all_goals with_reducible repeat' first|apply OS.ok;constructor|refine IM.mk λ_=>?_
 all_goals try simp only[ak,sC] at*
 all_goals try rw[b7]
 all_goals first|omega|exact (hm ⟨by decide,by decide⟩).1|exact e1▸(hm ⟨by decide,by decide⟩).2|exact⟨AP.same z _ _ _ rfl rfl,rfl⟩|exact⟨AP.same z _ _ _ rfl (b7 _ _ _),rfl⟩|exact⟨AP.same z _ _ _ (b7 _ _ _) rfl,rfl⟩|skip
 all_goals try exact⟨AP.set z _ _ _ (fR (L o (by omega) (by omega))) _ _ _ rfl rfl,rfl⟩
 .have:=L o (by omega) (by omega);refine aT (Wv _ _ (c4 this (by have:=z.n1;omega)) (by simp)) ?_;with_reducible repeat' first|apply OS.ok;constructor|refine IM.mk λ_=>?_
  all_goals try simp only[ak,sC] at*
  all_goals first|omega|skip
  exact⟨AP.set z _ _ _ (by have:=aeq (geti dQ s.1 o).2 [t];simp at this;omega) _ _ _ rfl rfl,rfl⟩
 .have:=L o (by omega) (by omega);have hl:l! (wo (geti dQ s.1 o).2 t)<=(geti dQ s.1 o).2.length:=DH ..;refine aT (Xe _ _ (by omega)) ?_;with_reducible repeat' first|apply OS.ok;constructor|refine IM.mk λ_=>?_
  all_goals try simp only[ak,sC] at*
  all_goals first|omega|skip
  exact⟨AP.set z _ _ _ (c4 hl (by omega)) _ _ _ rfl rfl,rfl⟩
 .exact⟨AP.set z _ _ _ (fR (L _ (hm ⟨by decide,by decide⟩).1 (by rw[e1];exact (hm ⟨by decide,by decide⟩).2))) _ _ _ rfl (by rw[b7,b7]),rfl⟩
 .exact⟨AP.set z _ _ _ (fR (L _ (hm ⟨by decide,by decide⟩).1 (by rw[e1];exact (hm ⟨by decide,by decide⟩).2))) _ _ _ rfl (by rw[b7,b7]),rfl⟩
 .refine aT (I7 s o z.th) ?_;have hth:=z.th;have hll:=xh s.2.2.2 o (l! s.2.2.2);have hml:∀u∈wl s.2.2.2 o (l! s.2.2.2),0<=u/\u<l! s.2.2.2:=λu D=>⟨(xg.1 D).1,(xg.1 D).2.1⟩
  have hap:uv w s t 18 o u=if (l! (wl s.2.2.2 o (l! s.2.2.2)))=0 then (s,-1) else ((s.1,s.2.1,s.2.2.1,Ej s.2.2.2 (Dy (wl s.2.2.2 o (l! s.2.2.2)) u) 4),Dy (wl s.2.2.2 o (l! s.2.2.2)) u):=rfl
  unfold Dy at hap;revert hll hml hap;generalize wl s.2.2.2 o (l! s.2.2.2)=l;intro hll hml hap;with_reducible repeat' first|apply OS.ok;constructor|refine IM.mk λ_=>?_
  all_goals try simp only[ak,sC] at*
  all_goals first|omega|skip
  .have A:=hml _ (bP (T:=aL) (xs:=l) (j:=0) (by omega) (by omega));rw[av (by omega),av (by omega)]at hap;simp only[Zf l u (by omega),ZO];refine aN (λhc=>?_) λhc=>?_
   .have D:=hml u (oR.1 hc);rw[hc,aD rfl]at hap;refine aj (aM D.1 D.2 (aM D.1 D.2 (aj ⟨AP.same z _ _ _ rfl (b7 ..),?_⟩)));rw[hap];rfl
   .rw[hc,av (by decide)]at hap;refine aj (aM A.1 A.2 (aM A.1 A.2 (aj ⟨AP.same z _ _ _ rfl (b7 ..),?_⟩)));rw[hap];rfl
  .rw[aD (by omega)]at hap;exact⟨AP.same z _ _ _ rfl rfl,hap.symm⟩
 .refine aT (I7 s o z.th) ?_;have hth:=z.th;have hll:=xh s.2.2.2 o (l! s.2.2.2);have hml:∀u∈wl s.2.2.2 o (l! s.2.2.2),0<=u/\u<l! s.2.2.2:=λu D=>⟨(xg.1 D).1,(xg.1 D).2.1⟩
  have hap:uv w s t 19 o u=((s.1,s.2.1,s.2.2.1,Jh s.2.2.2 (wl s.2.2.2 o (l! s.2.2.2))),(l! (wl s.2.2.2 o (l! s.2.2.2)):Int)):=rfl;rw[hap];clear hap;generalize wl s.2.2.2 o (l! s.2.2.2)=l at hll hml ⊢;refine cm (l! l) (λn x=>x=((n:Int),s.2.1,0,s.1,s.2.2.1,Jh s.2.2.2 (l.take n))) ?_ ?_ rfl
  .rintro n x hi rfl;have A:=hml _ (bP (T:=aL) (xs:=l) (j:=(n:Int)) (by omega) (by omega));have hq:=J9 (l.take n) s.2.2.2;with_reducible repeat' first|apply OS.ok;constructor|refine IM.mk λ_=>?_
   all_goals try simp only[ak,sC] at*
   all_goals first|omega|skip
   rw[gQ,ag2 hi];rfl
  .rintro x rfl;rw[cv];with_reducible repeat' first|apply OS.ok;constructor|refine IM.mk λ_=>?_
   all_goals try simp only[ak,sC] at*
   all_goals first|omega|skip
   exact AP.same z _ _ _ rfl (J9 ..)
abbrev SN:Type:=SY×η×A?
abbrev ET:Type:=Int×Int×Int×Int×Int×A?
def asy (a b:Int):EV (a,b)=Z (decide (0<=a/\a<b)):=agp a b
structure NB (n:Nat) (s:SN):Prop where
 sb:SB n s.1
 c:l! s.2.1<=1000
 f:l! s.2.2.1<=1000
 k:l! s.2.2.2<=1000
structure SP (n:Nat) (s y:SN):Prop where
 ap:AP n s.1 y.1
 c:l! y.2.1=l! s.2.1
 f:l! y.2.2.1=l! s.2.2.1
 k:l! y.2.2.2=l! s.2.2.2
def SP.NB {s y:SN} (h:SP i s y) (z:NB i s) (A:i+1<=100000):NB (i+1) y:=
 ⟨h.ap.toSB z.sb A,by rw[h.c];exact z.c,by rw[h.f];exact z.f,by rw[h.k];exact z.k⟩
def sn0:SN:=(([],0,[],[]),[],[],[])
structure F16 (w:WT) (s:SN):Prop where
 c:l! s.2.1=l! w.1
 f:l! s.2.2.1=l! w.2.2.2.1
 k:l! s.2.2.2=l! w.2.2.2.2.1
def adw (w:WT) (s:SN) (z:l! w.2.2.1<=1000):Ok (xU (w,s)) λb=>b=J->F16 w s:=by
 unfold xU aW bm bF dE bi be aG;refine gV (ax (SE w s.1 (by omega)) λb A=>?_);with_reducible repeat' first|apply OS.ok;constructor|refine IM.mk λ_=>?_
 all_goals try simp only[ak,sC] at*
 all_goals first|(intro h;constructor<;>omega)|(intro h;cases h;done)
def aal:∀(l:η),(∀k:Nat,k+1<l! l->l.getD k 0<l.getD (k+1) 0)->JS l
 |[],_=>trivial
 |[x],_=>⟨λy L=>(by cases L),trivial⟩
 |x::y::r,h=>by
  have D:=aal (y::r) λk N=>by have:=h (k+1) (by simpa using N);simpa using this
  have h0:=h 0 (by simp);simp at h0;refine ⟨λz A=>?_,D⟩;rcases aZ.1 A with rfl|A
  .exact h0
  .have:=D.1 z A;omega
structure AN (c:Int) (l:η):Prop where
 a:JS l
 m:∀x:Int,x∈l->1<=x/\x<c
def Kk:∀(l:η) (z hi:Int),JS l->(∀y∈l,z<=y/\y<hi)->(l! l:Int)<=max 0 (hi-z)
 |[],z,hi,_,_=>by simp;omega
 |x::r,z,hi,h,hm=>by
  have h1:=hm x (cP ..);have D:=Kk r (x+1) hi h.2 λy A=>⟨by have:=h.1 y A;omega,(hm y (bJ _ A)).2⟩
  rw[bK];omega
def AN.len (h:AN a z):(l! z:Int)<=max 0 a:=by
 have:=Kk z 1 a h.a h.m;omega
def ap9 (L:∀k:Nat,k<i->1<=geti aL z (k:Int)/\geti aL z (k:Int)<a) (ha:∀k:Nat,k+1<i->z.getD k 0<z.getD (k+1) 0):(i:Int)<=max 0 a:=by
 have key:∀k:Nat,k<i->(k:Int)+1<=z.getD k 0:=by
  intro k;induction k with
  |zero=>intro D;have:=(L 0 D).1;rw[CQ]at this;exact this
  |succ k N=>
   intro D;have h1:=N (by omega);have A:=ha k D;omega
 rcases Nat.eq_zero_or_pos i with l|l
 .omega
 .have h1:=key (i-1) (by omega);have A:=(L (i-1) (by omega)).2;rw[CQ]at A;have A:z.getD (i-1) 0<a:=A;omega
def K3 (l:η) (c:Int) (L:l! l<=1000000000\/c<=1000000000):Ok (oU (l,c)) λb=>b=J->AN c l:=by
 unfold oU bM j_ bQ be cQ aG cN;refine cm (l! l) (λi x=>x=(i:Int)/\(∀k:Nat,k<i->1<=geti aL l (k:Int)/\geti aL l (k:Int)<c)/\∀k:Nat,k+1<i->l.getD k 0<l.getD (k+1) 0) ?_ ?_ ⟨rfl,λk z=>by omega,λk z=>by omega⟩
 .rintro i x hi ⟨rfl,A,D⟩;have hbd:i<=1000000000:=by
   have:=ap9 A D;rcases L with L|L<;>omega
  have N:0<(i:Int)->bl .i64 ((i:Int)-1)=((i-1:Nat):Int):=λh=>by rw[iQ];omega
  have hq:(0<i->l.getD (i-1) 0<l.getD i 0)->1<=geti aL l (i:Int)/\geti aL l (i:Int)<c->bl .i64 ((i:Int)+1)=((i+1:Nat):Int)/\(∀k:Nat,k<i+1->1<=geti aL l (k:Int)/\geti aL l (k:Int)<c)/\∀k:Nat,k+1<i+1->l.getD k 0<l.getD (k+1) 0:=λg1 g2=>by
   refine ⟨gQ,λk z=>?_,λk z=>?_⟩
   .rcases bG k i with h1|h1
    .exact A k h1
    .rw[show k=i by omega];exact g2
   .rcases bG (k+1) i with h1|h1
    .exact D k h1
    .have:=g1 (by omega);rw[show k=i-1 by omega,show i-1+1=i by omega];exact this
  with_reducible repeat' first|apply OS.ok;constructor|refine IM.mk λ_=>?_
  all_goals try simp only[ak,sC] at*
  all_goals first|omega|(intro h;cases h;done)|(rw [N (by omega)];omega)|skip
  next h1 h2 h3 h4=>rw[N h3,CQ,CQ]at h4;exact hq (λ_=>h4) ⟨by omega,by omega⟩
  .exact hq (λh=>by omega) ⟨by omega,by omega⟩
 .rintro x ⟨rfl,A,D⟩;with_reducible repeat' first|apply OS.ok;constructor|refine IM.mk λ_=>?_
  all_goals try simp only[ak,sC] at*
  all_goals first|omega|skip
  exact⟨aal l λk z=>D k z,iL (T:=aL) A⟩
structure VA (w:WT) (sy:SY) (ce fu:η) (t k o v:Int):Prop where
 ld:k=3->v=geti aL ce o
 gt:k=23->v=geti aL fu o
 br:k=5->v=0\/v=1
 el:¬k=3->¬k=23->¬k=5->¬k=4->¬k=22->v=(uv w sy t k o v).2
def ite2 {c:Prop} [Decidable c] {a b:SY×Int} (A:a.2=0) (z:b.2=0):(if c then a else b).2=0:=by by_cases h:c<;>simp[h,A,z]
def ant (w:WT) (z:SY) (t k o u:Int) (h1:¬k=18) (A:¬k=19):(uv w z t k o u).2=0:=by
 unfold uv;rw[av h1,av A];repeat (first|exact rfl|refine ite2 rfl ?_)
def aap (w:WT) (z:SY) (t k o u A:Int) (h1:¬k=18):uv w z t k o u=uv w z t k o A:=by
 unfold uv;rw[av h1,av h1]
def HC (w:WT) (z:SY) (t o u:Int):uv w z t 18 o u=if (l! (wl z.2.2.2 o (l! z.2.2.2)))=0 then (z,-1) else ((z.1,z.2.1,z.2.2.1,Ej z.2.2.2 (Dy (wl z.2.2.2 o (l! z.2.2.2)) u) 4),Dy (wl z.2.2.2 o (l! z.2.2.2)) u):=rfl
def apr (w:WT) (z:SY) (t o u:Int):(uv w z t 19 o u).2=(l! (wl z.2.2.2 o (l! z.2.2.2)):Int):=rfl
def aep (w:WT) (s:SN) (hs:NB i s) (hf:F16 w s) (e:ET) (he:EN w s.1 e.1 e.2.1 e.2.2.1):Ok (vD (s,e)) λb=>b=J->VA w s.1 s.2.1 s.2.2.1 e.1 e.2.1 e.2.2.1 e.2.2.2.1:=by
 let⟨t,k,o,v,si,de,fr⟩:=e;let⟨D,s2,s3,s4⟩:=s;let⟨nm,t0,t1,cd,e1,e2,e3⟩:=he;let⟨_,_,ce,lk,cn,th,fu,_,_,_⟩:=nm;let⟨f1,f2,f3⟩:=hf;have hth:=hs.sb.th;dsimp only at*
 unfold vD aW bm bF cG cg bi bM j_ bQ be aG;have hW:=Y8 D o hth;have hWl:=xh D.2.2.2 o (l! D.2.2.2);refine aI (λh=>?_) λn3=>?_
 .have h:k=3:=h;let⟨c0,c1⟩:=ce (.inl h);exact aM c0 (by rw[f1];exact c1) (aS (aj λA=>⟨λ_=>bx A,λz=>by omega,λz=>by omega,λz=>(z h).elim⟩))
 refine aI (λh=>?_) λL=>?_
 .have h:k=23:=h;let⟨c0,c1⟩:=fu (.inr h);exact aM c0 (by rw[f2];exact c1) (aS (aj λA=>⟨λz=>by omega,λ_=>bx A,λz=>by omega,λ_ z=>(z h).elim⟩))
 refine aI (λh=>?_) λn5=>?_
 .have h:k=5:=h;exact gV (aI (λA=>aj (aj λ_=>⟨λz=>by omega,λz=>by omega,λ_=>.inl A,λ_ _ z=>(z h).elim⟩)) λ_=>aj (aj λA=>⟨λz=>by omega,λz=>by omega,λ_=>.inr (bx A),λ_ _ z=>(z h).elim⟩))
 refine aU (λx=>x.2=((D,s2,s3,s4),t,k,o,v,si,de,fr)/\(x.1=J->k=4\/k=22)) (aI (λh=>aj ⟨rfl,λ_=>.inl h⟩) λ_=>aj ⟨rfl,λh=>.inr (bx h)⟩) ?_;rintro⟨b,x⟩ ⟨e,hb⟩;dsimp only at e hb;subst e;refine aN (λh=>aj λ_=>⟨λz=>(n3 z).elim,λz=>(L z).elim,λz=>(n5 z).elim,λ_ _ _ h4 h5=>(hb h).elim (λh=>(h4 h).elim) λh=>(h5 h).elim⟩) λ_=>?_
 have fin:v=(uv w D t k o v).2->VA w D s2 s3 t k o v:=λh=>⟨λz=>(n3 z).elim,λz=>(L z).elim,λz=>(n5 z).elim,λ_ _ _ _ _=>h⟩
 refine aI (λh=>?_) λn18=>?_
 .have h:k=18:=h;subst h;rw[HC]at fin;refine aT hW ?_;revert fin hWl;generalize wl D.2.2.2 o (l! D.2.2.2)=l;intro hWl fin;refine aI (λh=>aj λA=>fin ?_) λh=>?_
  .dsimp only[ak]at h;rw[aD (by omega)];exact bx A
  .dsimp only[ak]at h;have hne:¬l! l=0:=by omega
   refine gV (fc (λ_=>bL (λ_=>?_) λ_=>aj (aj nofun)) λ_=>aj (aj nofun));refine aT (Zf _ _ (by omega)) (aj (aj λA=>fin ?_));rw[av hne];unfold Dy;rw[av hne,aD A]
 refine aI (λh=>?_) λN=>?_
 .have h:k=19:=h;subst h;exact aT hW (aj λA=>fin (bx A))
 exact aj λA=>fin (by rw[ant _ _ _ _ _ _ n18 N];exact bx A)
structure S16 (w:WT) (s:SN) (e:ET):Prop where
 rd:Xa w s.1 e.1 e.2.1 e.2.2.1
 s1:e.2.1=1\/e.2.1=2->e.2.2.2.2.1= -1
 s2:¬(e.2.1=1\/e.2.1=2)->0<=e.2.2.2.2.1/\e.2.2.2.2.1<l! w.2.2.2.2.2/\(geti pO w.2.2.2.2.2 e.2.2.2.2.1).1=e.1
 de:0<l! e.2.2.2.2.2.1->e.2.1=5\/(e.2.1=3\/e.2.1=4)/\¬(geti mf w.1 e.2.2.1).2.2.1=0
 fr:0<l! e.2.2.2.2.2.2->e.2.1=4\/e.2.1=22
 nd:AN (geti aL s.2.2.2 e.1) e.2.2.2.2.2.1
 nf:AN (geti aL s.2.2.2 e.1) e.2.2.2.2.2.2
 va:VA w s.1 s.2.1 s.2.2.1 e.1 e.2.1 e.2.2.1 e.2.2.2.1
def ceP (z:η) (e:ET):η:=if e.2.1=4 then cH z e.2.2.1 e.2.2.2.1 else z
def fuP (z:η) (e:ET):η:=if e.2.1=22 then cH z e.2.2.1 e.2.2.2.1 else z
def nxP (w:WT) (s:SN) (e:ET):SN:=((uv w s.1 e.1 e.2.1 e.2.2.1 e.2.2.2.1).1,ceP s.2.1 e,fuP s.2.2.1 e,cH s.2.2.2 e.1 (bl .i64 (geti aL s.2.2.2 e.1+1)))
def HI (w:WT) (s:SN) (hs:NB i s) (hw:l! w.2.2.1<=1000) (e:ET) (hd:l! e.2.2.2.2.2.1<=1000000000\/(geti aL s.2.2.2 e.1:Int)<=1000000000) (hf:l! e.2.2.2.2.2.2<=1000000000\/(geti aL s.2.2.2 e.1:Int)<=1000000000):Ok (sQ (w,s,e)) λy=>(y.2=J->EN w s.1 e.1 e.2.1 e.2.2.1/\SP i s y.1/\S16 w s e/\y.1=nxP w s e)/\(y.2=aa->y.1=sn0):=by
 have hz:∀{Q:SN×Bool->Prop},Q (sn0,aa)->Ok (Z (sn0,aa)) Q:=λh=>aj h
 have z0:((sn0,aa).2=J->EN w s.1 e.1 e.2.1 e.2.2.1/\SP i s (sn0,aa).1/\S16 w s e/\(sn0,aa).1=nxP w s e)/\((sn0,aa).2=aa->(sn0,aa).1=sn0):=⟨nofun,λ_=>rfl⟩
 unfold sQ aW bm bF cG ep cg dE dk ip wE ck bi bM iE bX bQ jY be cQ aG cN;refine aU (λx=>x.2=(w,s,e,0)/\(x.1=aa->F16 w s/\(EN w s.1 e.1 e.2.1 e.2.2.1/\Xa w s.1 e.1 e.2.1 e.2.2.1)/\lj (w,s.1,e.1,e.2.1,e.2.2.1)=Z J)) ?_ ?_
 .refine ax (adw w s hw) λb hb=>?_
  with_reducible repeat' first|apply OS.ok;constructor|refine IM.mk λ_=>?_
  .exact⟨rfl,nofun⟩
  simp only[asy,ZO];with_reducible repeat' first|apply OS.ok;constructor|refine IM.mk λ_=>?_
  .exact⟨rfl,nofun⟩
  .exact⟨rfl,nofun⟩
  .exact⟨rfl,nofun⟩
  let⟨c,hc0,hc⟩:=Nw w s.1 hs.sb hw e.1 e.2.1 e.2.2.1;refine aT hc0 (aj ⟨rfl,λh=>?_⟩);have h:c=J:=by simpa using h
  exact⟨hb (by assumption),hc h,h▸hc0⟩
 rintro⟨A,L⟩ ⟨z,hx⟩;dsimp only at z hx;subst z;refine aN (λ_=>hz z0) λh1=>?_
 let⟨hF,⟨hE,hR⟩,hEn⟩:=hx h1;clear hx h1;refine aU (λx=>x=(w,s,e,0)/\(e.2.1=1\/e.2.1=2->e.2.2.2.2.1= -1)/\(¬(e.2.1=1\/e.2.1=2)->0<=e.2.2.2.2.1/\e.2.2.2.2.1<l! w.2.2.2.2.2/\(geti pO w.2.2.2.2.2 e.2.2.2.2.1).1=e.1)) ?_ ?_
 .refine aU (λx=>x.2=(w,s,e,0)/\(x.1=J->e.2.1=1\/e.2.1=2)/\(x.1=aa->¬(e.2.1=1\/e.2.1=2))) ?_ ?_
  .refine aI (λh=>aj ⟨rfl,λ_=>.inl h,nofun⟩) λh=>aj ⟨rfl,λD=>.inr (bx D),λD=>?_⟩
   have:=Xd D;exact λh3=>h3.elim h this
  rintro⟨A,L⟩ ⟨z,hy1,hy2⟩;dsimp only at z hy1 hy2;subst z;refine aN (λhk=>?_) λhk=>?_
  .exact ch (λ_=>aj z0) λh=>aj ⟨rfl,λ_=>h,λh3=>(h3 (hy1 hk)).elim⟩
  .refine aU (λx=>x.2=(w,s,e,0)/\(x.1=aa->0<=e.2.2.2.2.1/\e.2.2.2.2.1<l! w.2.2.2.2.2/\(geti pO w.2.2.2.2.2 e.2.2.2.2.1).1=e.1)) ?_ ?_
   .simp only[asy,ZO];refine ch (λ_=>aj ⟨rfl,nofun⟩) λh=>aM h.1 h.2 (aS (aj ⟨rfl,λD=>⟨h.1,h.2,?_⟩⟩))
    simpa using D
   rintro⟨A,L⟩ ⟨z,hz⟩;dsimp only at z hz;subst z;exact aN (λ_=>aj z0) λh=>aj ⟨rfl,λh3=>((hy2 hk) h3).elim,λ_=>hz h⟩
 rintro x ⟨rfl,hS1,hS2⟩;let⟨nm,t0,t1,cd,e1,e2,e3⟩:=id hE;let⟨_,_,ce,lk,cn,th,fu,_,_,_⟩:=nm;let⟨f1,f2,f3⟩:=id hF;refine aU (λx=>x.2=(w,s,e,0)/\(x.1=J->e.2.1=3\/e.2.1=4)) ?_ ?_
 .with_reducible repeat' first|apply OS.ok;constructor|refine IM.mk λ_=>?_
  .exact⟨rfl,λ_=>.inl (by assumption)⟩
  .exact⟨rfl,λh=>.inr (bx h)⟩
 rintro⟨A,L⟩ ⟨z,N⟩;dsimp only at z N;subst z;refine aU (λx=>x.2=(w,s,e,0)/\(x.1=aa->0<l! e.2.2.2.2.2.1->e.2.1=5\/(e.2.1=3\/e.2.1=4)/\¬(geti mf w.1 e.2.2.1).2.2.1=0)) ?_ ?_
 .refine bL (λ_=>ch (λ_=>aN (λh=>?_) λ_=>aj ⟨rfl,nofun⟩) λh5=>aj ⟨rfl,λ_ _=>.inl h5⟩) λh=>aj ⟨rfl,λ_ D=>?_⟩
  .refine aM (ce (N h)).1 (ce (N h)).2 (aS (aj ⟨rfl,λD _=>.inr ⟨N h,?_⟩⟩));simpa using D
  .dsimp only[ak]at h;omega
 rintro⟨A,L⟩ ⟨z,hDe⟩;dsimp only at z hDe;subst z;refine aN (λ_=>hz z0) λhde=>?_
 refine aU (λx=>x.2=(w,s,e,0)/\(x.1=aa->0<l! e.2.2.2.2.2.2->e.2.1=4\/e.2.1=22)) ?_ ?_
 .refine bL (λ_=>ch (λ_=>aj ⟨rfl,λh _=>.inr (by simpa using h)⟩) λh4=>aj ⟨rfl,λ_ _=>.inl h4⟩) λh=>aj ⟨rfl,λ_ D=>?_⟩
  dsimp only[ak]at h;omega
 rintro⟨A,L⟩ ⟨z,hFr⟩;dsimp only at z hFr;subst z;refine aN (λ_=>hz z0) λhfr=>?_
 have hk:=hs.k;have hc:=hs.c;have hfu:=hs.f;refine aU (λx=>x.2=(w,s,e,0)/\(x.1=aa->AN (geti aL s.2.2.2 e.1) e.2.2.2.2.2.1/\AN (geti aL s.2.2.2 e.1) e.2.2.2.2.2.2/\VA w s.1 s.2.1 s.2.2.1 e.1 e.2.1 e.2.2.1 e.2.2.2.1)) ?_ ?_
 .have hv:=aep w s hs hF e hE;refine aM t0 (by rw[f3];exact t1) (aS (ax (K3 _ _ hd) λb hb=>?_));refine em (λ_=>aj ⟨rfl,nofun⟩) λb1=>?_
  refine aM t0 (by rw[f3];exact t1) (aS (ax (K3 _ _ hf) λb hb2=>?_));refine em (λ_=>aj ⟨rfl,nofun⟩) λb2=>?_
  exact ax hv λb hb3=>aj ⟨rfl,λh=>⟨hb b1,hb2 b2,hb3 (by simpa using h)⟩⟩
 rintro⟨A,L⟩ ⟨z,hNum⟩;dsimp only at z hNum;subst z;refine aN (λ_=>hz z0) λhnu=>?_
 let⟨hN1,hN2,hVA⟩:=hNum hnu;have hS:S16 w s e:=⟨hR,hS1,hS2,hDe hde,hFr hfr,hN1,hN2,hVA⟩
 refine a! (a! (a! ?_));refine aU (λx=>x.2=(w,s,e,0,0,s.2.1,s.2.2.1,s.2.2.2)/\uv w s.1 e.1 e.2.1 e.2.2.1 x.1=uv w s.1 e.1 e.2.1 e.2.2.1 e.2.2.2.1) ?_ ?_
 .exact aI (λ_=>aj ⟨rfl,rfl⟩) λh=>aj ⟨rfl,aap _ _ _ _ _ _ _ h⟩
 rintro⟨A,L⟩ ⟨z,hxu⟩;dsimp only at z hxu;subst z;refine ax (W2 w s.1 hs.sb hw e.1 e.2.1 e.2.2.1 A) λy hy=>?_
 let⟨_,_,hap,hyq⟩:=hy.1 (hy.2.2 hEn);rw[hxu]at hyq;refine aU (λx=>x.1=e/\x.2.2.1=y.1/\x.2.2.2.1=ceP s.2.1 e/\x.2.2.2.2=(s.2.2.1,s.2.2.2)) ?_ ?_
 .unfold ceP;refine aI (λh=>?_) λh=>aj ⟨rfl,rfl,(av h).symm,rfl⟩
  have hc4:=ce (.inr h);with_reducible repeat' first|apply OS.ok;constructor|refine IM.mk λ_=>?_
  all_goals try simp only[ak,sC] at*
  all_goals first|omega|exact (aD h).symm
 rintro⟨A,L,x3,x4,x5,x6⟩ ⟨h1,D,h3,h4⟩;simp only[aP]at h1 D h3 h4;obtain⟨rfl,rfl⟩:=h4;subst h1 D h3;refine aU (λx=>x.1=A/\x.2.2.1=y.1/\x.2.2.2.1=ceP s.2.1 A/\x.2.2.2.2.1=fuP s.2.2.1 A/\x.2.2.2.2.2=s.2.2.2) ?_ ?_
 .unfold fuP;refine aI (λh=>?_) λh=>aj ⟨rfl,rfl,rfl,(av h).symm,rfl⟩
  have hc4:=fu (.inl h);with_reducible repeat' first|apply OS.ok;constructor|refine IM.mk λ_=>?_
  all_goals try simp only[ak,sC] at*
  all_goals first|omega|exact (aD h).symm
 rintro⟨A,L,x3,x4,x5,x6⟩ ⟨h1,D,h4,h5,h6⟩;simp only at h1 D h4 h5 h6;subst h1 D h4 h5 h6;have l1:l! (ceP s.2.1 A)=l! s.2.1:=by unfold ceP;split<;>simp[b7]
 have l2:l! (fuP s.2.2.1 A)=l! s.2.2.1:=by unfold fuP;split<;>simp[b7]
 with_reducible repeat' first|apply OS.ok;constructor|refine IM.mk λ_=>?_
 all_goals try simp only[ak,sC] at*
 all_goals first|omega|skip
 exact⟨⟨hE,⟨hap,l1,l2,by rw[b7]⟩,hS,by unfold nxP;rw[<- hyq]⟩,nofun⟩
end
end Go.Proofs.YtcmnmakaoonfgaaGreatDoor.AI
