/-
  Texts of the proof, part 5 of 5: what is used to prove the statement. No condition.
-/
import Derived.Test.YthehadcddfilhaaGreatDoorHBSyncQ3
import Derived.Deep.Slices
import Derived.OpenShut
import Derived.Below
import Derived.Test.YthehadcddfilhaaGreatDoorProg
import Derived.KernelRfl
import Derived.Recover
import Derived.Test.YthehadcddfilhaaGreatDoorRows
import Derived.LaidMore
namespace Go.Proofs.YthehadcddfilhaaGreatDoor.AI
open Go.RowKit
set_option maxRecDepth 100000
set_option maxHeartbeats 4000000
set_option linter.unusedVariables false
set_option linter.unusedSimpArgs false
open Act renaming put→MX
open _root_.Array renaming replicate→oh
open _root_.Bool renaming true→ai,false→aj
open Call renaming operands→eM
open _root_.Int renaming ofNat_eq_natCast→au,ofNat→aO
open _root_.List renaming length→al,length_singleton→eD,range→eS,cons_append→gi,length_nil→jS,nil_append→lM,getElem?_cons_zero→qI,take_succ_cons→vB
open _root_.Nat renaming beq→aC,testBit→aM,add_zero→c8,ble→eC,blt→gf
open Oper renaming wp→GW
open _root_.Option renaming some→af,none→ah,bind_some→aH,map_some→ca,map→lK,getD_some→uE
open _root_.Prod renaming p2→aX,p3→bl,p4→bw,q3→bL,p5→cz,q5→cS,q4→dw,p6→ef,q6→fc,q7→ky,p7→kz,q8→pN,p8→zD,p9→BZ,p10→DB
open Region renaming wanted→iJ
open Result renaming andThen_ok→cI
open Sem renaming run_bind→eB,run_pure→oI
open _root_.Sum renaming inr→bW,inl→nh
open Value renaming okWide→GU
open World renaming cell?→MT
noncomputable section
structure pH (P:Program) (f:FuncId) (c:ct):Prop where
 callable:DA P f
 calls:∀ x y,c.m x=af y->∀ vs hp l1 rs hq l2 la lr,qE c.pre x vs hp l1->qE c.post y rs hq l2->cK hp vs=af la->cK hq rs=af lr->
  ∀ (φ:PM) (E:Nat->Prop) (w:World) (us:List Value),qP φ E (bA hp) w->jW φ (tot E φ (bA hp)) w la us->(∀ n k,φ n=af k->ow n<c.pre.bs.length)->
  Calls P f us.toArray w λen w'=>∃ v φ',en= .returned v/\Ki (own φ (bA hp)) w w'/\(∀ k,k<w.heap.size->own φ' (bA hq) k->own φ (bA hp) k)/\(∀ i,i<c.pre.bs.length->φ' (nm i)=φ (nm i))/\qP φ' E (bA hq) w'/\cL φ' (tot E φ' (bA hq)) w' (DI lr) v
theorem L2 {g:Nat->Nat}:∀ (bs:List PB) (x:(PB.tyL bs).den) (l:List (Option ip)),Bm bs=ai->oo g bs x=af l->∀ (i:Nat) (c:Option ip),l[i]? =af c->∃ b,c=af b
 |[],x,l,_,hp,i,c,hc=>by simp only[oo,ak] at hp;subst hp;simp at hc
 |b::r,x,l,hn,hp,i,c,hc=>by
  simp only[oo] at hp;split at hp
  .rename_i a I;split at hp
   .rename_i q hq;simp only[ak] at hp;subst hp;cases i with
    |zero=>
     simp at hc;subst hc;cases b with
     |gone=>simp[Bm] at hn
     |rows ty p T=>simp only[Ci,ak] at I;exact⟨_,I.symm⟩
     |rowsP ty T=>simp only[Ci,ak] at I;exact⟨_,I.symm⟩
     |cells ty ps=>
      simp only[Ci] at I;split at I
      .simp only[ak] at I;exact⟨_,I.symm⟩
      .cases I
     |mp K V=>simp only[Ci,ak] at I;exact⟨_,I.symm⟩
    |succ i=>
     refine L2 r _ q ?_ hq i c (by simpa using hc);cases b<;>first|exact hn|simp[Bm] at hn
   .cases hp
  .cases hp
theorem E3 {h h2:bh} {g:Nat->Nat}:∀ n,tK h h2 g n=ai->∀ i,i<n->∀ r,em h (g i)=af r->em h2 (g i)=af r
 |0,_,i,hi,_,_=>by omega
 |n+1,hs,i,hi,r,hr=>by
  simp only[tK,av] at hs;by_cases e:i=n
  .subst e;obtain⟨p,s,k⟩:=r;have h1:=hs.1;rw[hr] at h1;cases I:em h2 (g i) with
   |none=>rw[I] at h1;cases h1
   |some q=>
    obtain⟨J,s',k'⟩:=q;rw[I] at h1;simp only[av,cV] at h1;rw[h1.1.1,aw h1.1.2,aw h1.2]
  .exact E3 n hs.2 i (by omega) r hr
theorem jW.le {H H':HF} {φ:PM} {E:Nat->Prop} {w:World} (r:qP φ E H w):∀ {l I:List AV} {us:List Value},ie H H' l I->jW φ (tot E φ H) w l us->jW φ (tot E φ H') w I us
 |[],[],[],_,_=>trivial
 |[],[],_::_,_,h=>h.elim
 |_::_,_::_,[],_,h=>h.elim
 |[],_::_,_,h,_=>h.elim
 |_::_,[],_,h,_=>h.elim
 |_::_,_::_,_::_,hl,h=>⟨hl.1 _ _ _ _ r h.1,jW.le r hl.2 h.2⟩
theorem jW.toId {φ φ':PM} {O O':Nat->Prop} {w:World} {γ:Nat->Nat} {p:Nat->Bool} (hv:∀ x v,x.all p=ai->cL φ O w (x.ren γ) v->cL φ' O' w x v):∀ {l:List AV} {us:List Value},AV.allL p l=ai->jW φ O w (AV.renL γ l) us->jW φ' O' w l us
 |[],[],_,_=>trivial
 |[],_::_,_,h=>h.elim
 |_::_,[],_,h=>h.elim
 |_::_,_::_,hp,h=>by
  simp only[AV.allL,av] at hp;exact⟨hv _ _ hp.1 h.1,jW.toId hv hp.2 h.2⟩
theorem Vm {h:bh}:∀ {rs:List TV} {lr:List AV},cK h rs=af lr->co h (Pj rs)=af (DI lr)
 |[],lr,he=>by simp only[cK,ak] at he;subst he;rfl
 |[x],lr,he=>by
  obtain⟨y,l2,rfl,e1,e2⟩:=cY he;simp only[cK,ak] at e2;subst e2;exact e1
 |x::y::r,lr,he=>by
  obtain⟨J,l2,rfl,e1,e2⟩:=cY he;obtain⟨I,M,rfl,e3,U⟩:=cY e2;simp only[Pj,co,he,DI]
theorem YJ (γ:Nat->Nat):∀ l:List AV,DI (AV.renL γ l)=(DI l).ren γ
 |[]=>rfl
 |[x]=>rfl
 |x::y::r=>rfl
theorem YK {p:Nat->Bool}:∀ {l:List AV},AV.allL p l=ai->(DI l).all p=ai
 |[],_=>rfl
 |[x],h=>by simp only[AV.allL,av] at h;exact h.1
 |x::y::r,h=>h
theorem ace {nx I q:Nat}:aM (((1<<<I)-1)<<<nx) q=ai↔nx<=q/\q<nx+I:=by
 rw[Nat.testBit_shiftLeft,Nat.one_shiftLeft,Nat.testBit_two_pow_sub_one];simp only[av,bR];omega
theorem Z_ {P:Program} {o:Oper} {e:iN} {h:bh} {nx:Nat} {f:FuncId} {c:ct} {l:List TV} (hinv:l9 h nx) (sp:pH P f c) {x:c.pre.ty.den} {m:Nat} {σ:PT Nat} {sm:Nat} (M:Hn 0 c.pre l h x m σ sm) {vs:List TV} {hp:bh} {l1:List (Option ip)} (I:qE c.pre x vs hp l1) (hng:Bm c.pre.bs=ai) {y:c.post.ty.den} (hm:c.m x=af y) {rs:List TV} {hq:bh} {l2:List (Option ip)} (J:qE c.post y rs hq l2) (hle:c.pre.bs.length<=c.post.bs.length)
 {g:Nat->Nat} (glo:∀ i,i<c.pre.bs.length->g i=ic σ i) (ghi:∀ i,c.pre.bs.length<=i->g i=nx+(i-c.pre.bs.length)) {h2:bh} (hh2:h2=Ad g 0 (l2.map (lK (lO g))) (eo m h)) (hsr:tK h h2 g c.pre.bs.length=ai) {la:List AV} (hla:cK h l=af la)
 (hexec:∀ (φ:PM) (E:Nat->Prop) (h':HF) (w:World) (a:Act),(∀ t,.tmp t∈o.op.operands->∀ y,fM e h t=af y->cL φ (tot E φ h') w y (a.tmps.getD t undef))->qP φ E h' w->∃ us:List Value,(execOp a.eval o).run P w= .ok (.enter f us.toArray) w/\jW φ (tot E φ h') w la us):
 jf P o aj e h nx (Pj (ku g rs)) (sm|||m) (sm|||m|||(((1<<<(c.post.bs.length-c.pre.bs.length))-1)<<<nx)) h2 (nx+(c.post.bs.length-c.pre.bs.length)):=by
 obtain⟨x1,m1,x2,m2,hx,hmm,gv,gb⟩:=M.ex;have hmr:dQ h m:=by rw[hmm];exact (Hc _ _ _ _ gv).or (He _ _ _ _ gb)
 generalize hnp:c.pre.bs.length=np at*
 generalize hnq:c.post.bs.length=nq at*
 have pvg:pQ (ic σ) c.pre.vs x1=af (ku (ic σ) vs):=by
  have Y:=tw (ic σ) c.pre.vs x1;have h4:=I.pv;rw[hx,s_] at h4;rw[Y,h4];rfl
 have pbg:oo (ic σ) c.pre.bs x2=af (l1.map (lK (lO (ic σ)))):=by
  have Y:=vJ (ic σ) c.pre.bs x2;have h4:=I.pb;rw[hx,uJ] at h4;rw[Y,h4];rfl
 have hl1:∀ i,i<np->∃ b,l1[i]? =af (af b):=λi hi=>by
  have hi':i<l1.length:=by rw[I.len,hnp];exact hi
  obtain⟨b,hb⟩:=L2 c.pre.bs _ l1 hng I.pb i l1[i] (aA hi');exact⟨b,by rw[aA hi',hb]⟩
 have hbm:∀ i b,l1[i]? =af (af b)->∃ b0,h.get (ic σ i)=af b0/\BM (ic σ) h m b0 (lO (ic σ) b):=λi b hb=>by
  obtain⟨b0,U,Z⟩:=IF c.pre.bs 0 x2 m2 _ gb pbg i (lO (ic σ) b) (by rw[bc,hb];rfl);rw[bN] at U;exact⟨b0,U,Z.mono λj hj=>by rw[hmm,bu,hj];simp⟩
 have inj1:∀ a b,a<np->b<np->ic σ a=ic σ b->a=b:=λa b ha hb=>M.inj a b (by rw[hnp];exact ha) (by rw[hnp];exact hb)
 have sig:∀ q,aM sm q=ai↔∃ k,k<np/\ic σ k=q:=λq=>by rw[M.sig,hnp]
 have gnx:∀ i,i<np->ic σ i<nx:=λi hi=>by
  obtain⟨b,hb⟩:=hl1 i hi;obtain⟨b0,U,_⟩:=hbm i b hb;exact hinv.low _ _ U
 have hmS:∀ i,i<np->aM m (ic σ i)=aj:=λi hi=>by
  cases hx:aM m (ic σ i) with
  |false=>rfl
  |true=>have:=M.disj _ hx;rw[(sig _).2 ⟨i,hi,rfl⟩] at this;cases this
 have injg:∀ a b,a<nq->b<nq->g a=g b->a=b:=λa b ha hb hab=>by
  by_cases h1:a<np
  .by_cases h2:b<np
   .rw[glo a h1,glo b h2] at hab;exact inj1 a b h1 h2 hab
   .rw[glo a h1,ghi b (by omega)] at hab;have:=gnx a h1;omega
  .by_cases h2:b<np
   .rw[ghi a (by omega),glo b h2] at hab;have:=gnx b h2;omega
   .rw[ghi a (by omega),ghi b (by omega)] at hab;omega
 let hv:bh:=Ad (ic σ) 0 (l1.map (lK (lO (ic σ)))) (eo m h)
 have hv_at:∀ i b,l1[i]? =af (af b)->hv.get (ic σ i)=af (lO (ic σ) b):=λi b hb=>by
  have:=uO (ic σ) (l1.map (lK (lO (ic σ)))) 0 (eo m h) (λa b ha hb=>by
   simp only[cf,I.len,hnp] at ha hb;simp only[bN];exact inj1 a b ha hb) i (af (lO (ic σ) b)) (by rw[bc,hb];rfl)
  rw[bN] at this;exact this
 have hv_ne:∀ j,(∀ i,i<np->j≠ic σ i)->hv.get j=(eo m h).get j:=λj hj=>
  uN (ic σ) _ 0 _ j λk hk=>by
   simp only[cf,I.len,hnp] at hk;rw[bN];exact hj k hk
 have rows_in:xy hv h:=λj r hr=>by
  rw[bU] at hr ⊢;by_cases hj:∃ i,i<np/\j=ic σ i
  .obtain⟨i,hi,rfl⟩:=hj;obtain⟨b,hb⟩:=hl1 i hi;obtain⟨b0,U,Z⟩:=hbm i b hb;rw[hv_at i b hb] at hr;rw[U];simp only[aH] at hr ⊢;rw[<- Z.row];exact hr
  .rw[hv_ne j (λi hi e=>hj ⟨i,hi,e⟩),iX] at hr;split at hr
   .rename_i ht;obtain⟨ty,p,T,xs,hb⟩:=hmr j ht;rw[hb] at hr ⊢;exact hr
   .exact hr
 have rows_hp:∀ i r,em hp i=af r->em hv (ic σ i)=af r:=λi r hr=>by
  rw[bU] at hr ⊢;cases hb:hp.get i with
  |none=>rw[hb] at hr;cases hr
  |some b=>
   rw[hb] at hr;rw[hv_at i b ((I.at_ i b).1 hb)];simp only[aH,HG] at hr ⊢;exact hr
 have dead_m:∀ i,aM m i=ai->bA hv (nm i)=ah:=λi hi=>by
  rw[bJ,hv_ne i (λk hk e=>by rw[e,hmS k hk] at hi;cases hi)];obtain⟨p,sz,n,hd⟩:=tG hmr hi;rw[hd];rfl
 have h2_at:∀ i cc,l2[i]? =af cc->h2.get (g i)=(match cc with|some b=>af (lO g b)|none=>((eo m h).get (g i)).map uP):=λi cc hc=>by
  have:=uO g (l2.map (lK (lO g))) 0 (eo m h) (λa b ha hb=>by
   simp only[cf,J.len,hnq] at ha hb;simp only[bN];exact injg a b ha hb) i (cc.map (lO g)) (by rw[bc,hc];rfl)
  rw[bN] at this;rw[hh2,this];cases cc<;>rfl
 have h2_ne:∀ j,(∀ i,i<nq->j≠g i)->h2.get j=(eo m h).get j:=λj hj=>by
  rw[hh2];refine uN g _ 0 _ j λk hk=>?_
  simp only[cf,J.len,hnq] at hk;rw[bN];exact hj k hk
 have rows_hq:∀ i r,em hq i=af r->em h2 (g i)=af r:=λi r hr=>by
  rw[bU] at hr ⊢;cases hb:hq.get i with
  |none=>rw[hb] at hr;cases hr
  |some b=>
   rw[hb] at hr;rw[h2_at i _ ((J.at_ i b).1 hb)];simp only[aH,HG] at hr ⊢;exact hr
 have rows2:cj h h2:=λj r hr=>by
  by_cases hj:∃ i,i<np/\j=ic σ i
  .obtain⟨i,hi,rfl⟩:=hj;rw[<- glo i hi] at hr ⊢;exact E3 np hsr i hi r hr
  .have hjn:j<nx:=by
    rw[bU] at hr;cases hb:h.get j with
    |none=>rw[hb] at hr;cases hr
    |some b=>exact hinv.low j b hb
   have:=cj.kill m h j r hr;rw[bU] at this ⊢;rw[h2_ne j (λi hi e=>?_)]
   .exact this
   .by_cases hip:i<np
    .exact hj ⟨i,hip,by rw[e,glo i hip]⟩
    .rw[ghi i (by omega)] at e;omega
 obtain⟨lr,hlr⟩:=fh hq rs J.ok;obtain⟨lp,hlp⟩:=fh hp vs I.ok;have er2:∀ i b yb,hq.get i=af b->kw hq b=af yb->bA h2 (nm (g i))=af (yb.ren (Hf g)):=λi b yb hb hyb=>by
  rw[bJ,h2_at i _ ((J.at_ i b).1 hb)];exact CP rows_hq hyb
 have er2':∀ i,i<nq->∀ z,bA h2 (nm (g i))=af z->∃ b yb,hq.get i=af b/\kw hq b=af yb/\z=yb.ren (Hf g):=λi hi z hz=>by
  have hi':i<l2.length:=by rw[J.len,hnq];exact hi
  have hcc:=aA hi';cases hcv:l2[i] with
  |none=>
   rw[hcv] at hcc;rw[bJ,h2_at i ah hcc] at hz;simp only at hz;cases hkg:(eo m h).get (g i) with
   |none=>rw[hkg] at hz;cases hz
   |some b0=>rw[hkg] at hz;cases b0<;>simp[uP,kw] at hz
  |some b=>
   rw[hcv] at hcc;have hb:=(J.at_ i b).2 hcc;rw[bJ,h2_at i (af b) hcc] at hz;have hyb:∃ yb,kw hq b=af yb:=by
    cases b with
    |rows ty p T xs=>simp only[aH,lO,kw] at hz ⊢;exact⟨z,hz⟩
    |cells ty q=>
     obtain⟨q',hq'⟩:=fh hq q (J.cells i ty q hb).1;exact⟨_,by simp only[kw,hq'];rfl⟩
    |dead p sz n=>simp[lO,kw] at hz
    |mp K V es=>exact⟨_,rfl⟩
   obtain⟨yb,hyb⟩:=hyb;have:=CP rows_hq hyb;simp only[aH] at hz;rw[this] at hz;exact⟨b,yb,hb,hyb,by cases hz;rfl⟩
 have dead2:∀ i,aM m i=ai->bA h2 (nm i)=ah:=λi hi=>by
  have hlt:=hmr.lt hinv hi;rw[bJ,h2_ne i (λk hk e=>?_)]
  .obtain⟨p,sz,n,hd⟩:=tG hmr hi;rw[hd];rfl
  .by_cases hkp:k<np
   .rw[e,glo k hkp,hmS k hkp] at hi;cases hi
   .rw[ghi k (by omega)] at e;omega
 have inv2:l9 h2 (nx+(nq-np)):=by
  refine ⟨λj ty q hj=>?_,λj b hj=>?_⟩
  .by_cases hjg:∃ i,i<nq/\j=g i
   .obtain⟨i,hi,rfl⟩:=hjg;have hi':i<l2.length:=by rw[J.len,hnq];exact hi
    have hcc:=aA hi';cases hcv:l2[i] with
    |none=>
     rw[hcv] at hcc;rw[h2_at i ah hcc] at hj;simp only at hj;cases hkg:(eo m h).get (g i) with
     |none=>rw[hkg] at hj;cases hj
     |some b0=>rw[hkg] at hj;cases b0<;>simp[uP] at hj
    |some b=>
     rw[hcv] at hcc;have hb:=(J.at_ i b).2 hcc;rw[h2_at i (af b) hcc] at hj;simp only[ak] at hj;cases b with
     |cells ty' q'=>
      simp only[lO,ip.cells.injEq] at hj;obtain⟨_,rfl⟩:=hj;obtain⟨z,hz⟩:=fh hq q' (J.cells i ty' q' hb).1;exact kH _ _ _ (qu rows_hq q' z hz)
     |rows _ _ _ _=>simp[lO] at hj
     |dead _ _ _=>simp[lO] at hj
     |mp _ _ _=>simp[lO] at hj
   .rw[h2_ne j (λi hi e=>hjg ⟨i,hi,e⟩)] at hj;refine iU rows2 q ?_;have hkk:=(hinv.kill m).cells j ty q hj;rw[iX] at hj;split at hj
    .rename_i ht;obtain⟨_,_,_,_,hb⟩:=hmr j ht;rw[hb] at hj;cases hj
    .exact hinv.cells j ty q hj
  .by_cases hjg:∃ i,i<nq/\j=g i
   .obtain⟨i,hi,rfl⟩:=hjg;by_cases hip:i<np
    .rw[glo i hip];have:=gnx i hip;omega
    .rw[ghi i (by omega)];omega
   .rw[h2_ne j (λi hi e=>hjg ⟨i,hi,e⟩)] at hj;have:=(hinv.kill m).low j b hj;omega
 let S:List Nat:=(eS np).map λi=>nm (ic σ i)
 have memS:∀ n,n∈S↔∃ i,i<np/\n=nm (ic σ i):=λn=>by
  simp only[S,dk,m8];exact⟨λ⟨i,h1,h2⟩=>⟨i,h1,h2.symm⟩,λ⟨i,h1,h2⟩=>⟨i,h1,h2.symm⟩⟩
 let NN:List Nat:=(eS (nq-np)).map λt=>nm (nx+t)
 have memN:∀ n,n∈NN↔∃ t,t<nq-np/\n=nm (nx+t):=λn=>by
  simp only[NN,dk,m8];exact⟨λ⟨i,h1,h2⟩=>⟨i,h1,h2.symm⟩,λ⟨i,h1,h2⟩=>⟨i,h1,h2.symm⟩⟩
 have memW:∀ n,n∈S++E_ m++NN↔(∃ i,i<nq/\n=nm (g i))\/n∈E_ m:=λn=>by
  rw[bP,bP,memS,memN];constructor
  .rintro ((⟨i,hi,rfl⟩|hn)|⟨t,ht,rfl⟩)
   .exact .inl ⟨i,by omega,by rw[glo i hi]⟩
   .exact .inr hn
   .exact .inl ⟨np+t,by omega,by rw[ghi _ (by omega),show np+t-np=t from by omega]⟩
  .rintro (⟨i,hi,rfl⟩|hn)
   .by_cases hip:i<np
    .exact .inl (.inl ⟨i,hip,by rw[glo i hip]⟩)
    .exact .inr ⟨i-np,by omega,by rw[ghi i (by omega)]⟩
   .exact .inl (.inr hn)
 have hOpT:gK P o (fM e h) (bA h) ⟨DI (AV.renL (Hf g) lr),S++E_ m,S++E_ m++NN,bA h2,NN⟩:=by
  intro φ E h' w a hrd hwr hops hrep hN;have hS':∀ i,i<np->h' (nm (ic σ i))=bA h (nm (ic σ i)):=λi hi=>hrd _ (kY _ ((memS _).2 ⟨i,hi,rfl⟩))
  have hM':∀ i,aM m i=ai->h' (nm i)=bA h (nm i):=λi hi=>hrd _ (nk _ (lz.2 hi))
  obtain⟨us,hrun,hrel⟩:=hexec φ E h' w a hops hrep
  let Hv:HF:=λn=>if n∈S++E_ m then bA hv n else h' n
  have Hv_in:∀ n,n∈S++E_ m->Hv n=bA hv n:=λn hn=>by simp only[Hv,hn,bD]
  have Hv_out:∀ n,n∉S++E_ m->Hv n=h' n:=λn hn=>by simp only[Hv,hn,dY]
  have blkS:∀ i,i<np->∀ z,bA hv (nm (ic σ i))=af z->∃ b0 b y0,h.get (ic σ i)=af b0/\l1[i]? =af (af b)/\BM (ic σ) h m b0 (lO (ic σ) b)/\kw h b0=af y0/\kw hv (lO (ic σ) b)=af z:=λi hi z hz=>by
   obtain⟨b,hb⟩:=hl1 i hi;obtain⟨b0,U,Z⟩:=hbm i b hb;rw[bJ,hv_at i b hb] at hz;simp only[aH] at hz;obtain⟨y0,hy0⟩:=BM.erB_some hinv U Z hz;exact⟨b0,b,y0,U,hb,Z,hy0,hz⟩
  have hd:vb h' Hv:=λn b hb=>by
   by_cases hn:n∈S++E_ m
   .rw[Hv_in n hn] at hb;rcases bP.1 hn with hs|hs
    .obtain⟨i,hi,rfl⟩:=(memS n).1 hs;obtain⟨b0,b1,y0,U,Z,q3,q4,q5⟩:=blkS i hi b hb;exact⟨y0,by rw[hS' i hi,bJ,U];exact q4⟩
    .obtain⟨i,rfl,hi⟩:=nG.1 hs;rw[dead_m i hi] at hb;cases hb
   .rw[Hv_out n hn] at hb;exact⟨b,hb⟩
  have gvv:DG h h' Hv m:=λi hi=>⟨hM' i hi,by rw[Hv_in _ (nk _ (lz.2 hi)),dead_m i hi]⟩
  have V:J7 h' Hv:=⟨hd,λn b b' hb hb'=>by
   by_cases hn:n∈S++E_ m
   .rw[Hv_in n hn] at hb';rcases bP.1 hn with hs|hs
    .obtain⟨i,hi,rfl⟩:=(memS n).1 hs;obtain⟨b0,b1,y0,U,Z,q3,q4,q5⟩:=blkS i hi b' hb';rw[hS' i hi,bJ,U] at hb;simp only[aH] at hb;exact BM.view hd gvv rows_in q3 hb q5
    .obtain⟨i,rfl,hi⟩:=nG.1 hs;rw[dead_m i hi] at hb';cases hb'
   .rw[Hv_out n hn,hb] at hb';cases hb';exact jX.refl hd b⟩
  have hrepv:=V.rep hrep;have hlpg:cK hv (ku (ic σ) vs)=af (AV.renL (Hf (ic σ)) lp):=qu rows_hp vs lp hlp;have hrel1:jW φ (tot E φ Hv) w (AV.renL (Hf (ic σ)) lp) us:=
   jW.le hrep (CJ hd rows_in c.pre.vs l x1 m1 _ la _ gv pvg hla hlpg (λi hi=>gvv i (by rw[hmm,bu,hi];rfl))) hrel
  let E':Nat->Prop:=λk=>E k\/∃ n b,Hv n=af b/\n∉S/\φ n=af k
  have T:adx c.pre x vs hp (ic σ) φ E E' Hv w:=by
   refine qP.toId I (λa b ha hb=>inj1 a b (by rw[<- hnp];exact ha) (by rw[<- hnp];exact hb)) hrepv (λi b yb hb hyb=>?_) ?_ ?_ ?_
   .have hi:=I.lt_len hb;rw[hnp] at hi;rw[Hv_in _ (kY _ ((memS _).2 ⟨i,hi,rfl⟩)),bJ,hv_at i b ((I.at_ i b).1 hb)];exact CP rows_hp hyb
   .rintro k (hE|⟨n,b,h1,_,Y⟩)
    .exact .inl hE
    .exact .inr ⟨n,b,h1,Y⟩
   .rintro i k b hi h1 Y (hE|⟨n,b',h4,h5,h6⟩)
    .obtain⟨k',p1,p2,_⟩:=hrepv.at_ _ _ h1;rw[Y] at p1;cases p1;exact p2 hE
    .have:=hrepv.inj _ _ _ _ k h1 h4 Y h6;exact h5 (by rw[<- this];exact (memS _).2 ⟨i,by rw[<- hnp];exact hi,rfl⟩)
   .rintro k (hE|⟨n,b,h1,_,Y⟩)
    .exact hrepv.el k hE
    .obtain⟨k',U,_,ob,q3,_⟩:=hrepv.at_ n b h1;rw[Y] at U;cases U;exact (cC.1 q3).1
  have hcalls:=sp.calls x y hm vs hp l1 rs hq l2 lp lr I J hlp hlr (φ1 c.pre.bs.length (ic σ) φ) E' w us T.rep (jW.toId T.val (s7 vs lp I.lt hlp) hrel1) (λn k hk=>by
   obtain⟨i,hi,rfl,_⟩:=wM hk;rw[dX];exact hi)
  unfold GW;rw[hrun];refine Calls.mono hcalls ?_;rintro en w' ⟨v,φc',rfl,hext,hown,hnm,rp,rv'⟩
  let isN:Nat->Prop:=λn=>n∈NN
  let φ':PM:=λn=>if n∈NN then φc' (nm (np+(ow n-nx))) else φ n
  have φ'_new:∀ t,t<nq-np->φ' (nm (nx+t))=φc' (nm (np+t)):=λt ht=>by
   have:nm (nx+t)∈NN:=(memN _).2 ⟨t,ht,rfl⟩;simp only[φ',this,bD,dX];rw[show nx+t-nx=t from by omega]
  have φ'_old:∀ n,n∉NN->φ' n=φ n:=λn hn=>by simp only[φ',hn,dY]
  have loN:∀ i,i<nx->nm i∉NN:=λi hi hn=>by
   obtain⟨t,_,e⟩:=(memN _).1 hn;have:=kN e;omega
  have φ'_g:∀ i,i<nq->φ' (nm (g i))=φc' (nm i):=λi hi=>by
   by_cases hip:i<np
   .rw[glo i hip,φ'_old _ (loN _ (gnx i hip)),hnm i (by rw[hnp];exact hip),YB (by rw[hnp];exact hip)]
   .rw[ghi i (by omega),φ'_new _ (by omega),show np+(i-np)=i from by omega]
  have hsub:∀ n k,φ n=af k->φ' n=af k:=λn k hk=>by
   by_cases hn:n∈NN
   .rw[hN n hn] at hk;cases hk
   .rw[φ'_old n hn];exact hk
  let F:HF:=eO h' (S++E_ m++NN) (bA h2)
  have F_g:∀ i,i<nq->F (nm (g i))=bA h2 (nm (g i)):=λi hi=>by
   simp only[F,eO,(memW _).2 (.inl ⟨i,hi,rfl⟩),bD]
  have F_out:∀ n,n∉S++E_ m++NN->F n=h' n:=λn hn=>by simp only[F,eO,hn,dY]
  have from_:∀ n b,F n=af b->(∃ i bq yb,i<nq/\n=nm (g i)/\hq.get i=af bq/\kw hq bq=af yb/\b=yb.ren (Hf g))\/(h' n=af b/\Hv n=af b/\n∉S/\n∉NN/\φ' n=φ n):=λn b hb=>by
   by_cases hn:n∈S++E_ m++NN
   .rcases (memW n).1 hn with ⟨i,hi,rfl⟩|hs
    .rw[F_g i hi] at hb;obtain⟨bq,yb,U,Z,q3⟩:=er2' i hi b hb;exact .inl ⟨i,bq,yb,hi,rfl,U,Z,q3⟩
    .obtain⟨i,rfl,hi⟩:=nG.1 hs;have:F (nm i)=bA h2 (nm i):=by simp only[F,eO,hn,bD]
     rw[this,dead2 i hi] at hb;cases hb
   .rw[F_out n hn] at hb;have h1:n∉S++E_ m:=λhh=>hn (kY _ hh)
    have Y:n∉NN:=λhh=>hn (nk _ hh)
    exact .inr ⟨hb,by rw[Hv_out n h1];exact hb,λhh=>h1 (kY _ hh),Y,φ'_old n Y⟩
  have own':∀ k,own φ' F k->own φc' (bA hq) k\/∃ n b,Hv n=af b/\n∉S/\φ n=af k:=by
   rintro k ⟨n,b,h1,Y⟩;rcases from_ n b h1 with ⟨i,bq,yb,hi,rfl,U,Z,_⟩|⟨_,Z,q3,_,q5⟩
   .rw[φ'_g i hi] at Y;exact .inl ⟨nm i,yb,by rw[bJ,U];exact Z,Y⟩
   .exact .inr ⟨n,b,Z,q3,by rw[<- q5];exact Y⟩
  have mv:iY φ φ' h' F w w':=by
   refine ⟨hsub,hext.mono λk hk=>hd.own (T.own_ k hk),λk hk ho=>?_⟩;rcases own' k ho with h1|⟨n,b,h1,_,Y⟩
   .exact hd.own (T.own_ k (hown k hk h1))
   .exact hd.own ⟨n,b,h1,Y⟩
  have tot':∀ k,tot E φ' F k->tot E' φc' (bA hq) k:=by
   rintro k (h1|h1)
   .exact .inl (.inl h1)
   .rcases own' k h1 with Y|Y
    .exact .inr Y
    .exact .inl (.inr Y)
  let φr:PM:=λn=>if Vq nq n then φc' n else ah
  have rel_r:∀ x v,x.all (Vq nq)=ai->cL φc' (tot E' φc' (bA hq)) w' x v->cL φr (tot E φ' F) w' x v:=λx v hx hr=>
   hr.restrict (λi k hi hk=>by simp only[φr,hi,bD];exact hk) tot' hx
  have rel_g:∀ x v,cL φr (tot E φ' F) w' x v->cL φ' (tot E φ' F) w' (x.ren (Hf g)) v:=λx v hr=>
   hr.renTo λn k hk=>by
    simp only[φr] at hk;split at hk
    .rename_i hpn;obtain⟨i,hi,rfl⟩:=Y4 hpn;rw[xj,φ'_g i hi];exact hk
    .cases hk
  have hnqJ:=hnq;refine ⟨v,φ',rfl,mv,λn k hk=>?_,?_,?_⟩
  .by_cases hn:n∈NN
   .exact .inr hn
   .rw[φ'_old n hn] at hk;exact .inl hk
  .refine ⟨λn n' b b' k h1 Y h4 h5=>?_,λn b h1=>?_,λk hk=>dy (hrep.el k hk) mv.ext.size,λg' cells hg=>mv.keepF (hrep.gl g' cells hg)⟩
   .rcases from_ n b h1 with ⟨i,bq,yb,hi,rfl,U,Z,_⟩|⟨U,Z,q3,_,q5⟩
    .rw[φ'_g i hi] at h4;have hqi:bA hq (nm i)=af yb:=by rw[bJ,U];exact Z
     rcases from_ n' b' Y with ⟨j,bj,yj,hj,rfl,t1,t2,_⟩|⟨t1,t2,t3,_,t5⟩
     .rw[φ'_g j hj] at h5;have:=rp.inj _ _ _ _ k hqi (by rw[bJ,t1];exact t2) h4 h5;rw[kN this]
     .exfalso;obtain⟨k',p1,p2,_⟩:=rp.at_ _ _ hqi;rw[h4] at p1;cases p1;exact p2 (.inr ⟨n',b',t2,t3,by rw[<- t5];exact h5⟩)
    .rcases from_ n' b' Y with ⟨j,bj,yj,hj,rfl,t1,t2,_⟩|⟨t1,t2,t3,_,t5⟩
     .exfalso;rw[φ'_g j hj] at h5;have hqj:bA hq (nm j)=af yj:=by rw[bJ,t1];exact t2
      obtain⟨k',p1,p2,_⟩:=rp.at_ _ _ hqj;rw[h5] at p1;cases p1;exact p2 (.inr ⟨n,b,Z,q3,by rw[<- q5];exact h4⟩)
     .exact hrep.inj n n' b b' k U t1 (by rw[<- q5];exact h4) (by rw[<- t5];exact h5)
   .rcases from_ n b h1 with ⟨i,bq,yb,hi,rfl,U,Z,rfl⟩|⟨U,Z,q3,_,q5⟩
    .have hqi:bA hq (nm i)=af yb:=by rw[bJ,U];exact Z
     obtain⟨k,p1,p2,ob,p3,p4⟩:=rp.at_ _ _ hqi;have hall:=J.blk_all U Z;rw[hnq] at hall;exact⟨k,by rw[φ'_g i hi];exact p1,λhE=>p2 (.inl hE),ob,p3,(p4.restrict rel_r hall).renTo rel_g⟩
    .obtain⟨k,p1,p2,ob,p3,p4⟩:=hrep.at_ n b U;have hk:k<w.heap.size:=(cC.1 p3).1;refine ⟨k,hsub n k p1,p2,ob,?_,p4.mono λx v hr=>mv.keep hr⟩;rw[hext.blk k hk ?_]
     .exact p3
     .rintro⟨n',y',t1,t2⟩;obtain⟨i,hi,rfl,t3⟩:=wM t2;obtain⟨j,bb,e,t4,t5⟩:=jw t1;have:=kN e;subst this;have hi':i<np:=by rw[<- hnp];exact hi
      have hvi:Hv (nm (ic σ i))=af (y'.ren (Hf (ic σ))):=by
       rw[Hv_in _ (kY _ ((memS _).2 ⟨i,hi',rfl⟩)),bJ,hv_at i bb ((I.at_ i bb).1 t4)];exact CP rows_hp t5
      have:=hrepv.inj _ _ _ _ k hvi Z t3 p1;exact q3 (by rw[<- this];exact (memS _).2 ⟨i,hi',rfl⟩)
  .have hall:(DI lr).all (Vq nq)=ai:=YK (by have:=s7 rs lr J.lt hlr;rwa [hnq] at this);show cL φ' (tot E φ' F) w' (DI (AV.renL (Hf g) lr)) v;rw[YJ];exact rel_g _ _ (rel_r _ _ hall rv')
 have hrsg:cK h2 (ku g rs)=af (AV.renL (Hf g) lr):=qu rows_hq rs lr hlr;refine ⟨⟨_,hOpT,λz hz=>?_,?_,λn hn=>?_,λn hn=>?_,λn hn=>?_⟩,rows2,inv2,by omega,λhs=>by cases hs⟩
 .rw[Vm hrsg] at hz;cases hz;rfl
 .funext n;unfold eO;split
  .rfl
  .rename_i hn;refine (kJ hinv rows2 λi e=>?_).symm;subst e;rw[h2_ne i (λk hk e=>hn ((memW _).2 (.inl ⟨k,hk,by rw[e]⟩))),iX,aB];intro hb;exact hn ((memW _).2 (.inr (lz.2 hb)))
 .rw[bu];rcases bP.1 hn with hs|hs
  .obtain⟨i,hi,rfl⟩:=(memS n).1 hs;rw[dX,(sig _).2 ⟨i,hi,rfl⟩];rfl
  .obtain⟨i,rfl,hi⟩:=nG.1 hs;rw[dX,hi];simp
 .rw[bu,bu];rcases bP.1 hn with hs|hs
  .rcases bP.1 hs with hs|hs
   .obtain⟨i,hi,rfl⟩:=(memS n).1 hs;rw[dX,(sig _).2 ⟨i,hi,rfl⟩];rfl
   .obtain⟨i,rfl,hi⟩:=nG.1 hs;rw[dX,hi];simp
  .obtain⟨t,ht,rfl⟩:=(memN n).1 hs;rw[dX,ace.2 ⟨by omega,by omega⟩];simp
 .obtain⟨t,ht,rfl⟩:=(memN n).1 hn;rw[dX];omega
mutual
def FV.fl:FV->Bool
 |.raw _=>ai
 |.agg l=>FV.flL l
 |.sl _ _=>aj
 |.ptr _ _=>aj
def FV.flL:List FV->Bool
 |[]=>ai
 |x::r=>x.fl&&FV.flL r
end
theorem VW:∀ {l:List FV},FV.flL l=ai->∀ x∈l,x.fl=ai
 |[],_,x,I=>by cases I
 |y::l,h,x,I=>by
  simp only[FV.flL,av] at h;rcases bi.1 I with rfl|I
  .exact h.1
  .exact VW h.2 x I
theorem ZQ:∀ {l:List FV},(∀ x∈l,x.fl=ai)->FV.flL l=ai
 |[],_=>rfl
 |y::l,h=>by simp only[FV.flL,av];exact⟨h y (by simp),ZQ λx I=>h x (by simp[I])⟩
theorem m6.flat {O O':Nat->Prop} {w w':World} {x:FV} {v:Value} (h:m6 O w x v):x.fl=ai->m6 O' w' x v:=by
 induction h with
 |raw v=>intro _;exact .raw v
 |nil a c hc=>intro h;cases h
 |sl cells n c b off us hn hc hO hb hcl hu hr I=>intro h;cases h
 |ptr cells o b off us hO hb hcl hu hr I=>intro h;cases h
 |agg cells vs hl hcl hr I=>intro h;exact .agg cells vs hl hcl λj x v J hv=>I j x v J hv (VW h x (ba J))
mutual
def AV.fl:AV->Bool
 |.f x=>x.fl
 |.emp=>ai
 |.anyb=>ai
 |.agg l=>AV.flL l
 |.tup l=>AV.flL l
 |.ptr _ _=>aj
 |.sl _ _ _=>aj
 |.row _ _ _=>aj
 |.mp _=>aj
 |.clo _ _=>aj
def AV.flL:List AV->Bool
 |[]=>ai
 |x::r=>x.fl&&AV.flL r
end
theorem J3:∀ {l:List AV},AV.flL l=ai->∀ x∈l,x.fl=ai
 |[],_,x,I=>by cases I
 |y::l,h,x,I=>by
  simp only[AV.flL,av] at h;rcases bi.1 I with rfl|I
  .exact h.1
  .exact J3 h.2 x I
theorem Wn:∀ {l:List AV},(∀ x∈l,x.fl=ai)->AV.flL l=ai
 |[],_=>rfl
 |y::l,h=>by simp only[AV.flL,av];exact⟨h y (by simp),Wn λx I=>h x (by simp[I])⟩
theorem cL.flat {φ φ':PM} {O O':Nat->Prop} {w w':World} {x:AV} {v:Value} (h:cL φ O w x v):x.fl=ai->cL φ' O' w' x v:=by
 induction h with
 |f h=>intro hf;exact .f (h.flat hf)
 |ptr h=>intro hf;cases hf
 |sl h hn hc=>intro hf;cases hf
 |row h hn hc hsh=>intro hf;cases hf
 |emp=>intro _;exact .emp
 |anyb=>intro _;exact .anyb
 |mp h=>intro hf;cases hf
 |agg hl hcl hr J=>intro hf;exact .agg hl hcl λj x v I hv=>J j x v I hv (J3 hf x (ba I))
 |tup hl hr J=>intro hf;exact .tup hl λj x v I hv=>J j x v I hv (J3 hf x (ba I))
 |clo hl hr J=>intro hf;cases hf
mutual
theorem agn (γ:Nat->Nat):∀ x:AV,x.fl=ai->x.ren γ=x
 |.f x,_=>rfl
 |.emp,_=>rfl
 |.anyb,_=>rfl
 |.agg l,h=>by simp only[AV.ren];rw[Hh γ l h]
 |.tup l,h=>by simp only[AV.ren];rw[Hh γ l h]
 |.ptr _ _,h=>by cases h
 |.sl _ _ _,h=>by cases h
 |.row _ _ _,h=>by cases h
 |.mp _,h=>by cases h
 |.clo _ _,h=>by cases h
theorem Hh (γ:Nat->Nat):∀ l:List AV,AV.flL l=ai->AV.renL γ l=l
 |[],_=>rfl
 |x::r,h=>by
  simp only[AV.flL,av] at h;rw[AV.renL,agn γ x h.1,Hh γ r h.2]
end
theorem zU:∀ (T:Ty),T.flat=ai->∀ x:T.den,∀ y∈bS T x,y.fl=ai
 |.int _,_,x,y,I=>by simp only[bS,aL] at I;subst I;rfl
 |.bool,_,x,y,I=>by simp only[bS,aL] at I;subst I;rfl
 |.str,_,x,y,I=>by simp only[bS,aL] at I;subst I;rfl
 |.sl _,h,x,y,I=>by cases h
 |.st t,h,x,y,I=>zU t h x y I
 |.pr a b,h,x,y,I=>by
  simp only[Ty.flat,av] at h;simp only[bS,bP] at I;exact I.elim (zU a h.1 x.1 y) (zU b h.2 x.2 y)
 |.un,_,x,y,I=>by simp[bS] at I
 |.ex,h,_,_,_=>by cases h
 |.sm,h,_,_,_=>by cases h
theorem ad3 (T:Ty) (h:T.flat=ai) (x:T.den):(gE T x).fl=ai:=by
 cases I:T.one with
 |true=>
  have:=zU T h x (gE T x) (by rw[(CS T x I).1];simp);exact this
 |false=>rw[qw T x I];exact ZQ (zU T h x)
theorem O8 (a b:Ty):(spr a b).flat=(a.flat&&b.flat):=by
 cases a<;>cases b<;>simp[spr,F_,Ty.flat]
theorem H8 {n:Nat}:∀ {a b:List TV},rn n (a++b)=ai->rn n a=ai/\rn n b=ai
 |[],b,h=>⟨rfl,h⟩
 |x::r,b,h=>by
  simp only[gi,rn,av] at h ⊢;obtain⟨h1,h2⟩:=H8 h.2;exact⟨⟨h.1,h1⟩,h2⟩
mutual
theorem ac3 {g:Nat->Nat} {h:bh}:∀ (p:PV) (x:p.ty.den) (cs:List TV) (l:List AV),p.ty.flat=ai->pJ g p x=af cs->rn 0 cs=ai->cK h cs=af l->∀ y∈l,y.fl=ai
 |.d T,x,cs,l,hf,hp,_,hl,y,hy=>by
  have:=(lH h 40 T x cs hp).1;rw[hl] at this;cases this;obtain⟨q,hq,rfl⟩:=dk.1 hy;exact zU T hf x q hq
 |.ptr i q,x,cs,l,hf,hp,hlt,hl,y,hy=>by
  simp only[pJ,ak] at hp;subst hp;simp[rn,KF] at hlt
 |.csl i q z,x,cs,l,hf,hp,hlt,hl,y,hy=>by
  simp only[pJ,ak] at hp;subst hp;simp[rn,KF] at hlt
 |.clo q i z,x,cs,l,hf,hp,hlt,hl,y,hy=>by
  simp only[pJ,ak] at hp;subst hp;simp[rn,KF] at hlt
 |.row i,x,cs,l,hf,hp,hlt,hl,y,hy=>by
  simp only[pJ,ak] at hp;subst hp;simp[rn,KF] at hlt
 |.mp i,x,cs,l,hf,hp,hlt,hl,y,hy=>by
  simp only[pJ,ak] at hp;subst hp;simp[rn,KF] at hlt
 |.nil,x,cs,l,hf,hp,hlt,hl,y,hy=>by
  simp only[pJ,ak] at hp;subst hp;simp only[cK,co,ak] at hl;subst hl;simp only[aL] at hy;subst hy;rfl
 |.emp,x,cs,l,hf,hp,hlt,hl,y,hy=>by
  simp only[pJ,ak] at hp;subst hp;simp only[cK,co,ak] at hl;subst hl;simp only[aL] at hy;subst hy;rfl
 |.agg ps,x,cs,l,hf,hp,hlt,hl,y,hy=>HM ps x cs l hf hp hlt hl y hy
theorem HM {g:Nat->Nat} {h:bh}:∀ (ps:List PV) (x:(PV.tyL ps).den) (cs:List TV) (l:List AV),(PV.tyL ps).flat=ai->qM g ps x=af cs->rn 0 cs=ai->cK h cs=af l->∀ y∈l,y.fl=ai
 |[],x,cs,l,hf,hp,hlt,hl,y,hy=>by
  simp only[qM,ak] at hp;subst hp;simp only[cK,ak] at hl;subst hl;cases hy
 |p::ps,x,cs,l,hf,hp,hlt,hl,y,hy=>by
  simp only[PV.tyL] at hf;rw[O8,av] at hf;simp only[qM] at hp;split at hp
  .rename_i a ha;split at hp
   .rename_i b hb;simp only[ak] at hp;subst hp;obtain⟨a',b',rfl,e1,e2⟩:=BH hl;have hsp:=H8 hlt;rcases bP.1 hy with hy|hy
    .exact ac3 p _ a a' hf.1 ha hsp.1 e1 y hy
    .exact HM ps _ b b' hf.2 hb hsp.2 e2 y hy
   .cases hp
  .cases hp
end
theorem ac1 {g:Nat->Nat} {h:bh} {p:PV} {x:p.ty.den} {u:TV} {y:AV} (hf:p.ty.flat=ai) (hp:sX g p x=af u) (hlt:KF 0 u=ai) (I:co h u=af y):y.fl=ai:=by
 cases p with
 |d T=>
  simp only[sX,ak] at hp;subst hp;simp only[co,ak] at I;subst I;exact ad3 T hf x
 |agg ps=>
  simp only[sX] at hp;split at hp
  .rename_i l hl;simp only[ak] at hp;subst hp;simp only[co] at I;split at I
   .rename_i M J;simp only[ak] at I;subst I;exact Wn (HM ps _ l M hf hl hlt J)
   .cases I
  .cases hp
 |ptr i q=>simp only[sX,ak] at hp;subst hp;simp[KF] at hlt
 |csl i q z=>simp only[sX,ak] at hp;subst hp;simp[KF] at hlt
 |row i=>simp only[sX,ak] at hp;subst hp;simp[KF] at hlt
 |clo q i z=>simp only[sX,ak] at hp;subst hp;simp[KF,rn] at hlt
 |mp i=>simp only[sX,ak] at hp;subst hp;simp[KF] at hlt
 |nil=>simp only[sX,ak] at hp;subst hp;simp only[co,ak] at I;subst I;rfl
 |emp=>simp only[sX,ak] at hp;subst hp;simp only[co,ak] at I;subst I;rfl
theorem Pp {g:Nat->Nat} {h:bh}:∀ (ps:List PV) (x:(PV.tyL ps).den) (us:List TV) (l:List AV),(PV.tyL ps).flat=ai->pQ g ps x=af us->rn 0 us=ai->cK h us=af l->AV.flL l=ai
 |[],x,us,l,hf,hp,hlt,hl=>by
  simp only[pQ,ak] at hp;subst hp;simp only[cK,ak] at hl;subst hl;rfl
 |p::ps,x,us,l,hf,hp,hlt,hl=>by
  simp only[PV.tyL] at hf;rw[O8,av] at hf;simp only[pQ] at hp;split at hp
  .rename_i a I;split at hp
   .rename_i b hb;simp only[ak] at hp;subst hp;obtain⟨y,l2,rfl,e1,e2⟩:=cY hl;simp only[rn,av] at hlt;simp only[AV.flL,av];exact⟨ac1 hf.1 I hlt.1 e1,Pp ps _ b l2 hf.2 hb hlt.2 e2⟩
   .cases hp
  .cases hp
theorem abt:∀ {l:List AV},AV.flL l=ai->(DI l).fl=ai
 |[],_=>rfl
 |[x],h=>by simp only[AV.flL,av] at h;exact h.1
 |x::y::r,h=>h
theorem adh {P:Program} {o:Oper} {e:iN} {h:bh} {nx:Nat} {f:FuncId} {c:ct} {l:List TV} (hinv:l9 h nx) (sp:pH P f c) {x:c.pre.ty.den} {m:Nat} {σ:PT Nat} {sm:Nat} (M:Hn 0 c.pre l h x m σ sm) {vs:List TV} {hp:bh} {l1:List (Option ip)} (I:qE c.pre x vs hp l1) {y:c.post.ty.den} (hm:c.m x=af y) {rs:List TV} {hq:bh} {l2:List (Option ip)} (J:qE c.post y rs hq l2) (hp0:c.pre.bs.length=0) (hq0:c.post.bs.length=0) (hfl:(PV.tyL c.post.vs).flat=ai)
 (g:Nat->Nat) {la:List AV} (hla:cK h l=af la)
 (hexec:∀ (φ:PM) (E:Nat->Prop) (h':HF) (w:World) (a:Act),(∀ t,.tmp t∈o.op.operands->∀ y,fM e h t=af y->cL φ (tot E φ h') w y (a.tmps.getD t undef))->qP φ E h' w->∃ us:List Value,(execOp a.eval o).run P w= .ok (.enter f us.toArray) w/\jW φ (tot E φ h') w la us):
 jf P o aj e h nx (Pj (ku g rs)) m 0 h nx:=by
 obtain⟨x1,m1,x2,m2,hx,hmm,gv,gb⟩:=M.ex;have hmr:dQ h m:=by rw[hmm];exact (Hc _ _ _ _ gv).or (He _ _ _ _ gb)
 have pvg:pQ (ic σ) c.pre.vs x1=af (ku (ic σ) vs):=by
  have U:=tw (ic σ) c.pre.vs x1;have h4:=I.pv;rw[hx,s_] at h4;rw[U,h4];rfl
 obtain⟨lr,hlr⟩:=fh hq rs J.ok;obtain⟨lp,hlp⟩:=fh hp vs I.ok;have hfl':AV.flL lr=ai:=Pp c.post.vs _ rs lr hfl J.pv (by rw[<- hq0];exact J.lt) hlr;have hpe:∀ i,hp.get i=ah:=λi=>by
  cases hb:hp.get i with
  |none=>rfl
  |some b=>have:=I.lt_len hb;omega
 have hqe:∀ i,hq.get i=ah:=λi=>by
  cases hb:hq.get i with
  |none=>rfl
  |some b=>have:=J.lt_len hb;omega
 have rows_hp:∀ i r,em hp i=af r->em (eo m h) (ic σ i)=af r:=λi r hr=>by rw[bU,hpe] at hr;cases hr
 have rows_hq:∀ i r,em hq i=af r->em h (g i)=af r:=λi r hr=>by rw[bU,hqe] at hr;cases hr
 have rows_in:xy (eo m h) h:=λj r hr=>by
  rw[bU] at hr ⊢;rw[iX] at hr;split at hr
  .rename_i ht;obtain⟨ty,p,T,xs,hb⟩:=hmr j ht;rw[hb] at hr ⊢;exact hr
  .exact hr
 have hOpT:gK P o (fM e h) (bA h) ⟨DI lr,E_ m,[],λ_=>ah,[]⟩:=by
  intro φ E h' w a hrd hwr hops hrep hN;obtain⟨us,hrun,hrel⟩:=hexec φ E h' w a hops hrep
  let Hv:HF:=λn=>if n∈E_ m then ah else h' n
  have Hv_in:∀ n,n∈E_ m->Hv n=ah:=λn hn=>by simp only[Hv,hn,bD]
  have Hv_out:∀ n,n∉E_ m->Hv n=h' n:=λn hn=>by simp only[Hv,hn,dY]
  have hd:vb h' Hv:=λn b hb=>by
   by_cases hn:n∈E_ m
   .rw[Hv_in n hn] at hb;cases hb
   .rw[Hv_out n hn] at hb;exact⟨b,hb⟩
  have gvv:DG h h' Hv m:=λi hi=>⟨hrd _ (lz.2 hi),Hv_in _ (lz.2 hi)⟩
  have V:J7 h' Hv:=⟨hd,λn b b' hb Y=>by
   by_cases hn:n∈E_ m
   .rw[Hv_in n hn] at Y;cases Y
   .rw[Hv_out n hn,hb] at Y;cases Y;exact jX.refl hd b⟩
  have hrepv:=V.rep hrep;have hlpg:cK (eo m h) (ku (ic σ) vs)=af (AV.renL (Hf (ic σ)) lp):=qu rows_hp vs lp hlp;have hrel1:jW φ (tot E φ Hv) w (AV.renL (Hf (ic σ)) lp) us:=
   jW.le hrep (CJ hd rows_in c.pre.vs l x1 m1 _ la _ gv pvg hla hlpg (λi hi=>gvv i (by rw[hmm,bu,hi];rfl))) hrel
  let E':Nat->Prop:=λk=>E k\/∃ n b,Hv n=af b/\φ n=af k
  have T:adx c.pre x vs hp (ic σ) φ E E' Hv w:=by
   refine qP.toId I (λa b ha=>by omega) hrepv (λi b yb hb=>by rw[hpe] at hb;cases hb) ?_ (λi k b hi=>by omega) ?_
   .rintro k (hE|⟨n,b,h1,U⟩)
    .exact .inl hE
    .exact .inr ⟨n,b,h1,U⟩
   .rintro k (hE|⟨n,b,h1,U⟩)
    .exact hrepv.el k hE
    .obtain⟨k',Z,_,ob,q3,_⟩:=hrepv.at_ n b h1;rw[U] at Z;cases Z;exact (cC.1 q3).1
  have hcalls:=sp.calls x y hm vs hp l1 rs hq l2 lp lr I J hlp hlr (φ1 c.pre.bs.length (ic σ) φ) E' w us T.rep (jW.toId T.val (s7 vs lp I.lt hlp) hrel1) (λn k hk=>by
   obtain⟨i,hi,rfl,_⟩:=wM hk;rw[dX];exact hi)
  unfold GW;rw[hrun];refine Calls.mono hcalls ?_;rintro en w' ⟨v,φc',rfl,hext,hown,hnm,rp,rv'⟩;have hno:∀ k,¬own (φ1 c.pre.bs.length (ic σ) φ) (bA hp) k:=by
   rintro k ⟨n,b,h1,_⟩;obtain⟨i,bb,_,U,_⟩:=jw h1;rw[hpe] at U;cases U
  have mv:iY φ φ h' h' w w':=⟨λ_ _ h=>h,hext.mono λk hk=>cZ hk (hno k),λ_ _ h=>h⟩
  refine ⟨v,φ,rfl,?_,λ_ _ h=>.inl h,?_,?_⟩
  .rw[tJ];exact mv
  .rw[tJ];refine hrep.moved mv λk hk=>?_
   obtain⟨n,b,h1,U⟩:=hk;obtain⟨k',Z,_,ob,q3,_⟩:=hrep.at_ n b h1;rw[U] at Z;cases Z;exact hext.blk k (cC.1 q3).1 (hno k)
  .exact rv'.flat (abt hfl')
 have hrsg:cK h (ku g rs)=af (AV.renL (Hf g) lr):=qu rows_hq rs lr hlr;refine ⟨⟨_,hOpT,λz hz=>?_,?_,λn hn=>?_,by simp,by simp⟩,λ_ _ h=>h,hinv,bT _,λhs=>by cases hs⟩
 .rw[Vm hrsg,Hh _ lr hfl'] at hz;cases hz;rfl
 .exact tJ _ _
 .obtain⟨i,rfl,hi⟩:=nG.1 hn;rw[dX];exact hi
def ct.full (c:ct):ct:=⟨c.pre,⟨c.post.vs,c.pre.bs⟩,λx=>obind (c.m x) λy=>af (Tb (PV.tyL c.post.vs) (PB.tyL c.pre.bs) (NR _ _ y) (Kv _ _ x))⟩
def aI (P:Program) (f:FuncId) (c:ct):Prop:=if eC c.pre.bs.length c.post.bs.length=ai then pH P f c else pH P f c.full
theorem pH.toC {P:Program} {f:FuncId} {c:ct} (h:pH P f c) (hb:eC c.pre.bs.length c.post.bs.length=ai):aI P f c:=by
 unfold aI;rw[aE hb];exact h
theorem aI.holds {P:Program} {f:FuncId} {c:ct} (h:aI P f c) (hb:eC c.pre.bs.length c.post.bs.length=ai):pH P f c:=by
 unfold aI at h;rw[aE hb] at h;exact h
theorem ach (a b:Ty) (z:(spr a b).den):Tb a b (NR a b z) (Kv a b z)=z:=by cases a<;>cases b<;>rfl
open Classical in
def roM {pre:Tm} {vs:List PV} (m:pre.ty.den->Option (Tm.ty ⟨vs,pre.bs⟩).den) (x:pre.ty.den):Option (Tm.ty ⟨vs,[]⟩).den:=
 obind (m x) λy=>if Kv (PV.tyL vs) (PB.tyL pre.bs) y=Kv _ _ x then af (Tb (PV.tyL vs) (PB.tyL []) (NR (PV.tyL vs) (PB.tyL pre.bs) y) ()) else ah
theorem aI.ro {P:Program} {f:FuncId} {pre:Tm} {vs:List PV} {m:pre.ty.den->Option (Tm.ty ⟨vs,pre.bs⟩).den} {m':pre.ty.den->Option (Tm.ty ⟨vs,[]⟩).den} (h:pH P f ⟨pre,⟨vs,pre.bs⟩,m⟩) (hb:eC pre.bs.length 0=aj) (hs:∀ x y,m' x=af y->roM m x=af y):aI P f ⟨pre,⟨vs,[]⟩,m'⟩:=by
 unfold aI;rw[aB (by show ¬eC pre.bs.length 0=ai;rw[hb];exact Bool.false_ne_true)];refine ⟨h.callable,λx y hxy=>?_⟩;refine h.calls x y ?_;have hxy:obind (m' x) (λy=>af (Tb (PV.tyL vs) (PB.tyL pre.bs) (NR (PV.tyL vs) (PB.tyL []) y) (Kv _ _ x)))=af y:=hxy;obtain⟨z,M,hzy⟩:=dG hxy;have h1:=hs x z M;unfold roM at h1;obtain⟨y0,J,h2⟩:=dG h1;split at h2
 .rename_i heq;have h2:=jQ h2;have hzy:=jQ hzy;subst h2;have I:Tb (PV.tyL vs) (PB.tyL pre.bs) (NR (PV.tyL vs) (PB.tyL pre.bs) y0) (Kv (PV.tyL pre.vs) (PB.tyL pre.bs) x)=y:=(gG (λq=>Tb (PV.tyL vs) (PB.tyL pre.bs) q (Kv (PV.tyL pre.vs) (PB.tyL pre.bs) x)) (s_ (PV.tyL vs) (PB.tyL []) _ ()).symm).trans hzy;rw[<- heq] at I;have:=(ach (PV.tyL vs) (PB.tyL pre.bs) y0).symm.trans I;exact J.trans (gG af this)
 .cases h2
theorem jf.drop {P:Program} {o:Oper} {e:iN} {h h':bh} {nx nx':Nat} {v:TV} {rd wr W wr':Nat} (t:jf P o aj e h nx v rd wr h' nx') (hW:∀ i,aM W i=ai->bA h' (nm i)=bA h (nm i)/\aM rd i=ai) (M:∀ i,aM wr i=ai->aM W i=ai\/aM wr' i=ai):jf P o aj e h nx v rd wr' h' nx':=by
 obtain⟨⟨f,h1,h2,J,h4,h5,Z⟩,r,i,g,st⟩:=t;have hs:∀ n,aM W (ow n)=ai->bA h' n=bA h n:=λn hn=>by
  by_cases I:∃ i,n=nm i
  .obtain⟨i,rfl⟩:=I;rw[dX] at hn;exact (hW i hn).1
  .rw[wh h I,wh h' I]
 have hup:∀ H:HF,(∀ n∈f.wr,H n=bA h n)->eO H (f.wr.filter λn=> !(aM W (ow n))) f.nw=eO H f.wr f.nw:=λH Y=>by
  funext n;unfold eO;by_cases hn:n∈f.wr
  .by_cases hb:aM W (ow n)=ai
   .rw[aB (by simp[hb]),aE hn];have:=congrFun J n;unfold eO at this;rw[aE hn,hs n hb] at this;rw[this,Y n hn]
   .rw[aE (by simp[hn,hb]),aE hn]
  .rw[aB (by simp[hn]),aB hn]
 refine ⟨⟨⟨f.val,f.rd++(f.wr.filter λn=>aM W (ow n)),f.wr.filter λn=> !(aM W (ow n)),f.nw,f.N⟩,?_,h2,?_,λn hn=>?_,λn hn=>?_,Z⟩,r,i,g,λhs=>by cases hs⟩
 .intro φ E H w a hrd hwr hops hrep U;have k1:∀ i∈f.rd,H i=bA h i:=λi hi=>hrd i (kY _ hi)
  have k2:∀ i∈f.wr,H i=bA h i:=λi hi=>by
   cases hb:aM W (ow i) with
   |true=>exact hrd i (nk _ (by simp[hi,hb]))
   |false=>exact hwr i (by simp[hi,hb])
  have:=h1 φ E H w a k1 k2 hops hrep U;simp only[hup H k2];exact this
 .simp only[hup (bA h) (λ_ _=>rfl)];exact J
 .rcases bP.1 hn with hn|hn
  .exact h4 n hn
  .simp only[EZ] at hn;exact (hW _ hn.2).2
 .simp only[EZ,dN] at hn;rcases M _ (h5 n hn.1) with hh|hh
  .rw[hn.2] at hh;cases hh
  .exact hh
mutual
theorem Zj {n n':Nat} (hle:n<=n'):∀ (v:TV),KF n v=ai->KF n' v=ai
 |.row id,h=>by simp only[KF,Nat.blt_eq] at h ⊢;omega
 |.rtl id _,h=>by simp only[KF,Nat.blt_eq] at h ⊢;omega
 |.pel id _ _ _,h=>by simp only[KF,Nat.blt_eq] at h ⊢;omega
 |.ptr id _,h=>by simp only[KF,Nat.blt_eq] at h ⊢;omega
 |.csl id _ _,h=>by simp only[KF,Nat.blt_eq] at h ⊢;omega
 |.mp id,h=>by simp only[KF,Nat.blt_eq] at h ⊢;omega
 |.agg l,h=>vW hle l h
 |.tup l,h=>vW hle l h
 |.clo _ l,h=>vW hle l h
 |.f _ _,_=>rfl
 |.fel _ _ _ _ _,_=>rfl
 |.emp,_=>rfl
 |.nil,_=>rfl
 |.undef,_=>rfl
 |.np,_=>rfl
 |.anyb,_=>rfl
theorem vW {n n':Nat} (hle:n<=n'):∀ (l:List TV),rn n l=ai->rn n' l=ai
 |[],_=>rfl
 |x::r,h=>by
  simp only[rn,av] at h ⊢;exact⟨Zj hle x h.1,vW hle r h.2⟩
end
theorem Me {g g':Nat->Nat} {h:bh}:∀ (bs:List PB) (i:Nat) (x:(PB.tyL bs).den) (m:Nat),Hm bs=ai->Ar g h i bs=af (x,m)->∃ l,oo g' bs x=af l/\l.length=bs.length/\∀ j,j<bs.length->∃ ty p T xs,l[j]? =af (af (.rows ty p T xs))/\h.get (g (i+j))=af (.rows ty p T xs)
 |[],i,x,m,_,hg=>⟨[],rfl,rfl,λj hj=>by simp at hj⟩
 |.rows ty p T::r,i,x,m,I,hg=>by
  simp only[Ar] at hg;split at hg
  .rename_i M m1 h1;split at hg
   .rename_i J m2 h2;simp only[ak,aD] at hg;obtain⟨rfl,rfl⟩:=hg;obtain⟨l,q1,Z,q3⟩:=Me (g:=g) (g':=g') (h:=h) r (i+1) J m2 I h2;simp only[Ej] at h1;split at h1
    .rename_i ty' p' S xs hb;split at h1
     .rename_i hc;simp only[av,cV] at hc;obtain⟨rfl,rfl⟩:=hc;split at h1
      .rename_i z hz;simp only[ak] at h1;obtain⟨rfl,_⟩:=h1;obtain⟨es,ez⟩:=je hz;cases es;subst ez;refine ⟨af (.rows ty p T M)::l,?_,by simp[Z],λj hj=>?_⟩
       .simp only[oo];rw[s_,uJ,q1];rfl
       .cases j with
        |zero=>exact⟨ty,p,T,_,rfl,hb⟩
        |succ j=>
         obtain⟨a,b,c,d,Y,U⟩:=q3 j (by simpa using hj);exact⟨a,b,c,d,by simpa using Y,by rw[show i+(j+1)=i+1+j from by omega];exact U⟩
      .cases h1
     .cases h1
    .cases h1
   .cases hg
  .cases hg
 |.rowsP _ _::r,i,x,m,I,hg=>by cases I
 |.cells _ _::r,i,x,m,I,hg=>by cases I
 |.mp _ _::r,i,x,m,I,hg=>by cases I
 |.gone::r,i,x,m,I,hg=>by cases I
theorem E9:∀ {bs:List PB},Hm bs=ai->Bm bs=ai
 |[],_=>rfl
 |.rows _ _ _::r,h=>E9 (bs:=r) h
 |.rowsP _ _::r,h=>by cases h
 |.cells _ _::r,h=>by cases h
 |.mp _ _::r,h=>by cases h
 |.gone::r,h=>by cases h
theorem E4 {h h2:bh} {g:Nat->Nat}:∀ (n:Nat),(∀ i,i<n->h2.get (g i)=h.get (g i))->tK h h2 g n=ai
 |0,_=>rfl
 |n+1,hs=>by
  simp only[tK,av];refine ⟨?_,E4 n λi hi=>hs i (by omega)⟩;have:em h2 (g n)=em h (g n):=by rw[bU,bU,hs n (by omega)]
  rw[this];cases em h (g n) with
  |none=>rfl
  |some q=>obtain⟨p,s,k⟩:=q;simp
def Kk (P:Program) (con:FuncId->Option ct):Prop:=∀ f c,con f=af c->aI P f c
theorem We {R:Type} {P:Program} {con:FuncId->Option ct} (hcon:Kk P con) {o:Oper} {e:iN} {h:bh} {nx:Nat} {f:FuncId} {l:List TV} {K:KO R} {r:R} (hinv:l9 h nx) (hk:Wf con f l h nx K=af r) {la:List AV} (hla:cK h l=af la)
 (hexec:∀ (φ:PM) (E:Nat->Prop) (h':HF) (w:World) (a:Act),DA P f->(∀ t,.tmp t∈o.op.operands->∀ y,fM e h t=af y->cL φ (tot E φ h') w y (a.tmps.getD t undef))->qP φ E h' w->∃ us:List Value,(execOp a.eval o).run P w= .ok (.enter f us.toArray) w/\jW φ (tot E φ h') w la us):kL P o aj e h nx K r:=by
 unfold Wf at hk;split at hk
 .rename_i c hc;have spc:=hcon f c hc;split at hk
  .rename_i x m σ sm hM;split at hk
   .rename_i q hq;obtain⟨vs,hp⟩:=q;obtain⟨l1,I⟩:=vY hq;obtain⟨y,hy,hk⟩:=dG hk;split at hk
    .rename_i q2 hq2;obtain⟨rs1,Z⟩:=q2;obtain⟨l2,J⟩:=vY hq2;split at hk
     .rename_i hcond;simp only[av] at hcond;have hle:=a_ hcond.1;have sp:=spc.holds hcond.1;simp only at hk;split at hk
      .rename_i rs hrs;have hrs':=hrs;rw[tw,J.pv] at hrs';simp only[ca,ak] at hrs';split at hk
       .rename_i hb;simp only[av] at hb;have hq0:=aw hb.1.2;refine ⟨_,_,_,_,_,hk,?_⟩;rw[<- hrs'];exact adh hinv sp (vT hM) I hy J (by omega) hq0 hb.2 _ hla λφ E h' w a=>hexec φ E h' w a sp.callable
       .split at hk
        .rename_i h2 U;obtain⟨hsr,hk⟩:=dU hk;refine ⟨_,_,_,_,_,hk,?_⟩;rw[<- hrs'];unfold LX at U;rw[vJ,J.pb] at U;simp only[ca,ak] at U;exact Z_ hinv sp (vT hM) I hcond.2 hy J hle (λi hi=>by
          have:gf i c.pre.bs.length=ai:=bC hi;simp only[this,bD]) (λi hi=>by
          have:gf i c.pre.bs.length=aj:=by
           cases hb:gf i c.pre.bs.length with
           |false=>rfl
           |true=>have:=a_ hb;omega
          simp only[this];rfl) U.symm hsr hla λφ E h' w a=>hexec φ E h' w a sp.callable
        .cases hk
      .cases hk
     .rename_i hcond;split at hk
      .rename_i hro;simp only[av] at hro;have hq0:=aw hro.1;have hng:=E9 hro.2;have sp:pH P f c.full:=by
        unfold aI at spc
        rwa [aB (λhb=>hcond (by rw[hb,hng];rfl))] at spc
       simp only at hk;split at hk
       .rename_i rs hrs;split at hk
        .rename_i h2 U;have hrs':=hrs;rw[tw,J.pv] at hrs';simp only[ca,ak] at hrs';refine ⟨_,_,_,_,_,hk,?_⟩;rw[<- hrs'];have M:=vT hM;unfold LX at U;rw[vJ,I.pb] at U;simp only[ca,ak] at U;have hqe:∀ i,Z.get i=ah:=λi=>by
          cases hb:Z.get i with
          |none=>rfl
          |some b=>have:=J.lt_len hb;omega
         have J':qE c.full.post (Tb (PV.tyL c.post.vs) (PB.tyL c.pre.bs) (NR _ _ y) (Kv _ _ x)) rs1 hp l1:=
          ⟨by show pQ Ha c.post.vs (NR (PV.tyL c.post.vs) (PB.tyL c.pre.bs) _)=_;rw[s_];exact J.pv,by show oo Ha c.pre.bs (Kv (PV.tyL c.post.vs) (PB.tyL c.pre.bs) _)=_;rw[uJ];exact I.pb,I.len,I.at_,iU (λi r hr=>by rw[bU,hqe] at hr;cases hr) _ J.ok,vW (by omega) _ J.lt,I.cells⟩
         obtain⟨x1,m1,x2,m2,hx,hmm,gv,gb⟩:=M.ex;obtain⟨l,q1,q2,q3⟩:=Me (g':=Ha) c.pre.bs 0 x2 m2 hro.2 gb;have hl1:l1=l:=by
          have:=I.pb;rw[hx,uJ,q1] at this;cases this;rfl
         subst hl1;have hgi:∀ i,i<c.pre.bs.length->(if gf i c.pre.bs.length then ic σ i else nx+(i-c.pre.bs.length))=ic σ i:=λi hi=>by
          have:gf i c.pre.bs.length=ai:=bC hi;simp only[this,bD]
         have hsame:∀ i,i<c.pre.bs.length->h2.get (ic σ i)=h.get (ic σ i):=λi hi=>by
          obtain⟨ty,p,T,xs,w1,Y⟩:=q3 i hi;rw[bN] at Y;have:=uO (λi=>if gf i c.pre.bs.length then ic σ i else nx+(i-c.pre.bs.length)) (l1.map (lK (lO (λi=>if gf i c.pre.bs.length then ic σ i else nx+(i-c.pre.bs.length))))) 0 (eo m h) (λa b ha hb e=>by
           simp only[cf,q2] at ha hb;rw[bN,bN,hgi a ha,hgi b hb] at e;exact M.inj a b ha hb e) i (af (.rows ty p T xs)) (by rw[bc,w1];rfl)
          rw[bN,hgi i hi] at this;rw[<- U,this,Y]
         have t:=Z_ (o:=o) (e:=e) hinv sp M I hng (y:=Tb (PV.tyL c.post.vs) (PB.tyL c.pre.bs) (NR _ _ y) (Kv _ _ x)) (by show obind (c.m x) _=_;rw[hy];rfl) J' (bT _) (g:=λi=>if gf i c.pre.bs.length then ic σ i else nx+(i-c.pre.bs.length)) hgi (λi hi=>by
          have:gf i c.pre.bs.length=aj:=by
           cases hb:gf i c.pre.bs.length with
           |false=>rfl
           |true=>have:=a_ hb;have hi:c.pre.bs.length<=i:=hi;omega
          simp only[this];rfl) U.symm (E4 _ λi hi=>by rw[hgi i hi];exact hsame i hi) hla λφ E h' w a=>hexec φ E h' w a sp.callable
         have t':jf P o aj e h nx (Pj (ku (λi=>if gf i c.pre.bs.length then ic σ i else nx+(i-c.pre.bs.length)) rs1)) (sm|||m) (sm|||m|||(((1<<<(c.pre.bs.length-c.pre.bs.length))-1)<<<nx)) h2 (nx+(c.pre.bs.length-c.pre.bs.length)):=t;rw[GY,c8] at t';refine t'.drop (W:=sm) (λi hi=>?_) (λi hi=>?_)
         .refine ⟨?_,by rw[bu,hi];rfl⟩;obtain⟨k,hk,rfl⟩:=(M.sig i).1 hi;obtain⟨ty,p,T,xs,_,Y⟩:=q3 k hk;rw[bN] at Y;rw[bJ,bJ,hsame k hk,Y];rfl
         .simp only[Nat.shiftLeft_zero,GY,Nat.zero_shiftLeft,Nat.or_zero,bu,iS] at hi;exact hi
        .cases hk
       .cases hk
      .cases hk
    .cases hk
   .cases hk
  .cases hk
 .cases hk
theorem ag3 {R:Type} {P:Program} {con:FuncId->Option ct} (hcon:Kk P con) {b9:TypeId->Option Ty} {o:Oper} {e:iN} {h:bh} {nx:Nat} {i:SI} {K:KO R} {r:R} (hinv:l9 h nx) (hi:tm e h) (hc:xX P o.op=i) (hk:dS con b9 i e h nx K=af r):kL P o i.still e h nx K r:=by
 have callOps:∀ (c:Call),o.op= .call c->∀ x,x∈c.operands->x∈o.op.operands:=λc I x J=>by rw[I];exact J
 cases i with
 |call f args=>
  simp only[dS] at hk;split at hk
  .rename_i l hl;have I:∃ c:Call,o.op= .call c/\c.callee= .value (.func f)/\c.args.toList=args:=by
    unfold xX at hc;split at hc
    .rename_i i hi;subst hc;unfold Ou at hi;split at hi
     .rename_i c I;split at hi
      .rename_i g hg;simp only[ak,SI.call.injEq] at hi;exact⟨c,I,by rw[hg,hi.1],hi.2⟩
      .simp at hi
      .cases hi
     .cases hi
    .split at hc<;>cases hc
   obtain⟨c,I,h1,h2⟩:=I;obtain⟨la,Z,Y⟩:=yq hi hl;refine We hcon hinv hk Y λφ E h' w a hcb hops hrep=>?_
   have hp:U4 φ E h' w a (IR e h) o:=λx y J U=>tf hrep (by rw[uU];exact hops) J U
   refine ⟨args.map a.eval,?_,NZ hp args la (λx J=>callOps c I x (by simp[eM,h1,<-h2] at J ⊢;exact .inr J)) Z⟩;unfold execOp;rw[I];have hm:c.args.map a.eval=(args.map a.eval).toArray:=by rw[<- h2];apply Ko;simp
   simp[resolve,h1,Act.eval,Deferred.ofValue,invoke,hm,wP hcb]
  .cases hk
 |callv x args=>
  simp only[dS] at hk;split at hk
  .rename_i f cap l J hl;have I:∃ c:Call,o.op= .call c/\c.callee= .value x/\c.args.toList=args:=by
    unfold xX at hc;split at hc
    .rename_i i hi;subst hc;unfold Ou at hi;split at hi
     .rename_i c I;split at hi
      .simp at hi
      .rename_i g hg;simp only[ak,SI.callv.injEq] at hi;exact⟨c,I,by rw[hg,hi.1],hi.2⟩
      .cases hi
     .cases hi
    .split at hc<;>cases hc
   obtain⟨c,I,h1,h2⟩:=I;obtain⟨la,Z,Y⟩:=yq hi hl;obtain⟨yx,g3,M⟩:=bM hi J;simp only[co] at M;split at M
   .rename_i lc hlc;simp only[ak] at M;subst M;refine We hcon hinv hk (mX Y hlc) λφ E h' w a hcb hops hrep=>?_
    have hp:U4 φ E h' w a (IR e h) o:=λx y J U=>tf hrep (by rw[uU];exact hops) J U
    have hxv:=hp x _ (callOps c I x (by simp[eM,h1])) g3;have hlv:=NZ hp args la (λx J=>callOps c I x (by simp[eM,h1,<-h2] at J ⊢;exact .inr J)) Z;generalize hz:a.eval x=z at hxv;cases hxv with
    |@clo _ _ vs hvl hvr=>
     refine ⟨args.map a.eval++vs,?_,hlv.append (jW.of hvl hvr)⟩;unfold execOp;rw[I];have hm:c.args.map a.eval=(args.map a.eval).toArray:=by rw[<- h2];apply Ko;simp
     simp[resolve,h1,hz,Deferred.ofValue,invoke,hm,wP hcb]
   .cases M
  .cases hk
 |op s=>
  have hc:s= .bad\/di P o.op=af s:=by
   unfold xX at hc;split at hc
   .rename_i i hi;subst hc;unfold Ou at hi;split at hi
    .split at hi<;>simp at hi
    .cases hi
   .split at hc
    .rename_i q hq;simp only[SI.op.injEq] at hc;subst hc;exact .inr hq
    .simp only[SI.op.injEq] at hc;exact .inl hc.symm
  rcases hc with rfl|hc
  .simp[dS] at hk
  .exact K_op hinv hi hc hk
def gm (am:Nat) (e e':iN):Prop:=∀ k,aM am k=aj->∀ I,e'.get k=af I->∃ v,e.get k=af v/\(t7 v=ai->I=v)
theorem gm.refl (am:Nat) (e:iN):gm am e e:=λ_ _ I h=>⟨I,h,λ_=>rfl⟩
theorem gm.trans {am:Nat} {a b c:iN} (h1:gm am a b) (h2:gm am b c):gm am a c:=λk hk J hv=>by
 obtain⟨I,Z,Y⟩:=h2 k hk J hv;obtain⟨v,U,M⟩:=h1 k hk I Z;refine ⟨v,U,λhf=>?_⟩;have:=M hf;subst this;exact Y hf
theorem gm.mono {am am':Nat} {a b:iN} (h:gm am a b) (hm:∀ k,aM am k=ai->aM am' k=ai):gm am' a b:=λk hk=>h k (by
 cases I:aM am k with
 |false=>rfl
 |true=>rw[hm k I] at hk;cases hk)
structure aaj (P:Program) (ops:Array Oper) (rest:List Oper) (sl:List su) (am:Nat) (s s':TS) (fs:List FPm) (l:List (Oper×AY)):Prop where
 ops_:l.map (·.1)=rest
 chain:zB P ops l (fM s.e s.h) (bA s.h) (fM s'.e s'.h) (bA s'.h)
 fsl:fs.length=l.length
 sll:sl.length=l.length
 fp:∀ (j:Nat) o f q,l[j]? =af (o,f)->fs[j]? =af q->(∀ n∈f.rd,aM q.rd (ow n)=ai)/\∀ n∈f.wr,aM q.wr (ow n)=ai
 still:∀ (j:Nat) o f so,l[j]? =af (o,f)->sl[j]? =af so->so.op.still=ai->f.rd=[]/\f.wr=[]
 names:∀ (j:Nat) o f,l[j]? =af (o,f)->∀ n∈f.N,s.nx<=ow n/\ow n<s'.nx
 apart_:∀ (i j:Nat) oi fi oj fj,i<j->l[i]? =af (oi,fi)->l[j]? =af (oj,fj)->∀ n∈fi.N,n∉fj.N
 grows:s.nx<=s'.nx
 invH:l9 s'.h s'.nx
 invE:tm s'.e s'.h
 keeps:gm am s.e s'.e
theorem ac2 {e:iN} {h h':bh} (hi:tm e h) (hr:cj h h') (d:Option Nat) {v:TV} {y:AV} (hv:co h' v=af y):Cg (fM e h) d y=fM (DO e d v) h':=by
 funext t;have old:(e.get t).bind (co h)=(e.get t).bind (co h'):=by
  cases ht:e.get t with
  |none=>rfl
  |some x=>
   obtain⟨z,I⟩:=pU h x (hi t x ht);simp only[aH,I,gz hr x z I]
 cases d with
 |none=>simp only[Cg,DO,fM];rw[aB (by simp)];exact old
 |some d=>
  simp only[Cg,DO,fM,PT.get_set,ak];by_cases hd:d=t
  .subst hd;simp[hv]
  .rw[aB hd,aB (λe=>hd e.symm)];exact old
theorem tm.put {e:iN} {h h':bh} (hi:tm e h) (hr:cj h h') (d:Option Nat) {v:TV} (hv:KC h' v=ai):tm (DO e d v) h':=λt x I=>by
 cases d with
 |none=>exact oq hr x (hi t x I)
 |some d=>
  simp only[DO,PT.get_set] at I;split at I
  .cases I;exact hv
  .exact oq hr x (hi t x I)
theorem Qx {e:iN} {h:bh} {t:Nat} {v:TV} (ht:e.get t=af v):fM (e.set t (af v)) h=fM e h:=by
 funext k;simp only[fM,PT.get_set];by_cases hk:k=t
 .subst hk;simp[ht]
 .rw[aB hk]
theorem tm.set {e:iN} {h:bh} {t:Nat} {v:TV} (hi:tm e h) (ht:e.get t=af v):tm (e.set t (af v)) h:=λk x I=>by
 rw[PT.get_set] at I;split at I
 .rename_i hk;subst hk;cases I;exact hi _ _ ht
 .exact hi k x I
theorem Sr {R:Type} {e:iN} {g:Option (Nat×Bool)} {K:Bool->iN->Option R} {r:R} (h:YE e g K=af r):
 (g=ah/\K ai e=af r)\/(∃ t want b,g=af (t,want)/\e.get t=af (.f .bool b)/\K (b==want) (e.set t (af (.f .bool b)))=af r)\/∃ t want,g=af (t,want)/\e.get t=af .undef/\K aj e=af r:=by
 unfold YE at h;split at h
 .exact .inl ⟨rfl,h⟩
 .rename_i t want;split at h
  .rename_i b hb;refine .inr (.inl ⟨t,want,b,rfl,hb,?_⟩);cases want with
   |true=>rcases pn h with ⟨rfl,h⟩|⟨rfl,h⟩<;>exact h
   |false=>rcases pn h with ⟨rfl,h⟩|⟨rfl,h⟩<;>exact h
  .rename_i hb;exact .inr (.inr ⟨t,want,rfl,hb,h⟩)
  .cases h
theorem HP {R:Type} {P:Program} {con:FuncId->Option ct} (hcon:Kk P con) {b9:TypeId->Option Ty} {ops:Array Oper} {am:Nat} (ham:∀ (j:Nat) (o:Oper) (d:Nat),ops[j]? =af o->o.dst=af d->aM am d=ai):
 ∀ (rest:List Oper) (sl:List su) (s:TS) (fs:List FPm) (K:TS->List FPm->Option R) (r:R),(∀ o∈rest,∃ j:Nat,ops[j]? =af o)->rS P ops rest=af sl->Kz con b9 sl s fs K=af r->l9 s.h s.nx->tm s.e s.h->∃ s' fs' l,K s' (fs.reverse++fs')=af r/\aaj P ops rest sl am s s' fs' l
 |[],sl,s,fs,K,r,hin,hc,hk,hH,M=>by
  simp only[rS,ak] at hc;subst hc;simp only[Kz] at hk;exact⟨s,[],[],by simpa using hk,rfl,.nil _ _,rfl,rfl,by simp,by simp,by simp,by simp,bT _,hH,M,gm.refl _ _⟩
 |o::rest,sl,s,fs,K,r,hin,hc,hk,hH,M=>by
  simp only[rS] at hc;split at hc
  .rename_i sl' hsl';have hso:∃ g,sl=⟨o.dst,xX P o.op,g⟩::sl'/\((g=ah/\o.guard=ah)\/∃ j want t,g=af (t,want)/\o.guard=af (j,want)/\(ops[j]?).bind (·.dst)=af t):=by
    split at hc
    .rename_i hg;simp only[ak] at hc;exact⟨ah,hc.symm,.inl ⟨rfl,hg⟩⟩
    .rename_i j want hg;split at hc
     .rename_i t ht;simp only[ak] at hc;exact⟨af (t,want),hc.symm,.inr ⟨j,want,t,rfl,hg,ht⟩⟩
     .cases hc
   obtain⟨g,rfl,hg⟩:=hso;simp only[Kz] at hk;have hdst:∀ d,o.dst=af d->aM am d=ai:=λd hd=>by
    obtain⟨j,hj⟩:=hin o (dz ..);exact ham j o d hj hd
   have hgs:∀ t want,g=af (t,want)->aM am t=ai:=λt want hgt=>by
    rcases hg with ⟨h1,_⟩|⟨j,want',t',h1,_,I⟩
    .rw[h1] at hgt;cases hgt
    .rw[h1] at hgt;cases hgt;cases hj:ops[j]? with
     |none=>rw[hj] at I;cases I
     |some oj=>rw[hj] at I;exact ham j oj t hj I
   have kput:∀ (e:iN) (v:TV),gm am s.e e->gm am s.e (DO e o.dst v):=λe v hke k hk v' hv=>by
    cases hd:o.dst with
    |none=>rw[hd] at hv;exact hke k hk v' hv
    |some d=>
     rw[hd] at hv;simp only[DO,PT.get_set] at hv;split at hv
     .rename_i e2;rw[e2,hdst d hd] at hk;cases hk
     .exact hke k hk v' hv
   have done:∀ (f:AY) (v:TV) (h':bh) (nx' rd wr:Nat) (e:iN),fM e s.h=fM s.e s.h->tm e s.h->gm am s.e e->J8 P ops o f (fM s.e s.h) (bA s.h)->(∃ y,co h' v=af y/\f.val=y)->eO (bA s.h) f.wr f.nw=bA h'->(∀ n∈f.rd,aM rd (ow n)=ai)->(∀ n∈f.wr,aM wr (ow n)=ai)->(∀ n∈f.N,s.nx<=ow n/\ow n<nx')->cj s.h h'->l9 h' nx'->s.nx<=nx'->((xX P o.op).still=ai->f.rd=[]/\f.wr=[])->
    Kz con b9 sl' ⟨DO e o.dst v,h',nx'⟩ (⟨rd,wr⟩::fs) K=af r->∃ s' fs' l,K s' (fs.reverse++fs')=af r/\aaj P ops (o::rest) (⟨o.dst,xX P o.op,g⟩::sl') am s s' fs' l:=by
    intro f v h' nx' rd wr e hee hiE hke hst hval hheap hrd hwr hN hrows hinv' hgr hstill hrun;obtain⟨y,U,hy2⟩:=hval;obtain⟨s',fs',l,J,L⟩:=HP hcon ham rest sl' _ _ K r (λo' ho'=>hin o' (cM _ ho')) hsl' hrun hinv' (hiE.put hrows o.dst (Ep _ _ _ U));have hg2:nx'<=s'.nx:=L.grows;refine ⟨s',⟨rd,wr⟩::fs',(o,f)::l,by simpa using J,by simp[L.ops_],.cons hst ?_,by simp[L.fsl],by simp[L.sll],?_,?_,?_,?_,dj hgr hg2,L.invH,L.invE,(kput e v hke).trans L.keeps⟩
    .have e1:Cg (fM s.e s.h) o.dst f.val=fM (DO e o.dst v) h':=by rw[<- hee,hy2];exact ac2 hiE hrows o.dst U
     rw[e1,hheap];exact L.chain
    .intro j o' f' q' h1 h2;cases j with
     |zero=>simp at h1 h2;obtain⟨rfl,rfl⟩:=h1;subst h2;exact⟨hrd,hwr⟩
     |succ j=>exact L.fp j o' f' q' (by simpa using h1) (by simpa using h2)
    .intro j o' f' so h1 h2 I;cases j with
     |zero=>simp at h1 h2;obtain⟨rfl,rfl⟩:=h1;subst h2;exact hstill I
     |succ j=>exact L.still j o' f' so (by simpa using h1) (by simpa using h2) I
    .intro j o' f' h1 n hn;cases j with
     |zero=>
      simp at h1;obtain⟨rfl,rfl⟩:=h1;have:=hN n hn;exact⟨this.1,by omega⟩
     |succ j=>
      have:=L.names j o' f' (by simpa using h1) n hn;exact⟨dj hgr this.1,this.2⟩
    .intro i j oi fi oj fj hij h1 h2 n hn Y;cases j with
     |zero=>omega
     |succ j=>
      have hj:=L.names j oj fj (by simpa using h2) n Y;cases i with
      |zero=>
       simp at h1;obtain⟨rfl,rfl⟩:=h1;have I:=(hN n hn).2;have Z:nx'<=ow n:=hj.1;omega
      |succ i=>exact L.apart_ i j oi fi oj fj (by omega) (by simpa using h1) (by simpa using h2) n hn Y
   have runs:∀ (e:iN),fM e s.h=fM s.e s.h->tm e s.h->gm am s.e e->(∀ f,gK P o (fM s.e s.h) (bA s.h) f->J8 P ops o f (fM s.e s.h) (bA s.h))->dS con b9 (xX P o.op) e s.h s.nx (λv rd wr h nx=>if KC h v then Kz con b9 sl' ⟨DO e o.dst v,h,nx⟩ (⟨rd,wr⟩::fs) K else ah)=af r->∃ s' fs' l,K s' (fs.reverse++fs')=af r/\aaj P ops (o::rest) (⟨o.dst,xX P o.op,g⟩::sl') am s s' fs' l:=by
    intro e hee hiE hke hstep hk;obtain⟨v,rd,wr,h',nx',J,T⟩:=ag3 hcon hH hiE rfl hk;simp only[] at J;split at J
    .rename_i hok;obtain⟨f,t1,t2,t3,t4,t5,t6⟩:=T.ex;rw[hee] at t1;obtain⟨y,hy⟩:=pU h' v hok;refine done f v h' nx' rd wr e hee hiE hke (hstep f t1) ⟨y,hy,t2 y hy⟩ t3 t4 t5 t6 T.rows T.inv T.grows (λhs=>?_) J;obtain⟨r0,w0⟩:=T.st hs;subst r0;subst w0;constructor
     .cases hl:f.rd with
      |nil=>rfl
      |cons n q=>have:=t4 n (by rw[hl];simp);simp at this
     .cases hl:f.wr with
      |nil=>rfl
      |cons n q=>have:=t5 n (by rw[hl];simp);simp at this
    .cases J
   have skips:∀ (e:iN),fM e s.h=fM s.e s.h->tm e s.h->gm am s.e e->J8 P ops o rJ (fM s.e s.h) (bA s.h)->Kz con b9 sl' ⟨DO e o.dst .undef,s.h,s.nx⟩ (⟨0,0⟩::fs) K=af r->∃ s' fs' l,K s' (fs.reverse++fs')=af r/\aaj P ops (o::rest) (⟨o.dst,xX P o.op,g⟩::sl') am s s' fs' l:=by
    intro e hee hiE hke hstep hk;exact done rJ .undef s.h s.nx 0 0 e hee hiE hke hstep ⟨_,rfl,rfl⟩ (by funext i;simp[eO,rJ]) (by simp[rJ]) (by simp[rJ]) (by simp[rJ]) (cj.refl _) hH (bT _) (λ_=>⟨rfl,rfl⟩) hk
   rcases Sr hk with ⟨h1,hk⟩|⟨t,want,b,h1,hb,hk⟩|⟨t,want,h1,hb,hk⟩
   .refine runs s.e rfl M (gm.refl _ _) (λf hf=>?_) hk;rcases hg with ⟨_,hg⟩|⟨j,want,t,h2,_,_⟩
    .exact .run hg hf
    .rw[h1] at h2;cases h2
   .rcases hg with ⟨h2,_⟩|⟨j,want',t',h2,I,Z⟩
    .rw[h1] at h2;cases h2
    .rw[h1] at h2;cases h2;have hgt:=hgs t want h1;have heb:fM s.e s.h t=af (.f (.raw (.bool b))):=by simp only[fM,hb,aH,co];rfl
     have hke:gm am s.e (s.e.set t (af (.f .bool b))):=λk hk v' hv=>by
      rw[PT.get_set] at hv;split at hv
      .rename_i ek;rw[ek,hgt] at hk;cases hk
      .exact⟨v',hv,λ_=>rfl⟩
     cases hbw:(b==want) with
     |true=>
      rw[hbw] at hk;have:b=want:=by simpa using hbw
      subst this;exact runs _ (Qx hb) (M.set hb) hke (λf hf=>.runG j t b I Z heb hf) hk
     |false=>
      rw[hbw] at hk;refine skips _ (Qx hb) (M.set hb) hke (.skip j t want I Z (.bool b) heb ?_ rfl) hk;intro hv;cases hv;simp at hbw
   .rcases hg with ⟨h2,_⟩|⟨j,want',t',h2,I,Z⟩
    .rw[h1] at h2;cases h2
    .rw[h1] at h2;cases h2;exact skips _ rfl M (gm.refl _ _) (.skip j t want I Z undef (by simp only[fM,hb,aH,co]) (by unfold undef;simp) rfl) hk
  .cases hc
theorem acd {P:Program} {ops:Array Oper} {sl:List su} {am:Nat} {s s':TS} {fs:List FPm} {l:List (Oper×AY)} {prs:List (Nat×Nat)} (hl:aaj P ops ops.toList sl am s s' fs l) (hp:LY ops sl=af prs) (hok:E6 fs prs=ai):NIP ops l:=by
 unfold LY at hp;simp only[] at hp;split at hp
 .rename_i hall;simp only[gj,m8,av] at hall;simp only[ak] at hp;have hop:∀ (j:Nat) o f,l[j]? =af (o,f)->ops[j]? =af o:=λj o f hj=>by
   have h1:(l.map (·.1))[j]? =af o:=by rw[bc,hj];rfl
   rw[hl.ops_] at h1;simpa using h1
  have hsize:∀ (j:Nat) o,ops[j]? =af o->j<ops.size:=λj o h=>(cC.1 h).1
  have hprs:∀ i j,(i,j)∈prs->∃ a b,fs[i]? =af a/\fs[j]? =af b/\Dd a.wr b.rd=ai/\Dd a.wr b.wr=ai/\Dd b.wr a.rd=ai:=by
   clear hp hall;induction prs with
   |nil=>intro i j h;cases h
   |cons p prs ih=>
    obtain⟨i0,j0⟩:=p;simp only[E6,av,VU] at hok;intro i j hm;rcases bi.1 hm with h|h
    .cases h;have h1:=hok.1;split at h1
     .rename_i a b Z hb;simp only[av] at h1;exact⟨a,b,Z,hb,h1.1.1,h1.1.2,h1.2⟩
     .cases h1
    .exact ih hok.2 i j h
  refine ⟨λj o ho e he hb=>?_,λi j oi fi oj fj hij hi hj=>?_,hl.apart_⟩
  .have:=(hall j (hsize j o ho)).1;rw[ho] at this;simp only[Option.all_some,gj] at this;have:=this e (by simpa using he);simp[hb] at this;exact this
  .have h1:=hop i oi fi hi;have h2:=hop j oj fj hj;have hcase:=(hall j (hsize j oj h2)).2 i hij;rw[h1,h2] at hcase;simp only[iS] at hcase;by_cases M:aM ((JV ops.toList []).getD j 0) i=ai
   .left;rw[ay] at M;cases I:(JV ops.toList [])[j]? with
    |none=>rw[I] at M;simp at M
    |some B=>
     rw[I] at M;exact MI (ops:=ops) ops.toList [] (λj o hj=>by simpa using hj) (λj B hj=>by simp at hj) j B I i (by simpa using M)
   .right;have hap:=hcase.resolve_left M;refine ⟨hap,?_⟩;have hil:i<l.length:=(bk.1 hi).1;have hjl:j<l.length:=(bk.1 hj).1;have hsi:=aA (show i<sl.length by rw[hl.sll];exact hil);have hsj:=aA (show j<sl.length by rw[hl.sll];exact hjl);by_cases hst:(sl[i]'(by rw[hl.sll];exact hil)).op.still=ai
    .obtain⟨Y,U⟩:=hl.still i oi fi _ hi hsi hst;rw[Y,U];exact⟨(λx I=>by cases I),(λx _ I=>by cases I)⟩
    .by_cases hst2:(sl[j]'(by rw[hl.sll];exact hjl)).op.still=ai
     .obtain⟨Y,U⟩:=hl.still j oj fj _ hj hsj hst2;rw[Y,U];exact⟨(λx I=>⟨(by simp),(by simp)⟩),(λx I=>by cases I)⟩
     .have hmem:(i,j)∈prs:=by
       rw[<- hp,uF];refine ⟨j,m8.2 (hsize j oj h2),?_⟩;rw[List.mem_filterMap];refine ⟨i,m8.2 hij,?_⟩;rw[aB];rw[hsi,hsj];simp only[iS,not_or];exact⟨M,hst,hst2⟩
      obtain⟨a,b,Z,hb,d1,d2,d3⟩:=hprs i j hmem;obtain⟨f1,f2⟩:=hl.fp i oi fi a hi Z;obtain⟨g1,g2⟩:=hl.fp j oj fj b hj hb;refine ⟨λx I=>⟨λJ=>?_,λJ=>?_⟩,λx I J=>?_⟩
      .have:=xt d1 (ow x) (f2 x I);rw[g1 x J] at this;cases this
      .have:=xt d2 (ow x) (f2 x I);rw[g2 x J] at this;cases this
      .have:=xt d3 (ow x) (g2 x I);rw[f1 x J] at this;cases this
 .cases hp
structure oH (P:Program) (E:Nat->Prop) (nt np:Nat) (φ:PM) (s:TS) (a:Act) (w:World):Prop where
 rep:qP φ E (bA s.h) w
 env:MP φ (tot E φ (bA s.h)) w (fM s.e s.h) a
 dom:∀ n k,φ n=af k->ow n<s.nx
 low:np<=s.nx
 invH:l9 s.h s.nx
 invE:tm s.e s.h
 inert:∀ d∈a.defers,ab3 P d
 size:a.tmps.size=nt
structure BY (np:Nat) (φ φ':PM) (H H':HF) (w w':World):Prop where
 ext:Ki (own φ H) w w'
 own_:∀ k,k<w.heap.size->own φ' H' k->own φ H k
 par:∀ i,i<np->φ' (nm i)=φ (nm i)
theorem BY.refl (np:Nat) (φ:PM) (H:HF) (w:World):BY np φ φ H H w w:=⟨Ki.refl _ _,λ_ _ h=>h,λ_ _=>rfl⟩
theorem BY.trans {np:Nat} {φ φ' φ'':PM} {H H' H'':HF} {w w' w'':World} (a:BY np φ φ' H H' w w') (b:BY np φ' φ'' H' H'' w' w''):BY np φ φ'' H H'' w w'' where
 ext:=⟨b.ext.os.trans a.ext.os,b.ext.tape.trans a.ext.tape,b.ext.output.trans a.ext.output,dj a.ext.size b.ext.size,
  λk hk I=>(b.ext.blk k (dy hk a.ext.size) (λh=>I (a.own_ k hk h))).trans (a.ext.blk k hk I),
  λk hk=>(b.ext.shp k (dy hk a.ext.size)).trans (a.ext.shp k hk)⟩
 own_:=λk hk h=>a.own_ k hk (b.own_ k (dy hk a.ext.size) h)
 par:=λi hi=>(b.par i hi).trans (a.par i hi)
theorem YY {R:Type} {P:Program} {E:Nat->Prop} {nt np:Nat} {φ:PM} {s:TS} {a:Act} {w:World} {con:FuncId->Option ct} {b9:TypeId->Option Ty} (hm:P.follows .mixedOrders=ai) (hcon:Kk P con) (c:oH P E nt np φ s a w) {id:Nat} {ops:Array Oper} {draw:Bool} {sl:List su} {prs:List (Nat×Nat)} {am:Nat} (ham:∀ (j:Nat) (o:Oper) (d:Nat),ops[j]? =af o->o.dst=af d->aM am d=ai)
 (hd:(ops.toList.all λo=>match o.dst with|some d=>decide (d<nt)|none=>ai)=ai) (hc:rS P ops ops.toList=af sl) (hp:LY ops sl=af prs) {K:TS->Option R} {r:R} (hr:Kz con b9 sl s [] (λs' fs=>if E6 fs prs then K s' else ah)=af r) {Q:Exit->Act->World->Prop}
 (hQ:∀ a' w' s' φ',K s'=af r->oH P E nt np φ' s' a' w'->BY np φ φ' (bA s.h) (bA s'.h) w w'->gm am s.e s'.e->Q .normal a' w'):(Code.region id ops draw).wp P Q a w:=by
 obtain⟨s',fs',l,J,L⟩:=HP hcon ham ops.toList sl s [] _ r (λo U=>by
  obtain⟨j,hj⟩:=eV U;exact⟨j,by simpa using hj⟩) hc hr c.invH c.invE
 have J:(if E6 fs' prs then K s' else ah)=af r:=J;by_cases hok:E6 fs' prs=ai
 .rw[aE hok] at J;refine Pm (φ0:=φ) (E:=E) hm L.ops_ L.chain (acd L hp hok) ?_ ?_ c.rep c.env ?_
  .intro n hn;obtain⟨p,I,hn⟩:=uF.1 hn;obtain⟨j,hj⟩:=eV I;have:=L.names j p.1 p.2 hj n hn;cases M:φ n with
   |none=>rfl
   |some k=>have:=c.dom n k M;omega
  .intro j o U d Y;have:=gj.1 hd o (by have:=Array.mem_of_getElem? U;simpa using this);rw[Y] at this;rw[c.size];simpa using this
  .rintro a' w' ⟨φ',m',d',Z,en',df',sz'⟩;have hnm:∀ n k,φ' n=af k->φ n=af k\/(s.nx<=ow n/\ow n<s'.nx):=λn k hik=>by
    rcases d' n k hik with h|h
    .exact .inl h
    .obtain⟨p,I,hn⟩:=uF.1 h;obtain⟨j,hj⟩:=eV I;exact .inr (L.names j p.1 p.2 hj n hn)
   have hg:=L.grows;have hlow:=c.low;refine hQ a' w' s' φ' J ⟨Z,en',λn k hik=>?_,by omega,L.invH,L.invE,by rw[df'];exact c.inert,by rw[sz'];exact c.size⟩ ⟨m'.ext,m'.own_,λi hi=>?_⟩ L.keeps
   .rcases hnm n k hik with h|h
    .have:=c.dom n k h;omega
    .exact h.2
   .cases M:φ (nm i) with
    |some k=>exact m'.sub _ _ M
    |none=>
     cases hy:φ' (nm i) with
     |none=>rfl
     |some k=>
      rcases hnm (nm i) k hy with h|h
      .rw[M] at h;cases h
      .rw[dX] at h;omega
 .rw[aB hok] at J;cases J
theorem zo:∀ (l:List su) (acc:Nat),Ox l acc=acc|||Ox l 0
 |[],acc=>by simp[Ox]
 |o::r,acc=>by
  simp only[Ox];cases o.dst with
  |none=>exact zo r acc
  |some d=>simp only[];rw[zo r (acc|||kK d),zo r (0|||kK d),xZ,kA]
theorem zN:∀ (l:List Nat) (acc:Nat),KH l acc=acc|||KH l 0
 |[],acc=>by simp[KH]
 |k::r,acc=>by simp only[KH];rw[zN r (acc|||kK k),zN r (0|||kK k),xZ,kA]
theorem l8:∀ (l:List Adj) (acc:Nat),oc l acc=acc|||oc l 0
 |[],acc=>by simp[oc]
 |.nil k _ _::r,acc=>by simp only[oc];rw[l8 r (acc|||kK k),l8 r (0|||kK k),xZ,kA]
 |.cel _ _ _ _::r,acc=>by simp only[oc];exact l8 r acc
 |.mpt _ _ _::r,acc=>by simp only[oc];exact l8 r acc
 |.ren k _::r,acc=>by simp only[oc];rw[l8 r (acc|||kK k),l8 r (0|||kK k),xZ,kA]
 |.pk _ _ _::r,acc=>by simp only[oc];exact l8 r acc
theorem iD:∀ (c:TC) (acc:Nat),c.asg acc=acc|||c.asg 0
 |.reg ops _,acc=>zo ops acc
 |.seq a b,acc=>by simp only[TC.asg];rw[iD b (a.asg acc),iD b (a.asg 0),iD a acc,kA]
 |.jseq A a b,acc=>by simp only[TC.asg];rw[iD b (a.asg _),iD b (a.asg (KH A.ks 0)),iD a (KH A.ks acc),iD a (KH A.ks 0),zN A.ks acc,kA,kA,kA]
 |.cond _ a b,acc=>by simp only[TC.asg];rw[iD b (a.asg acc),iD b (a.asg 0),iD a acc,kA]
 |.block _ b,acc=>iD b acc
 |.jblock A _ b,acc=>by simp only[TC.asg];rw[iD b (KH A.ks acc),iD b (KH A.ks 0),zN A.ks acc,kA]
 |.loop A b,acc=>by simp only[TC.asg];rw[iD b (KH A.ks acc),iD b (KH A.ks 0),zN A.ks acc,kA]
 |.defer _ _ t,acc=>by simp[TC.asg]
 |.adj l c,acc=>by simp only[TC.asg];rw[iD c (oc l acc),iD c (oc l 0),l8 l acc,kA]
 |.split _ _ _ _ c,acc=>iD c acc
 |.unl _ b,acc=>iD b acc
 |.skip,acc=>by simp[TC.asg]
 |.exit _,acc=>by simp[TC.asg]
 |.ret,acc=>by simp[TC.asg]
 |.bad,acc=>by simp[TC.asg]
theorem u_ {c:TC} {acc k:Nat} (h:aM (c.asg 0) k=ai):aM (c.asg acc) k=ai:=by rw[iD,bu,h];simp
theorem kh {c:TC} {acc k:Nat} (h:aM acc k=ai):aM (c.asg acc) k=ai:=by rw[iD,bu,h];rfl
theorem VF:∀ {l:List Nat} {acc k:Nat},k∈l->aM (KH l acc) k=ai
 |[],_,_,h=>by cases h
 |x::r,acc,k,h=>by
  simp only[KH];rcases bi.1 h with rfl|h
  .rw[zN,bu,bu,bX.2 rfl];simp
  .exact VF h
theorem RE:∀ {l:List su} {acc:Nat} {o:su} {d:Nat},o∈l->o.dst=af d->aM (Ox l acc) d=ai
 |[],_,_,_,h,_=>by cases h
 |x::r,acc,o,d,h,hd=>by
  simp only[Ox];rcases bi.1 h with rfl|h
  .rw[hd];simp only[];rw[zo,bu,bu,bX.2 rfl];simp
  .exact RE h hd
theorem VQ:∀ {e:iN} {ks:List Nat} {vs:List TV},nL e ks=af vs->vs.length=ks.length/\∀ (j k:Nat),ks[j]? =af k->∃ v,vs[j]? =af v/\e.get k=af v
 |e,[],vs,h=>by simp only[nL,ak] at h;subst h;exact⟨rfl,by simp⟩
 |e,k::r,vs,h=>by
  simp only[nL] at h;split at h
  .rename_i v hv;split at h
   .rename_i l hl;simp only[ak] at h;subst h;obtain⟨h1,h2⟩:=VQ hl;refine ⟨by simp[h1],λj k' hj=>?_⟩;cases j with
    |zero=>simp at hj;subst hj;exact⟨v,rfl,hv⟩
    |succ j=>simpa using h2 j k' (by simpa using hj)
   .cases h
  .cases h
theorem HU {e:iN} {h:bh} (hi:tm e h):∀ {ks:List Nat} {vs:List TV},nL e ks=af vs->kM h vs=ai
 |[],vs,hg=>by simp only[nL,ak] at hg;subst hg;rfl
 |k::r,vs,hg=>by
  simp only[nL] at hg;split at hg
  .rename_i v hv;split at hg
   .rename_i l hl;simp only[ak] at hg;subst hg;simp only[kM,av];exact⟨hi k v hv,HU hi hl⟩
   .cases hg
  .cases hg
theorem B9:∀ {e:iN} {ks:List Nat} {vs:List TV},vs.length=ks.length->∀ t v,(WD e ks vs).get t=af v->(∃ j:Nat,ks[j]? =af t/\vs[j]? =af v)\/(t∉ks/\e.get t=af v)
 |e,[],[],_,t,v,h=>.inr ⟨by simp,h⟩
 |e,[],_::_,hl,t,v,h=>by simp at hl
 |e,_::_,[],hl,t,v,h=>by simp at hl
 |e,k::r,u::l,hl,t,v,h=>by
  simp only[WD,PT.get_set] at h;split at h
  .rename_i I;subst I;cases h;exact .inl ⟨0,rfl,rfl⟩
  .rename_i I;rcases B9 (by simpa using hl) t v h with ⟨j,h1,h2⟩|⟨h1,h2⟩
   .exact .inl ⟨j+1,by simpa using h1,by simpa using h2⟩
   .exact .inr ⟨by simp[I,h1],h2⟩
theorem tD {am:Nat} {e:iN}:∀ {ks:List Nat} {k:Nat} {v:TV},(Cw am e ks).get k=af v->k∈ks/\e.get k=af v/\t7 v=ai/\aM am k=aj
 |[],k,v,h=>by simp[Cw,PT.get] at h
 |x::r,k,v,h=>by
  simp only[Cw] at h;split at h
  .rename_i u hu;split at h
   .rename_i hc;simp only[av,dN] at hc;rw[PT.get_set] at h;split at h
    .rename_i I;subst I;cases h;exact⟨by simp,hu,hc.1,hc.2⟩
    .obtain⟨h1,h2⟩:=tD h;exact⟨by simp[h1],h2⟩
   .obtain⟨h1,h2⟩:=tD h;exact⟨by simp[h1],h2⟩
  .obtain⟨h1,h2⟩:=tD h;exact⟨by simp[h1],h2⟩
theorem Ic {am:Nat} {e0 e:iN}:∀ {ks:List Nat},G_ am e0 e ks=ai->∀ k v,k∈ks->e0.get k=af v->t7 v=ai->aM am k=aj->∃ J,e.get k=af J
 |[],_,k,v,h,_,_,_=>by cases h
 |x::r,hc,k,v,h,hv,hf,I=>by
  simp only[G_,av] at hc;rcases bi.1 h with rfl|h
  .have h1:=hc.1;rw[hv] at h1;simp only[hf,I,Bool.not_true,Bool.false_or] at h1;cases M:e.get k with
   |none=>rw[M] at h1;cases h1
   |some u=>exact⟨u,rfl⟩
  .exact Ic hc.2 k v h hv hf I
section walk
variable {P:Program} {E:Nat->Prop} {nt np:Nat}
theorem Qv {h:bh} {v:TV} {y:AV} (hn:ack v=ai) (I:co h v=af y):Le y .emp:=by
 cases v with
 |nil=>simp only[co,ak] at I;subst I;exact Le.nilEmp
 |emp=>simp only[co,ak] at I;subst I;exact Le.refl _
 |_=>cases hn
theorem Wo {φ:PM} {s:TS} {a:Act} {w:World} (c:oH P E nt np φ s a w) (ty:TypeId) (T:Ty):oH P E nt np φ ⟨s.e,s.h.set s.nx (af (.rows ty ai T [])),s.nx+1⟩ a w/\bA (s.h.set s.nx (af (.rows ty ai T [])))=bA s.h/\cj s.h (s.h.set s.nx (af (.rows ty ai T []))):=by
 have hfr:=c.invH.fresh;have hr:cj s.h (s.h.set s.nx (af (.rows ty ai T []))):=cj.set λr hr=>by rw[bU,hfr] at hr;cases hr
 have J:bA (s.h.set s.nx (af (.rows ty ai T [])))=bA s.h:=by
  funext n;by_cases hn:n=nm s.nx
  .subst hn;rw[bJ,bJ,PT.get_set,aE rfl,hfr];rfl
  .refine kJ c.invH hr λi e=>?_
   subst e;rw[PT.get_set,aB (λe=>hn (by rw[e]))]
 refine ⟨⟨by rw[J];exact c.rep,?_,λn k hk=>zE (c.dom n k hk),iv c.low,c.invH.set hr (BU _) (Nat.le_succ _) (λ_ _ he=>by cases he),?_,c.inert,c.size⟩,J,hr⟩
 .intro t x I;rw[J];simp only[fM] at I;cases he:s.e.get t with
  |none=>rw[he] at I;cases I
  |some q=>
   rw[he] at I;obtain⟨z,M⟩:=pU s.h q (c.invE t q he);simp only[aH,gz hr q z M,ak] at I;subst I;exact c.env t _ (by simp only[fM,he,aH,M])
 .intro t x I;exact oq hr x (c.invE t x I)
theorem yw {h:bh}:∀ {a b:List TV},kM h a=ai->kM h b=ai->kM h (a++b)=ai
 |[],_,_,hb=>hb
 |x::r,b,I,hb=>by
  simp only[kM,av] at I;simp only[gi,kM,av];exact⟨I.1,yw I.2 hb⟩
theorem LZ {h:bh}:∀ {a:List TV} (n:Nat),kM h a=ai->kM h (a.take n)=ai
 |[],n,_=>by simp[kM]
 |x::r,0,_=>rfl
 |x::r,n+1,I=>by
  simp only[kM,av] at I;simp only[vB,kM,av];exact⟨I.1,LZ n I.2⟩
theorem L1 {h:bh}:∀ {a:List TV} (n:Nat),kM h a=ai->kM h (a.drop n)=ai
 |[],n,_=>by simp[kM]
 |x::r,0,I=>I
 |x::r,n+1,I=>by
  simp only[kM,av] at I;simp only[vC];exact L1 n I.2
theorem ym {α:Type} {l:List α} {j:Nat} {x:α} (h:l[j]? =af x):splice l j [x]=l:=by
 have hl:j<l.length:=by
  rcases bZ j l.length with h'|h'
  .exact h'
  .rw[bQ h'] at h;cases h
 rw[aA hl,ak] at h;unfold splice;subst h;simp
theorem aab {φ:PM} {s:TS} {a:Act} {w:World} (c:oH P E nt np φ s a w) {id cty j:Nat} {l:List TV} {v u:TV} (hb:s.h.get id=af (.cells cty l)) (hv:l[j]? =af v) (hn:ack v=ai) (hu:co s.h u=af .emp) (huo:KC s.h u=ai):
 oH P E nt np φ ⟨s.e,s.h.set id (af (.cells cty (splice l j [u]))),s.nx⟩ a w/\BY np φ φ (bA s.h) (bA (s.h.set id (af (.cells cty (splice l j [u]))))) w w:=by
 have hr:cj s.h (s.h.set id (af (.cells cty (splice l j [u])))):=cj.set λr hr=>by rw[bU,hb] at hr;cases hr
 have hlo:=c.invH.cells id cty l hb;obtain⟨J,M⟩:=fh s.h l hlo;have hsp:cK s.h (splice l j [u])=af (splice J j [.emp]):=sh j M (by simp only[cK,hu]);have hsp':cK (s.h.set id (af (.cells cty (splice l j [u])))) (splice l j [u])=af (splice J j [.emp]):=gY hr _ _ hsp;obtain⟨y,hy,hey⟩:=lZ M j v hv;have hold:bA s.h (nm id)=af ⟨cty,.mx J⟩:=by rw[bJ,hb];simp only[aH,kw,M]
 have hnew:bA (s.h.set id (af (.cells cty (splice l j [u])))) (nm id)=af ⟨cty,.mx (splice J j [.emp])⟩:=by
  rw[bJ,PT.get_set,aE rfl];simp only[aH,kw,hsp']
 have hoth:∀ n,n≠nm id->bA (s.h.set id (af (.cells cty (splice l j [u])))) n=bA s.h n:=λn Y=>by
  refine kJ c.invH hr λi e=>?_
  subst e;rw[PT.get_set,aB (λe=>Y (by rw[e]))]
 have hdom:vb (bA s.h) (bA (s.h.set id (af (.cells cty (splice l j [u]))))):=λn b U=>by
  by_cases e:n=nm id
  .subst e;exact⟨_,hold⟩
  .rw[hoth n e] at U;exact⟨b,U⟩
 have hcell:∀ x∈J,x.isCell=ai:=λx I=>by
  obtain⟨k,hk⟩:=eV I;obtain⟨q,_,_,hat⟩:=c.rep.at_ _ _ hold;unfold Ww at hat;obtain⟨ob,_,hob⟩:=hat;rw[pw rfl] at hob;obtain⟨arr,_,hca⟩:=hob;exact (hca.2 k x hk).1
 have hV:J7 (bA s.h) (bA (s.h.set id (af (.cells cty (splice l j [u]))))):=⟨hdom,λn b b' h1 h2=>by
  by_cases e:n=nm id
  .subst e;rw[hold] at h1;cases h1;rw[hnew] at h2;cases h2;refine jX.cells rfl rfl ?_ λx I=>?_
   .show ie _ _ J (splice J j [.emp]);have:=ie.splice j (ie.refl hdom J) (b:=[y]) (b':=[.emp]) ⟨(Qv hn hey).toH hdom,trivial⟩;rw[ym hy] at this;exact this
   .have I:x∈splice J j [.emp]:=I;unfold splice at I;rw[bP,bP,aL] at I;rcases I with (I|I)|I
    .exact hcell x (jg I)
    .subst I;rfl
    .exact hcell x (List.mem_of_mem_drop I)
  .rw[hoth n e,h1] at h2;cases h2;exact jX.refl hdom b⟩
 refine ⟨⟨hV.rep c.rep,?_,c.dom,c.low,c.invH.set hr (c.invH.low id _ hb) (bT _) (λty l2 he=>?_),?_,c.inert,c.size⟩,⟨Ki.refl _ _,λk _ ho=>hdom.own ho,λ_ _=>rfl⟩⟩
 .intro t x I;simp only[fM] at I;cases he:s.e.get t with
  |none=>rw[he] at I;cases I
  |some q=>
   rw[he] at I;obtain⟨z,Z⟩:=pU s.h q (c.invE t q he);simp only[aH,gz hr q z Z,ak] at I;subst I;exact (c.env t _ (by simp only[fM,he,aH,Z])).dom hdom
 .simp only[ip.cells.injEq] at he;obtain⟨_,rfl⟩:=he;refine iU hr _ ?_;unfold splice;exact yw (yw (LZ _ hlo) (by simp only[kM,huo,kD])) (L1 _ hlo)
 .intro t x I;exact oq hr x (c.invE t x I)
theorem oH.congr {φ:PM} {s s':TS} {a:Act} {w:World} (c:oH P E nt np φ s a w) (he:∀ t,s'.e.get t=s.e.get t) (hh:∀ i,s'.h.get i=s.h.get i) (hn:s'.nx=s.nx):oH P E nt np φ s' a w/\bA s'.h=bA s.h:=by
 have hr:cj s.h s'.h:=λi r hi=>by rw[bU] at hi ⊢;rw[hh];exact hi
 have J:bA s'.h=bA s.h:=by funext n;exact kJ c.invH hr λi _=>hh i
 refine ⟨⟨by rw[J];exact c.rep,?_,by rw[hn];exact c.dom,by rw[hn];exact c.low,⟨λi ty l hg=>?_,λi b hg=>?_⟩,λt v hv=>?_,c.inert,c.size⟩,J⟩
 .intro t x I;rw[J];simp only[fM,he] at I;cases hg:s.e.get t with
  |none=>rw[hg] at I;cases I
  |some v=>
   rw[hg] at I;obtain⟨z,M⟩:=pU s.h v (c.invE t v hg);simp only[aH,gz hr v z M,ak] at I;subst I;exact c.env t _ (by simp only[fM,hg,aH,M])
 .rw[hh] at hg;exact iU hr l (c.invH.cells i ty l hg)
 .rw[hh] at hg;rw[hn];exact c.invH.low i b hg
 .rw[he] at hv;exact oq hr v (c.invE t v hv)
theorem O_ {R:Type} {v:Int} {f:Nat->Option R} {r:R}:∀ {m i:Nat},spl v f i m=af r->∃ j,v=aO j/\f j=af r
 |0,i,h=>by cases h
 |m+1,i,h=>by
  simp only[spl] at h;rcases pn h with ⟨h1,h2⟩|⟨_,h2⟩
  .exact⟨i,bg h1,h2⟩
  .exact O_ h2
theorem YU {φ:PM} {s s':TS} {a:Act} {w:World} (c:oH P E nt np φ s a w) {k off:Nat} {kd:IntKind} {v:Int} (h1:Zr s k off=af (kd,v)) (h2:SD s k off kd v=af s'):oH P E nt np φ s' a w/\bA s'.h=bA s.h/\∀ t,s'.e.get t=s.e.get t:=by
 unfold Zr at h1;unfold SD at h2;cases hk:s.e.get k with
 |none=>rw[hk] at h1;cases h1
 |some x=>
  rw[hk] at h1 h2;cases x with
  |f T q=>
   cases T with
   |int kd'=>
    simp only[ak,aD] at h1;obtain⟨rfl,rfl⟩:=h1;simp only[ak] at h2;subst h2;have he:∀ t,(s.e.set k (af (.f (.int kd') q))).get t=s.e.get t:=λt=>by
     rw[PT.get_set];split
     .rename_i e;subst e;exact hk.symm
     .rfl
    obtain⟨J,I⟩:=c.congr (s':=⟨s.e.set k (af (.f (.int kd') q)),s.h,s.nx⟩) he (λ_=>rfl) rfl;exact⟨J,I,he⟩
   |_=>cases h1
  |ptr a0 o0=>
   simp only[] at h1 h2;cases hb:s.h.get a0 with
   |none=>rw[hb] at h1;cases h1
   |some b=>
    rw[hb] at h1 h2;cases b with
    |cells ty l=>
     simp only[] at h1 h2;cases hl:l[o0+off]? with
     |none=>rw[hl] at h1;cases h1
     |some y=>
      rw[hl] at h1;cases y with
      |f T q=>
       cases T with
       |int kd'=>
        simp only[ak,aD] at h1;obtain⟨rfl,rfl⟩:=h1;simp only[ak] at h2;subst h2;have hh:∀ i,(s.h.set a0 (af (.cells ty (splice l (o0+off) [.f (.int kd') q])))).get i=s.h.get i:=λi=>by
         rw[PT.get_set];split
         .rename_i e;subst e;rw[hb,ym hl]
         .rfl
        obtain⟨J,I⟩:=c.congr (s':=⟨s.e,s.h.set a0 (af (.cells ty (splice l (o0+off) [.f (.int kd') q]))),s.nx⟩) (λ_=>rfl) hh rfl;exact⟨J,I,λ_=>rfl⟩
       |_=>cases h1
      |_=>cases h1
    |_=>cases h1
  |_=>cases h1
mutual
theorem LQ (id sz n:Nat):∀ v:TV,t7 v=ai->Ku id sz n v=v
 |.f _ _,_=>rfl
 |.fel _ _ _ _ _,_=>rfl
 |.emp,_=>rfl
 |.nil,_=>rfl
 |.undef,_=>rfl
 |.np,_=>rfl
 |.anyb,_=>rfl
 |.agg l,h=>by simp only[Ku];rw[Bd id sz n l h]
 |.tup l,h=>by simp only[Ku];rw[Bd id sz n l h]
 |.pel _ _ _ _,h=>by cases h
 |.ptr _ _,h=>by cases h
 |.csl _ _ _,h=>by cases h
 |.row _,h=>by cases h
 |.rtl _ _,h=>by cases h
 |.mp _,h=>by cases h
 |.clo _ _,h=>by cases h
theorem Bd (id sz n:Nat):∀ l:List TV,qj l=ai->B6 id sz n l=l
 |[],_=>rfl
 |x::r,h=>by
  simp only[qj,av] at h;simp only[B6];rw[LQ id sz n x h.1,Bd id sz n r h.2]
end
section subs
variable {id sz n:Nat} {h h':bh}
mutual
theorem M5 (hr:cj h h') (hid:em h' id=af (aj,sz,n)):∀ (v:TV) (y:AV),co h v=af y->co h' (Ku id sz n v)=af y
 |.csl i s m,y,he=>by
  simp only[co,ak] at he;subst he;simp only[Ku];split
  .rename_i hq;simp only[av] at hq;have e1:=aw hq.1.1;have e2:=aw hq.1.2;have e3:=aw hq.2;subst e1;subst e2;subst e3;simp only[co,hid,fk,ne,cw,dY]
  .rfl
 |.agg l,y,he=>by
  simp only[co] at he;cases hl:cK h l with
  |none=>rw[hl] at he;cases he
  |some l'=>rw[hl] at he;simp only[Ku,co,vG hr hid l l' hl];exact he
 |.tup l,y,he=>by
  simp only[co] at he;cases hl:cK h l with
  |none=>rw[hl] at he;cases he
  |some l'=>rw[hl] at he;simp only[Ku,co,vG hr hid l l' hl];exact he
 |.clo g l,y,he=>by
  simp only[co] at he;cases hl:cK h l with
  |none=>rw[hl] at he;cases he
  |some l'=>rw[hl] at he;simp only[Ku,co,vG hr hid l l' hl];exact he
 |.f T v,y,he=>gz hr _ _ he
 |.fel T xs j hj off,y,he=>gz hr _ _ he
 |.pel _ _ _ _,y,he=>gz hr _ _ he
 |.ptr _ _,y,he=>gz hr _ _ he
 |.row _,y,he=>gz hr _ _ he
 |.rtl _ _,y,he=>gz hr _ _ he
 |.emp,y,he=>gz hr _ _ he
 |.nil,y,he=>gz hr _ _ he
 |.mp _,y,he=>gz hr _ _ he
 |.undef,y,he=>gz hr _ _ he
 |.np,y,he=>gz hr _ _ he
 |.anyb,y,he=>gz hr _ _ he
theorem vG (hr:cj h h') (hid:em h' id=af (aj,sz,n)):∀ (l:List TV) (l':List AV),cK h l=af l'->cK h' (B6 id sz n l)=af l'
 |[],l',he=>by simp only[cK,ak] at he;subst he;rfl
 |x::r,l',he=>by
  obtain⟨y,l2,rfl,h1,h2⟩:=cY he;simp only[B6];exact oS (M5 hr hid x y h1) (vG hr hid r l2 h2)
end
end subs
theorem ajn {φ:PM} {s:TS} {a:Act} {w:World} (c:oH P E nt np φ s a w) {T:Ty} {id sz n:Nat} {s':TS} (hp:pkS s T id sz n=af s'):oH P E nt np φ s' a w/\BY np φ φ (bA s.h) (bA s'.h) w w/\gm 0 s.e s'.e:=by
 unfold pkS at hp;split at hp
 .rename_i ty l hb;split at hp
  .rename_i hs;have hs:=aw hs;subst hs;split at hp
   .rename_i xs m hpk;split at hp
    .cases hp
    .rename_i hmid;simp only[ak] at hp;subst hp;have hm:dQ s.h m:=M' n l xs m hpk;obtain⟨l',hl⟩:=fh s.h l (c.invH.cells id ty l hb);have hidlt:=c.invH.low id _ hb;have nL:∀ i,((PT.updI (λ_ b=>WA id T.size n b) 1 0 (eo m s.h)).set id (af (.rows ty aj T xs))).get i=if i=id then af (.rows ty aj T xs) else if aM m i then (s.h.get i).map uP else (s.h.get i).map (WA id T.size n):=λi=>by
      rw[PT.get_set];by_cases e:i=id
      .rw[aE e,aE e]
      .rw[aB e,aB e,PT.get_updI,iX];split
       .cases hg:s.h.get i with
        |none=>rfl
        |some b=>cases b<;>rfl
       .rfl
     generalize hH2:((PT.updI (λ_ b=>WA id T.size n b) 1 0 (eo m s.h)).set id (af (.rows ty aj T xs)))=h2 at nL ⊢;have hr:cj s.h h2:=λi r hi=>by
      rw[bU] at hi ⊢;rw[nL];by_cases e:i=id
      .subst e;rw[hb] at hi;cases hi
      .rw[aB e];cases hg:s.h.get i with
       |none=>rw[hg] at hi;cases hi
       |some b=>
        rw[hg] at hi;split
        .exact LV hi
        .cases b<;>first|exact hi|cases hi
     have hnone:∀ i,aM m i=ai->bA h2 (nm i)=ah:=λi hi=>by
      have e:i≠id:=λe=>by subst e;exact hmid hi
      obtain⟨ty',p',T',xs',J⟩:=hm i hi;rw[bJ,nL,aB e,aE hi,J];rfl
     have hdom:vb (bA s.h) (bA h2):=λq b hq=>by
      obtain⟨i,cc,rfl,I,h4⟩:=jw hq;rw[bJ];rw[nL] at I;by_cases e:i=id
      .subst e;rw[hb];simp only[aH,kw,hl];exact⟨_,rfl⟩
      .rw[aB e] at I;cases hg:s.h.get i with
       |none=>rw[hg] at I;split at I<;>cases I
       |some b0=>
        rw[hg] at I;split at I
        .simp only[ca,ak] at I;subst I;cases b0<;>simp[uP,kw] at h4
        .simp only[ca,ak] at I;subst I;simp only[aH];cases b0 with
         |cells ty0 l0=>
          obtain⟨l0',U⟩:=fh s.h l0 (c.invH.cells i ty0 l0 hg);exact⟨⟨ty0,.mx l0'⟩,by simp only[kw,U]⟩
         |rows=>exact⟨_,h4⟩
         |dead=>exact⟨_,h4⟩
         |mp=>exact⟨_,h4⟩
     have giv:DG s.h (bA s.h) (bA h2) m:=λi hi=>⟨rfl,hnone i hi⟩
     obtain⟨hle,hlen⟩:=Cj hdom n l xs m l' hpk hl giv;have hrow:em h2 id=af (aj,T.size,n):=by rw[bU,nL,aE rfl,<-hlen];rfl
     have hV:J7 (bA s.h) (bA h2):=⟨hdom,λq b b' I h4=>by
      obtain⟨i,cc,rfl,Z,h6⟩:=jw h4;rw[bJ] at I;rw[nL] at Z;by_cases e:i=id
      .subst e;rw[aE rfl] at Z;cases Z;rw[hb] at I;simp only[aH,kw,hl,ak] at I;subst I;simp only[kw,ne,cw,dY,ak] at h6;subst h6;refine jX.cells rfl rfl hle λx J=>?_
       simp only[BC.toMx] at J;obtain⟨q,hq,rfl⟩:=dk.1 J;exact rA T _ q hq
      .rw[aB e] at Z;cases hg:s.h.get i with
       |none=>rw[hg] at Z;split at Z<;>cases Z
       |some b0=>
        rw[hg] at Z I;split at Z
        .simp only[ca,ak] at Z;subst Z;cases b0<;>simp[uP,kw] at h6
        .simp only[ca,ak] at Z;subst Z;have:b=b':=by
          simp only[aH] at I;cases b0 with
          |cells ty0 l0=>
           obtain⟨l0',U⟩:=fh s.h l0 (c.invH.cells i ty0 l0 hg);simp only[kw,U,ak] at I;simp only[WA,kw,vG hr hrow l0 l0' U,ak] at h6;rw[<- I,<-h6]
          |rows ty1 p1 T1 xs1=>
           have h3':kw h2 (.rows ty1 p1 T1 xs1)=af b:=I;exact jQ (h3'.symm.trans h6)
          |dead p1 s1 n1=>
           have h3':kw h2 (.dead p1 s1 n1)=af b:=I;exact jQ (h3'.symm.trans h6)
          |mp K1 V1 es1=>
           have h3':kw h2 (.mp K1 V1 es1)=af b:=I;exact jQ (h3'.symm.trans h6)
         subst this;exact jX.refl hdom b⟩
     refine ⟨⟨hV.rep c.rep,?_,c.dom,c.low,⟨λi ty' l2 hg=>?_,λi b hg=>?_⟩,?_,c.inert,c.size⟩,⟨Ki.refl _ _,λk _ hk=>hdom.own hk,λ_ _=>rfl⟩,?_⟩
     .intro t x J;simp only[fM,PT.get_updI] at J;cases he:s.e.get t with
      |none=>rw[he] at J;cases J
      |some v=>
       rw[he] at J;obtain⟨z,hz⟩:=pU s.h v (c.invE t v he);simp only[ca,aH,M5 hr hrow v z hz,ak] at J;subst J;exact (c.env t _ (by simp only[fM,he,aH,hz])).dom hdom
     .rw[nL] at hg;by_cases e:i=id
      .rw[aE e] at hg;cases hg
      .rw[aB e] at hg;cases Y:s.h.get i with
       |none=>rw[Y] at hg;split at hg<;>cases hg
       |some b0=>
        rw[Y] at hg;split at hg
        .simp only[ca,ak] at hg;cases b0<;>simp[uP] at hg
        .simp only[ca,ak] at hg;cases b0 with
         |cells ty0 l0=>
          simp only[WA,ip.cells.injEq] at hg;obtain⟨_,rfl⟩:=hg;obtain⟨l0',U⟩:=fh s.h l0 (c.invH.cells i ty0 l0 Y);exact kH _ _ _ (vG hr hrow l0 l0' U)
         |_=>cases hg
     .rw[nL] at hg;by_cases e:i=id
      .subst e;exact hidlt
      .rw[aB e] at hg;cases Y:s.h.get i with
       |none=>rw[Y] at hg;split at hg<;>cases hg
       |some b0=>exact c.invH.low i b0 Y
     .intro t x J;simp only[PT.get_updI] at J;cases he:s.e.get t with
      |none=>rw[he] at J;cases J
      |some v=>
       rw[he] at J;simp only[ca,ak] at J;subst J;obtain⟨z,hz⟩:=pU s.h v (c.invE t v he);exact Ep _ _ _ (M5 hr hrow v z hz)
     .intro k _ v' M;simp only[PT.get_updI] at M;cases he:s.e.get k with
      |none=>rw[he] at M;cases M
      |some v=>
       rw[he] at M;simp only[ca,ak] at M;subst M;exact⟨v,rfl,λhf=>LQ _ _ _ v hf⟩
   .cases hp
  .cases hp
 .cases hp
theorem ajj {φ:PM} {s:TS} {a:Act} {w:World} (c:oH P E nt np φ s a w) {k off:Nat} {s':TS} (h:OC s (.ren k off)=af s'):∃ φ',oH P E nt np φ' s' a w/\BY np φ φ' (bA s.h) (bA s'.h) w w/\gm (oc [.ren k off] 0) s.e s'.e:=by
 simp only[OC] at h;split at h
 .rename_i b o hk;split at h
  .rename_i cty l hb;split at h
   .rename_i id hv;split at h
    .rename_i ty p T xs J;simp only[ak] at h;subst h;have hfr:=c.invH.fresh;have hidlt:=c.invH.low id _ J;have hblt:=c.invH.low b _ hb;have hbid:b≠id:=λe=>by rw[e,J] at hb;cases hb
     have hbn:b≠s.nx:=by omega
     have hin:id≠s.nx:=by omega
     generalize hh2:(((s.h.set id (af (.dead p T.size xs.length))).set s.nx (af (.rows ty p T xs))).set b (af (.cells cty (splice l (o+off) [.row s.nx]))))=h2;have nL:∀ i,h2.get i=if i=b then af (.cells cty (splice l (o+off) [.row s.nx])) else if i=s.nx then af (.rows ty p T xs) else if i=id then af (.dead p T.size xs.length) else s.h.get i:=λi=>by
      rw[<- hh2,PT.get_set,PT.get_set,PT.get_set]
     have hr:cj s.h h2:=λi r hi=>by
      rw[bU] at hi ⊢;rw[nL];by_cases e1:i=b
      .subst e1;rw[hb] at hi;cases hi
      .rw[aB e1];by_cases e2:i=s.nx
       .subst e2;rw[hfr] at hi;cases hi
       .rw[aB e2];by_cases e3:i=id
        .subst e3;rw[aE rfl];rw[J] at hi;exact hi
        .rw[aB e3];exact hi
     have hlo:=c.invH.cells b cty l hb;obtain⟨Z,hl'⟩:=fh s.h l hlo;have hrow:co h2 (.row s.nx)=af (fk p s.nx T.size xs.length):=by
      simp only[co,bU,nL];rw[aB hbn.symm];simp only[bD,aH,mA]
     have hsp:cK h2 (splice l (o+off) [.row s.nx])=af (splice Z (o+off) [fk p s.nx T.size xs.length]):=sh _ (gY hr _ _ hl') (by simp only[cK,hrow]);obtain⟨y,hy,hey⟩:=lZ hl' _ _ hv;have hy0:y=fk p id T.size xs.length:=by
      simp only[co,bU,J,aH,mA,ak] at hey;exact hey.symm
     subst hy0;have hold:bA s.h (nm b)=af ⟨cty,.mx Z⟩:=by rw[bJ,hb];simp only[aH,kw,hl']
     have hnew:bA h2 (nm b)=af ⟨cty,.mx (splice Z (o+off) [fk p s.nx T.size xs.length])⟩:=by
      rw[bJ,nL,aE rfl];simp only[aH,kw,hsp]
     have hdead:bA h2 (nm id)=ah:=by rw[bJ,nL,aB hbid.symm,aB hin,aE rfl];rfl
     have hnx2:bA h2 (nm s.nx)=if p&&xs.length==0 then ah else af ⟨ty,.fz (xs.flatMap (bS T))⟩:=by rw[bJ,nL,aB hbn.symm,aE rfl];rfl
     have hid0:bA s.h (nm id)=if p&&xs.length==0 then ah else af ⟨ty,.fz (xs.flatMap (bS T))⟩:=by rw[bJ,J];rfl
     have hoth:∀ n,n≠nm b->n≠nm s.nx->n≠nm id->bA h2 n=bA s.h n:=λn e1 e2 e3=>kJ c.invH hr λi e=>by
      subst e;rw[nL,aB (λe=>e1 (by rw[e])),aB (λe=>e2 (by rw[e])),aB (λe=>e3 (by rw[e]))]
     have hnb:nm b≠nm s.nx:=λe=>hbn (kN e)
     have hbi:nm b≠nm id:=λe=>hbid (kN e)
     have hni:nm s.nx≠nm id:=λe=>hin (kN e).symm
     have hinv:l9 h2 (s.nx+1):=by
      refine ⟨λi ty2 l2 hil=>?_,λi q hiq=>?_⟩
      .rw[nL] at hil;split at hil
       .simp only[ak,ip.cells.injEq] at hil;obtain⟨_,rfl⟩:=hil;exact kH _ _ _ hsp
       .split at hil
        .cases hil
        .split at hil
         .cases hil
         .exact iU hr l2 (c.invH.cells i ty2 l2 hil)
      .rw[nL] at hiq;split at hiq
       .omega
       .split at hiq
        .omega
        .split at hiq
         .omega
         .have:=c.invH.low i q hiq;omega
     have hE:∀ t x,fM s.e h2 t=af x->fM s.e s.h t=af x:=λt x I=>by
      simp only[fM] at I ⊢;cases he:s.e.get t with
      |none=>rw[he] at I;cases I
      |some q=>
       rw[he] at I;obtain⟨z,hz⟩:=pU s.h q (c.invE t q he);simp only[aH,gz hr q z hz,ak] at I;subst I;simp only[aH,hz]
     by_cases hp:(p&&xs.length==0)=ai
     ·
      have Y:bA h2=bA s.h:=by
       funext n;by_cases e1:n=nm b
       .subst e1;rw[hold,hnew];have:fk p s.nx T.size xs.length=fk p id T.size xs.length:=by unfold fk;rw[aE hp,aE hp]
        rw[this,ym hy]
       .by_cases e2:n=nm s.nx
        .subst e2;rw[hnx2,aE hp,bJ,hfr];rfl
        .by_cases e3:n=nm id
         .subst e3;rw[hdead,hid0,aE hp]
         .exact hoth n e1 e2 e3
      refine ⟨φ,⟨by rw[Y];exact c.rep,λt x I=>by rw[Y];exact c.env t x (hE t x I),λn q hq=>zE (c.dom n q hq),iv c.low,hinv,λt x I=>oq hr x (c.invE t x I),c.inert,c.size⟩,by rw[Y];exact BY.refl _ _ _ _,gm.refl _ _⟩
     .have hid1:bA s.h (nm id)=af ⟨ty,.fz (xs.flatMap (bS T))⟩:=by rw[hid0,aB hp]
      obtain⟨kk,k1,k2,ob,k3,k4⟩:=c.rep.at_ _ _ hid1;have hφn:φ (nm s.nx)=ah:=by
       cases hq:φ (nm s.nx) with
       |none=>rfl
       |some q=>have:=c.dom _ q hq;rw[dX] at this;omega
      let nw:HF:=λn=>if n=nm s.nx then af ⟨ty,.fz (xs.flatMap (bS T))⟩ else ah
      have hsh:EP w w kk ob:=⟨rfl,rfl,rfl,rfl,k3,λ_ _=>rfl,λ_=>rfl⟩
      obtain⟨φ',p1,p2,p3,p4⟩:=c.rep.wren hid1 k1 hφn hsh k4 nw (by simp[nw]) (by simp only[nw];rw[aB hni.symm]);have hb1:eO (bA s.h) [nm s.nx,nm id] nw (nm b)=af ⟨cty,.mx Z⟩:=by
       unfold eO;rw[aB (by simp[hnb,hbi]),hold]
      obtain⟨kb,b1,b2,ob2,b3,b4⟩:=p4.at_ _ _ hb1;have hlt:o+off<Z.length:=by
       rcases bZ (o+off) Z.length with h'|h'
       .exact h'
       .rw[bQ h'] at hy;cases hy
      have hob:js φ' (tot E φ' (eO (bA s.h) [nm s.nx,nm id] nw)) w ⟨cty,.mx (splice Z (o+off) [fk p s.nx T.size xs.length])⟩ ob2:=by
       rw[pw rfl] at b4 ⊢;obtain⟨arr,a1,a2⟩:=b4;refine ⟨arr,a1,?_⟩;unfold ve at a2 ⊢;refine ⟨by simp only[BC.len] at a2 ⊢;rw[ol (by simp;omega)];exact a2.1,λj x I=>?_⟩;simp only[BC.get] at I a2;rw[mz (by simp;omega)] at I;split at I
       .exact a2.2 j x I
       .split at I
        .rename_i h3 M;simp only[eD] at M;have hj:j=o+off:=by omega
         subst hj;simp only[GY,qI,ak] at I;subst I;obtain⟨_,v,a3,a4⟩:=a2.2 _ _ hy;unfold fk at a4 ⊢;rw[aB hp] at a4 ⊢;refine ⟨rfl,v,a3,?_⟩;cases a4 with
         |@row _ _ _ cc q hφq hn hc hs2=>
          have:=p2.sub _ _ k1;rw[this,ak] at hφq;subst hφq;exact .row p1 hn hc hs2
        .exact a2.2 j x I
      obtain⟨q1,q2⟩:=p4.wset hb1 b1 (⟨rfl,rfl,rfl,rfl,b3,λ_ _=>rfl,λ_=>rfl⟩:EP w w kb ob2) hob (λn=>if n=nm b then af ⟨cty,.mx (splice Z (o+off) [fk p s.nx T.size xs.length])⟩ else ah) (by simp);have Y:eO (eO (bA s.h) [nm s.nx,nm id] nw) [nm b] (λn=>if n=nm b then af ⟨cty,.mx (splice Z (o+off) [fk p s.nx T.size xs.length])⟩ else ah)=bA h2:=by
       funext n;by_cases e1:n=nm b
       .subst e1;rw[hnew];simp[eO]
       .by_cases e2:n=nm s.nx
        .subst e2;rw[hnx2,aB hp];simp[eO,nw,hnb.symm]
        .by_cases e3:n=nm id
         .subst e3;rw[hdead];simp[eO,nw,hbi.symm,hni.symm]
         .rw[hoth n e1 e2 e3];simp[eO,e1,e2,e3]
      rw[Y] at q1 q2;have m:=p2.trans q1;refine ⟨φ',⟨q2,λt x I=>m.keep (c.env t x (hE t x I)),λn q hq=>?_,iv c.low,hinv,λt x I=>oq hr x (c.invE t x I),c.inert,c.size⟩,⟨Ki.refl _ _,m.own_,λi hi=>?_⟩,gm.refl _ _⟩
      .rcases p3 n q hq with M|M
       .exact zE (c.dom n q M)
       .simp only[aL] at M;subst M;rw[dX];exact BU _
      .cases hq:φ' (nm i) with
       |none=>
        cases hq2:φ (nm i) with
        |none=>rfl
        |some z=>rw[p2.sub _ _ hq2] at hq;cases hq
       |some z=>
        rcases p3 _ _ hq with M|M
        .exact M.symm
        .simp only[aL] at M;have:=kN M;have:=c.low;omega
    .cases h
   .cases h
  .cases h
 .rename_i id hk;split at h
  .rename_i ty p T xs J;simp only[ak] at h;subst h;have hfr:=c.invH.fresh;have hidlt:=c.invH.low id _ J;have hin:id≠s.nx:=by omega
   generalize hh2:((s.h.set id (af (.dead p T.size xs.length))).set s.nx (af (.rows ty p T xs)))=h2;have nL:∀ i,h2.get i=if i=s.nx then af (.rows ty p T xs) else if i=id then af (.dead p T.size xs.length) else s.h.get i:=λi=>by
    rw[<- hh2,PT.get_set,PT.get_set]
   have hr:cj s.h h2:=λi r hi=>by
    rw[bU] at hi ⊢;rw[nL];by_cases e2:i=s.nx
    .subst e2;rw[hfr] at hi;cases hi
    .rw[aB e2];by_cases e3:i=id
     .subst e3;rw[aE rfl];rw[J] at hi;exact hi
     .rw[aB e3];exact hi
   have hrow:co h2 (.row s.nx)=af (fk p s.nx T.size xs.length):=by
    simp only[co,bU,nL,bD,aH,mA]
   have hrow0:co s.h (.row id)=af (fk p id T.size xs.length):=by
    simp only[co,bU,J,aH,mA]
   have hdead:bA h2 (nm id)=ah:=by rw[bJ,nL,aB hin,aE rfl];rfl
   have hnx2:bA h2 (nm s.nx)=if p&&xs.length==0 then ah else af ⟨ty,.fz (xs.flatMap (bS T))⟩:=by rw[bJ,nL,aE rfl];rfl
   have hid0:bA s.h (nm id)=if p&&xs.length==0 then ah else af ⟨ty,.fz (xs.flatMap (bS T))⟩:=by rw[bJ,J];rfl
   have hoth:∀ n,n≠nm s.nx->n≠nm id->bA h2 n=bA s.h n:=λn e2 e3=>kJ c.invH hr λi e=>by
    subst e;rw[nL,aB (λe=>e2 (by rw[e])),aB (λe=>e3 (by rw[e]))]
   have hni:nm s.nx≠nm id:=λe=>hin (kN e).symm
   have hinv:l9 h2 (s.nx+1):=by
    refine ⟨λi ty2 l2 hil=>?_,λi q hiq=>?_⟩
    .rw[nL] at hil;split at hil
     .cases hil
     .split at hil
      .cases hil
      .exact iU hr l2 (c.invH.cells i ty2 l2 hil)
    .rw[nL] at hiq;split at hiq
     .omega
     .split at hiq
      .omega
      .have:=c.invH.low i q hiq;omega
   have hE:∀ t x,t≠k->fM (s.e.set k (af (.row s.nx))) h2 t=af x->fM s.e s.h t=af x:=λt x ht I=>by
    simp only[fM,PT.get_set] at I ⊢;rw[aB ht] at I;cases he:s.e.get t with
    |none=>rw[he] at I;cases I
    |some q=>
     rw[he] at I;obtain⟨z,hz⟩:=pU s.h q (c.invE t q he);simp only[aH,gz hr q z hz,ak] at I;subst I;simp only[aH,hz]
   have hIE:tm (s.e.set k (af (.row s.nx))) h2:=λt x I=>by
    simp only[PT.get_set] at I;split at I
    .cases I;exact Ep _ _ _ hrow
    .exact oq hr x (c.invE t x I)
   have hKp:gm (oc [.ren k off] 0) s.e (s.e.set k (af (.row s.nx))):=λt ht v' hv'=>by
    simp only[PT.get_set] at hv';split at hv'
    .rename_i et;subst et;simp only[oc] at ht;rw[bu,bX.2 rfl] at ht;simp at ht
    .exact⟨v',hv',λ_=>rfl⟩
   have U:=c.env k (fk p id T.size xs.length) (by simp only[fM,hk,aH,hrow0]);by_cases hp:(p&&xs.length==0)=ai
   .have Y:bA h2=bA s.h:=by
     funext n;by_cases e2:n=nm s.nx
     .subst e2;rw[hnx2,aE hp,bJ,hfr];rfl
     .by_cases e3:n=nm id
      .subst e3;rw[hdead,hid0,aE hp]
      .exact hoth n e2 e3
    have hsame:fk p s.nx T.size xs.length=fk p id T.size xs.length:=by unfold fk;rw[aE hp,aE hp]
    refine ⟨φ,⟨by rw[Y];exact c.rep,λt x I=>?_,λn q hq=>zE (c.dom n q hq),iv c.low,hinv,hIE,c.inert,c.size⟩,by rw[Y];exact BY.refl _ _ _ _,hKp⟩;rw[Y];by_cases ht:t=k
    .subst ht;simp only[fM,PT.get_set,bD,aH,hrow,ak] at I;subst I;rw[hsame];exact U
    .exact c.env t x (hE t x ht I)
   .have hid1:bA s.h (nm id)=af ⟨ty,.fz (xs.flatMap (bS T))⟩:=by rw[hid0,aB hp]
    obtain⟨kk,k1,k2,ob,k3,k4⟩:=c.rep.at_ _ _ hid1;have hφn:φ (nm s.nx)=ah:=by
     cases hq:φ (nm s.nx) with
     |none=>rfl
     |some q=>have:=c.dom _ q hq;rw[dX] at this;omega
    let nw:HF:=λn=>if n=nm s.nx then af ⟨ty,.fz (xs.flatMap (bS T))⟩ else ah
    have hsh:EP w w kk ob:=⟨rfl,rfl,rfl,rfl,k3,λ_ _=>rfl,λ_=>rfl⟩
    obtain⟨φ',p1,p2,p3,p4⟩:=c.rep.wren hid1 k1 hφn hsh k4 nw (by simp[nw]) (by simp only[nw];rw[aB hni.symm]);have Y:eO (bA s.h) [nm s.nx,nm id] nw=bA h2:=by
     funext n;by_cases e2:n=nm s.nx
     .subst e2;rw[hnx2,aB hp];simp[eO,nw]
     .by_cases e3:n=nm id
      .subst e3;rw[hdead];simp[eO,nw,hni.symm]
      .rw[hoth n e2 e3];simp[eO,e2,e3]
    rw[Y] at p2 p4;refine ⟨φ',⟨p4,λt x I=>?_,λn q hq=>?_,iv c.low,hinv,hIE,c.inert,c.size⟩,⟨Ki.refl _ _,p2.own_,λi hi=>?_⟩,hKp⟩
    .by_cases ht:t=k
     .subst ht;simp only[fM,PT.get_set,bD,aH,hrow,ak] at I;subst I;unfold fk at U ⊢;rw[aB hp] at U ⊢;generalize a.tmps.getD t undef=z at U;cases U with
      |@row _ _ _ cc q hφq hn hc hs2=>
       rw[k1,ak] at hφq;subst hφq;exact .row p1 hn hc hs2
     .exact p2.keep (c.env t x (hE t x ht I))
    .rcases p3 n q hq with M|M
     .exact zE (c.dom n q M)
     .simp only[aL] at M;subst M;rw[dX];exact BU _
    .cases hq:φ' (nm i) with
     |none=>
      cases hq2:φ (nm i) with
      |none=>rfl
      |some z=>rw[p2.sub _ _ hq2] at hq;cases hq
     |some z=>
      rcases p3 _ _ hq with M|M
      .exact M.symm
      .simp only[aL] at M;have:=kN M;have:=c.low;omega
  .cases h
 .cases h
theorem ah4 {φ:PM} {s:TS} {a:Act} {w:World} (c:oH P E nt np φ s a w) {Z:Adj} {s':TS} (h:OC s Z=af s') (hnr:∀ k off,Z≠ .ren k off):oH P E nt np φ s' a w/\BY np φ φ (bA s.h) (bA s'.h) w w/\gm (oc [Z] 0) s.e s'.e:=by
 cases Z with
 |ren k off=>exact cZ rfl (hnr k off)
 |nil k ty T=>
  simp only[OC] at h;split at h
  .rename_i v hv;split at h
   .rename_i hn;simp only[ak] at h;subst h;obtain⟨J,M,hr⟩:=Wo c ty T;refine ⟨⟨J.rep,?_,J.dom,J.low,J.invH,?_,J.inert,J.size⟩,by rw[M];exact BY.refl _ _ _ _,?_⟩
    .intro t x I;simp only[fM,PT.get_set] at I;split at I
     .rename_i et;subst et;simp only[aH,co,bU,PT.get_set,bD,mA,fk,jS,cU,kD,ak] at I;subst I;obtain⟨z,Y⟩:=pU s.h v (c.invE _ v hv);rw[M];exact Qv hn Y _ _ _ _ (c.env _ _ (by simp only[fM,hv,aH,Y]))
     .exact J.env t x I
    .intro t x I;simp only[PT.get_set] at I;split at I
     .cases I;simp only[KC,bU,PT.get_set,bD];rfl
     .exact J.invE t x I
    .intro t ht v' U;simp only[PT.get_set] at U;split at U
     .rename_i et;subst et;simp only[oc] at ht;rw[bu,bX.2 rfl] at ht;simp at ht
     .exact⟨v',U,λ_=>rfl⟩
   .simp only[ak] at h;subst h;exact⟨c,BY.refl _ _ _ _,gm.refl _ _⟩
  .cases h
 |cel k off ty T=>
  simp only[OC] at h;split at h
  .rename_i id o hk;split at h
   .rename_i cty l hb;split at h
    .rename_i v hv;split at h
     .rename_i hn;simp only[ak] at h;subst h;obtain⟨J,M,hr⟩:=Wo c ty T;have hid:id≠s.nx:=λe=>by have:=c.invH.low id _ hb;omega
      obtain⟨c2,t2⟩:=aab J (id:=id) (cty:=cty) (l:=l) (v:=v) (u:=.row s.nx) (by show (s.h.set s.nx _).get id=_;rw[PT.get_set,aB hid];exact hb) hv hn (by simp only[co,bU,PT.get_set,bD,aH,mA,fk,jS,cU,kD]) (by simp only[KC,bU,PT.get_set,bD];rfl);exact⟨c2,by rw[<- M];exact t2,gm.refl _ _⟩
     .simp only[ak] at h;subst h;exact⟨c,BY.refl _ _ _ _,gm.refl _ _⟩
    .cases h
   .cases h
  .cases h
 |mpt k K V=>
  simp only[OC] at h;split at h
  .rename_i id hk;split at h
   .rename_i K' V' es hb;split at h
    .rename_i hE;simp only[ak] at h;subst h;have hr:cj s.h (s.h.set id (af (.mp K V []))):=cj.set λr hr=>by rw[bU,hb] at hr;cases hr
     have M:bA (s.h.set id (af (.mp K V [])))=bA s.h:=by
      funext n;by_cases hn:n=nm id
      .subst hn;rw[bJ,bJ,PT.get_set,aE rfl,hb];simp only[aH,kw,Bu (agd (gW.1 hE).1),Bu (gW.1 hE).2,Ta (gW.1 hE).1,List.map_nil]
      .refine kJ c.invH hr λi e=>?_
       subst e;rw[PT.get_set,aB (λe=>hn (by rw[e]))]
     refine ⟨⟨by rw[M];exact c.rep,?_,c.dom,c.low,c.invH.set hr (c.invH.low id _ hb) (bT _) (λ_ _ he=>by cases he),λt x I=>oq hr x (c.invE t x I),c.inert,c.size⟩,by rw[M];exact BY.refl _ _ _ _,gm.refl _ _⟩;intro t x I;rw[M];simp only[fM] at I;cases he:s.e.get t with
     |none=>rw[he] at I;cases I
     |some q=>
      rw[he] at I;obtain⟨z,Y⟩:=pU s.h q (c.invE t q he);simp only[aH,gz hr q z Y,ak] at I;subst I;exact c.env t _ (by simp only[fM,he,aH,Y])
    .simp only[ak] at h;subst h;exact⟨c,BY.refl _ _ _ _,gm.refl _ _⟩
   .cases h
  .cases h
 |pk k off T=>
  simp only[OC] at h;split at h
  .obtain⟨h1,h2,h3⟩:=ajn c h;exact⟨h1,h2,h3.mono λk hk=>by simp at hk⟩
  .cases h
theorem ah3 {φ:PM} {s:TS} {a:Act} {w:World} (c:oH P E nt np φ s a w) {I:Adj} {s':TS} (h:OC s I=af s'):∃ φ',oH P E nt np φ' s' a w/\BY np φ φ' (bA s.h) (bA s'.h) w w/\gm (oc [I] 0) s.e s'.e:=by
 by_cases hn:∃ k off,I= .ren k off
 .obtain⟨k,off,rfl⟩:=hn;exact ajj c h
 .exact⟨φ,ah4 c h λk off e=>hn ⟨k,off,e⟩⟩
theorem UX {φ:PM} {a:Act} {w:World}:∀ {l:List Adj} {s s':TS},oH P E nt np φ s a w->XS s l=af s'->∃ φ',oH P E nt np φ' s' a w/\BY np φ φ' (bA s.h) (bA s'.h) w w/\gm (oc l 0) s.e s'.e
 |[],s,s',c,h=>by simp only[XS,ak] at h;subst h;exact⟨φ,c,BY.refl _ _ _ _,gm.refl _ _⟩
 |I::r,s,s',c,h=>by
  simp only[XS] at h;split at h
  .rename_i s1 h1;obtain⟨φ1,U,t1,k1⟩:=ah3 c h1;obtain⟨φ2,M,J,k2⟩:=UX U h;refine ⟨φ2,M,t1.trans J,(k1.mono ?_).trans (k2.mono ?_)⟩
   .intro k hk;cases I with
    |nil q ty T=>simp only[oc] at hk ⊢;rw[l8,bu,hk];rfl
    |cel q off ty T=>simp[oc] at hk
    |mpt q K V=>simp[oc] at hk
    |pk q off T=>simp[oc] at hk
    |ren q off=>simp only[oc] at hk ⊢;rw[l8,bu,hk];rfl
   .intro k hk;cases I with
    |nil q ty T=>simp only[oc];rw[l8,bu,hk];simp
    |cel q off ty T=>simp only[oc];exact hk
    |mpt q K V=>simp only[oc];exact hk
    |pk q off T=>simp only[oc];exact hk
    |ren q off=>simp only[oc];rw[l8,bu,hk];simp
  .cases h
mutual
theorem Qn {h:bh}:∀ (v:TV) (y:AV),t7 v=ai->co h v=af y->y.all (λ_=>aj)=ai
 |.f _ _,y,_,he=>by simp only[co,ak] at he;subst he;rfl
 |.fel _ _ _ _ _,y,_,he=>by simp only[co,ak] at he;subst he;rfl
 |.emp,y,_,he=>by simp only[co,ak] at he;subst he;rfl
 |.nil,y,_,he=>by simp only[co,ak] at he;subst he;rfl
 |.undef,y,_,he=>by simp only[co,ak] at he;subst he;rfl
 |.np,y,_,he=>by simp only[co,ak] at he;subst he;rfl
 |.anyb,y,_,he=>by simp only[co,ak] at he;subst he;rfl
 |.agg l,y,hl,he=>by
  simp only[co] at he;split at he
  .rename_i l' hl';simp only[ak] at he;subst he;exact El l l' hl hl'
  .cases he
 |.tup l,y,hl,he=>by
  simp only[co] at he;split at he
  .rename_i l' hl';simp only[ak] at he;subst he;exact El l l' hl hl'
  .cases he
 |.pel _ _ _ _,_,h,_=>by cases h
 |.ptr _ _,_,h,_=>by cases h
 |.csl _ _ _,_,h,_=>by cases h
 |.row _,_,h,_=>by cases h
 |.rtl _ _,_,h,_=>by cases h
 |.mp _,_,h,_=>by cases h
 |.clo _ _,_,h,_=>by cases h
theorem El {h:bh}:∀ (l:List TV) (l':List AV),qj l=ai->cK h l=af l'->AV.allL (λ_=>aj) l'=ai
 |[],l',_,he=>by simp only[cK,ak] at he;subst he;rfl
 |x::r,l',hl,he=>by
  obtain⟨y,l2,rfl,e1,e2⟩:=cY he;simp only[qj,av] at hl;simp only[AV.allL,av];exact⟨Qn x y hl.1 e1,El r l2 hl.2 e2⟩
end
mutual
theorem VS (h:bh):∀ (v:TV),t7 v=ai->KC h v=ai
 |.f _ _,_=>rfl
 |.fel _ _ _ _ _,_=>rfl
 |.emp,_=>rfl
 |.nil,_=>rfl
 |.undef,_=>rfl
 |.np,_=>rfl
 |.anyb,_=>rfl
 |.agg l,hl=>IH h l hl
 |.tup l,hl=>IH h l hl
 |.pel _ _ _ _,h=>by cases h
 |.ptr _ _,h=>by cases h
 |.csl _ _ _,h=>by cases h
 |.row _,h=>by cases h
 |.rtl _ _,h=>by cases h
 |.mp _,h=>by cases h
 |.clo _ _,h=>by cases h
theorem IH (h:bh):∀ (l:List TV),qj l=ai->kM h l=ai
 |[],_=>rfl
 |x::r,hl=>by
  simp only[qj,av] at hl;simp only[kM,av];exact⟨VS h x hl.1,IH h r hl.2⟩
end
structure Seen (np:Nat) (t:Tm) (x:t.ty.den) (us:List TV) (h1:bh) (φ φ':PM) (H:HF) (E:Nat->Prop) (w:World) (la lu:List AV):Prop where
 rep:qP φ' E (bA h1) w
 val:∀ (j:Nat) y v,lu[j]? =af y->∃ z,la[j]? =af z/\(cL φ (tot E φ H) w z v->cL φ' (tot E φ' (bA h1)) w y v)
 len:lu.length=la.length
 tot_:∀ k,tot E φ' (bA h1) k->tot E φ H k
 own_:∀ k,own φ' (bA h1) k->own φ H k
 dom:∀ n k,φ' n=af k->ow n<t.bs.length
 par:∀ i,i<np->i<t.bs.length->φ' (nm i)=φ (nm i)
theorem Kx {t:Tm} {x:t.ty.den} {us:List TV} {h1:bh} {l1:List (Option ip)} (I:qE t x us h1 l1) {h:bh} {nx:Nat} (hinv:l9 h nx) {vs:List TV} {m:Nat} {σ:PT Nat} {sm:Nat} (M:Hn np t vs h x m σ sm) {la:List AV} (hla:cK h vs=af la) {φ:PM} {w:World} (r:qP φ E (bA h) w):∃ φ' lu,cK h1 us=af lu/\Seen np t x us h1 φ φ' (bA h) E w la lu:=by
 obtain⟨x1,m1,x2,m2,hx,hmm,gv,gb⟩:=M.ex;have hmr:dQ h m:=by rw[hmm];exact (Hc _ _ _ _ gv).or (He _ _ _ _ gb)
 have pvg:pQ (ic σ) t.vs x1=af (ku (ic σ) us):=by
  have U:=tw (ic σ) t.vs x1;have J:=I.pv;rw[hx,s_] at J;rw[U,J];rfl
 have pbg:oo (ic σ) t.bs x2=af (l1.map (lK (lO (ic σ)))):=by
  have U:=vJ (ic σ) t.bs x2;have J:=I.pb;rw[hx,uJ] at J;rw[U,J];rfl
 have hbm:∀ i b,l1[i]? =af (af b)->∃ b0,h.get (ic σ i)=af b0/\BM (ic σ) h m b0 (lO (ic σ) b):=λi b hb=>by
  obtain⟨b0,Y,Z⟩:=IF t.bs 0 x2 m2 _ gb pbg i (lO (ic σ) b) (by rw[bc,hb];rfl);rw[bN] at Y;exact⟨b0,Y,Z.mono λj hj=>by rw[hmm,bu,hj];simp⟩
 let hv:bh:=Ad (ic σ) 0 (l1.map (lK (lO (ic σ)))) PT.leaf
 have hv_at:∀ i b,l1[i]? =af (af b)->hv.get (ic σ i)=af (lO (ic σ) b):=λi b hb=>by
  have:=uO (ic σ) (l1.map (lK (lO (ic σ)))) 0 PT.leaf (λa b ha hb=>by
   simp only[cf,I.len] at ha hb;simp only[bN];exact M.inj a b ha hb) i (af (lO (ic σ) b)) (by rw[bc,hb];rfl)
  rw[bN] at this;exact this
 have hv_ex:∀ j c,hv.get j=af c->∃ i b,l1[i]? =af (af b)/\j=ic σ i/\c=lO (ic σ) b:=λj c hj=>by
  by_cases hex:∃ i,i<l1.length/\j=ic σ i
  .obtain⟨i,hi,rfl⟩:=hex;have hcc:=aA hi;cases hcv:l1[i] with
   |some b=>rw[hcv] at hcc;rw[hv_at i b hcc] at hj;cases hj;exact⟨i,b,hcc,rfl,rfl⟩
   |none=>
    rw[hcv] at hcc;have:=uO (ic σ) (l1.map (lK (lO (ic σ)))) 0 PT.leaf (λa b ha hb=>by
     simp only[cf,I.len] at ha hb;simp only[bN];exact M.inj a b ha hb) i ah (by rw[bc,hcc];rfl)
    rw[bN] at this;have hj':(Ad (ic σ) 0 (l1.map (lK (lO (ic σ)))) PT.leaf).get (ic σ i)=af c:=hj;rw[this] at hj';simp[PT.get] at hj'
  .have:hv.get j=(PT.leaf:bh).get j:=uN (ic σ) _ 0 _ j λk hk=>by
    simp only[cf] at hk;rw[bN];exact λe=>hex ⟨k,hk,e⟩
   rw[this] at hj;simp[PT.get] at hj
 have rows_in:xy hv h:=λj q hq=>by
  rw[bU] at hq ⊢;cases hc:hv.get j with
  |none=>rw[hc] at hq;cases hq
  |some c=>
   rw[hc] at hq;obtain⟨i,b,Y,rfl,rfl⟩:=hv_ex j c hc;obtain⟨b0,Z,q3⟩:=hbm i b Y;rw[Z];simp only[aH] at hq ⊢;rw[<- q3.row];exact hq
 have rows_h1:∀ i q,em h1 i=af q->em hv (ic σ i)=af q:=λi q hq=>by
  rw[bU] at hq ⊢;cases hb:h1.get i with
  |none=>rw[hb] at hq;cases hq
  |some b=>
   rw[hb] at hq;rw[hv_at i b ((I.at_ i b).1 hb)];simp only[aH,HG] at hq ⊢;exact hq
 have hd:vb (bA h) (bA hv):=λn y hy=>by
  obtain⟨j,c,rfl,U,J⟩:=jw hy;obtain⟨i,b,Y,rfl,rfl⟩:=hv_ex j c U;obtain⟨b0,Z,q3⟩:=hbm i b Y;obtain⟨y0,hy0⟩:=BM.erB_some hinv Z q3 J;exact⟨y0,by rw[bJ,Z];exact hy0⟩
 have gvv:DG h (bA h) (bA hv) m:=λi hi=>⟨rfl,by
  cases hc:bA hv (nm i) with
  |none=>rfl
  |some y=>
   obtain⟨j,c,e,U,J⟩:=jw hc;have:=kN e;subst this;obtain⟨k,b,Y,rfl,rfl⟩:=hv_ex i c U;have hk:k<t.bs.length:=by rw[<- I.len];exact (bk.1 Y).1
   have h5:=M.disj _ hi;rw[(M.sig _).2 ⟨k,hk,rfl⟩] at h5;cases h5⟩
 have V:J7 (bA h) (bA hv):=⟨hd,λn b b' hb hb'=>by
  obtain⟨j,c,rfl,U,J⟩:=jw hb';obtain⟨i,bb,Y,rfl,rfl⟩:=hv_ex j c U;obtain⟨b0,Z,q3⟩:=hbm i bb Y;rw[bJ,Z] at hb;exact BM.view hd gvv rows_in q3 hb J⟩
 have rv:=V.rep r;have T:adx t x us h1 (ic σ) φ E E (bA hv) w:=by
  refine qP.toId I M.inj rv (λi b yb hb hyb=>?_) (λk hk=>.inl hk) (λi k b hi U J hE=>?_) rv.el
  .rw[bJ,hv_at i b ((I.at_ i b).1 hb)];exact CP rows_h1 hyb
  .obtain⟨k',p1,p2,_⟩:=rv.at_ _ _ U;rw[J] at p1;cases p1;exact p2 hE
 obtain⟨lu,hlu⟩:=fh h1 us I.ok;have hlug:cK hv (ku (ic σ) us)=af (AV.renL (Hf (ic σ)) lu):=qu rows_h1 us lu hlu;have hle:=CJ hd rows_in t.vs vs x1 m1 _ la _ gv pvg hla hlug (λi hi=>gvv i (by rw[hmm,bu,hi];rfl));have hall:=s7 us lu I.lt hlu;refine ⟨_,lu,hlu,T.rep,λj y v hy=>?_,?_,λk hk=>hd.tot (T.tot_ k hk),λk hk=>hd.own (T.own_ k hk),λn k hk=>?_,λi hi hb=>?_⟩
 .rw[om] at hle;obtain⟨z,hz,hlz⟩:=hle.get j (y.ren (Hf (ic σ))) (by rw[bc,hy];rfl);exact⟨z,hz,λhr=>T.val y v (l7 hall y (ba hy)) (hlz _ _ _ _ r hr)⟩
 .have:=hle.length;rw[om,cf] at this;exact this
 .obtain⟨i,hi,rfl,_⟩:=wM hk;rw[dX];exact hi
 .rw[YB hb,M.fix i hi]
theorem Nn {φ:PM} {s':TS} {a:Act} {w:World} (c:oH P E nt np φ s' a w) {A:Yy} {am:Nat} {s0 s1:TS} {x:A.D} (J:Lb np A am s0 s'=af x) (hs:F' A am s0 x=af s1)
 (hk:∀ k,k∈A.keep->k∉A.ks->∀ v,s0.e.get k=af v->t7 v=ai->aM am k=aj->∀ Z,s'.e.get k=af Z->Z=v):∃ φ',oH P E nt np φ' s1 a w/\BY np φ φ' (bA s'.h) (bA s1.h) w w:=by
 unfold Lb at J;split at J
 .rename_i hc;simp only[av] at hc;have hnp:=a_ hc.1;split at J
  .rename_i s2 h2;obtain⟨φ2,c2,t2,_⟩:=UX c h2;split at J
   .rename_i vs hvs;split at J
    .rename_i z m σ sm hM;simp only[ak] at J;subst J;have M:=vT hM;unfold F' at hs;split at hs
     .rename_i us h1 hi;obtain⟨l1,I⟩:=vY hi;split at hs
      .rename_i hlen;have hlen:=aw hlen;simp only[ak] at hs;subst hs;obtain⟨g1,g2⟩:=VQ hvs;have hvok:kM s2.h vs=ai:=HU c2.invE hvs;obtain⟨la,hla⟩:=fh s2.h vs hvok;obtain⟨φ',lu,hlu,S⟩:=Kx (E:=E) I c2.invH M hla c2.rep;refine ⟨φ',⟨S.rep,?_,S.dom,hnp,⟨λi ty l hl=>(I.cells i ty l hl).1,λi b hb=>I.lt_len hb⟩,?_,c.inert,c.size⟩,t2.trans ⟨Ki.refl _ _,λk _ h=>S.own_ k h,λi hi=>S.par i hi (by omega)⟩⟩
       .intro t y U;simp only[fM] at U;cases ht:(WD (Cw am s0.e A.keep) A.ks us).get t with
        |none=>rw[ht] at U;cases U
        |some v=>
         rw[ht] at U;simp only[aH] at U;rcases B9 hlen t v ht with ⟨j,q1,Y⟩|⟨q1,Y⟩
         .obtain⟨y',p1,p2⟩:=lZ hlu j v Y;rw[U] at p2;cases p2;obtain⟨z,p3,p4⟩:=S.val j y (a.tmps.getD t undef) p1;refine p4 ?_;obtain⟨v0,p5,p6⟩:=g2 j t q1;obtain⟨z',p7,p8⟩:=lZ hla j v0 p5;rw[p3] at p7;cases p7;exact c2.env t _ (by simp only[fM,p6,aH,p8])
         .obtain⟨k1,k2,k3,k4⟩:=tD Y;obtain⟨Z,k5⟩:=Ic hc.2 t v k1 k2 k3 k4;have:=hk t k1 q1 v k2 k3 k4 Z k5;subst this;have h3:=c.env t y (by simp only[fM,k5,aH];rw[Qw s'.h h1 Z k3];exact U);exact h3.restrict (p:=λ_=>aj) (λi k hi _=>by cases hi) (λk hk=>by
           have h4:=S.tot_ k hk;rcases h4 with h4|h4
           .exact .inl h4
           .exact .inr (by
             have hkl:k<w.heap.size:=by
              obtain⟨n,b,e1,e2⟩:=h4;obtain⟨k',p1,_,ob,p3,_⟩:=c2.rep.at_ n b e1;rw[e2] at p1;cases p1;exact (cC.1 p3).1
             exact t2.own_ k hkl h4)) (Qn Z y k3 U)
       .intro t v hv;rcases B9 hlen t v hv with ⟨j,q1,Y⟩|⟨q1,Y⟩
        .obtain⟨y',_,p2⟩:=lZ hlu j v Y;exact Ep _ _ _ p2
        .exact VS _ v (tD Y).2.2.1
      .cases hs
     .cases hs
    .cases J
   .cases J
  .cases J
 .cases J
theorem DM {A:Yy} {am:Nat} {I s1:TS} {x:A.D} (hs:F' A am I x=af s1):gm (KH A.ks 0) I.e s1.e/\∀ k,k∉A.ks->∀ v,s1.e.get k=af v->I.e.get k=af v:=by
 unfold F' at hs;split at hs
 .rename_i us h1 hi;split at hs
  .rename_i hlen;have hlen:=aw hlen;simp only[ak] at hs;subst hs;have key:∀ k,k∉A.ks->∀ v,(WD (Cw am I.e A.keep) A.ks us).get k=af v->I.e.get k=af v:=λk hk v hv=>by
    rcases B9 hlen k v hv with ⟨j,U,_⟩|⟨_,M⟩
    .exact cZ (ba U) hk
    .exact (tD M).2.1
   refine ⟨λk hk J hv=>?_,key⟩;have hnk:k∉A.ks:=λhm=>by rw[VF hm] at hk;cases hk
   exact⟨J,key k hnk J hv,λ_=>rfl⟩
  .cases hs
 .cases hs
end walk
inductive Er:TC->SC->Prop
 |skip:Er .skip .skip
 |reg (ops:List su) (prs:List (Nat×Nat)):Er (.reg ops prs) (.reg ops prs)
 |seq {a b:TC} {a' b':SC}:Er a a'->Er b b'->Er (.seq a b) (.seq a' b')
 |jseq (A:Yy) {a b:TC} {a' b':SC}:Er a a'->Er b b'->Er (.jseq A a b) (.seq a' b')
 |cond (c:Nat) {a b:TC} {a' b':SC}:Er a a'->Er b b'->Er (.cond c a b) (.cond c a' b')
 |block (id:Nat) {b:TC} {b':SC}:Er b b'->Er (.block id b) (.block id b')
 |jblock (A:Yy) (id:Nat) {b:TC} {b':SC}:Er b b'->Er (.jblock A id b) (.block id b')
 |loop (A:Yy) {b:TC} {b':SC}:Er b b'->Er (.loop A b) (.loop b')
 |exit (id:Nat):Er (.exit id) (.exit id)
 |ret:Er .ret .ret
 |defer (f:FuncId) (c:List Operand) (t:Nat):Er (.defer f c t) (.defer f c t)
 |adj (l:List Adj) {c:TC} {c':SC}:Er c c'->Er (.adj l c) c'
 |split (k off lo n:Nat) {c:TC} {c':SC}:Er c c'->Er (.split k off lo n c) c'
 |unl (n:Nat) {b:TC} {b':SC}:Er b b'->Er (.unl n b) (.loop b')
 |bad (c:SC):Er .bad c
theorem B2 {H:PT ab4} {n:Nat} {c:TC} {c':SC} (h:Er c c'):Er (Hs H n c) c':=by
 unfold Hs;split
 .exact .adj _ h
 .exact .split _ _ _ _ h
 .exact h
theorem xu (H:PT ab4):∀ (c:SC) (n:Nat),Er (Dg H c n).1 c
 |.skip,n=>B2 .skip
 |.reg o p,n=>B2 (.reg o p)
 |.seq a b,n=>by
  have h1:=xu H a (n+1);have h2:=xu H b (Dg H a (n+1)).2;simp only[Dg];split
  .exact .jseq _ h1 h2
  .exact .seq h1 h2
 |.cond c a b,n=>by
  have h1:=xu H a (n+1);have h2:=xu H b (Dg H a (n+1)).2;simp only[Dg];exact B2 (.cond c h1 h2)
 |.block id b,n=>by
  have h1:=xu H b (n+1);simp only[Dg];split
  .exact .jblock _ id h1
  .exact .block id h1
 |.loop b,n=>by
  have h1:=xu H b (n+1);simp only[Dg];split
  .exact .loop _ h1
  .exact .unl _ h1
  .exact .bad _
 |.exit id,n=>B2 (.exit id)
 |.ret,n=>B2 .ret
 |.defer f c t,n=>.defer f c t
 |.bad,n=>.bad _
theorem WV {σ R:Type} {step:σ->Option (σ⊕R)} {x:σ} {r:R} (h:iter step x=af r):∃ n,iterN step n x=af r:=by
 unfold iter at h;split at h
 .exact⟨_,h⟩
 .cases h
theorem VH {α R:Type} {o:Option (R⊕α)} {k:α->Option R} {r:R} (h:jn o k=af r):(∃ x,o=af (.inr x)/\k x=af r)\/o=af (.inl r):=by
 unfold jn at h;split at h
 .exact .inl ⟨_,rfl,h⟩
 .cases h;exact .inr rfl
 .cases h
section inv
variable {P:Program} {nt:Nat}
theorem zh (id:Nat) (ops:Array Oper) (I:Bool):cq P nt (.region id ops I)= .bad\/
 ((ops.toList.all λo=>match o.dst with|some d=>decide (d<nt)|none=>ai)=ai/\
   ((∃ f caps t,Df ops I=af (f,caps,t)/\cq P nt (.region id ops I)= .defer f caps t)\/
    ∃ l prs,rS P ops ops.toList=af l/\LY ops l=af prs/\cq P nt (.region id ops I)= .reg l prs)):=by
 simp only[cq];split
 .rename_i hd;split
  .rename_i f caps t h;exact .inr ⟨hd,.inl ⟨f,caps,t,h,rfl⟩⟩
  .split
   .rename_i l hl;split
    .rename_i prs hp;exact .inr ⟨hd,.inr ⟨l,prs,hl,hp,rfl⟩⟩
    .exact .inl rfl
   .exact .inl rfl
 .exact .inl rfl
def DS:Code->Bool
 |.cond (.const (.bool _)) _ _=>aj
 |_=>ai
theorem j7 (P:Program) (nt:Nat) (c:Code):∃ c',DS c'=ai/\cq P nt c'=cq P nt c/\∀ Q a w,c'.wp P Q a w->c.wp P Q a w:=by
 have self:∀ c:Code,DS c=ai->∃ c',DS c'=ai/\cq P nt c'=cq P nt c/\∀ Q a w,c'.wp P Q a w->c.wp P Q a w:=λc h=>⟨c,h,rfl,λ_ _ _ h=>h⟩
 induction c with
 |cond o x y ihx ihy=>
  cases o with
  |const v=>
   cases v with
   |bool b=>
    cases b with
    |true=>
     obtain⟨c',h1,h2,I⟩:=ihx;exact⟨c',h1,h2,λQ a w h=>wp_cond_true rfl (I Q a w h)⟩
    |false=>
     obtain⟨c',h1,h2,I⟩:=ihy;exact⟨c',h1,h2,λQ a w h=>wp_cond_false rfl (I Q a w h)⟩
   |_=>exact self _ rfl
  |_=>exact self _ rfl
 |_=>exact self _ rfl
theorem Fa {α:Prop} {o:Operand} {x y:Code} {sc:SC} (hn:DS (.cond o x y)=ai) (h:cq P nt (.cond o x y)=sc) (h1:sc≠ .bad) (h2:∀ t a b,sc≠ .cond t a b):α:=by
 cases o with
 |tmp q=>exact (h2 _ _ _ h.symm).elim
 |const v=>cases v<;>first|exact (h1 h.symm).elim|cases hn
 |global g=>exact (h1 h.symm).elim
 |func f=>exact (h1 h.symm).elim
theorem acm {c:Code} {sl:List su} {prs:List (Nat×Nat)} (hn:DS c=ai) (h:cq P nt c= .reg sl prs):∃ id ops I,c= .region id ops I/\(ops.toList.all λo=>match o.dst with|some d=>decide (d<nt)|none=>ai)=ai/\rS P ops ops.toList=af sl/\LY ops sl=af prs:=by
 cases c with
 |region id ops I=>
  rcases zh (P:=P) (nt:=nt) id ops I with h1|⟨hd,⟨f,caps,t,_,h1⟩|⟨l,p,h2,J,h1⟩⟩
  .rw[h1] at h;cases h
  .rw[h1] at h;cases h
  .rw[h1] at h;cases h;exact⟨id,ops,I,rfl,hd,h2,J⟩
 |cond o x y=>exact Fa hn h (by simp) (by simp)
 |_=>simp[cq] at h
theorem WY {c:Code} {f:FuncId} {caps:List Operand} {t:Nat} (hn:DS c=ai) (h:cq P nt c= .defer f caps t):∃ id ops I,c= .region id ops I/\(ops.toList.all λo=>match o.dst with|some d=>decide (d<nt)|none=>ai)=ai/\Df ops I=af (f,caps,t):=by
 cases c with
 |region id ops I=>
  rcases zh (P:=P) (nt:=nt) id ops I with h1|⟨hd,⟨f',caps',t',h2,h1⟩|⟨l,p,h2,J,h1⟩⟩
  .rw[h1] at h;cases h
  .rw[h1] at h;cases h;exact⟨id,ops,I,rfl,hd,h2⟩
  .rw[h1] at h;cases h
 |cond o x y=>exact Fa hn h (by simp) (by simp)
 |_=>simp[cq] at h
theorem o9 {c:Code} {sc:SC} (h:cq P nt c=sc) (h1:sc≠ .bad) (h2:∀ a b,sc≠ .reg a b) (M:∀ a b t,sc≠ .defer a b t):∀ id ops J,c≠ .region id ops J:=by
 rintro id ops J rfl;rcases zh (P:=P) (nt:=nt) id ops J with I|⟨_,⟨f,caps,t,_,I⟩|⟨l,p,_,_,I⟩⟩<;>rw[I] at h
 .exact h1 h.symm
 .exact M _ _ _ h.symm
 .exact h2 _ _ h.symm
theorem Zo {c:Code} (hn:DS c=ai) (h:cq P nt c= .skip):c= .skip:=by
 have I:=o9 h (by simp) (by simp) (by simp);cases c with
 |skip=>rfl
 |region id ops J=>exact cZ rfl (I id ops J)
 |cond o x y=>exact Fa hn h (by simp) (by simp)
 |_=>simp[cq] at h
theorem acl {c:Code} (hn:DS c=ai) (h:cq P nt c= .ret):c= .ret:=by
 have I:=o9 h (by simp) (by simp) (by simp);cases c with
 |ret=>rfl
 |region id ops J=>exact cZ rfl (I id ops J)
 |cond o x y=>exact Fa hn h (by simp) (by simp)
 |_=>simp[cq] at h
theorem Zp {c:Code} {i:Nat} (hn:DS c=ai) (h:cq P nt c= .exit i):c= .exit i:=by
 have I:=o9 h (by simp) (by simp) (by simp);cases c with
 |exit id=>simp[cq] at h;rw[h]
 |region id ops J=>exact cZ rfl (I id ops J)
 |cond o x y=>exact Fa hn h (by simp) (by simp)
 |_=>simp[cq] at h
theorem VK {c:Code} {a b:SC} (hn:DS c=ai) (h:cq P nt c= .seq a b):∃ x y,c= .seq x y/\cq P nt x=a/\cq P nt y=b:=by
 have I:=o9 h (by simp) (by simp) (by simp);cases c with
 |seq x y=>simp[cq] at h;exact⟨x,y,rfl,h.1,h.2⟩
 |region id ops J=>exact cZ rfl (I id ops J)
 |cond o x y=>exact Fa hn h (by simp) (by simp)
 |_=>simp[cq] at h
theorem Zq {c:Code} {t:Nat} {a b:SC} (hn:DS c=ai) (h:cq P nt c= .cond t a b):∃ x y,c= .cond (.tmp t) x y/\cq P nt x=a/\cq P nt y=b:=by
 have I:=o9 h (by simp) (by simp) (by simp);cases c with
 |cond o x y=>
  cases o with
  |tmp q=>simp[cq] at h;obtain⟨rfl,h1,h2⟩:=h;exact⟨x,y,rfl,h1,h2⟩
  |const v=>cases v<;>first|(simp [cq] at h;done)|cases hn
  |_=>simp[cq] at h
 |region id ops J=>exact cZ rfl (I id ops J)
 |_=>simp[cq] at h
theorem Ma {c:Code} {id:Nat} {b:SC} (hn:DS c=ai) (h:cq P nt c= .block id b):∃ y,c= .block id y/\cq P nt y=b:=by
 have I:=o9 h (by simp) (by simp) (by simp);cases c with
 |block i y=>simp[cq] at h;obtain⟨rfl,h1⟩:=h;exact⟨y,rfl,h1⟩
 |region id ops J=>exact cZ rfl (I id ops J)
 |cond o x y=>exact Fa hn h (by simp) (by simp)
 |_=>simp[cq] at h
theorem PD {c:Code} {b:SC} (hn:DS c=ai) (h:cq P nt c= .loop b):∃ y,c= .loop y/\cq P nt y=b:=by
 have I:=o9 h (by simp) (by simp) (by simp);cases c with
 |loop y=>simp[cq] at h;exact⟨y,rfl,h⟩
 |region id ops J=>exact cZ rfl (I id ops J)
 |cond o x y=>exact Fa hn h (by simp) (by simp)
 |_=>simp[cq] at h
end inv
def afn {R:Type} (P:Program) (E:Nat->Prop) (nt np:Nat) (φ:PM) (s:TS) (w:World) (am:Nat) (K:Ex->TS->Option R) (r:R):Exit->Act->World->Prop:=
 λe a' w'=>∃ ex s' φ',e=ex.to/\K ex s'=af r/\oH P E nt np φ' s' a' w'/\BY np φ φ' (bA s.h) (bA s'.h) w w'/\gm am s.e s'.e
theorem oH.bool {P:Program} {E:Nat->Prop} {nt np:Nat} {φ:PM} {s:TS} {a:Act} {w:World} (c:oH P E nt np φ s a w) {t:Nat} {b:Bool} (ht:s.e.get t=af (.f .bool b)):a.eval (.tmp t)= .bool b:=
 fm (c.env t _ (by simp only[fM,ht,aH,co];rfl))
theorem oH.anyb {P:Program} {E:Nat->Prop} {nt np:Nat} {φ:PM} {s:TS} {a:Act} {w:World} (c:oH P E nt np φ s a w) {t:Nat} (ht:s.e.get t=af .anyb):∃ b,a.eval (.tmp t)= .bool b:=by
 have:=c.env t .anyb (by simp only[fM,ht,aH,co]);show ∃ b,a.tmps.getD t undef= .bool b;generalize a.tmps.getD t undef=z at this;cases this with
 |anyb=>exact⟨_,rfl⟩
theorem XQ {R:Type} {a b:Option R} {r:R} (h:EJ a b=af r):a=af r/\b=af r:=by
 unfold EJ at h;split at h
 .rename_i e;exact⟨h,by rw[<- e];exact h⟩
 .cases h
theorem ag2 {P:Program} {E:Nat->Prop} {nt np:Nat} {con:FuncId->Option ct} {b9:TypeId->Option Ty} {inert:FuncId->Bool} (hm:P.follows .mixedOrders=ai) (hcon:Kk P con) (hin:Kg P inert):
 ∀ {tc:TC} {sc:SC},Er tc sc->∀ (c:Code),cq P nt c=sc->∀ (R:Type) (s:TS) (K:Ex->TS->Option R) (r:R),oX np con b9 inert tc s K=af r->∀ (φ:PM) (a:Act) (w:World),oH P E nt np φ s a w->c.wp P (afn P E nt np φ s w (tc.asg 0) K r) a w:=by
 intro tc sc hE;induction hE with
 |skip=>
  intro c hc R s K r h φ a w g;obtain⟨c',hn,I,hsim⟩:=j7 P nt c;refine hsim _ _ _ ?_;rw[<- I] at hc;rw[Zo hn hc];exact wp_skip ⟨.normal,s,φ,rfl,h,g,BY.refl _ _ _ _,gm.refl _ _⟩
 |reg ops prs=>
  intro c hc R s K r h φ a w g;obtain⟨c',hn,I,hsim⟩:=j7 P nt c;refine hsim _ _ _ ?_;rw[<- I] at hc;obtain⟨id,os,dr,rfl,h1,h2,h3⟩:=acm hn hc;simp only[oX] at h;refine YY (K:=λs'=>K .normal s') hm hcon g (am:=Ox ops 0) (λj o d ho hd=>?_) h1 h2 h3 h λa' w' s' φ' Z J q3 q4=>⟨.normal,s',φ',rfl,Z,J,q3,q4⟩
  have hmem:o∈os.toList:=by have:=Array.mem_of_getElem? ho;simpa using this
  have key:∀ (rest:List Oper) (sl:List su),rS P os rest=af sl->∀ o∈rest,∃ so∈sl,so.dst=o.dst:=by
   intro rest;induction rest with
   |nil=>intro sl _ o ho;cases ho
   |cons x rest ih=>
    intro sl hsl o ho;simp only[rS] at hsl;split at hsl
    .rename_i l hl;have:∃ so,sl=so::l/\so.dst=x.dst:=by
      split at hsl
      .simp only[ak] at hsl;exact⟨_,hsl.symm,rfl⟩
      .split at hsl
       .simp only[ak] at hsl;exact⟨_,hsl.symm,rfl⟩
       .cases hsl
     obtain⟨so,rfl,hso⟩:=this;rcases bi.1 ho with rfl|ho
     .exact⟨so,by simp,hso⟩
     .obtain⟨q,hq,hq2⟩:=ih l hl o ho;exact⟨q,by simp[hq],hq2⟩
    .cases hsl
  obtain⟨so,hso,hd2⟩:=key os.toList ops h2 o hmem;exact RE hso (by rw[hd2];exact hd)
 |@seq x y x' y' _ _ ihx ihy=>
  intro c hc R s K r h φ a w g;obtain⟨c',hn,I,hsim⟩:=j7 P nt c;refine hsim _ _ _ ?_;rw[<- I] at hc;obtain⟨cx,cy,rfl,h1,h2⟩:=VK hn hc;simp only[oX] at h;refine wp_seq (wp_mono (ihx cx h1 R s _ r h φ a w g) ?_);rintro e a' w' ⟨ex,s',φ',rfl,hk,g',st,M⟩;have kp':gm ((TC.seq x y).asg 0) s.e s'.e:=M.mono λk hk=>by simp only[TC.asg];exact kh hk
  cases ex with
  |normal=>
   refine wp_mono (ihy cy h2 R s' K r hk φ' a' w' g') ?_;rintro e2 a2 w2 ⟨ex2,s2,φ2,rfl,hk2,g2,YR,kp2⟩;exact⟨ex2,s2,φ2,rfl,hk2,g2,st.trans YR,kp'.trans (kp2.mono λk hk=>by simp only[TC.asg];exact u_ hk)⟩
  |exit id=>exact⟨.exit id,s',φ',rfl,hk,g',st,kp'⟩
  |ret=>exact⟨.ret,s',φ',rfl,hk,g',st,kp'⟩
 |@jseq A x y x' y' _ _ ihx ihy=>
  intro c hc R s K r h φ a w g;obtain⟨c',hn,I,hsim⟩:=j7 P nt c;refine hsim _ _ _ ?_;rw[<- I] at hc;obtain⟨cx,cy,rfl,h1,h2⟩:=VK hn hc;simp only[oX] at h;have sub1:∀ k,aM (x.asg 0) k=ai->aM ((TC.jseq A x y).asg 0) k=ai:=λk hk=>by simp only[TC.asg];exact kh (u_ hk)
  have sub2:∀ k,aM (y.asg 0) k=ai->aM ((TC.jseq A x y).asg 0) k=ai:=λk hk=>by simp only[TC.asg];exact u_ hk
  have sub3:∀ k,aM (KH A.ks 0) k=ai->aM ((TC.jseq A x y).asg 0) k=ai:=λk hk=>by simp only[TC.asg];exact kh (kh hk)
  rcases VH h with ⟨d,h3,h4⟩|h3
  .refine wp_seq (wp_mono (ihx cx h1 _ s _ _ h3 φ a w g) ?_);rintro e a' w' ⟨ex,s',φ',rfl,hk,g',st,M⟩;cases ex with
   |normal=>
    simp only[] at hk;obtain⟨d',Z,J⟩:=dG hk;simp only[ak,Sum.inr.injEq] at J;subst J;split at h4
    .rename_i s1 Y;obtain⟨φ1,g1,HB⟩:=Nn g' Z Y λk _ _ v hv hf ha v' U=>by
      obtain⟨v0,e1,e2⟩:=M k ha v' U;rw[hv] at e1;cases e1;exact e2 hf
     refine wp_mono (ihy cy h2 R s1 K r h4 φ1 a' w' g1) ?_;rintro e2 a2 w2 ⟨ex2,s2,φ2,rfl,hk2,g2,YR,kp2⟩;exact⟨ex2,s2,φ2,rfl,hk2,g2,(st.trans HB).trans YR,((DM Y).1.mono sub3).trans (kp2.mono sub2)⟩
    .cases h4
   |exit id=>simp only[] at hk;obtain⟨_,_,J⟩:=dG hk;simp at J
   |ret=>simp only[] at hk;obtain⟨_,_,J⟩:=dG hk;simp at J
  .refine wp_seq (wp_mono (ihx cx h1 _ s _ _ h3 φ a w g) ?_);rintro e a' w' ⟨ex,s',φ',rfl,hk,g',st,M⟩;cases ex with
   |normal=>simp only[] at hk;obtain⟨_,_,J⟩:=dG hk;simp at J
   |exit id=>
    simp only[] at hk;obtain⟨r',Z,J⟩:=dG hk;simp only[ak,Sum.inl.injEq] at J;subst J;exact⟨.exit id,s',φ',rfl,Z,g',st,M.mono sub1⟩
   |ret=>
    simp only[] at hk;obtain⟨r',Z,J⟩:=dG hk;simp only[ak,Sum.inl.injEq] at J;subst J;exact⟨.ret,s',φ',rfl,Z,g',st,M.mono sub1⟩
 |@cond t x y x' y' _ _ ihx ihy=>
  intro c hc R s K r h φ a w g;obtain⟨c',hn,I,hsim⟩:=j7 P nt c;refine hsim _ _ _ ?_;rw[<- I] at hc;obtain⟨cx,cy,rfl,h1,h2⟩:=Zq hn hc;simp only[oX] at h;split at h
  .rename_i b hb;rcases pn h with ⟨rfl,h⟩|⟨rfl,h⟩
   .refine wp_cond_true (g.bool hb) (wp_mono (ihx cx h1 R s K r h φ a w g) ?_);rintro e a' w' ⟨ex,s',φ',rfl,hk,g',st,M⟩;exact⟨ex,s',φ',rfl,hk,g',st,M.mono λk hk=>by simp only[TC.asg];exact kh hk⟩
   .refine wp_cond_false (g.bool hb) (wp_mono (ihy cy h2 R s K r h φ a w g) ?_);rintro e a' w' ⟨ex,s',φ',rfl,hk,g',st,M⟩;exact⟨ex,s',φ',rfl,hk,g',st,M.mono λk hk=>by simp only[TC.asg];exact u_ hk⟩
  .rename_i hb;obtain⟨ha,hbb⟩:=XQ h;obtain⟨bv,hbv⟩:=g.anyb hb;cases bv with
   |true=>
    refine wp_cond_true hbv (wp_mono (ihx cx h1 R s K r ha φ a w g) ?_);rintro e a' w' ⟨ex,s',φ',rfl,hk,g',st,M⟩;exact⟨ex,s',φ',rfl,hk,g',st,M.mono λk hk=>by simp only[TC.asg];exact kh hk⟩
   |false=>
    refine wp_cond_false hbv (wp_mono (ihy cy h2 R s K r hbb φ a w g) ?_);rintro e a' w' ⟨ex,s',φ',rfl,hk,g',st,M⟩;exact⟨ex,s',φ',rfl,hk,g',st,M.mono λk hk=>by simp only[TC.asg];exact u_ hk⟩
  .cases h
 |@block id b b' _ ih=>
  intro c hc R s K r h φ a w g;obtain⟨c',hn,I,hsim⟩:=j7 P nt c;refine hsim _ _ _ ?_;rw[<- I] at hc;obtain⟨cb,rfl,h1⟩:=Ma hn hc;simp only[oX] at h;refine wp_block (wp_mono (ih cb h1 R s _ r h φ a w g) ?_);rintro e a' w' ⟨ex,s',φ',rfl,hk,g',st,M⟩;cases ex with
  |normal=>exact⟨.normal,s',φ',rfl,hk,g',st,M⟩
  |ret=>exact⟨.ret,s',φ',rfl,hk,g',st,M⟩
  |exit i=>
   simp only[Ex.to,Exit.inBlock];simp only[] at hk;split at hk
   .rename_i hb;rw[aE (aw hb)];exact⟨.normal,s',φ',rfl,hk,g',st,M⟩
   .rename_i hb;rw[aB (λe=>hb (by rw[e];exact rG id))];exact⟨.exit i,s',φ',rfl,hk,g',st,M⟩
 |@jblock A id b b' _ ih=>
  intro c hc R s K r h φ a w g;obtain⟨c',hn,I,hsim⟩:=j7 P nt c;refine hsim _ _ _ ?_;rw[<- I] at hc;obtain⟨cb,rfl,h1⟩:=Ma hn hc;simp only[oX] at h;have sub1:∀ k,aM (b.asg 0) k=ai->aM ((TC.jblock A id b).asg 0) k=ai:=λk hk=>by simp only[TC.asg];exact u_ hk
  have sub3:∀ k,aM (KH A.ks 0) k=ai->aM ((TC.jblock A id b).asg 0) k=ai:=λk hk=>by simp only[TC.asg];exact kh hk
  rcases VH h with ⟨d,h3,h4⟩|h3
  .refine wp_block (wp_mono (ih cb h1 _ s _ _ h3 φ a w g) ?_);rintro e a' w' ⟨ex,s',φ',rfl,hk,g',st,M⟩;have fin:obind (Lb np A (b.asg 0) s s') (λx=>af (bW (α:=R) x))=af (bW d)->afn P E nt np φ s w ((TC.jblock A id b).asg 0) K r .normal a' w':=by
    intro hk;obtain⟨d',Z,J⟩:=dG hk;simp only[ak,Sum.inr.injEq] at J;subst J;split at h4
    .rename_i s1 Y;obtain⟨φ1,g1,HB⟩:=Nn g' Z Y λk _ _ v hv hf ha v' U=>by
      obtain⟨v0,e1,e2⟩:=M k ha v' U;rw[hv] at e1;cases e1;exact e2 hf
     exact⟨.normal,s1,φ1,rfl,h4,g1,st.trans HB,(DM Y).1.mono sub3⟩
    .cases h4
   cases ex with
   |normal=>exact fin hk
   |ret=>simp only[] at hk;obtain⟨_,_,J⟩:=dG hk;simp at J
   |exit i=>
    simp only[Ex.to,Exit.inBlock];simp only[] at hk;split at hk
    .rename_i hb;rw[aE (aw hb)];exact fin hk
    .obtain⟨_,_,J⟩:=dG hk;simp at J
  .refine wp_block (wp_mono (ih cb h1 _ s _ _ h3 φ a w g) ?_);rintro e a' w' ⟨ex,s',φ',rfl,hk,g',st,M⟩;cases ex with
   |normal=>simp only[] at hk;obtain⟨_,_,J⟩:=dG hk;simp at J
   |ret=>
    simp only[] at hk;obtain⟨r',Z,J⟩:=dG hk;simp only[ak,Sum.inl.injEq] at J;subst J;exact⟨.ret,s',φ',rfl,Z,g',st,M.mono sub1⟩
   |exit i=>
    simp only[Ex.to,Exit.inBlock];simp only[] at hk;split at hk
    .obtain⟨_,_,J⟩:=dG hk;simp at J
    .rename_i hb;rw[aB (λe=>hb (by rw[e];exact rG id))];obtain⟨r',Z,J⟩:=dG hk;simp only[ak,Sum.inl.injEq] at J;subst J;exact⟨.exit i,s',φ',rfl,Z,g',st,M.mono sub1⟩
 |@loop A b b' _ ih=>
  intro c hc R s K r h φ a w g;obtain⟨c',hn,I,hsim⟩:=j7 P nt c;refine hsim _ _ _ ?_;rw[<- I] at hc;obtain⟨cb,rfl,h1⟩:=PD hn hc;simp only[oX] at h;obtain⟨x0,hx0,h⟩:=dG h;obtain⟨n,hn⟩:=WV h;have sub1:∀ k,aM (b.asg 0) k=ai->aM ((TC.loop A b).asg 0) k=ai:=λk hk=>by simp only[TC.asg];exact u_ hk
  have sub3:∀ k,aM (KH A.ks 0) k=ai->aM ((TC.loop A b).asg 0) k=ai:=λk hk=>by simp only[TC.asg];exact kh hk
  obtain⟨step,hstep⟩:∃ step:A.D->Option (A.D⊕R),step=λx=>(match F' A (b.asg 0) s x with
   |some s'=>oX np con b9 inert b s' λex s'=>(match ex with
    |.normal=>obind (Lb np A (b.asg 0) s s') λy=>af (nh y)
    |ex=>obind (K ex s') λr=>af (bW r))
   |none=>ah):=⟨_,rfl⟩
  have hn:iterN step n x0=af r:=by rw[hstep];exact hn
  have stepEq:∀ x,step x=(match F' A (b.asg 0) s x with
   |some s'=>oX np con b9 inert b s' λex s'=>(match ex with
    |.normal=>obind (Lb np A (b.asg 0) s s') λy=>af (nh y)
    |ex=>obind (K ex s') λr=>af (bW r))
   |none=>ah):=λx=>by rw[hstep]
  let Inv:Nat->Act->World->Prop:=λn a w'=>∃ x s1 φ1,iterN step n x=af r/\F' A (b.asg 0) s x=af s1/\oH P E nt np φ1 s1 a w'/\BY np φ φ1 (bA s.h) (bA s1.h) w w'
  have head:∀ (n:Nat) (x:A.D),iterN step n x=af r->∃ s1,F' A (b.asg 0) s x=af s1:=by
   intro n x hn;cases n with
   |zero=>cases hn
   |succ n=>
    simp only[iterN] at hn;cases hr:F' A (b.asg 0) s x with
    |some s1=>exact⟨s1,rfl⟩
    |none=>rw[stepEq,hr] at hn;cases hn
  refine B3 Inv ?_ (n:=n) ?_
  .rintro n a1 w1 ⟨x,s1,φ1,hi,hr,g1,HB⟩;cases n with
   |zero=>cases hi
   |succ n=>
    simp only[iterN] at hi;have hse:=stepEq x;rw[hr] at hse;simp only[] at hse;obtain⟨kp1,kp1'⟩:=DM hr;split at hi
    .rename_i y hy;rw[hy] at hse;refine wp_mono (ih cb h1 _ s1 _ _ hse.symm φ1 a1 w1 g1) ?_;rintro e a' w' ⟨ex,s',φ',rfl,hk,g',st,M⟩;cases ex with
     |normal=>
      simp only[] at hk;obtain⟨d',Z,J⟩:=dG hk;simp only[ak,Sum.inl.injEq] at J;subst J;obtain⟨s2,hs2⟩:=head n d' hi;obtain⟨φ2,g2,YR⟩:=Nn g' Z hs2 λk hkk hks v hv hf ha v' U=>by
       obtain⟨v0,e1,e2⟩:=M k ha v' U;have:=kp1' k hks v0 e1;rw[hv] at this;cases this;exact e2 hf
      exact⟨n,by omega,d',s2,φ2,hi,hs2,g2,(HB.trans st).trans YR⟩
     |exit id=>simp only[] at hk;obtain⟨_,_,J⟩:=dG hk;simp at J
     |ret=>simp only[] at hk;obtain⟨_,_,J⟩:=dG hk;simp at J
    .rename_i r' hy;cases hi;rw[hy] at hse;refine wp_mono (ih cb h1 _ s1 _ _ hse.symm φ1 a1 w1 g1) ?_;rintro e a' w' ⟨ex,s',φ',rfl,hk,g',st,M⟩;cases ex with
     |normal=>simp only[] at hk;obtain⟨_,_,J⟩:=dG hk;simp at J
     |exit id=>
      simp only[] at hk;obtain⟨r',Z,J⟩:=dG hk;simp only[ak,Sum.inr.injEq] at J;subst J;exact⟨.exit id,s',φ',rfl,Z,g',HB.trans st,(kp1.mono sub3).trans (M.mono sub1)⟩
     |ret=>
      simp only[] at hk;obtain⟨r',Z,J⟩:=dG hk;simp only[ak,Sum.inr.injEq] at J;subst J;exact⟨.ret,s',φ',rfl,Z,g',HB.trans st,(kp1.mono sub3).trans (M.mono sub1)⟩
    .cases hi
  .obtain⟨s1,Y⟩:=head n x0 hn;obtain⟨φ1,g1,HB⟩:=Nn g hx0 Y λk _ _ v hv _ _ v' U=>by rw[hv] at U;cases U;rfl
   exact⟨x0,s1,φ1,hn,Y,g1,HB⟩
 |exit id=>
  intro c hc R s K r h φ a w g;obtain⟨c',hn,I,hsim⟩:=j7 P nt c;refine hsim _ _ _ ?_;rw[<- I] at hc;rw[Zp hn hc];exact wp_exit ⟨.exit id,s,φ,rfl,h,g,BY.refl _ _ _ _,gm.refl _ _⟩
 |ret=>
  intro c hc R s K r h φ a w g;obtain⟨c',hn,I,hsim⟩:=j7 P nt c;refine hsim _ _ _ ?_;rw[<- I] at hc;rw[acl hn hc];exact wp_ret ⟨.ret,s,φ,rfl,h,g,BY.refl _ _ _ _,gm.refl _ _⟩
 |defer f caps t=>
  intro c hc R s K r h φ a w g;obtain⟨c',hn,I,hsim⟩:=j7 P nt c;refine hsim _ _ _ ?_;rw[<- I] at hc;obtain⟨id,ops,dr,rfl,h1,h2⟩:=WY hn hc;simp only[oX] at h;split at h
  .rename_i l hl;split at h
   .rename_i hi;obtain⟨l',e1,e2⟩:=yq g.invE hl;obtain⟨H,hH⟩:=jL s.h;have lowN:∀ n k,φ n=af k->n<2*s.nx+2:=λn k hk=>by have:=g.dom n k hk;unfold ow at this;omega
    have cfg:Cfg P ⟨2*s.nx+2,φ,E,bA s.h,w⟩ nt ⟨IR s.e s.h,H,2*s.nx+2,0⟩ a w:=by
     refine ⟨⟨φ,?_,?_,?_,lowN,λi k hk=>.inl hk⟩,bT _,g.inert,g.size⟩
     .rw[hH];exact iY.refl _ _ _
     .rw[hH];exact g.rep
     .rw[hH,uU];exact g.env
    refine QO hin cfg h1 h2 e1 hi λa' w' c'=>?_
    obtain⟨φ',m',r',en',dm',d0'⟩:=c'.ex;have hφ:φ'=φ:=by
     funext n;cases hx:φ n with
     |some k=>exact m'.sub n k hx
     |none=>
      cases hy:φ' n with
      |none=>rfl
      |some k=>
       rcases d0' n k hy with h3|h3
       .have h3:φ n=af k:=h3;rw[hx] at h3;cases h3
       .have h4:n<2*s.nx+2:=dm' n k hy;have h5:2*s.nx+2<=n:=h3;omega
    subst hφ;simp only[hH] at m' r' en';refine ⟨.normal,_,φ',rfl,h,⟨r',?_,g.dom,g.low,g.invH,?_,c'.inert,c'.size⟩,⟨m'.ext,m'.own_,λ_ _=>rfl⟩,?_⟩
    .intro u x hx;refine en' u x ?_;simp only[fM,PT.get_set] at hx;simp only[zA.put,PT.get_set];split at hx
     .rename_i eu;rw[aE eu];simp only[aH,co,e2,ak] at hx;rw[hx]
     .rename_i eu;rw[aB eu,uU];exact hx
    .intro u x hx;simp only[PT.get_set] at hx;split at hx
     .cases hx;simp only[KC];exact kH _ _ _ e2
     .exact g.invE u x hx
    .intro k hk v' U;simp only[PT.get_set] at U;split at U
     .rename_i ek;subst ek;simp only[TC.asg] at hk;rw[bu,bX.2 rfl] at hk;simp at hk
     .exact⟨v',U,λ_=>rfl⟩
   .cases h
  .cases h
 |@adj l tc' sc' _ ih=>
  intro c hc R s K r h φ a w g;obtain⟨c',hn,I,hsim⟩:=j7 P nt c;refine hsim _ _ _ ?_;rw[<- I] at hc;simp only[oX] at h;split at h
  .rename_i s1 Y;obtain⟨φ1,g1,HB,kp1⟩:=UX g Y;refine wp_mono (ih c' hc R s1 K r h φ1 a w g1) ?_;rintro e a' w' ⟨ex,s',φ',rfl,hk,g',st,M⟩;exact⟨ex,s',φ',rfl,hk,g',HB.trans st,(kp1.mono λk hk=>by simp only[TC.asg];exact kh hk).trans (M.mono λk hk=>by simp only[TC.asg];exact u_ hk)⟩
  .cases h
 |@split k off lo n tc' sc' _ ih=>
  intro c hc R s K r h φ a w g;obtain⟨c',hn,I,hsim⟩:=j7 P nt c;refine hsim _ _ _ ?_;rw[<- I] at hc;simp only[oX] at h;split at h
  .rename_i kd v hv;obtain⟨j,hj,h2⟩:=O_ h;subst hj;split at h2
   .rename_i s1 Y;obtain⟨g1,hH,he⟩:=YU g hv Y;refine wp_mono (ih c' hc R s1 K r h2 φ a w g1) ?_;rintro e a' w' ⟨ex,s',φ',rfl,hk,g',st,M⟩;exact⟨ex,s',φ',rfl,hk,g',by rw[<- hH];exact st,λk hk v' U=>by
     obtain⟨v,Z,J⟩:=M k hk v' U;exact⟨v,by rw[<- he];exact Z,J⟩⟩
   .cases h2
  .cases h
 |@unl n b b' _ ih=>
  intro c hc R s K r h φ a w g;obtain⟨c',hn,I,hsim⟩:=j7 P nt c;refine hsim _ _ _ ?_;rw[<- I] at hc;obtain⟨cb,rfl,h1⟩:=PD hn hc;simp only[oX] at h
  let Inv:Nat->Act->World->Prop:=λm a w'=>∃ s1 φ1,abs (λs K=>oX np con b9 inert b s K) m s1 K=af r/\oH P E nt np φ1 s1 a w'/\BY np φ φ1 (bA s.h) (bA s1.h) w w'/\gm (b.asg 0) s.e s1.e
  refine B3 Inv ?_ (n:=n) ⟨s,φ,h,g,BY.refl _ _ _ _,gm.refl _ _⟩;rintro m a1 w1 ⟨s1,φ1,hi,g1,HB,kp1⟩;cases m with
  |zero=>cases hi
  |succ m=>
   simp only[abs] at hi;refine wp_mono (ih cb h1 R s1 _ r hi φ1 a1 w1 g1) ?_;rintro e a' w' ⟨ex,s',φ',rfl,hk,g',st,M⟩;cases ex with
   |normal=>exact⟨m,BU m,s',φ',hk,g',HB.trans st,kp1.trans M⟩
   |exit id=>exact⟨.exit id,s',φ',rfl,hk,g',HB.trans st,kp1.trans M⟩
   |ret=>exact⟨.ret,s',φ',rfl,hk,g',HB.trans st,kp1.trans M⟩
 |bad sc'=>
  intro c hc R s K r h;simp[oX] at h
theorem M9 {P:Program} {φ:PM} {E:Nat->Prop} {s:TS} {a:Act} {w:World} (hinv:l9 s.h s.nx) (hiE:tm s.e s.h) (r:qP φ E (bA s.h) w) (en:MP φ (tot E φ (bA s.h)) w (fM s.e s.h) a):∀ (rs:List ResultVar) (rvs:List RV) (l:List TV),uZ P rs=af rvs->SH s rvs=af l->
 ∃ la vs,cK s.h l=af la/\(rs.mapM (WF a.tmps)).run P w= .ok vs w/\jW φ (tot E φ (bA s.h)) w la vs
 |[],rvs,l,hc,hr=>by
  simp only[uZ,ak] at hc;subst hc;simp only[SH,ak] at hr;subst hr;exact⟨[],[],rfl,by simp,trivial⟩
 |.tmp t::rs,rvs,l,hc,hr=>by
  simp only[uZ] at hc;split at hc
  .rename_i rvs' hrs;simp only[ak] at hc;subst hc;simp only[SH] at hr;split at hr
   .rename_i v hv;split at hr
    .rename_i M I;simp only[ak] at hr;subst hr;obtain⟨la,vs,h0,h1,h2⟩:=M9 hinv hiE r en rs rvs' M hrs I;simp only[rvT] at hv;obtain⟨y,Y⟩:=pU s.h v (hiE t v hv);refine ⟨y::la,a.tmps.getD t undef::vs,oS Y h0,?_,en t y (by simp only[fM,hv,aH,Y]),h2⟩;simp only[List.mapM_cons,eB,WF,oI,cI];show ((rs.mapM (WF a.tmps)).run P w).andThen _=_;rw[h1];rfl
    .cases hr
   .cases hr
  .cases hc
 |.cell ad t::rs,rvs,l,hc,hr=>by
  simp only[uZ] at hc;split at hc
  .rename_i rvs' sz ag hrs hsz hag;simp only[ak] at hc;subst hc;simp only[SH] at hr;split at hr
   .rename_i v hv;split at hr
    .rename_i M I;simp only[ak] at hr;subst hr;obtain⟨la,vs,h0,h1,h2⟩:=M9 hinv hiE r en rs rvs' M hrs I;simp only[rvT] at hv;split at hv
     .rename_i id off hp;split at hv
      .rename_i ty q hb;obtain⟨q',J⟩:=fh s.h q (hinv.cells id ty q hb);obtain⟨y,e1,e2⟩:=Vf J hv;obtain⟨H,Z⟩:=jL s.h;have hR:Dt H sz ag (.ptr (nm id) off)=af ⟨y,[nm id],[],[],[]⟩:=by
        have hg:H.get (nm id)=af ⟨ty,.mx q'⟩:=by rw[Z,bJ,hb];simp only[aH,kw,J]
        simp only[Dt,hg,e2]
       obtain⟨_,_,_,h3⟩:=RI (P:=P) hsz hag hR;obtain⟨qq,U,h4,h5,h6⟩:=h3 φ E (bA s.h) w _ (λi _=>by rw[Z]) r (en ad _ (by simp only[fM,hp,aH,co]));refine ⟨y::la,U::vs,oS e1 h0,?_,h6,h2⟩;have hone:(WF a.tmps (.cell ad t)).run P w= .ok U w:=by
        simp only[WF,eB,h4,asAddr,oI,cI,h5]
       rw[List.mapM_cons];simp only[eB,hone,cI,h1,oI]
      .cases hv
     .cases hv
    .cases hr
   .cases hr
  .cases hc
theorem EL:∀ (args:List TV) (k t:Nat) (x:TV),(J0 k args).get t=af x->k<=t/\args[t-k]? =af x
 |[],k,t,x,h=>by simp[J0,PT.get] at h
 |y::args,k,t,x,h=>by
  rw[J0,PT.get_set] at h;split at h
  .rename_i hk;subst hk;cases h;exact⟨bT _,by simp⟩
  .obtain⟨h1,h2⟩:=EL args (k+1) t x h;refine ⟨by omega,?_⟩;rw[show t-k=t-(k+1)+1 from by omega];simpa using h2
theorem Y' {h:bh} {l:List TV} (J:kM h l=ai) {j:Nat} {v:TV} (hj:l[j]? =af v):KC h v=ai:=by
 obtain⟨M,hl⟩:=fh h l J;obtain⟨y,_,I⟩:=lZ hl j v hj;exact Ep _ _ _ I
theorem Sv {P:Program} {con:FuncId->Option ct} {b9:TypeId->Option Ty} {inert:FuncId->Bool} (hm:P.follows .mixedOrders=ai) (hcon:Kk P con) (hin:Kg P inert) {f:FuncId} {sf:SF} (hf:zj P f=af sf) (D:FT) (m:D.pre.ty.den->Option D.post.ty.den) (hmod:∀ x y,m x=af y->YM con b9 inert (af sf) D x=af y):pH P f ⟨D.pre,D.post,m⟩:=by
 obtain⟨fn,c,hfn,hb,hnm,hcode,hres,hnt⟩:=Rt hf;refine ⟨⟨fn,hfn,by rw[hb];rfl,hnm⟩,λx y hxy vs hp l1 rs hq l2 la lr I J hla hlr φ E w us hrep hrel hdom=>?_⟩;have ht:=hmod x y hxy;unfold YM at ht;simp only[] at ht;split at ht
 .rename_i args h hins;obtain⟨l1',I'⟩:=vY hins;have e1:args=vs:=by have h1:=I.pv;have h2:=I'.pv;rw[h1] at h2;cases h2;rfl
  have e2:l1'=l1:=by have h1:=I.pb;have h2:=I'.pb;rw[h1] at h2;cases h2;rfl
  subst e1;subst e2;have hget:∀ i,h.get i=hp.get i:=λi=>by
   cases h3:hp.get i with
   |some b=>exact (I'.at_ i b).2 ((I.at_ i b).1 h3)
   |none=>
    cases h4:h.get i with
    |none=>rfl
    |some b=>have:=(I.at_ i b).2 ((I'.at_ i b).1 h4);rw[h3] at this;cases this
  have hrow:∀ i,em h i=em hp i:=λi=>by rw[bU,bU,hget]
  have herH:bA h=bA hp:=by
   funext n;by_cases hn:∃ i,n=nm i
   .obtain⟨i,rfl⟩:=hn;rw[bJ,bJ,hget];cases h3:hp.get i with
    |none=>rfl
    |some b=>
     simp only[aH];refine IU (λi r hr=>by rw[hrow];exact hr) λty l e=>?_
     exact (I.cells i ty l (by rw[h3,e])).1
   .rw[wh _ hn,wh _ hn]
  have hla':cK h args=af la:=gY (λi r hr=>by rw[hrow];exact hr) args la hla;split at ht
  .rename_i hle;simp only[av] at hle;have hle2:=a_ hle.2;have hle:=a_ hle.1;have hlen:=hrel.length;have hargl:args.length=la.length:=(hZ hla).symm;refine calls_of_wp_defers hfn hb ?_;have hcfg:oH P E fn.ntmps D.pre.bs.length φ ⟨J0 0 args,h,D.pre.bs.length⟩ {tmps:=us.toArray++oh (fn.ntmps-us.toArray.size) undef,defers:=[]} w:=by
    refine ⟨by rw[herH];exact hrep,?_,hdom,bT _,⟨λi ty l hl=>(I'.cells i ty l hl).1,λi b hbb=>I'.lt_len hbb⟩,?_,by simp,by simp;omega⟩
    .intro t z U;simp only[fM] at U;cases Z:(J0 0 args).get t with
     |none=>rw[Z] at U;cases U
     |some v0=>
      rw[Z] at U;obtain⟨_,h2⟩:=EL args 0 t v0 Z;rw[Nat.sub_zero] at h2;obtain⟨y0,q1,Y⟩:=lZ hla' t v0 h2;simp only[aH] at U;rw[U] at Y;cases Y;obtain⟨v,h3,h4⟩:=hrel.get t z q1;have hlt:t<us.length:=(bk.1 h3).1;have:(us.toArray++oh (fn.ntmps-us.toArray.size) undef).getD t undef=v:=by
       rw[gC,Array.getElem?_append];simp only[sV,hlt,bD,ki,h3,uE]
      show cL φ _ w z ((us.toArray++oh (fn.ntmps-us.toArray.size) undef).getD t undef);rw[this,herH];exact h4
    .intro t v0 hv0;obtain⟨_,h2⟩:=EL args 0 t v0 hv0;exact Y' I'.ok h2
   refine wp_mono (ag2 (E:=E) hm hcon hin (xu D.hints sf.code 0) c hcode.symm _ _ _ _ ht φ _ w hcfg) ?_;rintro e a' w' ⟨ex,s',φ',rfl,hk,g',st,_⟩;have fin:(match SH s' sf.res with
    |some l=>(match DY D.pre.bs.length D.post l s'.h with
     |some ⟨y,_,_,_⟩=>(match Cx D.post y with|some _=>af y|none=>ah)
     |none=>ah)
    |none=>ah)=af y->Leaves P fn a'.tmps (λen w'=>∃ v φ',en= .returned v/\Ki (own φ (bA hp)) w w'/\(∀ k,k<w.heap.size->own φ' (bA hq) k->own φ (bA hp) k)/\(∀ i,i<D.pre.bs.length->φ' (nm i)=φ (nm i))/\qP φ' E (bA hq) w'/\cL φ' (tot E φ' (bA hq)) w' (DI lr) v) a'.defers .returning w':=by
    intro hk;split at hk
    .rename_i l hl;split at hk
     .rename_i y' m' σ sm hM;split at hk
      .simp only[ak] at hk;subst hk;obtain⟨lo,rvs,q0,q1,Y⟩:=M9 g'.invH g'.invE g'.rep g'.env fn.results.toList sf.res l hres hl;have M:=vT hM;obtain⟨φ2,lu,hlu,S⟩:=Kx (np:=D.pre.bs.length) (E:=E) J g'.invH M q0 g'.rep;rw[hlr] at hlu;cases hlu;have hresults:(results fn a'.tmps).run P w'= .ok (if h:rvs.toArray.size=1 then rvs.toArray[0] else .tuple rvs.toArray) w':=by
        rw[SK,Array.mapM_eq_mapM_toList];simp only[eB,Sem.run_map,q1,cI,oI]
       have hrl:jW φ2 (tot E φ2 (bA hq)) w' lr rvs:=by
        refine jW.of (by rw[Y.length,S.len]) λj z v U hv=>?_
        obtain⟨z0,p1,p2⟩:=S.val j z v U;obtain⟨v',p3,p4⟩:=Y.get j z0 p1;rw[hv] at p3;cases p3;exact p2 p4
       have hval:cL φ2 (tot E φ2 (bA hq)) w' (DI lr) (if h:rvs.toArray.size=1 then rvs.toArray[0] else .tuple rvs.toArray):=by
        have hll:=hrl.length;clear hlr S;cases lr with
        |nil=>
         cases rvs with
         |nil=>exact cL.tup (vs:=[]) rfl (by intro j x v Z;simp at Z)
         |cons _ _=>exact hrl.elim
        |cons z lr=>
         cases rvs with
         |nil=>exact hrl.elim
         |cons v rvs=>
          cases lr with
          |nil=>
           cases rvs with
           |nil=>exact hrl.1
           |cons _ _=>exact hrl.2.elim
          |cons y l=>
           cases rvs with
           |nil=>exact hrl.2.elim
           |cons u rvs=>
            rw[dif_neg (by simp)];refine cL.tup (vs:=v::u::rvs) (by simpa using hll) λj x' v' Z hv=>?_
            obtain⟨v'',q1,Y⟩:=hrl.get j x' Z;rw[hv] at q1;cases q1;exact Y
       have st':BY D.pre.bs.length φ φ' (bA hp) (bA s'.h) w w':=by rw[<- herH];exact st
       refine Cq hresults ⟨_,φ2,rfl,st'.ext,λk hk ho=>st'.own_ k hk (S.own_ k ho),λi hi=>?_,S.rep,hval⟩ a'.defers g'.inert;rw[S.par i hi (dy hi hle2),st'.par i hi]
      .cases hk
     .cases hk
    .cases hk
   cases ex with
   |normal=>exact fin hk
   |ret=>exact fin hk
   |exit id=>cases hk
  .cases ht
 .cases ht
def Uy:List (FuncId×ct)->FuncId->Option ct
 |[],_=>ah
 |(g,c)::r,f=>if aC g f then af c else Uy r f
def Sk (P:Program):List (FuncId×ct)->Prop
 |[]=>True
 |p::r=>aI P p.1 p.2/\Sk P r
theorem V9 {P:Program}:∀ {l:List (FuncId×ct)},Sk P l->Kk P (Uy l)
 |[],_,f,c,h=>by simp[Uy] at h
 |(g,d)::r,I,f,c,h=>by
  simp only[Uy] at h;split at h
  .rename_i hb;have:=aw hb;subst this;cases h;exact I.1
  .exact V9 I.2 f c h
theorem Qg {P:Program} {inert:FuncId->Bool} (hm:P.follows .mixedOrders=ai) (hin:Kg P inert) {l:List (FuncId×ct)} (I:Sk P l) {b9:TypeId->Option Ty} {f:FuncId} {D:FT} {m:D.pre.ty.den->Option D.post.ty.den} (hs:(zj P f).isSome=ai) (he:∀ x,YM (Uy l) b9 inert (zj P f) D x=m x):pH P f ⟨D.pre,D.post,m⟩:=by
 obtain⟨J,hf⟩:=iK.1 hs;exact Sv hm (V9 I) hin hf D m λx y hxy=>by rw[<- hf,he];exact hxy
theorem pH.sub {P:Program} {f:FuncId} {pre post:Tm} {m m':pre.ty.den->Option post.ty.den} (h:pH P f ⟨pre,post,m⟩) (hs:∀ x y,m' x=af y->m x=af y):pH P f ⟨pre,post,m'⟩:=
 ⟨h.callable,λx y hxy=>h.calls x y (hs x y hxy)⟩
theorem aI.sub {P:Program} {f:FuncId} {pre post:Tm} {m m':pre.ty.den->Option post.ty.den} (h:aI P f ⟨pre,post,m⟩) (hb:eC pre.bs.length post.bs.length=ai) (hs:∀ x y,m' x=af y->m x=af y):aI P f ⟨pre,post,m'⟩:=
 ((h.holds hb).sub hs).toC hb
theorem rD {α:Type} {b:Nat}:∀ (x y:List α),chk (bd (al x) b) (λ_=>af x)=af y->bcase (aC (al x) 0) (EJ (af ([]:List α)) (chk (bd (al ([]:List α)+al x) b) λ_=>(af (([]:List α)++x)))) (chk (bd (al ([]:List α)+al x) b) λ_=>(af (([]:List α)++x)))=af y:=by
 intro x y h;rw[lM,jS,bN,h];cases x with
 |nil=>
  obtain⟨_,h⟩:=dU h;cases h;show EJ (af []) (af [])=_;unfold EJ;rw[aE rfl]
 |cons a r=>rfl
theorem TI {P:Program} {f:FuncId} {pre post:Tm} (hs:(zj P f).isSome=ai):pH P f ⟨pre,post,λ_=>ah⟩:=by
 obtain⟨I,hf⟩:=iK.1 hs;obtain⟨fn,c,hfn,hb,hnm,_⟩:=Rt hf;exact⟨⟨fn,hfn,by rw[hb];rfl,hnm⟩,λx y h=>by cases h⟩
theorem pH.orElse {P:Program} {f:FuncId} {pre post:Tm} {m m':pre.ty.den->Option post.ty.den} (h:pH P f ⟨pre,post,m⟩) (h':pH P f ⟨pre,post,m'⟩):pH P f ⟨pre,post,λx=>match m x with|some y=>af y|none=>m' x⟩:=
 ⟨h.callable,λx y hxy=>by
   cases hm:m x with
   |some z=>rw[show (ct.m ⟨pre,post,λx=>match m x with|some y=>af y|none=>m' x⟩ x)=af z by show (match m x with|some y=>af y|none=>m' x)=af z;rw[hm]] at hxy;cases hxy;exact h.calls x _ hm
   |none=>rw[show (ct.m ⟨pre,post,λx=>match m x with|some y=>af y|none=>m' x⟩ x)=m' x by show (match m x with|some y=>af y|none=>m' x)=m' x;rw[hm]] at hxy;exact h'.calls x y hxy⟩
theorem aI.orE {P:Program} {f:FuncId} {pre post:Tm} {m m':pre.ty.den->Option post.ty.den} (hb:eC pre.bs.length post.bs.length=ai) (h:aI P f ⟨pre,post,m⟩) (h':aI P f ⟨pre,post,m'⟩):aI P f ⟨pre,post,λx=>AI.orE (m x) (m' x)⟩:=by
 have e:(λx=>AI.orE (m x) (m' x))=λx=>match m x with|some y=>af y|none=>m' x:=by funext x;cases m x<;>rfl
 rw[e];exact ((h.holds hb).orElse (h'.holds hb)).toC hb
def YI (P:Program) (f:Ty->TypeId->Bool):List Field->Nat->Ty->Bool
 |[],_,.un=>ai
 |[x],off,T=>aC x.offset off&&f T x.type&&aC (P.cellsOf x.type) T.size
 |x::y::r,off,.pr a b=>aC x.offset off&&f a x.type&&aC (P.cellsOf x.type) a.size&&YI P f (y::r) (off+a.size) b
 |_,_,_=>aj
def Su (P:Program) (f:Ty->TypeId->Bool) (e:TypeId):Nat->Ty->Bool
 |1,T=>f T e&&aC (P.cellsOf e) T.size
 |m+2,.pr a b=>f a e&&aC (P.cellsOf e) a.size&&Su P f e (m+1) b
 |_,_=>aj
def Bb (P:Program):Nat->Ty->TypeId->Bool
 |0,_,_=>aj
 |n+1,T,t=>match T,P.underlying t with
  |.int k,af (.int k')=>k==k'
  |.bool,af .bool=>ai
  |.str,af .string=>ai
  |.sl U,af (.slice e)=>Bb P n U e&&aC (P.cellsOf e) U.size&&gf 0 U.size
  |.st U,af (.struct fs)=>YI P (Bb P n) fs.toList 0 U&&aC (P.cellsOf t) U.size
  |.st U,af (.array m e)=>Su P (Bb P n) e m U&&aC (P.cellsOf t) U.size
  |_,_=>aj
def Va:(T:Ty)->T.den->Prop
 |.int k,n=>(Lit.int k n).wf=ai
 |.str,s=>al s<=maxLen
 |.sl U,xs=>al xs<=maxLen/\∀ x∈(xs:List U.den),Va U x
 |.st t,v=>Va t v
 |.pr a b,v=>Va a v.1/\Va b v.2
 |_,_=>True
def Kb (W:World) (T:Ty) (x:T.den) (cs:List Value):Prop:=cs.length=T.size/\∀ (j:Nat) y v,(bS T x)[j]? =af y->cs[j]? =af v->m6 (λ_=>False) W y v
theorem JO {α:Type} (z:α) (P:Nat->α->Prop):∀ n:Nat,(∀ i,i<n->∃ a,P i a)->∃ l:List α,l.length=n/\∀ i x,l[i]? =af x->P i x
 |0,_=>⟨[],rfl,λi x h=>by simp at h⟩
 |n+1,h=>by
  obtain⟨l,hl,hp⟩:=JO z P n (λi hi=>h i (by omega));obtain⟨a,J⟩:=h n (by omega);refine ⟨l++[a],by simp[hl],λi x I=>?_⟩;by_cases hi:i<l.length
  .rw[bO hi] at I;exact hp i x I
  .rw[b7 (by omega)] at I;by_cases h0:i-l.length=0
   .rw[h0] at I;simp at I;subst I;rw[show i=n from by omega];exact J
   .rw[bQ (by simp;omega)] at I;cases I
theorem Addr.add_plain {a:Addr} (h:a.spot=ah) (n:Nat):a.add n=⟨a.block,a.off+n,ah⟩:=by
 unfold Addr.add;split
 .rename_i h0;subst h0;cases a;simp at h;subst h;rfl
 .rfl
theorem XM {w:World} {a:Addr} {v:Value} (h:w.cell? a=af v):a.spot=ah:=by
 unfold MT at h;split at h
 .split at h
  .cases h
  .rename_i hs;cases hh:a.spot with
   |none=>rfl
   |some _=>simp[hh] at hs
 .cases h
theorem Kb.sub {W:World} {T:Ty} {x:T.den} {cs:List Value} {off n:Nat} (h:Kb W T x ((cs.drop off).take n)) (hn:n=T.size) (hl:off+n<=cs.length):∀ (j:Nat) y v,(bS T x)[j]? =af y->cs[off+j]? =af v->m6 (λ_=>False) W y v:=λj y v I hv=>by
 refine h.2 j y v I ?_;have hj:j<T.size:=by have:=(bk.1 I).1;rwa [bB] at this
 rw[cN,aE (by omega),gV];exact hv
section
variable {H:Type} {enc:TypeId×Value->H} {P:Program} {W:World} {base:Nat} {sp:Nat->Bool} {hd:Bool}
theorem Vs {f:Ty->TypeId->Bool} {m:Nat} (M:∀ (T:Ty) (t:TypeId) (cs:List Value) x,f T t=ai->DataW.trod enc P W base sp hd m t cs=af x->∃ v,Kb W T v cs/\Va T v) (cs:List Value) (ts:List (DataW H×List MemPlace)):
 ∀ (fs:List Field) (off k:Nat) (T:Ty),YI P f fs off T=ai->off+T.size<=cs.length->(∀ (i:Nat) (fl:Field),fs[i]? =af fl->∃ z,DataW.trod enc P W base sp hd m fl.type ((cs.drop fl.offset).take (P.cellsOf fl.type))=af z)->
 ∃ v,(∀ (j:Nat) y u,(bS T v)[j]? =af y->cs[off+j]? =af u->m6 (λ_=>False) W y u)/\Va T v
 |[],off,k,.un,_,_,_=>⟨(),λj y u I=>by simp[bS] at I,trivial⟩
 |[x],off,k,T,h,hl,hg=>by
  simp only[YI,av] at h;obtain⟨⟨h1,h2⟩,J⟩:=h;have h1:=aw h1;have J:=aw J;obtain⟨z,U⟩:=hg 0 x rfl;obtain⟨v,hv,Z⟩:=M T _ _ _ h2 U;rw[h1] at hv;exact⟨v,hv.sub J (by omega),Z⟩
 |x::x'::r,off,k,.pr a b,h,hl,hg=>by
  simp only[YI,av] at h;obtain⟨⟨⟨h1,h2⟩,J⟩,h4⟩:=h;have h1:=aw h1;have J:=aw J;simp only[Ty.size] at hl;obtain⟨z,U⟩:=hg 0 x rfl;obtain⟨v,hv,Z⟩:=M a _ _ _ h2 U;rw[h1] at hv;have hv:=hv.sub J (by omega);obtain⟨v',hv',Y⟩:=Vs M cs ts (x'::r) (off+a.size) (k+1) b h4 (by omega) (λi fl hi=>hg (i+1) fl (by simpa using hi));refine ⟨(v,v'),λj y u I hu=>?_,Z,Y⟩;simp only[bS] at I;by_cases hj:j<a.size
  .rw[bO (by rw[bB];exact hj)] at I;exact hv j y u I hu
  .rw[b7 (by rw[bB];omega),bB] at I;exact hv' _ y u I (by rw[show off+a.size+(j-a.size)=off+j from by omega];exact hu)
theorem Vt {f:Ty->TypeId->Bool} {m:Nat} {e:TypeId} (J:∀ (T:Ty) (t:TypeId) (cs:List Value) x,f T t=ai->DataW.trod enc P W base sp hd m t cs=af x->∃ v,Kb W T v cs/\Va T v) (cs:List Value):
 ∀ (n i:Nat) (T:Ty),Su P f e n T=ai->i*P.cellsOf e+T.size<=cs.length->(∀ j,j<n->∃ z,DataW.trod enc P W base sp hd m e ((cs.drop ((i+j)*P.cellsOf e)).take (P.cellsOf e))=af z)->
 ∃ v,(∀ (j:Nat) y u,(bS T v)[j]? =af y->cs[i*P.cellsOf e+j]? =af u->m6 (λ_=>False) W y u)/\Va T v
 |0,i,T,h,_,_=>by unfold Su at h;cases h
 |1,i,T,h,hl,hg=>by
  simp only[Su,av] at h;have h3:=aw h.2;obtain⟨z,M⟩:=hg 0 (by omega);obtain⟨v,hv,Y⟩:=J T _ _ _ h.1 M;rw[c8] at hv;exact⟨v,hv.sub h3 (by omega),Y⟩
 |n+2,i,T,h,hl,hg=>by
  cases T with
  |pr a b=>
   simp only[Su,av] at h;obtain⟨⟨h1,h2⟩,h4⟩:=h;have h3:=aw h2;simp only[Ty.size] at hl;obtain⟨z,M⟩:=hg 0 (by omega);obtain⟨v,hv,Y⟩:=J a _ _ _ h1 M;rw[c8] at hv;have hv:=hv.sub h3 (by omega);obtain⟨v',Z,U⟩:=Vt J cs (n+1) (i+1) b h4 (by rw[MV,Nat.one_mul];omega) (λj hj=>by have:=hg (j+1) (by omega);rwa [show i+(j+1)=i+1+j from by omega] at this);refine ⟨(v,v'),λj y u I hu=>?_,Y,U⟩;simp only[bS] at I;by_cases hj:j<a.size
   .rw[bO (by rw[bB];exact hj)] at I;exact hv j y u I hu
   .rw[b7 (by rw[bB];omega),bB] at I;exact Z _ y u I (by rw[MV,Nat.one_mul,show i*P.cellsOf e+P.cellsOf e+(j-a.size)=i*P.cellsOf e+j from by omega];exact hu)
  |_=>unfold Su at h;cases h
theorem G6:∀ (n:Nat) (T:Ty) (t:TypeId) (fuel:Nat) (cs:List Value) x,Bb P n T t=ai->(∀ b,sp b=ai)->DataW.trod enc P W base sp hd fuel t cs=af x->∃ v,Kb W T v cs/\Va T v
 |0,_,_,_,_,_,h,_,_=>by unfold Bb at h;cases h
 |n+1,T,t,fuel,cs,x,h,hsp,ht=>by
  unfold Bb at h;split at h
  .rename_i k k' hu;have hk:=eq_of_beq h;subst hk;obtain⟨m,rfl,_,J⟩:=DataW.trod_int hu ht;refine ⟨m,⟨rfl,λj y v I hv=>?_⟩,J⟩;cases j with
   |zero=>simp[bS] at I hv;subst I hv;exact .raw _
   |succ j=>simp[bS] at I
  .rename_i hu;obtain⟨b,rfl,_⟩:=DataW.trod_bool hu ht;refine ⟨b,⟨rfl,λj y v I hv=>?_⟩,trivial⟩;cases j with
   |zero=>simp[bS] at I hv;subst I hv;exact .raw _
   |succ j=>simp[bS] at I
  .rename_i hu;obtain⟨s,rfl,_,hs⟩:=DataW.trod_string hu ht;refine ⟨s.data.toList,⟨rfl,λj y v I hv=>?_⟩,by simpa[Va] using hs⟩;cases j with
   |zero=>simp[bS] at I hv;subst I hv;exact .raw _
   |succ j=>simp[bS] at I
  .rename_i U e hu;simp only[av] at h;obtain⟨⟨h1,h2⟩,h3⟩:=h;have h2:=aw h2;have h3:0<U.size:=a_ h3;rcases Go.Deep.open_slice hu ht with ⟨rfl,_⟩|⟨a,len,cap,m,k,D,Pl,rfl,hb,hl,hm,hmm,_,hi⟩
   .refine ⟨[],⟨rfl,λj y v I hv=>?_⟩,by simp[Va]⟩;cases j with
    |zero=>simp[bS] at I hv;subst I hv;exact .nil _ _ (by unfold maxLen;omega)
    |succ j=>simp[bS] at I
   .rw[hsp,aE rfl] at hmm;rw[h2] at hi;obtain⟨xs,hx1,Y⟩:=JO U.zero (λi (v:U.den)=>∃ cs',W.cells? base (a.add (i*U.size)) U.size=af cs'/\Kb W U v cs'/\Va U v) len (λi hil=>by
     obtain⟨cs',hc,htt⟩:=hi i (by omega);obtain⟨v,hv,J⟩:=G6 n U e k cs' _ h1 hsp htt;exact⟨v,cs',hc,hv,J⟩)
    refine ⟨xs,⟨rfl,λj y v I hv=>?_⟩,by show al xs<=maxLen;omega,λy I=>?_⟩
    .cases j with
     |succ j=>simp[bS] at I
     |zero=>
      simp[bS] at I hv;subst I hv;by_cases h0:len=0
      .have:xs=[]:=gF.1 (by omega);subst this;subst h0;exact .nil _ _ hm
      .obtain⟨x0,hx0⟩:∃ x0,xs[0]? =af x0:=⟨xs[0]'(by omega),aA (by omega)⟩
       obtain⟨cs0,hc0,_⟩:=Y 0 x0 hx0;obtain⟨_,hcl0,hat0⟩:=World.cells?_some hc0;have hca:=hat0 0 h3;rw[aA (by omega)] at hca;have hspot:a.spot=ah:=by
        have:=XM hca;simpa[Addr.add] using this
       have hblk:=World.block_lt_of_cell? W _ hca;rw[Nat.zero_mul,Addr.add_plain hspot,Addr.add_plain rfl] at hca hblk;have hcell:∀ (i j:Nat) x,xs[i]? =af x->j<U.size->∃ cs',W.cell? ⟨a.block,a.off+(i*U.size+j),ah⟩=cs'[j]? /\j<cs'.length/\Kb W U x cs':=λi j x Z hj=>by
        obtain⟨cs',hc,hr,_⟩:=Y i x Z;obtain⟨_,hcl,hat⟩:=World.cells?_some hc;have:=hat j hj;rw[Addr.add_plain hspot,Addr.add_plain rfl,sA] at this;exact⟨cs',this,by omega,hr⟩
       have hflat:∀ j,j<xs.length*U.size->∃ x,xs[j/U.size]? =af x/\j%U.size<U.size/\j=j/U.size*U.size+j%U.size:=λj hj=>by
        have h5:j/U.size<xs.length:=Nat.div_lt_of_lt_mul (by rw[GZ];exact hj);exact⟨xs[j/U.size],aA h5,Nat.mod_lt _ h3,by rw[GZ];exact (Nat.div_add_mod j U.size).symm⟩
       have hlen:(List.flatMap (bS U) xs).length=xs.length*U.size:=fx (bB U) xs;obtain⟨ab,ao,az⟩:=a;cases hspot;rw[<- hx1];refine .sl (List.flatMap (bS U) xs) xs.length cap ab ao (λj=>(W.cell? ⟨ab,ao+j,ah⟩).getD undef) (by omega) hm (λh=>h) hblk (rA U xs) (λj hj=>?_) (λj y I=>?_)
       .obtain⟨x,Z,hjs,hje⟩:=hflat j (by omega);obtain⟨cs',g1,g2,_⟩:=hcell _ _ x Z hjs;rw[<- hje] at g1;simp only[g1,aA g2,uE]
       .have hj:j<xs.length*U.size:=by rw[<- hlen];exact (bk.1 I).1
        obtain⟨x,Z,hjs,hje⟩:=hflat j hj;obtain⟨cs',g1,g2,g3⟩:=hcell _ _ x Z hjs;rw[<- hje] at g1;simp only[g1];rw[aA g2];refine g3.2 (j%U.size) y _ ?_ (aA g2);obtain⟨r,hr⟩:=Em (bB U) xs (j/U.size) x Z;have:((List.flatMap (bS U) xs).drop (j/U.size*U.size))[j%U.size]? =af y:=by rw[gV,<-hje];exact I
        rw[hr,bO (by rw[bB];exact hjs)] at this;exact this
    .obtain⟨i,M⟩:=eV I;obtain⟨_,_,_,J⟩:=Y i y M;exact J
  .rename_i U fs hu;simp only[av] at h;have h2:=aw h.2;obtain⟨xs,m,rfl,_,hl,hxl,hg⟩:=DataW.trod_struct hu ht;obtain⟨v,hv,J⟩:=Vs (f:=Bb P n) (m:=m) (λT t cs x h1 h2=>G6 n T t m cs x h1 hsp h2) cs xs fs.toList 0 0 U h.1 (by omega) (λi fl hi=>by
    have M:fs[i]? =af fl:=by simpa using hi
    have:=hg i fl M;have hlt:i<xs.length:=by rw[hxl];exact (cC.1 M).1
    rw[aA hlt] at this;exact⟨_,this⟩)
   exact⟨v,⟨by rw[hl,h2];rfl,λj y u I hu=>hv j y u I (by rw[bN];exact hu)⟩,J⟩
  .rename_i U m e hu;simp only[av] at h;have h2:=aw h.2;obtain⟨xs,q,rfl,_,hl,hxl,hg⟩:=DataW.trod_array hu ht;obtain⟨v,hv,J⟩:=Vt (f:=Bb P n) (m:=q) (λT t cs x h1 h2=>G6 n T t q cs x h1 hsp h2) cs m 0 U h.1 (by omega) (λj hj=>by
    have:=hg j hj;rw[aA (by omega)] at this;rw[bN];exact⟨_,this⟩)
   exact⟨v,⟨by rw[hl,h2];rfl,λj y u I hu=>hv j y u I (by rw[Nat.zero_mul,bN];exact hu)⟩,J⟩
  .cases h
theorem Pv {n:Nat} {T:Ty} {t:TypeId} {v:Value} {r:Reach} {bs:Nat} (I:Bb P n T t=ai) (h1:T.one=ai) (h:GU P W r bs t v):v.cells.toList=[v]:=by
 cases n with
 |zero=>unfold Bb at I;cases I
 |succ n=>
  unfold Bb at I;unfold GU at h;cases v with
  |agg cs=>
   exfalso;split at I<;>rename_i hu<;>first|(rw [hu] at h;simp only[] at h;unfold Cell.okWide at h;rw[hu] at h;unfold Cell.ok at h;rw[hu] at h;simp at h)|cases h1|cases I
  |_=>rfl
theorem S1 {n:Nat} {T:Ty} {t:TypeId} {v:Value} {r:Reach} {bs:Nat} (I:Bb P n T t=ai) (h1:T.one=aj) (h:GU P W r bs t v):∃ cs,v= .agg cs:=by
 cases n with
 |zero=>unfold Bb at I;cases I
 |succ n=>
  unfold Bb at I;unfold GU at h;split at I<;>rename_i hu<;>first|(rw [hu] at h;obtain⟨cs,h,_⟩:=h;exact⟨cs,h⟩)|cases h1|cases I
theorem open_arg {n:Nat} {T:Ty} {t:TypeId} {v:Value} {d:DataW H} {ps:List MemPlace} {r:Reach} {bs:Nat} (J:Bb P n T t=ai) (hsp:∀ b,sp b=ai) (hok:GU P W r bs t v) (h:DataW.Trod enc P W base sp hd t v d ps):∃ x,m6 (λ_=>False) W (gE T x) v/\Va T x:=by
 obtain⟨fuel,hf⟩:=h;obtain⟨x,I,U⟩:=G6 n T t fuel _ _ J hsp hf;refine ⟨x,?_,U⟩;by_cases h1:T.one=ai
 .obtain⟨e1,e2⟩:=CS T x h1;exact I.2 0 _ v (by rw[e1];rfl) (by rw[Pv J h1 hok];rfl)
 .obtain⟨cs,rfl⟩:=S1 J (by simpa using h1) hok;rw[qw T x (by simpa using h1)];have hl:cs.toList.length=(bS T x).length:=by rw[bB];exact I.1
  have:=m6.agg (O:=λ_=>False) (w:=W) (bS T x) cs.toList hl (nM T x) (λj y u M hu=>I.2 j y u M hu);simpa using this
end
theorem Wg {z:Int} (h:(Lit.int .u8 z).wf=ai):0<=z/\z<=255:=⟨bg (gW.1 h).1,bg (gW.1 h).2⟩
theorem XT:tY=uL:=rfl
def cnB (l:List ET) (a b:Nat):Bool:=decide (¬(dC l a).th=(dC l b).th/\acB (dC l a)=ai/\acB (dC l b)=ai/\(dC l a).ob=(dC l b).ob/\((dC l a).k=4\/(dC l b).k=4))
theorem J6 {w:WT} {l:List ET} (I:TR (w,l)) {a:Nat} (J:a<l.length) (h:acB (dC l a)=ai):(eN l a).2.2.1=((dC l a).ob:Int):=(wg I J).ob (by rcases bg h with h|h<;>rw[h]<;>decide)
theorem Rs {w:WT} {l:List ET} (I:TR (w,l)) {a b:Nat} (M:a<l.length) (hb:b<l.length):qh ((w,l),(a:Int),(b:Int))=af (cnB l a b&& !Hu w.1 (dC l b).ob):=by
 refine cD ?_;unfold qh cnB aX bl bL bf bK aF;rw[XT];have ka:(eN l a).2.1=(dC l a).k:=(wg I M).k;have kb:(eN l b).2.1=(dC l b).k:=(wg I hb).k;refine cA (aS (cA (aS ?_)));have fin:∀ {p:Prop} [Decidable p] {v:Bool},¬p->aj=(decide p&&v):=λh=>by rw[bH h];rfl
 refine aY (λx=>x.2=((w,l),eN l a,eN l b)/\(x.1=aj↔¬(eN l a).1=(eN l b).1/\(eN l a).2.2.1=(eN l b).2.2.1)) (aK (λh=>ar ⟨rfl,?_⟩) λh=>ar ⟨rfl,?_⟩) ?_
 .have h:(eN l a).1=(eN l b).1:=h;exact⟨λq=>(by cases q),λq=>(q.1 h).elim⟩
 .have h:¬(eN l a).1=(eN l b).1:=h;change (!decide ((eN l a).2.2.1=(eN l b).2.2.1))=aj↔_;rw[Bool.not_eq_false',bR];exact⟨λq=>⟨h,q⟩,λq=>q.2⟩
 rintro⟨x,y⟩ ⟨e,h⟩;dsimp only at e h;subst e;refine aP (λJ=>ar (fin λq=>?_)) λJ=>?_
 .have h1:=h.2 ⟨λr=>q.1 ((M2 I M hb).1 r),by rw[J6 I M q.2.1,J6 I hb q.2.2.1,q.2.2.2.1]⟩;rw[show x=ai from J] at h1;cases h1
 obtain⟨Y,Z⟩:=h.1 J;have Y:¬(dC l a).th=(dC l b).th:=λq=>Y ((M2 I M hb).2 q)
 refine aY (λx=>x.2=(eN l a,eN l b)/\(x.1=aj↔acB (dC l a)=ai/\acB (dC l b)=ai/\Hu w.1 (dC l b).ob=aj)) ?_ ?_
 .refine aV (Sl I M) (dO (λh1=>ar ⟨rfl,λq=>(by cases q),λq=>(by rw[q.1] at h1;cases h1)⟩) λh1=>aV (Sl I hb) (dO (λh2=>ar ⟨rfl,λq=>(by cases q),λq=>(by rw[q.2.1] at h2;cases h2)⟩) λh2=>?_));have hk:=bg h2;have ce:=((yT I hb).ce hk).2;change Ok (chk (fI (eN l a).2.2.1 (al w.1)) λ_=>lt (aJ (T:=OQ) w.1 (eN l a).2.2.1) λz=>af (bW (z.2.2.2.1,eN l a,eN l b))) _;rw[Z,J6 I hb h2];refine cA (aS (ar ⟨rfl,?_⟩));rw[VR];exact⟨λq=>⟨h1,h2,q⟩,λq=>q.2.2⟩
 rintro⟨x,y⟩ ⟨e,h⟩;dsimp only at e h;subst e;refine aP (λJ=>ar ?_) λJ=>gu ?_
 .symm
  rw[MW];intro q;obtain⟨U,q2⟩:=gW.1 q;have U:=bg U;have h1:=h.2 ⟨U.2.1,U.2.2.1,by simpa using q2⟩;rw[show x=ai from J] at h1;cases h1
 .obtain⟨h1,h2,h5⟩:=h.1 J;rw[J6 I M h1,J6 I hb h2] at Z;rw[h5,Bool.not_false,Bool.and_true];refine aK (λg=>ar (ar ?_)) λg=>ar (ar ?_)
  .have g:(eN l a).2.1=4:=g;exact (aQ ⟨Y,h1,h2,by omega,by omega⟩).symm
  .have g:¬(eN l a).2.1=4:=g;change decide ((eN l b).2.1=4)=_;rw[decide_eq_decide];exact⟨λq=>⟨Y,h1,h2,by omega,by omega⟩,λq=>by omega⟩
def rcB (w:WT) (l:List ET) (a b:Nat):Bool:=cnB l a b&&(!Hu w.1 (dC l b).ob&& !decide ((Dm l (dC l a).th a:Int)+1<=(ux w l b).getD (dC l a).th 0))
def rI (w:WT) (l:List ET) (b:Nat):Nat->List (Int×Int)
 |0=>[]
 |i+1=>if rcB w l i b=ai then rI w l b i++[((i:Int),(b:Int))] else rI w l b i
def rO (w:WT) (l:List ET):Nat->List (Int×Int)
 |0=>[]
 |b+1=>rO w l b++rI w l b b
theorem SX (w:WT) (l:List ET) (b:Nat):∀ i,(rI w l b i).length<=i
 |0=>bT _
 |i+1=>by
  have:=SX w l b i;rw[rI];split
  .rw[bt,eD];omega
  .omega
theorem SS (w:WT) (l:List ET):∀ b,b<=1000->(rO w l b).length<=b*1000
 |0,_=>jR _
 |b+1,h=>by
  have:=SS w l b (by omega);have:=SX w l b b;rw[rO,bt];omega
theorem SU {w:WT} {l:List ET} {b:Nat} {p:Int×Int}:∀ i,p∈rI w l b i->∃ a:Nat,a<i/\rcB w l a b=ai/\p=((a:Int),(b:Int))
 |i+1,h=>by
  rw[rI] at h;split at h
  .rename_i q;rcases bP.1 h with h|h
   .obtain⟨a,h1,h2⟩:=SU i h;exact⟨a,by omega,h2⟩
   .exact⟨i,by omega,q,aL.1 h⟩
  .obtain⟨a,h1,h2⟩:=SU i h;exact⟨a,by omega,h2⟩
theorem YZ {w:WT} {l:List ET} {p:Int×Int}:∀ n,p∈rO w l n->∃ a b:Nat,a<b/\b<n/\rcB w l a b=ai/\p=((a:Int),(b:Int))
 |n+1,h=>by
  rw[rO] at h;rcases bP.1 h with h|h
  .obtain⟨a,b,h1,h2,I⟩:=YZ n h;exact⟨a,b,h1,by omega,I⟩
  .obtain⟨a,h1,h2⟩:=SU n h;exact⟨a,n,h1,by omega,h2⟩
theorem aao {w:WT} {l:List ET} (I:TR (w,l)):nF (w,l)=af (rO w l l.length,0):=by
 have hl:=I.len;dsimp only at hl;refine cD ?_;unfold nF zR bz iT bF bK aZ cP aF cF;refine aV (Yv I) (fU (aV (Xq I) ?_));refine iz l.length (by omega) (λb x=>x=((b:Int),(w,l),rO w l b)) ?_ ?_ rfl
 .rintro b x hb rfl;have hO:=SS w l b (by omega);refine dv ?_;refine iz b (by omega) (λi x=>x=((i:Int),(w,l),rO w l b++rI w l b i)) ?_ ?_ ?_
  .rintro i x hi rfl;have J:=SX w l b i;refine dv ?_;refine aY (λx=>x=((w,l),rO w l b++rI w l b (i+1))) ?_ ?_
   .refine aY (λx=>x=(rcB w l i b,(w,l),rO w l b++rI w l b i)) ?_ ?_
    .refine aV (Rs I (show i<l.length by omega) hb) ?_;unfold rcB;refine aP (λh=>?_) λh=>ar ?_
     .obtain⟨h1,h2⟩:=gW.1 h;refine aR (by dsimp only;omega) (by dsimp only;rw[cf,lm];omega) (aS (aR (by dsimp only;omega) (by dsimp only;rw[cf,lm];omega) (aS ?_)));dsimp only;rw[ZX hb,ZU (show i<l.length by omega)];refine aV (U9 _ _ _) (ar ?_);rw[h1,h2];rfl
     .rw[<- Bool.and_assoc,h];rfl
    rintro x rfl;rw[rI];refine aP (λh=>bn ?_ (by omega) (ar ?_)) λh=>ar ?_
    .dsimp only;rw[bt,eD];omega
    .dsimp only;rw[aE h,iw]
    .dsimp only at h ⊢;rw[aB (by rw[h];decide)]
   rintro x rfl;refine ar ?_;dsimp only;rw[gO (by omega)]
  .rintro x rfl;refine dc (ar ?_);dsimp only;rw[gO (by omega)];rfl
  .rw[rI,jT];rfl
 .rintro x rfl;exact dc (ar rfl)
abbrev gL (s:List (Int×List Int)) (k:Int):Int×List Int:=aJ (T:=zH) s k
theorem G5 {s:List (Int×List Int)} {o k:Int} (t:Int) (o0:0<=o) (I:0<=k) (k1:k<s.length):(gL (owP s o t) k).1=if k=o then t else (gL s k).1:=by
 unfold owP gL;rw[v9 _ _ _ _ o0 I k1];split<;>rfl
theorem ac0 {s:List (Int×List Int)} {o k:Int} (r:List Int) (o0:0<=o) (I:0<=k) (k1:k<s.length):(gL (rdP s o r) k).1=(gL s k).1:=by
 unfold rdP gL;rw[v9 _ _ _ _ o0 I k1];split
 .rename_i h;subst h;rfl
 .rfl
structure OW (A R:Prop) (t:Int) (g g':Int):Prop where
 a:A->g= -1/\g'=t
 r:R->g=t/\g'= -1
 n:¬A->¬R->g'=g
theorem Zn {c:Prop} [Decidable c] {a b:SY×Int} {x:List (Int×List Int)} (I:a.1.1=x) (hb:b.1.1=x):(if c then a else b).1.1=x:=by by_cases h:c<;>simp[h,I,hb]
theorem ah0 (w:WT) (s:SY) (t k o v:Int) (en:EN w s t k o) (rd:So w s t k o) (x:Int) (x0:0<=x) (J:x<s.1.length) (I:(aJ (T:=F9) w.2.1 x).2=aj):OW (k=6/\o=x\/k=17/\WP w o=x) (k=7/\o=x\/k=16/\WP w o=x) t (gL s.1 x).1 (gL (oG w s t k o v).1.1 x).1:=by
 have nm:=en.nm;have rw8:8<=k/\k<=11->o≠x:=λh e=>by subst e;have:=nm.rw h;rw[I] at this;cases this
 have mu0:16<=k/\k<=19->0<=WP w o:=λh=>(en.cd _ (bG (T:=O2) (nm.cd h).1 (nm.cd h).2)).1
 have ob:=nm.lk;have aq:=rd.aq;have rl:=rd.rl;have nt:=rd.nt;have wk:=rd.wk;obtain⟨s1,s2,M,th⟩:=s;dsimp only at J aq rl nt wk ⊢;by_cases Z:k=6\/k=10
 .have e:(gL (oG w (s1,s2,M,th) t k o v).1.1 x).1=if x=o then t else (gL s1 x).1:=by
   rcases Z with rfl|rfl<;>exact G5 t (ob (by omega)).1 x0 J
  rw[e];refine ⟨λh=>?_,λh=>by omega,λh _=>by rw[aB];intro q;rcases Z with rfl|rfl;exact h (.inl ⟨rfl,q.symm⟩);exact rw8 (by omega) q.symm⟩;have I:x=o:=by omega
  rw[aE I];subst I;exact⟨aq (by omega),rfl⟩
 by_cases a7:k=7\/k=11
 .have e:(gL (oG w (s1,s2,M,th) t k o v).1.1 x).1=if x=o then -1 else (gL s1 x).1:=by
   rcases a7 with rfl|rfl<;>exact G5 (-1) (ob (by omega)).1 x0 J
  rw[e];refine ⟨λh=>by omega,λh=>?_,λ_ h=>by rw[aB];intro q;rcases a7 with rfl|rfl;exact h (.inl ⟨rfl,q.symm⟩);exact rw8 (by omega) q.symm⟩;have I:x=o:=by omega
  rw[aE I];subst I;exact⟨rl (by omega),rfl⟩
 by_cases a8:k=8\/k=9
 .have e:(gL (oG w (s1,s2,M,th) t k o v).1.1 x).1=(gL s1 x).1:=by
   rcases a8 with rfl|rfl<;>exact ac0 _ (ob (by omega)).1 x0 J
  rw[e];exact⟨λh=>by omega,λh=>by omega,λ_ _=>rfl⟩
 by_cases Y:k=16
 .subst Y;have e:(gL (oG w (s1,s2,M,th) t 16 o v).1.1 x).1=if x=WP w o then -1 else (gL s1 x).1:=G5 (-1) (mu0 (by omega)) x0 J
  rw[e];refine ⟨λh=>by omega,λh=>?_,λ_ h=>by rw[aB];intro q;exact h (.inr ⟨rfl,q.symm⟩)⟩;have I:x=WP w o:=by omega
  rw[aE I,I];exact⟨nt (by omega),rfl⟩
 by_cases U:k=17
 .subst U;have e:(gL (oG w (s1,s2,M,th) t 17 o v).1.1 x).1=if x=WP w o then t else (gL s1 x).1:=G5 t (mu0 (by omega)) x0 J
  rw[e];refine ⟨λh=>?_,λh=>by omega,λh _=>by rw[aB];intro q;exact h (.inr ⟨rfl,q.symm⟩)⟩;have I:x=WP w o:=by omega
  rw[aE I,I];exact⟨(wk rfl).2.2,rfl⟩
 have e:(oG w (s1,s2,M,th) t k o v).1.1=s1:=by
  unfold oG;rw[aB Z,aB a7,aB (show ¬k=8 by omega),aB (show ¬k=9 by omega),aB Y,aB U];repeat (first|exact rfl|refine Zn rfl ?_|refine Zn (Zn rfl rfl) ?_)
 rw[e];exact⟨λh=>by omega,λh=>by omega,λ_ _=>rfl⟩
def W1 (w:WT) (l:List ET) (u k:Nat):Nat->Bool
 |0=>aj
 |i+1=>if ¬(dC l i).th=u then W1 w l u k i else if (OD w (dC l i)).1=k then ai else if (wR w (dC l i)).1=k then aj else W1 w l u k i
abbrev oN (w:WT) (l:List ET) (k i:Nat):Int:=(gL (J5 w (l.take i)).1.1 (k:Int)).1
theorem Nd {w:WT} {l:List ET} (J:TR (w,l)) {i k:Nat} (hi:i<l.length) (hk:k<w.2.1.length) (M:(aJ (T:=F9) w.2.1 (k:Int)).2=aj):OW ((OD w (dC l i)).1=k) ((wR w (dC l i)).1=k) (dC l i).th (oN w l k i) (oN w l k (i+1)):=by
 have sc:=J.sc hi;have et:=wg J hi;have ok:=yT J hi;have en:=sc.en;have I:=ah0 w (J5 w (l.take i)).1 (eN l i).1 (eN l i).2.1 (eN l i).2.2.1 (eN l i).2.2.2.1 en sc.rd (k:Int) (by omega) (by rw[en.e1];omega) M;have Z:oN w l k (i+1)=(gL (oG w (J5 w (l.take i)).1 (eN l i).1 (eN l i).2.1 (eN l i).2.2.1 (eN l i).2.2.2.1).1.1 (k:Int)).1:=by unfold oN;rw[J4 w hi]
 rw[<- Z,et.th] at I;have qk:=et.k;have rw8:8<=(dC l i).k/\(dC l i).k<=11->(dC l i).ob≠k:=λh e=>by
  have:=en.nm.rw (by omega);have Y:(dC l i).k=8\/(dC l i).k=9\/(dC l i).k=10\/(dC l i).k=11:=by omega
  rw[et.ob (by rcases Y with h|h|h|h<;>rw[h]<;>decide),e,M] at this;cases this
 have mu:(dC l i).k=16\/(dC l i).k=17->WP w (eN l i).2.2.1=(Ks w.2.2.1 (dC l i).ob:Int):=λh=>by
  have:=(ok.cd h).2.1;unfold WP;rw[et.ob (by rcases h with h|h<;>rw[h]<;>decide),Hb];unfold Ks;omega
 have qo:(dC l i).k=6\/(dC l i).k=7->(eN l i).2.2.1=((dC l i).ob:Int):=λh=>et.ob (by rcases h with h|h<;>rw[h]<;>decide)
 have U:(OD w (dC l i)).1=(k:Int)↔((eN l i).2.1=6/\(eN l i).2.2.1=(k:Int)\/(eN l i).2.1=17/\WP w (eN l i).2.2.1=(k:Int)):=by
  unfold OD;repeat' split
  all_goals dsimp only
  all_goals constructor
  all_goals intro h
  all_goals first|omega|skip
 have hr:(wR w (dC l i)).1=(k:Int)↔((eN l i).2.1=7/\(eN l i).2.2.1=(k:Int)\/(eN l i).2.1=16/\WP w (eN l i).2.2.1=(k:Int)):=by
  unfold wR;repeat' split
  all_goals dsimp only
  all_goals constructor
  all_goals intro h
  all_goals first|omega|skip
 exact⟨λh=>I.a (U.1 h),λh=>I.r (hr.1 h),λh h2=>I.n (λq=>h (U.2 q)) λq=>h2 (hr.2 q)⟩
theorem G' {w:WT} {l:List ET} (J:TR (w,l)) {u k:Nat} (hk:k<w.2.1.length) (M:(aJ (T:=F9) w.2.1 (k:Int)).2=aj):∀ i,i<=l.length->W1 w l u k i=ai->oN w l k i=(u:Int)
 |0,_,h=>by cases h
 |i+1,hi,h=>by
  have I:=Nd J (i:=i) (by omega) hk M;rw[W1] at h;split at h
  .rename_i hu;have U:=G' J hk M i (by omega) h;rw[I.n (λq=>by have:=(I.a q).1;omega) (λq=>by have:=(I.r q).1;omega)];exact U
  .rename_i hu;split at h
   .rename_i q;rw[(I.a q).2];omega
   .rename_i q;split at h
    .cases h
    .rename_i r;rw[I.n q r];exact G' J hk M i (by omega) h
theorem ZB {w:WT} {l:List ET} (M:TR (w,l)) {k a b:Nat} (hk:k<w.2.1.length) (hx:(aJ (T:=F9) w.2.1 (k:Int)).2=aj) (hab:a<b) (hb:b<l.length) (ha:oN w l k a=((dC l a).th:Int)) (hb2:oN w l k b=((dC l b).th:Int)) (hne:¬(dC l a).th=(dC l b).th) (na:¬(OD w (dC l a)).1=k) (nr:¬(wR w (dC l a)).1=k):Wu w l a b:=by
 have key:∀ j,a+1+j<=b->LE (ux w l a) ((BX w (l.take (a+1+j))).T.getD (dC l a).th [])/\(oN w l k (a+1+j)=((dC l a).th:Int)\/LE (ux w l a) ((BX w (l.take (a+1+j))).L.getD k [])/\∀ y:Nat,oN w l k (a+1+j)=(y:Int)->LE (ux w l a) ((BX w (l.take (a+1+j))).T.getD y [])):=by
  intro j;induction j with
  |zero=>
   intro h;have T1:=Nd M (i:=a) (by omega) hk hx;refine ⟨?_,.inl ?_⟩
   .rw[c8,yK w (by omega),QE,lY,aE ⟨rfl,(yT M (by omega)).th⟩];exact LE.refl _
   .rw[c8,T1.n na nr];exact ha
  |succ j ih=>
   intro h;obtain⟨h1,h2⟩:=ih (by omega);have T1:=Nd M (i:=a+1+j) (by omega) hk hx;have ok:=yT M (i:=a+1+j) (by omega);obtain⟨o,ft⟩:=Nw M (a+1+j) (by omega);rw[show a+1+(j+1)=a+1+j+1 by omega,yK w (by omega)];generalize hi:a+1+j=i at*
   have hcT:LE ((BX w (l.take i)).T.getD (dC l i).th []) (ux w l i):=Wa w _ _;have gT:∀ u,LE ((BX w (l.take i)).T.getD u []) ((jm w (BX w (l.take i)) (dC l i) (ux w l i)).T.getD u []):=λu=>by
    rw[QE,lY];split
    .rename_i q;rw[<- q.1];exact hcT
    .exact LE.refl _
   have gJ:∀ (m:Nat),LE ((BX w (l.take i)).L.getD k []) ((jat (BX w (l.take i)).L m (ux w l i)).getD k []):=λm=>by
    unfold jat;rw[lY];split
    .rename_i q;rw[<- q.1];exact aik _ _
    .exact LE.refl _
   have gL:LE ((BX w (l.take i)).L.getD k []) ((jm w (BX w (l.take i)) (dC l i) (ux w l i)).L.getD k []):=by
    rw[ZW];repeat' split
    .exact gJ _
    .exact gJ _
    .exact LE.refl _
   refine ⟨h1.trans (gT _),?_⟩;by_cases J:(OD w (dC l i)).1=k
   .obtain⟨a1,a2⟩:=T1.a J;rcases h2 with h2|⟨h2,Z⟩
    .omega
    .refine .inr ⟨h2.trans gL,λy hy=>?_⟩;have:y=(dC l i).th:=by omega
     subst this;rw[QE,lY,aE ⟨rfl,ok.th⟩];refine h2.trans (adg (w:=w) (h:=BX w (l.take i)) (e:=dC l i) ?_);unfold OD at J;unfold yl;by_cases e6:(dC l i).k=6\/(dC l i).k=10
     .rw[aE e6] at J;have:(dC l i).ob=k:=by dsimp only at J;omega
      rw[aB (by omega),aB (by omega),aE e6,this];simp
     rw[aB e6] at J;by_cases e8:(dC l i).k=8
     .rw[aE e8] at J;have:(dC l i).ob=k:=by dsimp only at J;omega
      rw[aB (by omega),aB (by omega),aB (by omega),aE e8,this];simp
     rw[aB e8] at J;by_cases U:(dC l i).k=17
     .rw[aE U] at J;have:Ks w.2.2.1 (dC l i).ob=k:=by dsimp only at J;omega
      rw[aB (by omega),aB (by omega),aB (by omega),aB (by omega),aE U,this];simp
     .rw[aB U] at J;dsimp only at J;omega
   by_cases I:(wR w (dC l i)).1=k
   .obtain⟨r1,r2⟩:=T1.r I;refine .inr ⟨?_,λy hy=>by omega⟩;rcases h2 with h2|⟨h2,Z⟩
    .have e:(dC l i).th=(dC l a).th:=by omega
     have hc:LE (ux w l a) (ux w l i):=by rw[e] at hcT;exact h1.trans hcT
     rw[ZW];have hkl:k<(BX w (l.take i)).L.length:=by rw[ft.L];exact hk
     unfold wR at I;by_cases e7:(dC l i).k=7\/(dC l i).k=11
     .rw[aE e7] at I;have:(dC l i).ob=k:=by dsimp only at I;omega
      rw[aE e7,this,w7 _ _ _ _ hkl,aE rfl];exact hc.trans (aee _ _)
     rw[aB e7] at I;by_cases e9:(dC l i).k=9
     .exfalso;rw[aE e9] at I;have rw9:=(M.sc (show i<l.length by omega)).en.nm.rw (by rw[(wg M (by omega)).k,e9];decide);rw[(wg M (show i<l.length by omega)).ob (by rw[e9];decide)] at rw9;dsimp only at I;rw[I,hx] at rw9;cases rw9
     rw[aB e9] at I;by_cases Y:(dC l i).k=16
     .rw[aE Y] at I;have:Ks w.2.2.1 (dC l i).ob=k:=by dsimp only at I;omega
      rw[aB e7,aE Y,this,w7 _ _ _ _ hkl,aE rfl];exact hc.trans (aee _ _)
     .rw[aB Y] at I;dsimp only at I;omega
    .exact h2.trans gL
   .rw[T1.n J I];rcases h2 with h2|⟨h2,Z⟩
    .exact .inl h2
    .exact .inr ⟨h2.trans gL,λy hy=>(Z y hy).trans (gT y)⟩
 obtain⟨j,rfl⟩:∃ j,b=a+1+j:=⟨b-(a+1),by omega⟩
 obtain⟨_,h2⟩:=key j (bT _);rcases h2 with h2|⟨_,Z⟩
 .omega
 .exact Wu.of M (by omega) ((Z _ hb2).trans (Wa w _ _))
theorem Mb {w:WT} {l:List ET} (I:TR (w,l)) {i:Nat} (hi:i<l.length) (k:Nat):mf ((w,l),(k:Int),(i:Int))=af (W1 w l (dC l i).th k i):=by
 have hl:=I.len;dsimp only at hl;refine cD ?_;unfold mf bf jz iT bK cP aF;refine ci i (λm x=>x=((i:Int)-1-m,w,l)/\W1 w l (dC l i).th k (i-m)=W1 w l (dC l i).th k i) ?_ ?_ ⟨?_,by rw[Nat.sub_zero]⟩
 .rintro m x hm ⟨rfl,e⟩;have hj:i-m-1<l.length:=by omega
  rw[show i-m=i-m-1+1 by omega,W1] at e;refine fo (λ_=>?_) λg=>(by dsimp only at g;omega)
  dsimp only;rw[show (i:Int)-1-m=((i-m-1:Nat):Int) by omega];have hnx:bm .i64 (((i-m-1:Nat):Int)-1)=(i:Int)-1-((m+1:Nat):Int):=by rw[ib (by omega) (by omega)];omega
  refine aY (λx=>x=(w,l)/\W1 w l (dC l i).th k (i-(m+1))=W1 w l (dC l i).th k i) ?_ ?_
  .rw[show i-(m+1)=i-m-1 by omega];refine cA (aS (cA (aS (b8 (λh=>ar ⟨rfl,?_⟩) λh=>?_))))
   .rw[aE λq=>h ((M2 I hj hi).2 q)] at e;exact e
   .have h:(dC l (i-m-1)).th=(dC l i).th:=(M2 I hj hi).1 h;rw[aB λq=>q h] at e;refine cA (aS (aV (aj0 (yT I hj) (wg I hj)) (aK (λg=>ar ?_) λg=>?_)))
    .rw[aE g] at e;exact e
    .rw[aB g] at e;refine cA (aS (aV (ahm (yT I hj) (wg I hj)) (aK (λg=>ar ?_) λg=>ar ⟨rfl,?_⟩)))
     .rw[aE g] at e;exact e
     .rw[aB g] at e;exact e
  rintro x ⟨rfl,e⟩;exact ar ⟨by rw[hnx],e⟩
 .rintro x ⟨rfl,e⟩;refine fo (λg=>(by dsimp only at g;omega)) λ_=>ar ?_
  rw[GY] at e;exact e
 .dsimp only;rw[ib (by omega) (by omega)];simp
theorem WO {w:WT} {l:List ET} (I:TR (w,l)) {a b k:Nat} (hab:a<b) (hb:b<l.length) (h:rcB w l a b=ai) (hk:k<w.2.1.length) (J:(aJ (T:=F9) w.2.1 (k:Int)).2=aj) (h1:W1 w l (dC l a).th k a=ai) (h2:W1 w l (dC l b).th k b=ai):False:=by
 obtain⟨c,r⟩:=gW.1 h;have c:=bg c;have r:=(gW.1 r).2;rw[dN] at r;have r:=Ba r;have M:=bg c.2.1;refine r (ZB I hk J hab hb (G' I hk J a (by omega) h1) (G' I hk J b (by omega) h2) c.1 ?_ ?_)
 .unfold OD;rw[aB (by omega),aB (by omega),aB (by omega)];dsimp only;omega
 .unfold wR;rw[aB (by omega),aB (by omega),aB (by omega)];dsimp only;omega
theorem ON (a b c:List Int) (U:a.length<=9223372036854775807) (J:∀ z∈a,0<=z/\z<=255) (hc:c.length<=9223372036854775807) (M:∀ z∈c,0<=z/\z<=255):Ok (oD (a,b,c)) λy=>y=ai:=by
 unfold oD aX bL bz jz iT bK aZ cP aF cF;refine ax (P:=TR) (OF a b c 40 (by omega) (by omega) U J hc M) ?_;rintro⟨w,l⟩ I;have hl:=I.len;have hk:=I.wb.l;dsimp only at hl hk;have hO:=SS w l l.length (by omega);refine aV (aao I) (fU ?_);dsimp only;refine ci (rO w l l.length).length (λi x=>x=((i:Int),w,l)) ?_ ?_ rfl
 .rintro i x hi rfl;refine dv ?_;refine cA (aS ?_);obtain⟨a,b,h1,h2,Y,e⟩:=YZ l.length (bG (T:=.st (.pr (.int .i64) (.int .i64))) (xs:=rO w l l.length) (j:=(i:Int)) (by omega) (by omega));dsimp only;rw[e];refine aY (λx=>x=(aj,(w,l),(a:Int),(b:Int))) ?_ ?_
  .refine dc (fo (λg=>(by dsimp only at g;omega)) λ_=>ar ?_);show (c5 (aO l.length) (b:Int),(w,l),(a:Int),(b:Int))=_;rw[kT.2 (by dsimp only[au];omega)]
  rintro x rfl;refine fU ?_;refine ci w.2.1.length (λk x=>x=((k:Int),(w,l),(a:Int),(b:Int))) ?_ ?_ rfl
  .rintro k x hk rfl;refine dv ?_;refine aY (λx=>x=(aj,(w,l),(a:Int),(b:Int))) ?_ ?_
   .refine cA (aS (dO (λJ=>?_) λ_=>ar rfl));refine aV (Mb I (by omega) k) (aP (λg1=>aV (Mb I h2 k) (ar ?_)) λ_=>ar rfl);cases Z:W1 w l (dC l b).th k b with
    |true=>exact (WO I h1 h2 Y hk J g1 Z).elim
    |false=>rfl
   rintro x rfl;refine fU (ar ?_);dsimp only;rw[gO (by omega)]
  .rintro x rfl;refine dc (ar ?_);dsimp only;rw[gO (by omega)]
 .rintro x rfl;refine dc ?_;exact aV (x:=ai) (by rw[UU];rfl) (ar rfl)
theorem HBSync_law (x:List Int×List Int×List Int) (w:Va (.st (.pr (.sl (.int .u8)) (.pr (.sl (.int .u8)) (.sl (.int .u8))))) x):oD x=af ai:=by
 obtain⟨a,b,c⟩:=x;obtain⟨⟨l0,w0⟩,_,⟨l2,J⟩⟩:=w;obtain⟨y,h,rfl⟩:=ON a b c l0 (λz I=>Wg (w0 z I)) l2 (λz I=>Wg (J z I));exact h
def inert (f:FuncId):Bool:=aC f 72
theorem PH:∃ I,Tryz.prog.underlying 20=af (.interface I):=⟨#[],by kernel_rfl⟩
theorem Zt (w:World):(Op.equal 20 .nilIface .nilIface).run Tryz.prog w= .ok ai w:=by
 obtain⟨I,hu⟩:=PH;have key:∀ d,(Op.equalIn (d+1) 20 .nilIface .nilIface).run Tryz.prog w= .ok ai w:=λd=>by simp[Op.equalIn,run_underlying hu]
 exact key 9999
theorem Y8 {P:Program} {ops:Array Oper} {Q:Exit->Act->List Frame->World->Prop} {i:Nat} {rest:List Nat} {a:Act} {cs:List Frame} {w w':World} {o:Oper} (J:ops[i]? =af o) (I:o.guard=ah) (hr:(execOp a.eval o).run P w= .ok .recover w') (hn:recoverD cs=ah) (h:wpOpsS P ops Q rest (a.put o.dst .nilIface) cs w'):wpOpsS P ops Q (i::rest) a cs w:=by
 have I:iJ o (yielded ops a.tmps)=ai:=by unfold iJ;rw[I]
 simp only[wpOpsS,J,I,bD,hr,hn];exact h
theorem Y7 {P:Program} {ops:Array Oper} {Q:Exit->Act->List Frame->World->Prop} {i:Nat} {rest:List Nat} {a:Act} {cs:List Frame} {w w':World} {o:Oper} {v:Value} (J:ops[i]? =af o) (I:o.guard=ah) (hr:(execOp a.eval o).run P w= .ok (.value v) w') (h:wpOpsS P ops Q rest (a.put o.dst v) cs w'):wpOpsS P ops Q (i::rest) a cs w:=by
 have I:iJ o (yielded ops a.tmps)=ai:=by unfold iJ;rw[I]
 simp only[wpOpsS,J,I,bD,hr];exact h
theorem PF:Kg Tryz.prog inert:=by
 intro f hf;have hf:f=72:=aw hf;subst hf;refine ⟨⟨Tryz.f72,Tryz.func72,by kernel_rfl,by kernel_rfl⟩,λargs w=>?_⟩;refine callsD_of_wpS Tryz.func72 rfl λc₀ cs hu=>?_
 refine wpS_seq (wpS_region ?_);generalize ht:(args++oh (Tryz.f72.ntmps-args.size) undef)=T;have hs:5<=T.size:=by
  rw[<- ht];simp only[Array.size_append,Array.size_replicate];have:Tryz.f72.ntmps=5:=rfl;omega
 have hr:recoverD (c₀::cs)=ah:=by simp[recoverD,hu]
 refine Y8 (i:=0) (rest:=[1]) rfl rfl (w':=w) ?_ hr ?_
 .simp[execOp,resolve,invoke,builtin]
 refine Y7 (v:=.bool aj) rfl rfl (w':=w) ?_ ?_
 .have hv:Act.eval (MX {tmps:=T,defers:=[]} (af 2) .nilIface) (.tmp 2)= .nilIface:=by
   simp[Act.eval,MX,show 2<T.size by omega]
  have h2:=Zt w;have hcst:Act.eval (MX {tmps:=T,defers:=[]} (af 2) .nilIface) (.const .nilIface)= .nilIface:=rfl;show (execOp (Act.eval (MX {tmps:=T,defers:=[]} (af 2) .nilIface)) _).run _ w=_;simp[execOp,hv,hcst,eqGuard,binOp,h2]
 show Exit.thenS _ _ .normal _ _ _;refine wpS_cond (t:=aj) ?_ ?_
 .simp[Act.eval,MX,show 3<T.size by omega]
 refine wpS_of_wp (wp_skip ?_);have hres:Tryz.f72.results=#[]:=rfl;exact⟨rfl,c₀.mode,rfl,.tuple #[],by simp[results,hres],⟨_,rfl⟩,hu,rfl⟩
def dP {α:Type}:List (Nat×α)->PT α
 |[]=>.leaf
 |p::r=>(dP r).set p.1 (af p.2)
noncomputable abbrev Pg:Program:=Tryz.prog
def cn (D:FT) (m:D.pre.ty.den->Option D.post.ty.den):ct:=⟨D.pre,D.post,m⟩
theorem ajw:Pg.follows .mixedOrders=ai:=by kernel_rfl
theorem ac {f:FuncId} {c:ct} {l:List (FuncId×ct)} (h:aI Pg f c) (t:Sk Pg l):Sk Pg ((f,c)::l):=⟨h,t⟩
theorem an:Sk Pg []:=trivial
inductive OI {R:Type}:Option R->Option R->Prop where
 |rfl {a:Option R}:OI a a
 |chk {b:Bool} {k k':Option R} (h:k9 k k'):OI (chk b λ_=>k) (chk b λ_=>k')
 |bcase {b:Bool} {t f t' f':Option R} (h1:k9 t t') (h2:k9 f f'):OI (bcase b t f) (bcase b t' f')
 |lt {α:Type} {x:α} {k k':α->Option R} (h:∀ y,k9 (k y) (k' y)):OI (lt x k) (lt x k')
 |jn {α:Type} {o o':Option (R⊕α)} {k k':α->Option R} (h:k9 o o') (hk:∀ x,k9 (k x) (k' x)):OI (jn o k) (jn o' k')
 |obind {α:Type} {o o':Option α} {k k':α->Option R} (h:k9 o o') (hk:∀ x,k9 (k x) (k' x)):OI (obind o k) (obind o' k')
 |iter {σ:Type} {f g:σ->Option (σ⊕R)} {x:σ} (h:∀ x,k9 (f x) (g x)):OI (gk f x) (iter g x)
theorem OI.o {R:Type} {a b:Option R} (h:OI a b):k9 a b:=by
 cases h with
 |rfl=>exact k9.rfl
 |chk h=>exact k9.chk h
 |bcase h g=>exact k9.bcase h g
 |lt h=>exact k9.lt h
 |jn h g=>exact k9.jn h g
 |obind h g=>exact k9.obind h g
 |iter h=>exact k9.iter h
theorem mk {f:FuncId} (D:FT) (m:D.pre.ty.den->Option D.post.ty.den) {l:List (FuncId×ct)} (J:Sk Pg l) (I:TypeId->Option Ty) (he:∀ x,YM (Uy l) I inert (zj Pg f) D x=m x:=by intro x;kernel_rfl) (hs:(zj Pg f).isSome=ai:=by kernel_rfl) (hb:eC D.pre.bs.length D.post.bs.length=ai:=by kernel_rfl):aI Pg f (cn D m):=(Qg ajw PF J hs he).toC hb
theorem yB {f:FuncId} (D:FT) (m n:D.pre.ty.den->Option D.post.ty.den) (J:∀ x,k9 (m x) (n x)) {l:List (FuncId×ct)} (M:Sk Pg l) (I:TypeId->Option Ty) (he:∀ x,YM (Uy l) I inert (zj Pg f) D x=n x:=by intro x;kernel_rfl) (hs:(zj Pg f).isSome=ai:=by kernel_rfl) (hb:eC D.pre.bs.length D.post.bs.length=ai:=by kernel_rfl):aI Pg f (cn D m):=((Qg ajw PF M hs he).sub J).toC hb
theorem Pz {f:FuncId} (D:FT) (hs:(zj Pg f).isSome=ai:=by kernel_rfl) (hb:eC D.pre.bs.length D.post.bs.length=ai:=by kernel_rfl):aI Pg f (cn D λ_=>ah):=(TI hs).toC hb
abbrev uD:List PV:=[.d aN,.d aN,.d aN,.d aN,.d aN,.nil,.nil]
abbrev vy:List PV:=[.nil,.d aN,.nil,.nil,.nil,.nil,.nil]
abbrev afs:List PV:=[.ptr 1 0,.d aN,.d aN,.d .bool,.d .bool,.d .bool,.d .bool,.row 4]
abbrev afw:List PV:=[.d aN,.d aN,.d .str,.d .str,.nil,.d aN,.d aN,.d .str,.nil,.nil,.nil]
abbrev La2:List PB:=[.cells 192 afs,.cells 78 [.d yg],.gone,.cells 198 afw,.rowsP 9 .str]
abbrev MN:List PV:=[.ptr 0 0,.ptr 1 0,.ptr 2 0,.ptr 3 0,.ptr 4 0,.ptr 5 0,.ptr 6 0,.ptr 7 0,.d .bool]
abbrev La4:List PB:=[.cells 184 [.d (.sl kx),.d (.sl qD),.d (.sl k_),.d (.sl .str),.d (.sl .str),.d (.sl oe),.d (.sl .str),.row 2,.d aN,.d aN],.gone,.rows 188 ai qJ]
abbrev La5:List PB:=[.cells 184 [.d (.sl kx),.d (.sl qD),.d (.sl k_),.d (.sl .str),.d (.sl .str),.d (.sl oe),.d (.sl .str),.row 1,.d aN,.d aN],.rows 188 ai qJ]
abbrev La6:List PV:=[.d aN,.row 11,.row 12,.d aN]
abbrev La7:List PB:=[.cells 141 [.nil,.nil],.cells 192 [.ptr 5 0,.d aN,.d aN,.d .bool,.d .bool,.d .bool,.d .bool,.row 6],.cells 141 [.d (.sl F6),.row 7],.rows 9 aj .str,.cells 182 [.d .str,.d aN,.row 8,.row 9],.cells 78 [.d yg],.rowsP 9 .str,.rows 182 ai sL,.rows 9 aj .str,.rows 198 ai .sm]
abbrev La8:List PB:=[.cells 225 [.d (.sl F6),.d (.sl sL),.d aN,.row 1,.row 6,.row 7],.rowsP 198 .sm,.gone,.gone,.cells 198 [.d .sm],.cells 141 [.d MO],.rows 9 ai .str,.rows 9 ai .str]
abbrev La9:List PV:=[.d (.sl dV),.d aN,.d pM,.d (.sl h_),.row 8,.row 9,.csl 10 4 4]
abbrev aed:List PB:=[.cells 97 [.d (.sl dV),.d aN,.d pM,.d (.sl h_),.row 6,.row 7,.csl 8 4 4],.cells 144 [.d iE],.cells 97 vy,.cells 59 uD,.cells 59 [.d iL],.cells 175 [.d eP],.rows 2 ai aN,.rows 2 ai aN,.cells 175 [.d eP,.d eP,.d eP,.d eP]]
abbrev aft:List PV:=[.ptr 1 0,.d aN,.d aN,.d .bool,.d .bool,.d .bool,.d .bool,.row 2]
abbrev OL:List PV:=[.d Dy,.d aN]
abbrev U7:List PB:=[.cells 192 aft,.cells 78 OL,.rowsP 9 .str]
abbrev LJ:List PV:=[.ptr 0 0,.ptr 1 0,.ptr 2 0,.ptr 3 0,.ptr 4 0,.ptr 5 0,.ptr 6 0,.ptr 7 0,.d aN]
abbrev ahz:List PV:=[.d (.sl dV),.d aN,.d pM,.d (.sl h_),.row 8,.row 9,.csl 10 4 3]
abbrev aij:List PB:=[.cells 102 [.d uo],.cells 97 ahz,.cells 144 [.d iE],.cells 97 vy,.cells 59 uD,.cells 59 [.d iL],.cells 175 La6,.cells 188 [.d qJ],.rows 2 ai aN,.rows 2 ai aN,.cells 175 [.d aN,.row 11,.row 12,.d aN,.d eP,.d eP],.rows 2 ai aN,.rows 53 ai (.sl aN)]
abbrev aii:List PB:=[.cells 102 [.d uo],.cells 97 ahz,.cells 144 [.d iE],.cells 97 vy,.cells 59 uD,.cells 59 [.d iL],.cells 175 La6,.cells 188 [.d qJ],.rows 2 ai aN,.rows 2 ai aN,.cells 175 [.d eP,.d aN,.row 11,.row 12,.d aN,.d eP],.rows 2 ai aN,.rows 53 ai (.sl aN)]
abbrev aih:List PB:=[.cells 102 [.d uo],.cells 97 ahz,.cells 144 [.d iE],.cells 97 vy,.cells 59 uD,.cells 59 [.d iL],.cells 175 La6,.cells 188 [.d qJ],.rows 2 ai aN,.rows 2 ai aN,.cells 175 [.d eP,.d eP,.d aN,.row 11,.row 12,.d aN],.rows 2 ai aN,.rows 53 ai (.sl aN)]
abbrev afv:List PV:=[.d (.sl dV),.d aN,.d pM,.d (.sl h_),.row 8,.row 9,.csl 10 4 2]
abbrev aig:List PB:=[.cells 102 [.d uo],.cells 97 afv,.cells 144 [.d iE],.cells 97 vy,.cells 59 uD,.cells 59 [.d iL],.cells 175 La6,.cells 188 [.d qJ],.rows 2 ai aN,.rows 2 ai aN,.cells 175 [.d aN,.row 11,.row 12,.d aN,.d eP],.rows 2 ai aN,.rows 53 ai (.sl aN)]
abbrev aif:List PB:=[.cells 102 [.d uo],.cells 97 afv,.cells 144 [.d iE],.cells 97 vy,.cells 59 uD,.cells 59 [.d iL],.cells 175 La6,.cells 188 [.d qJ],.rows 2 ai aN,.rows 2 ai aN,.cells 175 [.d eP,.d aN,.row 11,.row 12,.d aN],.rows 2 ai aN,.rows 53 ai (.sl aN)]
abbrev Yg:List PB:=[.cells 225 [.d (.sl F6),.d (.sl sL),.d aN,.row 1,.row 4,.row 5],.rowsP 198 .sm,.gone,.gone,.rows 9 ai .str,.rows 9 ai .str]
abbrev LI:List PV:=[.ptr 0 0,.ptr 1 0,.ptr 2 0,.ptr 3 0,.ptr 4 0,.ptr 5 0,.ptr 6 0,.d .bool]
abbrev gZ:List PV:=[.ptr 0 0,.d .bool]
abbrev Yf:List PB:=[.cells 225 [.d (.sl F6),.d (.sl sL),.d aN,.row 1,.row 2,.row 3],.rowsP 198 .sm,.rows 9 ai .str,.rows 9 ai .str]
abbrev aie:List PB:=[.cells 102 [.d uo],.cells 97 [.d (.sl dV),.d aN,.d pM,.d (.sl h_),.row 8,.row 9,.csl 10 4 1],.cells 144 [.d iE],.cells 97 vy,.cells 59 uD,.cells 59 [.d iL],.cells 175 La6,.cells 188 [.d qJ],.rows 2 ai aN,.rows 2 ai aN,.cells 175 La6,.rows 2 ai aN,.rows 53 ai (.sl aN)]
abbrev LH:List PV:=[.ptr 0 0,.ptr 1 0,.ptr 2 0,.ptr 3 0,.ptr 4 0,.ptr 5 0,.ptr 6 0]
abbrev aid:List PB:=[.cells 102 [.d uo],.cells 97 La9,.cells 144 [.d iE],.cells 97 vy,.cells 59 uD,.cells 59 [.d iL],.cells 175 La6,.cells 188 [.d qJ],.rows 2 ai aN,.rows 2 ai aN,.cells 175 [.d aN,.row 11,.row 12,.d aN,.d eP,.d eP,.d eP],.rows 2 ai aN,.rows 53 ai (.sl aN)]
abbrev aic:List PB:=[.cells 102 [.d uo],.cells 97 La9,.cells 144 [.d iE],.cells 97 vy,.cells 59 uD,.cells 59 [.d iL],.cells 175 La6,.cells 188 [.d qJ],.rows 2 ai aN,.rows 2 ai aN,.cells 175 [.d eP,.d aN,.row 11,.row 12,.d aN,.d eP,.d eP],.rows 2 ai aN,.rows 53 ai (.sl aN)]
abbrev aib:List PB:=[.cells 102 [.d uo],.cells 97 La9,.cells 144 [.d iE],.cells 97 vy,.cells 59 uD,.cells 59 [.d iL],.cells 175 La6,.cells 188 [.d qJ],.rows 2 ai aN,.rows 2 ai aN,.cells 175 [.d eP,.d eP,.d aN,.row 11,.row 12,.d aN,.d eP],.rows 2 ai aN,.rows 53 ai (.sl aN)]
abbrev aia:List PB:=[.cells 102 [.d uo],.cells 97 La9,.cells 144 [.d iE],.cells 97 vy,.cells 59 uD,.cells 59 [.d iL],.cells 175 La6,.cells 188 [.d qJ],.rows 2 ai aN,.rows 2 ai aN,.cells 175 [.d eP,.d eP,.d eP,.d aN,.row 11,.row 12,.d aN],.rows 2 ai aN,.rows 53 ai (.sl aN)]
abbrev Kf:List PB:=[.cells 31 [.d m7],.cells 87 [.d iO],.cells 59 [.d iL],.cells 87 vy]
abbrev LG:List PV:=[.ptr 0 0,.ptr 1 0,.ptr 2 0,.ptr 3 0,.ptr 4 0,.ptr 5 0]
abbrev ai9:List PB:=[.cells 97 [.d (.sl dV),.d aN,.d pM,.d (.sl h_),.row 6,.row 7,.csl 8 4 3],.cells 144 [.d iE],.cells 97 vy,.cells 59 uD,.cells 59 [.d iL],.cells 175 [.d eP],.rows 2 ai aN,.rows 2 ai aN,.cells 175 [.d eP,.d eP,.d eP]]
abbrev RZ:List PV:=[.d (.sl dV),.d aN,.d pM,.d (.sl h_),.row 7,.row 8,.csl 9 4 4]
abbrev po:List PV:=[.ptr 0 0,.ptr 1 0,.d .bool]
abbrev zu:List PV:=[.ptr 0 0,.ptr 1 0,.ptr 2 0,.ptr 3 0,.d .bool]
abbrev ae5:List PV:=[.nil,.nil,.nil,.nil,.nil,.nil]
abbrev ai8:List PB:=[.cells 141 [.d MO],.cells 31 ae5,.cells 31 [.row 4,.row 5,.row 6,.row 7,.nil,.nil],.cells 228 [.d F6],.rows 114 ai kx,.rows 49 ai qD,.rows 118 ai k_,.rows 9 ai .str]
abbrev Yd:List PV:=[.nil,.nil,.nil,.nil,.nil,.nil,.nil]
abbrev al6:List PV:=[.d (.sl kx),.d (.sl qD),.d (.sl k_),.d (.sl .str),.d (.sl .str),.d (.sl oe),.row 5]
abbrev ali:List PB:=[.cells 141 [.d MO],.cells 102 Yd,.cells 102 al6,.cells 184 [.d (.sl kx),.d (.sl qD),.d (.sl k_),.d (.sl .str),.d (.sl .str),.d (.sl oe),.d (.sl .str),.row 6,.d aN,.d aN],.cells 171 [.d aN,.row 6],.rows 171 ai wH,.rows 188 ai qJ]
abbrev GM:List PV:=[.row 0,.d aN,.row 1,.row 2]
abbrev ai7:List PB:=[.cells 78 [.d yg],.cells 87 [.d iO],.cells 31 [.d m7],.rows 59 ai iL,.cells 53 [.row 5,.row 6,.row 7,.row 8],.rows 3 ai aN,.rows 3 ai aN,.rows 3 ai aN,.rows 3 ai aN]
abbrev ES:List PV:=[.ptr 0 0,.ptr 1 0,.ptr 2 0,.d aN]
abbrev Ke:List PV:=[.d aN,.d (.sl aN),.d vz,.d aN]
abbrev Ye:List PV:=[.d (.sl dV),.d aN,.d pM,.d (.sl h_),.row 7,.row 8,.csl 9 4 3]
abbrev ai6:List PB:=[.cells 78 [.d yg],.cells 87 [.d iO],.cells 31 [.d m7],.cells 53 [.row 4,.row 5,.row 6,.row 7],.rows 3 ai aN,.rows 3 ai aN,.rows 3 ai aN,.rows 3 ai aN]
abbrev Dx:List PV:=[.ptr 0 0,.ptr 1 0,.ptr 2 0,.d .bool]
abbrev uC:List PV:=[.ptr 0 0,.ptr 1 0,.d aN]
abbrev Kd:List PV:=[.d aN,.row 10,.row 11,.d aN]
abbrev ae4:List PV:=[.d aN,.row 0,.row 1,.d aN]
abbrev Wt:List PV:=[.d aN,.nil,.nil,.d aN]
abbrev ai5:List PB:=[.rows 2 ai aN,.rows 53 ai (.sl aN),.cells 188 [.d qJ],.cells 175 ae4,.cells 175 Wt]
abbrev ai4:List PB:=[.cells 225 [.d (.sl F6),.d (.sl sL),.d aN,.row 4,.row 5,.row 6],.gone,.gone,.gone,.rowsP 198 .sm,.rows 9 ai .str,.rows 9 ai .str]
abbrev BS:List PV:=[.nil,.d aN,.nil,.nil]
abbrev ai3:List PB:=[.cells 84 [.row 2,.d aN,.row 3,.row 4],.cells 84 BS,.rows 153 ai dV,.rows 4 ai .bool,.rows 155 ai h_]
abbrev Kc:List PV:=[.ptr 0 0,.ptr 3 0,.d .bool]
abbrev alh:List PB:=[.cells 34 Yd,.cells 78 [.d yg],.cells 34 al6,.cells 87 [.d iO],.rows 59 aj iL,.rows 59 ai iL]
abbrev pK:List PB:=[.cells 31 [.d m7]]
abbrev alg:List PB:=[.cells 97 [.d (.sl dV),.d aN,.d pM,.d (.sl h_),.row 6,.row 7,.csl 8 4 2],.cells 144 [.d iE],.cells 97 vy,.cells 59 uD,.cells 59 [.d iL],.cells 175 [.d eP],.rows 2 ai aN,.rows 2 ai aN,.cells 175 [.d eP,.d eP]]
abbrev alf:List PB:=[.cells 78 [.d yg],.cells 87 [.d iO],.cells 31 [.d m7],.rows 59 ai iL,.cells 53 [.row 7,.row 8,.row 9,.row 10],.cells 59 [.d iL],.cells 87 [.d iO],.rows 3 ai aN,.rows 3 ai aN,.rows 3 ai aN,.rows 3 ai aN]
abbrev aec:List PB:=[.cells 31 ae5,.cells 31 [.row 2,.row 3,.row 4,.row 5,.row 6,.row 7],.rows 114 aj kx,.rows 49 aj qD,.rows 118 aj k_,.rows 9 aj .str,.rows 9 aj .str,.rows 120 ai oe]
abbrev uB:List PV:=[.ptr 0 0,.d aN]
abbrev aar:List PV:=[.row 2,.row 3,.row 4,.row 5]
abbrev ale:List PB:=[.cells 78 [.d yg],.cells 53 aar,.rows 3 ai aN,.rows 3 ai aN,.rows 3 ai aN,.rows 3 ai aN,.cells 59 uD,.cells 59 [.d aN,.d aN,.d aN,.d aN,.d aN,.d (.sl aN),.nil]]
abbrev aeb:List PV:=[.d (.sl dV),.d aN,.d pM,.d (.sl h_),.row 7,.row 8,.csl 9 4 2]
abbrev LF:List PV:=[.d vA,.d iL,.d .bool]
abbrev ald:List PB:=[.cells 78 [.d yg],.cells 53 aar,.rows 3 ai aN,.rows 3 ai aN,.rows 3 ai aN,.rows 3 ai aN,.cells 87 [.d iO],.cells 31 [.d m7],.cells 59 uD,.cells 59 uD]
abbrev alc:List PB:=[.cells 141 [.d MO],.cells 31 ae5,.cells 31 [.row 3,.row 4,.row 5,.row 6,.nil,.nil],.rows 114 ai kx,.rows 49 ai qD,.rows 118 ai k_,.rows 9 ai .str]
abbrev ai2:List PV:=[.d (.sl dV),.d aN,.d pM,.d (.sl h_),.row 3,.row 4,.row 5]
abbrev LD:List PV:=[.d uo,.d vA,.d iE]
abbrev ai1:List PB:=[.rows 153 ai dV,.rows 4 ai .bool,.rows 155 ai h_,.cells 84 GM,.rows 3 ai aN]
abbrev aau:List PV:=[.row 3,.d aN,.row 4,.row 5]
abbrev alb:List PB:=[.cells 31 [.d m7],.cells 84 aau,.cells 84 BS,.rows 153 ai dV,.rows 4 ai .bool,.rows 155 ai h_]
abbrev vx:List PV:=[.d aN,.d aN]
abbrev ala:List PB:=[.cells 171 [.d wH],.cells 175 [.d aN,.row 3,.row 4,.d aN],.cells 175 Wt,.rows 2 ai aN,.rows 53 ai (.sl aN)]
abbrev al9:List PB:=[.cells 192 afs,.cells 78 [.d yg],.gone,.rows 198 ai .sm,.rowsP 9 .str]
abbrev ai0:List PB:=[.rows 59 ai iL,.cells 102 [.d uo],.cells 97 [.d vA],.cells 97 vy]
abbrev ahy:List PV:=[.ptr 1 0,.d aN,.d aN,.d .bool,.d .bool,.d .bool,.d .bool,.row 3]
abbrev al8:List PB:=[.cells 59 uD,.cells 175 [.d eP],.cells 188 [.d qJ],.cells 59 [.d aN,.d aN,.d aN,.d aN,.d aN,.row 4,.nil],.rows 3 ai aN]
abbrev OK:List PB:=[.cells 198 [.d .sm]]
abbrev aea:List PV:=[.agg [.agg GM,.row 3,.row 4,.csl 5 4 4]]
abbrev RY:List PB:=[.cells 141 [.d MO]]
abbrev ahx:List PB:=[.cells 31 [.d m7],.cells 171 [.d wH],.cells 188 [.d qJ]]
abbrev ae9:List PB:=[.cells 141 [.d MO],.cells 182 [.d sL]]
abbrev ae8:List PB:=[.cells 141 [.d MO],.cells 196 [.d .ex]]
abbrev ahw:List PB:=[.cells 31 [.d m7],.rows 9 ai .str,.cells 114 [.d kx]]
abbrev ahv:List PB:=[.rows 153 ai dV,.rows 4 ai .bool,.rows 155 ai h_]
abbrev ae7:List PB:=[.cells 31 [.d m7],.cells 188 [.d qJ]]
abbrev ae6:List PV:=[.ptr 0 0,.ptr 4 0,.ptr 5 0,.d .bool]
abbrev ahu:List PV:=[.ptr 0 0,.ptr 1 0,.ptr 2 0,.ptr 3 0,.ptr 4 0,.d aN]
abbrev U6:List PB:=[.cells 31 [.d m7],.cells 84 [.d GP]]
abbrev aht:List PB:=[.cells 78 [.d yg],.rows 3 ai aN,.rows 3 ai aN]
abbrev Yc:List PB:=[.cells 31 [.d m7],.rows 9 ai .str]
abbrev ahs:List PB:=[.cells 59 [.d iL],.cells 87 vy,.cells 87 ai2,.rows 2 ai aN,.rows 2 ai aN,.rows 3 ai aN]
abbrev al7:List PB:=[.cells 78 OL,.cells 53 aar,.rows 3 ai aN,.rows 3 ai aN,.rows 3 ai aN,.rows 3 ai aN]
abbrev LC:List PV:=[.d (.sl aN),.d aN]
abbrev OJ:List PV:=[.ptr 0 0,.row 1,.d aN]
abbrev Yb:List PB:=[.cells 228 [.d F6]]
abbrev Ya:List PB:=[.cells 78 [.d yg]]
abbrev ahr:List PV:=[.agg [.agg GM,.row 3,.row 4,.csl 5 4 3]]
abbrev RX:List PB:=[.cells 78 OL]
abbrev aaz:List PB:=[.rows 2 ai aN,.rows 53 ai (.sl aN)]
abbrev aay:List PB:=[.cells 31 [.d m7],.cells 171 [.d wH]]
abbrev aax:List PB:=[.cells 102 [.d uo],.cells 97 [.d vA]]
abbrev qQ:List PV:=[.d (.sl aN)]
abbrev aaw:List PV:=[.ptr 0 0,.ptr 1 0,.ptr 2 0,.ptr 3 0]
abbrev afu:List PV:=[.d (.sl dV),.d aN,.d pM,.d (.sl h_),.row 7,.row 8,.csl 9 4 1]
abbrev aav:List PB:=[.cells 84 [.d GP],.rows 3 ai aN]
abbrev R1:List PV:=[.ptr 0 0,.d aN,.d aN]
def tyT:PT Ty:=dP [(2,aN),(3,aN),(4,.bool),(9,.str),(47,iE),(49,qD),(53,(.sl aN)),(55,iE),(59,iL),(81,pM),(114,kx),(118,k_),(120,oe),(144,iE),(153,dV),(155,h_),(171,wH),(175,eP),(182,sL),(188,qJ),(196,.ex),(198,.sm),(228,F6)]
def b9 (t:TypeId):Option Ty:=tyT.get t
def AC:FT:=⟨⟨[],[]⟩,⟨[.d (.sl .str)],[]⟩,.leaf⟩
def Lo:ct:=cn AC kl
def yX:FT:=⟨⟨[.d .str],[]⟩,⟨[.d .bool],[]⟩,dP [(8,(.j ⟨[0,3],[4],⟨[.d aN],[]⟩,[]⟩))]⟩
def JH:ct:=cn yX jE
def FR:FT:=⟨⟨[.d (.int .u8)],[]⟩,⟨[.d .bool],[]⟩,dP [(2,(.j ⟨[],[2],⟨[.d .bool],[]⟩,[]⟩))]⟩
def Rq:ct:=cn FR lj
def Jm:FT:=⟨⟨[.d (.int .u8)],[]⟩,⟨[.d .bool],[]⟩,dP [(2,(.j ⟨[],[2],⟨[.d .bool],[]⟩,[]⟩))]⟩
def Uw:ct:=cn Jm rh
def Jl:FT:=⟨⟨[.d (.int .u8)],[]⟩,⟨[.d .bool],[]⟩,dP [(2,(.j ⟨[],[2],⟨[.d .bool],[]⟩,[]⟩))]⟩
def Uv:ct:=cn Jl pf
def FU:FT:=⟨⟨[.d .str],[]⟩,⟨[.d .bool],[]⟩,dP [(3,(.j ⟨[0],[21],⟨[.d .bool],[]⟩,[]⟩)),(14,(.j ⟨[0],[3],⟨[.d aN],[]⟩,[]⟩))]⟩
def Rr:ct:=cn FU eZ
def Jg:FT:=⟨⟨[.d .bool],[]⟩,⟨[.d aN],[]⟩,.leaf⟩
def Un:ct:=cn Jg fP
def Jh:FT:=⟨⟨vx,[]⟩,⟨[.d aN,.d .bool],[]⟩,.leaf⟩
def Uo:ct:=cn Jh tV
def FM:FT:=⟨⟨[.d aN,.d aN,.d aN],[]⟩,⟨[.d aN,.d .bool],[]⟩,dP [(91,(.j ⟨[],[6,7],⟨[.d aN,.d .bool],[]⟩,[]⟩)),(97,(.j ⟨[],[6,7],⟨[.d aN,.d .bool],[]⟩,[]⟩))]⟩
def Rm:ct:=cn FM r7
def Ji:FT:=⟨⟨vx,[]⟩,⟨[.d aN],[]⟩,dP [(12,(.j ⟨[],[5],⟨[.d aN],[]⟩,[]⟩))]⟩
def Up:ct:=cn Ji re
def AB:FT:=⟨⟨[.d aN],[]⟩,⟨[.d aN],[]⟩,dP [(4,(.j ⟨[0],[3],⟨[.d .bool],[]⟩,[]⟩)),(10,(.j ⟨[0],[10],⟨[.d .bool],[]⟩,[]⟩)),(16,(.j ⟨[],[17],⟨[.d .bool],[]⟩,[]⟩))]⟩
def Ln:ct:=cn AB md
def oV:FT:=⟨⟨[.d .ex],[]⟩,⟨[.d .bool],[]⟩,dP [(2,(.j ⟨[],[1,3],⟨gZ,[.cells 196 [.d .ex]]⟩,[]⟩)),(5,(.j ⟨[],[1,50],⟨gZ,[.cells 196 [.d .ex]]⟩,[]⟩)),(16,(.j ⟨[],[1,4],⟨uB,[.cells 196 [.d .ex]]⟩,[]⟩))]⟩
def Gu:ct:=cn oV iZ
def Gg (n:Nat):ct:=cn oV (hY n)
def Jk:FT:=⟨⟨[.d .ex],[]⟩,⟨[.d .bool],[]⟩,dP [(2,(.j ⟨[],[2],⟨[.d .bool],[]⟩,[]⟩))]⟩
def Uu:ct:=cn Jk pe
def sK:FT:=⟨⟨[.d .sm],[]⟩,⟨[.d .bool],[]⟩,dP [(3,(.j ⟨[],[1,13],⟨gZ,OK⟩,[]⟩)),(10,(.j ⟨[],[1,3],⟨gZ,OK⟩,[]⟩)),(13,(.j ⟨[],[1,47],⟨gZ,OK⟩,[]⟩)),(21,(.j ⟨[],[1,66],⟨gZ,OK⟩,[]⟩)),(29,(.j ⟨[],[1,95],⟨gZ,OK⟩,[]⟩)),(36,(.j ⟨[],[1,4],⟨gZ,OK⟩,[]⟩)),(39,(.j ⟨[],[1,130],⟨gZ,OK⟩,[]⟩)),(46,(.j ⟨[],[1,5],⟨gZ,OK⟩,[]⟩)),(49,(.j ⟨[],[1,157],⟨gZ,OK⟩,[]⟩)),(56,(.j ⟨[],[2],⟨[.d .bool],[]⟩,[]⟩))]⟩
def Gf (n:Nat):ct:=cn sK (eh n)
def nN:FT:=⟨⟨[.d (.sl .sm)],[]⟩,⟨[.d .bool],[]⟩,dP [(6,(.j ⟨[0],[3],⟨[.d aN],[]⟩,[]⟩))]⟩
def EC:ct:=cn nN nB
def D5 (n:Nat):ct:=cn nN (dD n)
def xP:FT:=⟨⟨[.d F6],[]⟩,⟨[.d .bool],[]⟩,dP [(3,(.j ⟨[],[1,31],⟨gZ,Yb⟩,[]⟩)),(11,(.j ⟨[],[1,50],⟨gZ,Yb⟩,[]⟩)),(18,(.j ⟨[],[2],⟨[.d .bool],[]⟩,[]⟩))]⟩
def Gt:ct:=cn xP jY
def FP:FT:=⟨⟨[.d MO],[]⟩,⟨[.d .bool],[]⟩,dP [(6,(.j ⟨[],[1,3],⟨uB,RY⟩,[]⟩)),(27,(.j ⟨[],[1,4],⟨uB,RY⟩,[]⟩)),(42,(.j ⟨[4],[1,5,6],⟨uC,ae9⟩,[]⟩)),(59,(.j ⟨[4],[1,56],⟨gZ,RY⟩,[]⟩))]⟩
def Rp:ct:=cn FP pA
def V6:FT:=⟨⟨[.d (.sl .str),.d .str],[]⟩,⟨[.d aN],[]⟩,dP [(6,(.j ⟨[0,1],[5],⟨[.d aN],[]⟩,[]⟩))]⟩
def adc:ct:=cn V6 iW
def FO:FT:=⟨⟨[.d (.sl F6),.d .str],[]⟩,⟨[.d aN],[]⟩,dP [(6,(.j ⟨[0,1],[5],⟨[.d aN],[]⟩,[]⟩))]⟩
def Ro:ct:=cn FO hX
def AA:FT:=⟨⟨[.d (.sl sL),.d .str],[]⟩,⟨[.d aN],[]⟩,dP [(6,(.j ⟨[0,1],[5],⟨[.d aN],[]⟩,[]⟩))]⟩
def Lm:ct:=cn AA gM
def FN:FT:=⟨⟨[.d MO,.d aN,.d .str],[]⟩,⟨[.d aN],[]⟩,dP [(3,(.j ⟨[2],[3,27],⟨gZ,RY⟩,[]⟩)),(52,(.j ⟨[7],[3,56],⟨gZ,RY⟩,[]⟩))]⟩
def Rn:ct:=cn FN py
def Mu:FT:=⟨⟨[.d MO,.d aN,.d .str,.d aN,.d aN],[]⟩,⟨[.d aN],[]⟩,dP [(13,(.j ⟨[],[25],⟨[.d .bool],[]⟩,[]⟩))]⟩
def XC:ct:=cn Mu gy
def xq:FT:=⟨⟨[.d .ex],[]⟩,⟨vx,[]⟩,dP [(8,(.j ⟨[],[1,4,5,6],⟨[.ptr 0 0,.d aN,.d aN,.d aN],[.cells 196 [.d .ex]]⟩,[]⟩))]⟩
def Us:ct:=cn xq Bs
def Tf (n:Nat):ct:=cn xq (mV n)
def xp:FT:=⟨⟨[.d MO,.d aN,.d .ex],[]⟩,⟨[.d aN],[]⟩,dP [(7,(.j ⟨[1],[3,5,7],⟨uC,ae8⟩,[]⟩)),(21,(.j ⟨[1],[3,5,7,8],⟨[.ptr 0 0,.ptr 1 0,.d aN,.d aN],ae8⟩,[]⟩)),(23,(.j ⟨[1,7,8],[3,5,33],⟨po,ae8⟩,[]⟩))]⟩
def Uq:ct:=cn xp Br
def Te (n:Nat):ct:=cn xp (mU n)
def Mv:FT:=⟨⟨[.d MO,.d aN,.d .ex],[]⟩,⟨[.d aN],[]⟩,dP [(13,(.j ⟨[1],[3,5,22],⟨po,ae8⟩,[]⟩))]⟩
def XD:ct:=cn Mv mc
def C9:FT:=⟨⟨[.d .bool],[]⟩,⟨[.d aN],[]⟩,.leaf⟩
def Oe:ct:=cn C9 c6
def V5:FT:=⟨⟨vx,[]⟩,⟨[.d aN],[]⟩,.leaf⟩
def adb:ct:=cn V5 iV
def wy:FT:=⟨⟨[.ptr 0 0,.d aN,.d aN,.d .str],Yf⟩,⟨[.d .bool],Yf⟩,dP [(6,(.j ⟨[1,2,3],[0,9],⟨uB,Yf⟩,[]⟩)),(17,(.j ⟨[1,2,3,9],[0,46],⟨gZ,Yf⟩,[]⟩))]⟩
def EB:ct:=cn wy dR
def Az:FT:=⟨⟨[.ptr 0 0,.d .sm],Yf⟩,⟨[.d aN],Yg⟩,dP [(1,(.a [.ren 0 4,.ren 0 5])),(28,(.j ⟨[6,7,8,9,30],[0,3,5,67],⟨ae6,La8⟩,[]⟩)),(41,(.j ⟨[],[4],⟨[.d aN],Yg⟩,[]⟩)),(44,(.j ⟨[6,7,8,9,30],[0,3,5,91],⟨ae6,La8⟩,[]⟩)),(51,(.j ⟨[],[4],⟨[.d aN],Yg⟩,[]⟩)),(63,(.j ⟨[],[4],⟨[.d aN],Yg⟩,[]⟩)),(66,(.j ⟨[6,7,8,9,30],[0,3,5,119],⟨ae6,La8⟩,[]⟩)),(89,(.j ⟨[],[4],⟨[.d aN],Yg⟩,[]⟩)),(108,(.j ⟨[],[0,3,187],⟨[.ptr 0 0,.ptr 4 0,.d .bool],[.cells 225 [.d (.sl F6),.d (.sl sL),.d aN,.row 1,.row 5,.row 6],.rowsP 198 .sm,.gone,.gone,.cells 198 [.d .sm],.rows 9 ai .str,.rows 9 ai .str]⟩,[]⟩)),(131,(.j ⟨[],[4],⟨[.d aN],Yg⟩,[]⟩)),(137,(.j ⟨[6],[0,3,5,14],⟨[.ptr 0 0,.ptr 4 0,.ptr 5 0,.d aN],La8⟩,[]⟩)),(139,(.j ⟨[6],[0,3,5,14],⟨[.ptr 0 0,.ptr 4 0,.ptr 5 0,.d aN],La8⟩,[]⟩)),(140,(.j ⟨[6,14],[0,3,5,253],⟨ae6,La8⟩,[]⟩))]⟩
def Lk:ct:=cn Az mb
def rR:FT:=⟨⟨[.ptr 0 0,.d (.sl .sm)],Yf⟩,⟨vx,ai4⟩,dP [(1,(.a [.ren 0 3,.ren 0 4,.ren 0 5])),(6,(.j ⟨[1],[0,6],⟨uB,ai4⟩,[]⟩)),(19,(.j ⟨[1,6],[0,7,8],⟨[.ptr 0 0,.ptr 4 0,.d aN],[.cells 225 [.d (.sl F6),.d (.sl sL),.d aN,.row 5,.row 6,.row 7],.gone,.gone,.gone,.cells 198 [.d .sm],.rowsP 198 .sm,.rows 9 ai .str,.rows 9 ai .str]⟩,[]⟩)),(37,(.j ⟨[1,6],[0,8,9],⟨R1,ai4⟩,[]⟩))]⟩
def Ll:ct:=cn rR vm
def KJ (n:Nat):ct:=cn rR (iC n)
def xr:FT:=⟨⟨[.d (.sl .sm)],[]⟩,⟨[.d aN],[]⟩,dP [(8,(.j ⟨[0],[3,4],⟨vx,[]⟩,[]⟩))]⟩
def Ut:ct:=cn xr Bt
def Tg (n:Nat):ct:=cn xr (mW n)
def Jj:FT:=⟨⟨[.d (.sl F6)],[]⟩,⟨vx,[]⟩,dP [(8,(.j ⟨[0],[4,5,6,7,8],⟨[.d aN,.d aN,.d aN,.d aN,.d aN],[]⟩,[]⟩)),(16,(.j ⟨[0,8],[4,5,6,7],⟨[.d aN,.d aN,.d aN,.d aN],[]⟩,[]⟩)),(38,(.j ⟨[0,8],[4,5,6,7,9],⟨[.d aN,.d aN,.d aN,.d aN,.ptr 0 0],Yb⟩,[]⟩)),(39,(.j ⟨[0,4,5,6,7,8,36],[9,39],⟨gZ,Yb⟩,[]⟩)),(47,(.j ⟨[0,4,5,6,7,8,36],[9,47],⟨gZ,Yb⟩,[]⟩)),(61,(.j ⟨[0,4,5,6,7,8],[9,69],⟨gZ,Yb⟩,[]⟩))]⟩
def Ur:ct:=cn Jj rf
def C8:FT:=⟨⟨[.d MO],[]⟩,⟨vx,[]⟩,dP [(6,(.j ⟨[],[1,4],⟨uB,RY⟩,[]⟩)),(17,(.j ⟨[4],[1,5,37],⟨po,ae9⟩,[]⟩)),(29,(.j ⟨[],[1,6],⟨uB,RY⟩,[]⟩)),(51,(.j ⟨[6],[1,7,8],⟨uC,ae9⟩,[]⟩)),(62,(.j ⟨[6,8],[1,7,90],⟨po,ae9⟩,[]⟩))]⟩
def Od:ct:=cn C8 nA
def C_:FT:=⟨⟨[.d MO],[]⟩,⟨vx,[]⟩,dP [(44,(.j ⟨[],[1,8,9],⟨R1,RY⟩,[]⟩)),(67,(.a [.cel 10 3 198 .sm,.cel 10 4 9 .str,.cel 10 5 9 .str])),(69,(.j ⟨[],[1,10,11],⟨uC,[.cells 141 [.d MO],.cells 225 [.d (.sl F6),.d (.sl sL),.d aN,.row 2,.row 3,.row 4],.rowsP 198 .sm,.rows 9 ai .str,.rows 9 ai .str]⟩,[]⟩))]⟩
def Of:ct:=cn C_ fd
def xo:FT:=⟨⟨[.row 0,.d aN,.d aN,.d (.sl .sm)],[.rows 120 ai oe]⟩,⟨[.row 1,.d aN],[.gone,.rows 120 ai oe]⟩,dP [(1,(.a [.ren 0 0])),(6,(.j ⟨[1,3],[0,2,10],⟨[.row 1,.d aN,.d aN],[.gone,.rows 120 ai oe]⟩,[]⟩)),(25,(.a [.nil 8 120 oe]))]⟩
def Uh:ct:=cn xo HZ
def Td (n:Nat):ct:=cn xo (pm n)
def FJ:FT:=⟨⟨[.d (.sl qD),.d .str],[]⟩,⟨[.d aN],[]⟩,dP [(6,(.j ⟨[0,1],[5],⟨[.d aN],[]⟩,[]⟩))]⟩
def Rj:ct:=cn FJ j_
def FL:FT:=⟨⟨[.d m7,.d .str],[]⟩,⟨[.d aN],[]⟩,dP [(6,(.j ⟨[1],[2,5],⟨uB,pK⟩,[]⟩))]⟩
def Rl:ct:=cn FL li
def Je:FT:=⟨⟨[.d MO],[]⟩,⟨[.d m7],[]⟩,dP [(18,(.j ⟨[],[1,2,3,6],⟨ES,alc⟩,[.cel 3 0 114 kx,.cel 3 1 49 qD,.cel 3 2 118 k_,.cel 3 3 9 .str]⟩)),(31,(.j ⟨[6],[1,2,3],⟨[.ptr 0 0,.ptr 1 0,.ptr 2 0],alc⟩,[]⟩)),(32,(.j ⟨[6,31],[1,2,3,7,39],⟨zu,ai8⟩,[]⟩)),(42,(.j ⟨[6],[1,2,3,7,8],⟨[.ptr 0 0,.ptr 1 0,.ptr 2 0,.ptr 3 0,.d aN],ai8⟩,[]⟩)),(53,(.j ⟨[6,31],[1,2,3,7,65],⟨zu,ai8⟩,[]⟩)),(69,(.a [.cel 3 5 120 oe])),(71,(.j ⟨[],[1,2,3,9],⟨ES,[.cells 141 [.d MO],.cells 31 ae5,.cells 31 [.row 3,.row 4,.row 5,.row 6,.row 7,.row 8],.rows 114 ai kx,.rows 49 ai qD,.rows 118 ai k_,.rows 9 ai .str,.rows 9 ai .str,.rows 120 ai oe]⟩,[.cel 3 4 9 .str]⟩))]⟩
def Ul:ct:=cn Je tU
def Jb:FT:=⟨⟨[.d m7],[]⟩,⟨[.d (.sl .str),.d .bool],[]⟩,dP [(8,(.j ⟨[],[1,4,5],⟨OJ,Yc⟩,[.nil 4 9 .str]⟩)),(15,(.j ⟨[],[1,4,5],⟨OJ,Yc⟩,[]⟩)),(37,(.j ⟨[5],[1,4,6,51],⟨[.ptr 0 0,.row 1,.ptr 2 0,.d .bool],ahw⟩,[]⟩)),(48,(.j ⟨[5],[1,4,6,7],⟨[.ptr 0 0,.row 1,.ptr 2 0,.d aN],ahw⟩,[]⟩)),(59,(.j ⟨[5,7],[1,4,6,93],⟨[.ptr 0 0,.row 1,.ptr 2 0,.d .bool],ahw⟩,[]⟩)),(72,(.j ⟨[],[1,4,9],⟨OJ,Yc⟩,[]⟩)),(87,(.j ⟨[],[1,4,10],⟨OJ,Yc⟩,[]⟩))]⟩
def Ui:ct:=cn Jb pa
def xO:FT:=⟨⟨[.d m7],[]⟩,⟨[.d .bool],[]⟩,dP [(3,(.j ⟨[],[1,49],⟨gZ,pK⟩,[]⟩)),(24,(.j ⟨[3],[1,5],⟨uB,pK⟩,[]⟩)),(33,(.j ⟨[3,5],[1,79],⟨gZ,pK⟩,[]⟩)),(45,(.j ⟨[],[1,6],⟨uB,pK⟩,[]⟩)),(56,(.j ⟨[6],[1,109],⟨gZ,pK⟩,[]⟩)),(68,(.j ⟨[],[1,8],⟨uB,pK⟩,[]⟩)),(76,(.j ⟨[8],[1],⟨[.ptr 0 0],pK⟩,[]⟩)),(80,(.j ⟨[8],[1,9,132],⟨po,[.cells 31 [.d m7],.cells 120 [.d oe]]⟩,[]⟩)),(87,(.j ⟨[8],[1,9,146],⟨po,[.cells 31 [.d m7],.cells 120 [.d oe]]⟩,[]⟩)),(90,(.j ⟨[8],[1,165],⟨gZ,pK⟩,[]⟩))]⟩
def Gs:ct:=cn xO hP
def yW:FT:=⟨⟨[.d qJ],[]⟩,⟨qQ,[]⟩,dP [(6,(.j ⟨[4],[1,5],⟨gZ,[.cells 188 [.d qJ]]⟩,[]⟩)),(24,(.j ⟨[4],[1,13],⟨gZ,[.cells 188 [.d qJ]]⟩,[]⟩)),(46,(.j ⟨[4],[1,37],⟨gZ,[.cells 188 [.d qJ]]⟩,[]⟩))]⟩
def JG:ct:=cn yW jD
def FK:FT:=⟨⟨[.d aN],[]⟩,⟨[.d .bool],[]⟩,dP [(2,(.j ⟨[],[2],⟨[.d .bool],[]⟩,[]⟩))]⟩
def Rk:ct:=cn FK px
def Jc:FT:=⟨⟨[.d (.sl qJ),.d aN],[]⟩,⟨[.d .bool],[]⟩,dP [(6,(.j ⟨[0],[1,5],⟨vx,[]⟩,[]⟩)),(14,(.j ⟨[0,5],[1],⟨[.d aN],[]⟩,[]⟩)),(16,(.j ⟨[0,1,5],[19],⟨[.d .bool],[]⟩,[]⟩))]⟩
def Uj:ct:=cn Jc pd
def V4:FT:=⟨⟨vx,[]⟩,⟨[.d .bool],[]⟩,dP [(2,(.j ⟨[],[4],⟨[.d .bool],[]⟩,[]⟩))]⟩
def ada:ct:=cn V4 jh
def Jd:FT:=⟨⟨[.d m7,.d aN,.d aN],[]⟩,⟨[.d .bool],[]⟩,dP [(2,(.j ⟨[],[6],⟨[.d .bool],[]⟩,[]⟩))]⟩
def Uk:ct:=cn Jd mR
def C5:FT:=⟨⟨[.d m7,.d qJ],[]⟩,⟨[.d .bool],[]⟩,dP [(9,(.j ⟨[],[4],⟨[.d .bool],[]⟩,[]⟩)),(15,(.j ⟨[],[4],⟨[.d .bool],[]⟩,[]⟩)),(30,(.j ⟨[6],[2,3,59],⟨po,ae7⟩,[]⟩)),(37,(.j ⟨[],[4],⟨[.d .bool],[]⟩,[]⟩)),(40,(.j ⟨[6],[2,3,78],⟨po,ae7⟩,[]⟩)),(55,(.j ⟨[],[4],⟨[.d .bool],[]⟩,[]⟩)),(58,(.j ⟨[6],[2,3,98],⟨po,ae7⟩,[]⟩)),(72,(.j ⟨[6],[2,3,108],⟨po,ae7⟩,[]⟩)),(97,(.j ⟨[],[4],⟨[.d .bool],[]⟩,[]⟩)),(103,(.j ⟨[],[4],⟨[.d .bool],[]⟩,[]⟩))]⟩
def Oa:ct:=cn C5 lA
def ww:FT:=⟨⟨[.d m7,.d aN,.d wH],[]⟩,⟨[.d .bool],[]⟩,dP [(5,(.j ⟨[1,7],[3,5,26],⟨po,aay⟩,[]⟩)),(16,(.j ⟨[1,7],[3,5,8],⟨uC,aay⟩,[]⟩)),(28,(.j ⟨[1,7,8],[3,5,9,67],⟨Dx,ahx⟩,[]⟩)),(36,(.j ⟨[1,7,8],[3,5,9,100],⟨Dx,ahx⟩,[]⟩)),(44,(.j ⟨[1,7,8],[3,5,9,122],⟨Dx,ahx⟩,[]⟩)),(56,(.j ⟨[1,7,8,10],[3,5,11],⟨uC,aay⟩,[]⟩))]⟩
def EA:ct:=cn ww ik
def Jf:FT:=⟨⟨[.d uo],[]⟩,⟨[.d .bool],[]⟩,dP [(3,(.j ⟨[],[1,17],⟨gZ,[.cells 102 [.d uo]]⟩,[]⟩)),(14,(.j ⟨[],[1,3],⟨uB,[.cells 102 [.d uo]]⟩,[]⟩))]⟩
def Um:ct:=cn Jf jC
def C6:FT:=⟨⟨[.ptr 0 0,.d qJ],La5⟩,⟨[],La4⟩,.leaf⟩
def Ob:ct:=cn C6 cB
def qy:FT:=⟨⟨[.ptr 0 0,.d .ex,.d aN],La5⟩,⟨[],La4⟩,dP [(2,(.j ⟨[],[],⟨[],La4⟩,[]⟩))]⟩
def JE:ct:=cn qy iG
def H_ (n:Nat):ct:=cn qy (iH n)
def xN:FT:=⟨⟨[.ptr 0 0,.d .sm],La5⟩,⟨[],La4⟩,.leaf⟩
def Gr:ct:=cn xN lQ
def Ay:FT:=⟨⟨[.ptr 0 0,.d .str],La5⟩,⟨[.d aN],La5⟩,dP [(6,(.j ⟨[1],[0,5],⟨uB,La5⟩,[]⟩))]⟩
def Lj:ct:=cn Ay jq
def qz:FT:=⟨⟨[.ptr 0 0,.d (.sl .sm)],La5⟩,⟨[],La4⟩,dP [(1,(.a [.ren 0 7])),(3,(.j ⟨[1],[0,4],⟨uB,La4⟩,[]⟩))]⟩
def JF:ct:=cn qz tS
def Ia (n:Nat):ct:=cn qz (dI n)
def vu:FT:=⟨⟨[.ptr 0 0,.d .sm],La5⟩,⟨[],La4⟩,dP [(1,(.a [.ren 0 7])),(10,(.j ⟨[],[],⟨[],La4⟩,[]⟩)),(15,(.j ⟨[4,25],[0,3,31],⟨[.ptr 0 0,.ptr 2 0,.d .bool],[.cells 184 [.d (.sl kx),.d (.sl qD),.d (.sl k_),.d (.sl .str),.d (.sl .str),.d (.sl oe),.d (.sl .str),.row 3,.d aN,.d aN],.gone,.cells 198 [.d .sm],.rows 188 ai qJ]⟩,[]⟩))]⟩
def KI (n:Nat):ct:=cn vu (eK n)
def qA:FT:=⟨⟨[.ptr 0 0,.d .sm],La5⟩,⟨[],La4⟩,.leaf⟩
def Ct (n:Nat):ct:=cn qA (c_ n)
def sJ:FT:=⟨⟨[.ptr 0 0,.d .sm,.d aN,.d aN,.d aN],La5⟩,⟨[],La4⟩,.leaf⟩
def Ge (n:Nat):ct:=cn sJ (dE n)
def C7:FT:=⟨⟨[.d MO],[]⟩,⟨[.d uo,.d aN,.d aN],[]⟩,dP [(20,(.j ⟨[],[1,2,7,8,9],⟨[.ptr 0 0,.ptr 1 0,.ptr 2 0,.d aN,.d aN],[.cells 141 [.d MO],.cells 102 Yd,.cells 102 [.d (.sl kx),.d (.sl qD),.d (.sl k_),.d (.sl .str),.d (.sl .str),.d (.sl oe),.row 3],.rows 171 ai wH]⟩,[.cel 7 6 171 wH]⟩)),(32,(.a [.cel 10 7 188 qJ])),(45,(.j ⟨[8,9],[1,2,7,10,11,12],⟨ahu,ali⟩,[]⟩)),(59,(.j ⟨[8,9,12,13],[1,2,7,10,11,14],⟨ahu,ali⟩,[]⟩))]⟩
def Oc:ct:=cn C7 qf
def QK:FT:=⟨⟨LC,[]⟩,⟨[.d .bool],[]⟩,dP [(6,(.j ⟨[0,1],[5],⟨[.d aN],[]⟩,[]⟩))]⟩
def Z0:ct:=cn QK qe
def QJ:FT:=⟨⟨LC,[]⟩,⟨qQ,[]⟩,dP [(6,(.j ⟨[0,1],[5],⟨[.d aN],[]⟩,[]⟩)),(8,(.j ⟨[0,1,5],[18],⟨[.d .bool],[]⟩,[]⟩)),(16,(.j ⟨[0,1,5],[32],⟨[.d .bool],[]⟩,[]⟩))]⟩
def ZZ:ct:=cn QJ vP
def Ja:FT:=⟨⟨[.d (.sl aN),.d (.sl aN)],[]⟩,⟨qQ,[]⟩,dP [(8,(.j ⟨[0,1],[5,6],⟨LC,[]⟩,[]⟩)),(23,(.j ⟨[1],[5,7],⟨LC,[]⟩,[]⟩))]⟩
def Ug:ct:=cn Ja rc
def Ax:FT:=⟨⟨[.d aN],[]⟩,⟨[.d aN],[]⟩,dP [(3,(.j ⟨[0],[8],⟨[.d .bool],[]⟩,[]⟩))]⟩
def Li:ct:=cn Ax ma
def Mt:FT:=⟨⟨[.d eP],[]⟩,⟨[.agg ae4],aaz⟩,dP [(8,(.j ⟨[],[1,2,3,4],⟨ES,[.cells 175 [.d eP],.cells 175 Wt,.cells 175 [.d aN,.row 3,.row 4,.d aN],.rows 2 ai aN,.rows 53 ai (.sl aN)]⟩,[.cel 3 2 53 (.sl aN)]⟩))]⟩
def XB:ct:=cn Mt ch
def Ms:FT:=⟨⟨[.d qJ,.agg ae4],aaz⟩,⟨[.agg ae4,.d .bool],aaz⟩,dP [(8,(.j ⟨[6],[2,3,4,7],⟨[.ptr 2 0,.ptr 3 0,.ptr 4 0,.d aN],ai5⟩,[]⟩)),(17,(.j ⟨[6,7],[2,3,4,33],⟨[.ptr 2 0,.ptr 3 0,.ptr 4 0,.d .bool],ai5⟩,[]⟩)),(32,(.j ⟨[],[2,3,4,8,9,10],⟨[.ptr 2 0,.ptr 3 0,.ptr 4 0,.d aN,.d .bool,.d (.sl aN)],ai5⟩,[]⟩))]⟩
def XA:ct:=cn Ms vO
def FI:FT:=⟨⟨[.d wH,.d eP],[]⟩,⟨[.d eP,.d .bool],[]⟩,dP [(3,(.j ⟨[],[2,3,4,23],⟨Dx,[.cells 171 [.d wH],.cells 175 [.d eP],.cells 175 Wt]⟩,[]⟩)),(16,(.j ⟨[],[2,3,4,6],⟨ES,ala⟩,[]⟩)),(26,(.j ⟨[6],[2,3,4,44],⟨Dx,ala⟩,[]⟩))]⟩
def Ri:ct:=cn FI mQ
def I9:FT:=⟨⟨[.d m7],[]⟩,⟨[.d GP],[]⟩,dP [(8,(.j ⟨[],[1,2,3,4],⟨ES,[.cells 31 [.d m7],.cells 84 BS,.cells 84 [.row 3,.d aN,.nil,.nil],.rows 153 ai dV]⟩,[.cel 3 0 153 dV]⟩)),(23,(.j ⟨[],[1,2,3,5],⟨ES,[.cells 31 [.d m7],.cells 84 BS,.cells 84 [.row 3,.d aN,.row 4,.nil],.rows 153 ai dV,.rows 4 ai .bool]⟩,[.cel 3 2 4 .bool]⟩)),(38,(.j ⟨[],[1,2,3,6],⟨ES,[.cells 31 [.d m7],.cells 84 BS,.cells 84 aau,.rows 153 ai dV,.rows 4 ai .bool,.rows 155 ai h_]⟩,[.cel 3 3 155 h_]⟩)),(49,(.j ⟨[6],[1,2,3,7],⟨aaw,[.cells 31 [.d m7],.cells 84 BS,.cells 84 [.row 4,.d aN,.row 5,.row 6],.cells 155 [.d h_],.rows 153 ai dV,.rows 4 ai .bool,.rows 155 ai h_]⟩,[]⟩))]⟩
def Ue:ct:=cn I9 qZ
def Mq:FT:=⟨⟨[.d m7,.d GP],[]⟩,⟨[.d .bool],[]⟩,dP [(6,(.j ⟨[],[2,3,5],⟨uC,U6⟩,[]⟩)),(15,(.j ⟨[5],[2,3,31],⟨po,U6⟩,[]⟩)),(23,(.j ⟨[],[4],⟨[.d .bool],[]⟩,[]⟩))]⟩
def Xy:ct:=cn Mq q_
def V3:FT:=⟨⟨vx,[]⟩,⟨[.d .bool],[]⟩,dP [(2,(.j ⟨[],[4],⟨[.d .bool],[]⟩,[]⟩))]⟩
def ad9:ct:=cn V3 qd
def I8:FT:=⟨⟨[.d m7,.d aN,.d aN],[]⟩,⟨[.d .bool],[]⟩,dP [(6,(.j ⟨[2,7],[3,8],⟨gZ,pK⟩,[]⟩)),(36,(.j ⟨[2,7],[3,18],⟨gZ,pK⟩,[]⟩)),(46,(.j ⟨[2,7],[3,26],⟨gZ,pK⟩,[]⟩)),(53,(.j ⟨[],[6],⟨[.d .bool],[]⟩,[]⟩)),(56,(.j ⟨[2,7],[3,43],⟨gZ,pK⟩,[]⟩)),(71,(.j ⟨[],[6],⟨[.d .bool],[]⟩,[]⟩)),(74,(.j ⟨[2,7],[3,61],⟨gZ,pK⟩,[]⟩)),(92,(.j ⟨[2,7],[3,71],⟨gZ,pK⟩,[]⟩)),(102,(.j ⟨[2],[3,79],⟨gZ,pK⟩,[]⟩))]⟩
def Ud:ct:=cn I8 tR
def C4:FT:=⟨⟨[.d m7,.d GP,.d aN,.d aN,.d aN],[]⟩,⟨[.d .bool],[]⟩,dP [(3,(.j ⟨[2,3,4],[5,6,30],⟨po,U6⟩,[]⟩)),(25,(.j ⟨[],[10],⟨[.d .bool],[]⟩,[]⟩)),(50,(.j ⟨[],[10],⟨[.d .bool],[]⟩,[]⟩)),(56,(.j ⟨[],[10],⟨[.d .bool],[]⟩,[]⟩)),(59,(.j ⟨[2,4,70],[5,6,11,119],⟨Dx,[.cells 31 [.d m7],.cells 84 [.d GP],.cells 155 [.d h_]]⟩,[]⟩)),(99,(.j ⟨[2,4,70],[5,6,160],⟨po,U6⟩,[]⟩)),(116,(.j ⟨[],[10],⟨[.d .bool],[]⟩,[]⟩)),(122,(.j ⟨[],[10],⟨[.d .bool],[]⟩,[]⟩))]⟩
def N':ct:=cn C4 j9
def C3:FT:=⟨⟨[.d GP,.d aN],[]⟩,⟨qQ,[]⟩,dP [(8,(.j ⟨[1],[2,5,6],⟨OJ,aav⟩,[.nil 5 3 aN]⟩)),(16,(.j ⟨[1,6],[2,5],⟨[.ptr 0 0,.row 1],aav⟩,[]⟩)),(17,(.j ⟨[1,6],[2,5,30],⟨[.ptr 0 0,.row 1,.d .bool],aav⟩,[]⟩))]⟩
def N_:ct:=cn C3 nz
def C2:FT:=⟨⟨LC,[]⟩,⟨qQ,[]⟩,dP [(8,(.j ⟨[0,1],[5,6],⟨[.row 0,.d aN],[.rows 3 ai aN]⟩,[.nil 5 3 aN]⟩)),(16,(.j ⟨[0,1,6],[5],⟨[.row 0],[.rows 3 ai aN]⟩,[]⟩))]⟩
def N9:ct:=cn C2 qc
def Mr:FT:=⟨⟨[.d GP],[]⟩,⟨[.agg GM],ahv⟩,dP [(8,(.j ⟨[],[1,2,3,4],⟨ES,[.cells 84 [.d GP],.cells 84 BS,.cells 84 aau,.rows 153 ai dV,.rows 4 ai .bool,.rows 155 ai h_]⟩,[.cel 3 0 153 dV]⟩))]⟩
def Xz:ct:=cn Mr ij
def mh:FT:=⟨⟨[.agg GM,.d aN],ahv⟩,⟨qQ,ahv⟩,dP [(8,(.j ⟨[1],[2,5,6],⟨[.ptr 3 0,.row 4,.d aN],ai1⟩,[.nil 5 3 aN]⟩)),(16,(.j ⟨[1,6],[2,5],⟨[.ptr 3 0,.row 4],ai1⟩,[]⟩)),(17,(.j ⟨[1,6],[2,5,30],⟨[.ptr 3 0,.row 4,.d .bool],ai1⟩,[]⟩))]⟩
def Lh:ct:=cn mh l_
def JD:ct:=⟨mh.pre,⟨mh.post.vs,[]⟩,jB⟩
def I_:FT:=⟨⟨[.d m7,.d GP,.d aN,.d aN,.d aN,.d aN],[]⟩,⟨[.d GP,.d aN,.d .bool],[]⟩,dP [(17,(.j ⟨[],[7,12,15],⟨uC,ai3⟩,[]⟩)),(26,(.j ⟨[2,4,5,15,30],[6,7,12,45],⟨Dx,alb⟩,[]⟩)),(34,(.j ⟨[2,4,5,15,30],[6,7,12,54],⟨Dx,alb⟩,[]⟩)),(90,(.j ⟨[],[7,12,17],⟨uC,ai3⟩,[]⟩)),(109,(.j ⟨[18],[7,12,19],⟨uC,ai3⟩,[]⟩))]⟩
def Uf:ct:=cn I_ o_
def I7:FT:=⟨⟨[.d uo],[]⟩,⟨[.d vA],[]⟩,dP [(16,(.j ⟨[],[1,2,3,4],⟨ES,[.cells 102 [.d uo],.cells 97 vy,.cells 97 [.d (.sl dV),.d aN,.d pM,.d (.sl h_),.row 3,.nil,.nil],.rows 2 ai aN]⟩,[.cel 3 4 2 aN]⟩)),(31,(.j ⟨[],[1,2,3,5],⟨ES,[.cells 102 [.d uo],.cells 97 vy,.cells 97 [.d (.sl dV),.d aN,.d pM,.d (.sl h_),.row 3,.row 4,.nil],.rows 2 ai aN,.rows 2 ai aN]⟩,[.cel 3 5 2 aN]⟩)),(46,(.j ⟨[],[1,2,3,6],⟨ES,[.cells 102 [.d uo],.cells 97 vy,.cells 97 ai2,.rows 2 ai aN,.rows 2 ai aN,.rows 175 ai eP]⟩,[.cel 3 6 175 eP]⟩))]⟩
def Uc:ct:=cn I7 tQ
def Mp:FT:=⟨⟨[.d uo,.d vA],[]⟩,⟨[.d .bool],[]⟩,dP [(3,(.j ⟨[],[2,3,46],⟨po,aax⟩,[]⟩)),(14,(.j ⟨[],[2,3,5],⟨uC,aax⟩,[]⟩)),(25,(.j ⟨[5],[2,3,97],⟨po,aax⟩,[]⟩))]⟩
def Xw:ct:=cn Mp vN
def Mn:FT:=⟨⟨[.d aN],[]⟩,⟨[.d aN],[]⟩,dP [(5,(.j ⟨[0],[3,10],⟨[.row 0,.d .bool],[.rows 3 aj aN]⟩,[]⟩))]⟩
def Xu:ct:=cn Mn vL
def Fo:FT:=⟨⟨[.d qJ,.d eP],[]⟩,⟨[.d aN],[]⟩,dP [(6,(.j ⟨[6],[2,3,7],⟨po,[.cells 188 [.d qJ],.cells 175 [.d eP]]⟩,[]⟩)),(28,(.j ⟨[],[2,40],⟨gZ,[.cells 188 [.d qJ]]⟩,[]⟩))]⟩
def QX:ct:=cn Fo rZ
def C1:FT:=⟨⟨[.d uo,.d vA,.d aN],[]⟩,⟨[.d iL,.d .bool],[]⟩,dP [(3,(.j ⟨[2],[3,4,6,25],⟨Dx,[.cells 102 [.d uo],.cells 97 [.d vA],.cells 59 uD]⟩,[]⟩)),(54,(.j ⟨[],[6,8,9,10],⟨aaw,al8⟩,[.cel 10 5 3 aN]⟩)),(59,(.j ⟨[],[6,8,9,10,98],⟨zu,[.cells 59 uD,.cells 175 [.d eP],.cells 188 [.d qJ],.cells 59 uD]⟩,[]⟩)),(68,(.j ⟨[],[6,10],⟨[.ptr 0 0,.ptr 1 0],[.cells 59 uD,.cells 59 [.d aN,.d aN,.d aN,.d aN,.d aN,.row 2,.row 3],.rows 3 ai aN,.rows 3 ai aN]⟩,[.cel 10 6 3 aN]⟩)),(69,(.j ⟨[],[6,8,9,10,123],⟨zu,al8⟩,[]⟩))]⟩
def N8:ct:=cn C1 ny
def I5:FT:=⟨⟨[.d m7],[]⟩,⟨[.d iO],[]⟩,dP [(8,(.j ⟨[],[1,2,3,4],⟨ES,[.cells 31 [.d m7],.cells 87 vy,.cells 87 ai2,.rows 2 ai aN,.rows 2 aj aN,.rows 3 aj aN]⟩,[.cel 3 4 2 aN]⟩))]⟩
def Ua:ct:=cn I5 mD
def Mm:FT:=⟨⟨[.d m7,.d iO],[]⟩,⟨[.d .bool],[]⟩,dP [(2,(.j ⟨[],[4],⟨[.d .bool],[]⟩,[]⟩))]⟩
def Xt:ct:=cn Mm vK
def V2:FT:=⟨⟨vx,[]⟩,⟨[.d .bool],[]⟩,dP [(2,(.j ⟨[],[4],⟨[.d .bool],[]⟩,[]⟩))]⟩
def ad8:ct:=cn V2 Cn
def CZ:FT:=⟨⟨LC,[]⟩,⟨[.d .bool],[]⟩,dP [(6,(.j ⟨[0,1],[5],⟨[.d aN],[]⟩,[]⟩)),(15,(.j ⟨[0,1,5],[40],⟨[.d .bool],[]⟩,[]⟩))]⟩
def N7:ct:=cn CZ nu
def I3:FT:=⟨⟨[.d iO,.d iL],[]⟩,⟨[.d .bool],[]⟩,dP [(21,(.j ⟨[],[4],⟨[.d .bool],[]⟩,[]⟩)),(24,(.j ⟨[7],[2,3,40],⟨po,[.cells 87 [.d iO],.cells 59 [.d iL]]⟩,[]⟩)),(47,(.j ⟨[],[4],⟨[.d .bool],[]⟩,[]⟩))]⟩
def T9:ct:=cn I3 tO
def Ml:FT:=⟨⟨[.d m7,.d iO,.d iL],[]⟩,⟨[.d iO,.d .bool],[]⟩,dP [(3,(.j ⟨[],[3,4,5,6,46],⟨zu,Kf⟩,[]⟩)),(10,(.j ⟨[],[3,4,5,6],⟨aaw,Kf⟩,[]⟩)),(11,(.j ⟨[],[3,4,5,6,55],⟨zu,Kf⟩,[]⟩)),(21,(.j ⟨[],[3,4,5,6,78],⟨zu,Kf⟩,[]⟩)),(28,(.j ⟨[],[3,4,5,6,8],⟨zu,Kf⟩,[]⟩)),(31,(.j ⟨[],[3,4,5,6,110],⟨zu,Kf⟩,[]⟩)),(39,(.j ⟨[],[3,4,5,6,125],⟨zu,Kf⟩,[]⟩)),(47,(.j ⟨[],[3,4,5,6,154],⟨zu,Kf⟩,[]⟩)),(58,(.j ⟨[],[3,4,5,6,9,10],⟨ahu,[.cells 31 [.d m7],.cells 87 [.d iO],.cells 59 [.d iL],.cells 87 vy,.cells 87 [.nil,.d aN,.nil,.nil,.row 5,.row 6,.row 7],.rows 2 ai aN,.rows 2 ai aN,.rows 3 ai aN]⟩,[]⟩)),(66,(.j ⟨[],[5,6,9],⟨[.ptr 0 0,.ptr 1 0,.ptr 2 0],ahs⟩,[]⟩)),(72,(.j ⟨[],[5,6,9],⟨[.ptr 0 0,.ptr 1 0,.ptr 2 0],ahs⟩,[]⟩))]⟩
def Xs:ct:=cn Ml qY
def I4:FT:=⟨⟨[.d (.sl iL),.d aN,.d aN,.d (.sl aN)],[]⟩,⟨[.d .bool],[]⟩,dP [(6,(.j ⟨[0,1,2,3],[9],⟨[.d aN],[]⟩,[]⟩)),(23,(.j ⟨[0,1,2,3,9],[10,11,12],⟨[.d aN,.d .bool,.d aN],[]⟩,[]⟩)),(31,(.j ⟨[0,1,2,3,9,12],[10,11],⟨[.d aN,.d .bool],[]⟩,[]⟩)),(38,(.j ⟨[0,1,2,3,9,10,12],[11],⟨[.d .bool],[]⟩,[]⟩))]⟩
def T_:ct:=cn I4 qX
def I6:FT:=⟨⟨[.d od],[]⟩,⟨vx,[]⟩,dP [(24,(.j ⟨[],[1,4,5],⟨uC,[.cells 34 [.d od],.cells 87 [.d iO]]⟩,[]⟩)),(38,(.j ⟨[5],[1,4,7,63],⟨Dx,[.cells 34 [.d od],.cells 87 [.d iO],.cells 87 [.d iO]]⟩,[]⟩))]⟩
def Ub:ct:=cn I6 tP
def FH:FT:=⟨⟨[.d vA],[]⟩,⟨[.agg [.agg GM,.row 3,.row 4,.csl 5 4 1]],[.rows 153 ai dV,.rows 4 ai .bool,.rows 155 ai h_,.rows 2 ai aN,.rows 2 ai aN,.cells 175 [.d aN,.row 6,.row 7,.d aN],.rows 2 ai aN,.rows 53 ai (.sl aN)]⟩,dP [(8,(.u 2))]⟩
def Rh:ct:=cn FH mP
def Fx:FT:=⟨⟨LD,[]⟩,⟨LF,[]⟩,dP [(27,(.s 5 0 0 1)),(37,(.j ⟨[],[3,4,5,6,7,9,14,15,16],⟨LJ,aie⟩,[]⟩)),(38,(.j ⟨[16,77],[3,4,5,6,7,9,14,15,78],⟨MN,aie⟩,[]⟩)),(83,(.j ⟨[16],[3,4,5,6,7,9,14],⟨LH,[.cells 102 [.d uo],.cells 97 afu,.cells 144 [.d iE],.cells 97 vy,.cells 59 uD,.cells 59 [.d iL],.cells 175 Kd,.rows 2 ai aN,.rows 2 ai aN,.cells 175 Kd,.rows 2 ai aN,.rows 53 ai (.sl aN)]⟩,[]⟩)),(84,(.j ⟨[16],[3,4,5,6,7,9,14,15,154],⟨MN,aie⟩,[]⟩)),(95,(.j ⟨[],[4,5,6,7,9,14],⟨LG,[.cells 97 [.d (.sl dV),.d aN,.d pM,.d (.sl h_),.row 6,.row 7,.csl 8 4 1],.cells 144 [.d iE],.cells 97 vy,.cells 59 uD,.cells 59 [.d iL],.cells 175 [.d eP],.rows 2 ai aN,.rows 2 ai aN,.cells 175 [.d eP]]⟩,[]⟩)),(96,(.j ⟨[],[3,4,5,6,7,9,14,183],⟨LI,[.cells 102 [.d uo],.cells 97 afu,.cells 144 [.d iE],.cells 97 vy,.cells 59 uD,.cells 59 [.d iL],.cells 175 Ke,.rows 2 ai aN,.rows 2 ai aN,.cells 175 Ke]⟩,[]⟩)),(102,(.s 5 0 0 1)),(104,(.a [.pk 4 6 eP]))]⟩
def Q7:ct:=cn Fx fX
def FG:FT:=⟨⟨[.d vA],[]⟩,⟨[.agg [.agg GM,.row 3,.row 4,.csl 5 4 2]],[.rows 153 ai dV,.rows 4 ai .bool,.rows 155 ai h_,.rows 2 ai aN,.rows 2 ai aN,.cells 175 [.d aN,.row 6,.row 7,.d aN,.d eP],.rows 2 ai aN,.rows 53 ai (.sl aN)]⟩,dP [(8,(.u 3))]⟩
def Rg:ct:=cn FG mO
def Fw:FT:=⟨⟨LD,[]⟩,⟨LF,[]⟩,dP [(27,(.s 5 0 0 1)),(37,(.j ⟨[],[3,4,5,6,7,9,14,15,16],⟨LJ,aig⟩,[]⟩)),(38,(.j ⟨[16,77],[3,4,5,6,7,9,14,15,78],⟨MN,aig⟩,[]⟩)),(83,(.j ⟨[16],[3,4,5,6,7,9,14],⟨LH,[.cells 102 [.d uo],.cells 97 aeb,.cells 144 [.d iE],.cells 97 vy,.cells 59 uD,.cells 59 [.d iL],.cells 175 Kd,.rows 2 ai aN,.rows 2 ai aN,.cells 175 [.d aN,.row 10,.row 11,.d aN,.d eP],.rows 2 ai aN,.rows 53 ai (.sl aN)]⟩,[]⟩)),(84,(.j ⟨[16],[3,4,5,6,7,9,14,15,154],⟨MN,aig⟩,[]⟩)),(95,(.j ⟨[],[4,5,6,7,9,14],⟨LG,alg⟩,[]⟩)),(96,(.j ⟨[],[3,4,5,6,7,9,14,183],⟨LI,[.cells 102 [.d uo],.cells 97 aeb,.cells 144 [.d iE],.cells 97 vy,.cells 59 uD,.cells 59 [.d iL],.cells 175 Ke,.rows 2 ai aN,.rows 2 ai aN,.cells 175 [.d aN,.d (.sl aN),.d vz,.d aN,.d eP]]⟩,[]⟩)),(102,(.s 5 0 0 1)),(104,(.a [.pk 4 6 eP]))]⟩
def Q6:ct:=cn Fw gx
def FF:FT:=⟨⟨[.d vA],[]⟩,⟨[.agg [.agg GM,.row 3,.row 4,.csl 5 4 2]],[.rows 153 ai dV,.rows 4 ai .bool,.rows 155 ai h_,.rows 2 ai aN,.rows 2 ai aN,.cells 175 [.d eP,.d aN,.row 6,.row 7,.d aN],.rows 2 ai aN,.rows 53 ai (.sl aN)]⟩,dP [(8,(.u 3))]⟩
def Rf:ct:=cn FF mN
def Fv:FT:=⟨⟨LD,[]⟩,⟨LF,[]⟩,dP [(27,(.s 5 0 1 1)),(37,(.j ⟨[],[3,4,5,6,7,9,14,15,16],⟨LJ,aif⟩,[]⟩)),(38,(.j ⟨[16,77],[3,4,5,6,7,9,14,15,78],⟨MN,aif⟩,[]⟩)),(83,(.j ⟨[16],[3,4,5,6,7,9,14],⟨LH,[.cells 102 [.d uo],.cells 97 aeb,.cells 144 [.d iE],.cells 97 vy,.cells 59 uD,.cells 59 [.d iL],.cells 175 Kd,.rows 2 ai aN,.rows 2 ai aN,.cells 175 [.d eP,.d aN,.row 10,.row 11,.d aN],.rows 2 ai aN,.rows 53 ai (.sl aN)]⟩,[]⟩)),(84,(.j ⟨[16],[3,4,5,6,7,9,14,15,154],⟨MN,aif⟩,[]⟩)),(95,(.j ⟨[],[4,5,6,7,9,14],⟨LG,alg⟩,[]⟩)),(96,(.j ⟨[],[3,4,5,6,7,9,14,183],⟨LI,[.cells 102 [.d uo],.cells 97 aeb,.cells 144 [.d iE],.cells 97 vy,.cells 59 uD,.cells 59 [.d iL],.cells 175 Ke,.rows 2 ai aN,.rows 2 ai aN,.cells 175 [.d eP,.d aN,.d (.sl aN),.d vz,.d aN]]⟩,[]⟩)),(102,(.s 5 0 1 1)),(104,(.a [.pk 4 6 eP]))]⟩
def Q5:ct:=cn Fv fV
def FE:FT:=⟨⟨[.d vA],[]⟩,⟨ahr,[.rows 153 ai dV,.rows 4 ai .bool,.rows 155 ai h_,.rows 2 ai aN,.rows 2 ai aN,.cells 175 [.d aN,.row 6,.row 7,.d aN,.d eP,.d eP],.rows 2 ai aN,.rows 53 ai (.sl aN)]⟩,dP [(8,(.u 4))]⟩
def Re:ct:=cn FE mM
def Fu:FT:=⟨⟨LD,[]⟩,⟨LF,[]⟩,dP [(27,(.s 5 0 0 1)),(37,(.j ⟨[],[3,4,5,6,7,9,14,15,16],⟨LJ,aij⟩,[]⟩)),(38,(.j ⟨[16,77],[3,4,5,6,7,9,14,15,78],⟨MN,aij⟩,[]⟩)),(83,(.j ⟨[16],[3,4,5,6,7,9,14],⟨LH,[.cells 102 [.d uo],.cells 97 Ye,.cells 144 [.d iE],.cells 97 vy,.cells 59 uD,.cells 59 [.d iL],.cells 175 Kd,.rows 2 ai aN,.rows 2 ai aN,.cells 175 [.d aN,.row 10,.row 11,.d aN,.d eP,.d eP],.rows 2 ai aN,.rows 53 ai (.sl aN)]⟩,[]⟩)),(84,(.j ⟨[16],[3,4,5,6,7,9,14,15,154],⟨MN,aij⟩,[]⟩)),(95,(.j ⟨[],[4,5,6,7,9,14],⟨LG,ai9⟩,[]⟩)),(96,(.j ⟨[],[3,4,5,6,7,9,14,183],⟨LI,[.cells 102 [.d uo],.cells 97 Ye,.cells 144 [.d iE],.cells 97 vy,.cells 59 uD,.cells 59 [.d iL],.cells 175 Ke,.rows 2 ai aN,.rows 2 ai aN,.cells 175 [.d aN,.d (.sl aN),.d vz,.d aN,.d eP,.d eP]]⟩,[]⟩)),(102,(.s 5 0 0 1)),(104,(.a [.pk 4 6 eP]))]⟩
def Q4:ct:=cn Fu jp
def FD:FT:=⟨⟨[.d vA],[]⟩,⟨ahr,[.rows 153 ai dV,.rows 4 ai .bool,.rows 155 ai h_,.rows 2 ai aN,.rows 2 ai aN,.cells 175 [.d eP,.d aN,.row 6,.row 7,.d aN,.d eP],.rows 2 ai aN,.rows 53 ai (.sl aN)]⟩,dP [(8,(.u 4))]⟩
def Rd:ct:=cn FD mL
def Ft:FT:=⟨⟨LD,[]⟩,⟨LF,[]⟩,dP [(27,(.s 5 0 1 1)),(37,(.j ⟨[],[3,4,5,6,7,9,14,15,16],⟨LJ,aii⟩,[]⟩)),(38,(.j ⟨[16,77],[3,4,5,6,7,9,14,15,78],⟨MN,aii⟩,[]⟩)),(83,(.j ⟨[16],[3,4,5,6,7,9,14],⟨LH,[.cells 102 [.d uo],.cells 97 Ye,.cells 144 [.d iE],.cells 97 vy,.cells 59 uD,.cells 59 [.d iL],.cells 175 Kd,.rows 2 ai aN,.rows 2 ai aN,.cells 175 [.d eP,.d aN,.row 10,.row 11,.d aN,.d eP],.rows 2 ai aN,.rows 53 ai (.sl aN)]⟩,[]⟩)),(84,(.j ⟨[16],[3,4,5,6,7,9,14,15,154],⟨MN,aii⟩,[]⟩)),(95,(.j ⟨[],[4,5,6,7,9,14],⟨LG,ai9⟩,[]⟩)),(96,(.j ⟨[],[3,4,5,6,7,9,14,183],⟨LI,[.cells 102 [.d uo],.cells 97 Ye,.cells 144 [.d iE],.cells 97 vy,.cells 59 uD,.cells 59 [.d iL],.cells 175 Ke,.rows 2 ai aN,.rows 2 ai aN,.cells 175 [.d eP,.d aN,.d (.sl aN),.d vz,.d aN,.d eP]]⟩,[]⟩)),(102,(.s 5 0 1 1)),(104,(.a [.pk 4 6 eP]))]⟩
def Q3:ct:=cn Ft iF
def FC:FT:=⟨⟨[.d vA],[]⟩,⟨ahr,[.rows 153 ai dV,.rows 4 ai .bool,.rows 155 ai h_,.rows 2 ai aN,.rows 2 ai aN,.cells 175 [.d eP,.d eP,.d aN,.row 6,.row 7,.d aN],.rows 2 ai aN,.rows 53 ai (.sl aN)]⟩,dP [(8,(.u 4))]⟩
def Rc:ct:=cn FC mK
def Fs:FT:=⟨⟨LD,[]⟩,⟨LF,[]⟩,dP [(27,(.s 5 0 2 1)),(37,(.j ⟨[],[3,4,5,6,7,9,14,15,16],⟨LJ,aih⟩,[]⟩)),(38,(.j ⟨[16,77],[3,4,5,6,7,9,14,15,78],⟨MN,aih⟩,[]⟩)),(83,(.j ⟨[16],[3,4,5,6,7,9,14],⟨LH,[.cells 102 [.d uo],.cells 97 Ye,.cells 144 [.d iE],.cells 97 vy,.cells 59 uD,.cells 59 [.d iL],.cells 175 Kd,.rows 2 ai aN,.rows 2 ai aN,.cells 175 [.d eP,.d eP,.d aN,.row 10,.row 11,.d aN],.rows 2 ai aN,.rows 53 ai (.sl aN)]⟩,[]⟩)),(84,(.j ⟨[16],[3,4,5,6,7,9,14,15,154],⟨MN,aih⟩,[]⟩)),(95,(.j ⟨[],[4,5,6,7,9,14],⟨LG,ai9⟩,[]⟩)),(96,(.j ⟨[],[3,4,5,6,7,9,14,183],⟨LI,[.cells 102 [.d uo],.cells 97 Ye,.cells 144 [.d iE],.cells 97 vy,.cells 59 uD,.cells 59 [.d iL],.cells 175 Ke,.rows 2 ai aN,.rows 2 ai aN,.cells 175 [.d eP,.d eP,.d aN,.d (.sl aN),.d vz,.d aN]]⟩,[]⟩)),(102,(.s 5 0 2 1)),(104,(.a [.pk 4 6 eP]))]⟩
def Q2:ct:=cn Fs g_
def FB:FT:=⟨⟨[.d vA],[]⟩,⟨aea,[.rows 153 ai dV,.rows 4 ai .bool,.rows 155 ai h_,.rows 2 ai aN,.rows 2 ai aN,.cells 175 [.d aN,.row 6,.row 7,.d aN,.d eP,.d eP,.d eP],.rows 2 ai aN,.rows 53 ai (.sl aN)]⟩,dP [(8,(.u 5))]⟩
def Rb:ct:=cn FB mJ
def dB:FT:=⟨⟨LD,[]⟩,⟨LF,[]⟩,dP [(27,(.s 5 0 0 1)),(37,(.j ⟨[],[3,4,5,6,7,9,14,15,16],⟨LJ,aid⟩,[]⟩)),(38,(.j ⟨[16,77],[3,4,5,6,7,9,14,15,78],⟨MN,aid⟩,[]⟩)),(83,(.j ⟨[16],[3,4,5,6,7,9,14],⟨LH,[.cells 102 [.d uo],.cells 97 RZ,.cells 144 [.d iE],.cells 97 vy,.cells 59 uD,.cells 59 [.d iL],.cells 175 Kd,.rows 2 ai aN,.rows 2 ai aN,.cells 175 [.d aN,.row 10,.row 11,.d aN,.d eP,.d eP,.d eP],.rows 2 ai aN,.rows 53 ai (.sl aN)]⟩,[]⟩)),(84,(.j ⟨[16],[3,4,5,6,7,9,14,15,154],⟨MN,aid⟩,[]⟩)),(95,(.j ⟨[],[4,5,6,7,9,14],⟨LG,aed⟩,[]⟩)),(96,(.j ⟨[],[3,4,5,6,7,9,14,183],⟨LI,[.cells 102 [.d uo],.cells 97 RZ,.cells 144 [.d iE],.cells 97 vy,.cells 59 uD,.cells 59 [.d iL],.cells 175 Ke,.rows 2 ai aN,.rows 2 ai aN,.cells 175 [.d aN,.d (.sl aN),.d vz,.d aN,.d eP,.d eP,.d eP]]⟩,[]⟩)),(102,(.s 5 0 0 1)),(104,(.a [.pk 4 6 eP]))]⟩
def Q1:ct:=cn dB mF
def FA:FT:=⟨⟨[.d vA],[]⟩,⟨aea,[.rows 153 ai dV,.rows 4 ai .bool,.rows 155 ai h_,.rows 2 ai aN,.rows 2 ai aN,.cells 175 [.d eP,.d aN,.row 6,.row 7,.d aN,.d eP,.d eP],.rows 2 ai aN,.rows 53 ai (.sl aN)]⟩,dP [(8,(.u 5))]⟩
def Ra:ct:=cn FA mI
def Fr:FT:=⟨⟨LD,[]⟩,⟨LF,[]⟩,dP [(27,(.s 5 0 1 1)),(37,(.j ⟨[],[3,4,5,6,7,9,14,15,16],⟨LJ,aic⟩,[]⟩)),(38,(.j ⟨[16,77],[3,4,5,6,7,9,14,15,78],⟨MN,aic⟩,[]⟩)),(83,(.j ⟨[16],[3,4,5,6,7,9,14],⟨LH,[.cells 102 [.d uo],.cells 97 RZ,.cells 144 [.d iE],.cells 97 vy,.cells 59 uD,.cells 59 [.d iL],.cells 175 Kd,.rows 2 ai aN,.rows 2 ai aN,.cells 175 [.d eP,.d aN,.row 10,.row 11,.d aN,.d eP,.d eP],.rows 2 ai aN,.rows 53 ai (.sl aN)]⟩,[]⟩)),(84,(.j ⟨[16],[3,4,5,6,7,9,14,15,154],⟨MN,aic⟩,[]⟩)),(95,(.j ⟨[],[4,5,6,7,9,14],⟨LG,aed⟩,[]⟩)),(96,(.j ⟨[],[3,4,5,6,7,9,14,183],⟨LI,[.cells 102 [.d uo],.cells 97 RZ,.cells 144 [.d iE],.cells 97 vy,.cells 59 uD,.cells 59 [.d iL],.cells 175 Ke,.rows 2 ai aN,.rows 2 ai aN,.cells 175 [.d eP,.d aN,.d (.sl aN),.d vz,.d aN,.d eP,.d eP]]⟩,[]⟩)),(102,(.s 5 0 1 1)),(104,(.a [.pk 4 6 eP]))]⟩
def Q0:ct:=cn Fr mE
def Fz:FT:=⟨⟨[.d vA],[]⟩,⟨aea,[.rows 153 ai dV,.rows 4 ai .bool,.rows 155 ai h_,.rows 2 ai aN,.rows 2 ai aN,.cells 175 [.d eP,.d eP,.d aN,.row 6,.row 7,.d aN,.d eP],.rows 2 ai aN,.rows 53 ai (.sl aN)]⟩,dP [(8,(.u 5))]⟩
def Q_:ct:=cn Fz mH
def Fq:FT:=⟨⟨LD,[]⟩,⟨LF,[]⟩,dP [(27,(.s 5 0 2 1)),(37,(.j ⟨[],[3,4,5,6,7,9,14,15,16],⟨LJ,aib⟩,[]⟩)),(38,(.j ⟨[16,77],[3,4,5,6,7,9,14,15,78],⟨MN,aib⟩,[]⟩)),(83,(.j ⟨[16],[3,4,5,6,7,9,14],⟨LH,[.cells 102 [.d uo],.cells 97 RZ,.cells 144 [.d iE],.cells 97 vy,.cells 59 uD,.cells 59 [.d iL],.cells 175 Kd,.rows 2 ai aN,.rows 2 ai aN,.cells 175 [.d eP,.d eP,.d aN,.row 10,.row 11,.d aN,.d eP],.rows 2 ai aN,.rows 53 ai (.sl aN)]⟩,[]⟩)),(84,(.j ⟨[16],[3,4,5,6,7,9,14,15,154],⟨MN,aib⟩,[]⟩)),(95,(.j ⟨[],[4,5,6,7,9,14],⟨LG,aed⟩,[]⟩)),(96,(.j ⟨[],[3,4,5,6,7,9,14,183],⟨LI,[.cells 102 [.d uo],.cells 97 RZ,.cells 144 [.d iE],.cells 97 vy,.cells 59 uD,.cells 59 [.d iL],.cells 175 Ke,.rows 2 ai aN,.rows 2 ai aN,.cells 175 [.d eP,.d eP,.d aN,.d (.sl aN),.d vz,.d aN,.d eP]]⟩,[]⟩)),(102,(.s 5 0 2 1)),(104,(.a [.pk 4 6 eP]))]⟩
def QZ:ct:=cn Fq lh
def Fy:FT:=⟨⟨[.d vA],[]⟩,⟨aea,[.rows 153 ai dV,.rows 4 ai .bool,.rows 155 ai h_,.rows 2 ai aN,.rows 2 ai aN,.cells 175 [.d eP,.d eP,.d eP,.d aN,.row 6,.row 7,.d aN],.rows 2 ai aN,.rows 53 ai (.sl aN)]⟩,dP [(8,(.u 5))]⟩
def Q9:ct:=cn Fy mG
def Fp:FT:=⟨⟨LD,[]⟩,⟨LF,[]⟩,dP [(27,(.s 5 0 3 1)),(37,(.j ⟨[],[3,4,5,6,7,9,14,15,16],⟨LJ,aia⟩,[]⟩)),(38,(.j ⟨[16,77],[3,4,5,6,7,9,14,15,78],⟨MN,aia⟩,[]⟩)),(83,(.j ⟨[16],[3,4,5,6,7,9,14],⟨LH,[.cells 102 [.d uo],.cells 97 RZ,.cells 144 [.d iE],.cells 97 vy,.cells 59 uD,.cells 59 [.d iL],.cells 175 Kd,.rows 2 ai aN,.rows 2 ai aN,.cells 175 [.d eP,.d eP,.d eP,.d aN,.row 10,.row 11,.d aN],.rows 2 ai aN,.rows 53 ai (.sl aN)]⟩,[]⟩)),(84,(.j ⟨[16],[3,4,5,6,7,9,14,15,154],⟨MN,aia⟩,[]⟩)),(95,(.j ⟨[],[4,5,6,7,9,14],⟨LG,aed⟩,[]⟩)),(96,(.j ⟨[],[3,4,5,6,7,9,14,183],⟨LI,[.cells 102 [.d uo],.cells 97 RZ,.cells 144 [.d iE],.cells 97 vy,.cells 59 uD,.cells 59 [.d iL],.cells 175 Ke,.rows 2 ai aN,.rows 2 ai aN,.cells 175 [.d eP,.d eP,.d eP,.d aN,.d (.sl aN),.d vz,.d aN]]⟩,[]⟩)),(102,(.s 5 0 3 1)),(104,(.a [.pk 4 6 eP]))]⟩
def QY:ct:=cn Fp j8
def Xx:ct:=cn dB zM
def Mo:FT:=⟨⟨[.d uo,.d vA,.nil,.d (.sl iE)],[]⟩,⟨[.d (.sl iL),.d vA],[]⟩,dP [(1,(.a [.nil 2 59 iL])),(6,(.j ⟨[3],[2,4,5,9,10],⟨[.row 0,.ptr 1 0,.ptr 2 0,.ptr 3 0,.d aN],ai0⟩,[]⟩)),(8,(.j ⟨[3,10],[2,4,5,9,22],⟨[.row 0,.ptr 1 0,.ptr 2 0,.ptr 3 0,.d .bool],ai0⟩,[]⟩)),(14,(.j ⟨[3,10],[2,4,5,9],⟨[.row 0,.ptr 1 0,.ptr 2 0,.ptr 3 0],ai0⟩,[]⟩))]⟩
def Xv:ct:=cn Mo vM
def QI:FT:=⟨⟨[.d uo,.d (.sl iE)],[]⟩,⟨[.d od,.d vA],[]⟩,.leaf⟩
def ZY:ct:=cn QI yA
def xT:FT:=⟨⟨uB,RX⟩,⟨[.d aN],RX⟩,dP [(3,(.j ⟨[1],[0,18],⟨gZ,Ya⟩,[]⟩))]⟩
def Gy:ct:=cn xT bx
def Mw:FT:=⟨⟨[.d aN],[]⟩,⟨[.d .ex],[]⟩,.leaf⟩
def XH:ct:=cn Mw rj
def Jn:FT:=⟨⟨[.d .str],[]⟩,⟨[.d .ex],[]⟩,.leaf⟩
def UB:ct:=cn Jn pg
def Da:FT:=⟨⟨[.d aN,.d .ex,.d .ex],[]⟩,⟨[.d .ex],[]⟩,.leaf⟩
def Oj:ct:=cn Da nC
def Db:FT:=⟨⟨[.d .str,.d .ex],[]⟩,⟨[.d .sm],[]⟩,.leaf⟩
def Ol:ct:=cn Db ji
def FW:FT:=⟨⟨[],[]⟩,⟨[.d (.sl F6)],[]⟩,.leaf⟩
def Rx:ct:=cn FW r8
def AJ:FT:=⟨⟨[.d Dy],[]⟩,⟨[.d (.sl iE)],[]⟩,dP [(8,(.j ⟨[0],[3,4],⟨[.row 0,.d aN],[.rows 144 ai iE]⟩,[.nil 3 144 iE]⟩))]⟩
def Lv:ct:=cn AJ oC
def nO:FT:=⟨⟨uB,U7⟩,⟨[.d .ex],U7⟩,dP [(8,(.j ⟨[1,6],[0,4,5,14],⟨[.ptr 0 0,.ptr 3 0,.row 4,.d .bool],[.cells 192 aft,.cells 78 [.d yg],.rowsP 9 .str,.cells 196 [.d aN,.d aN,.d .str,.nil],.rows 9 aj .str]⟩,[]⟩))]⟩
def EG:ct:=cn nO eY
def D7 (n:Nat):ct:=cn nO (im n)
def uX:FT:=⟨⟨[.ptr 0 0,.d .str],U7⟩,⟨[.d .bool],U7⟩,.leaf⟩
def Do:ct:=cn uX eJ
def mq:FT:=⟨⟨R1,U7⟩,⟨[.row 4],[.cells 192 ahy,.cells 78 OL,.gone,.rowsP 9 .str,.rows 198 ai .sm]⟩,dP [(1,(.a [.ren 0 7])),(8,(.j ⟨[1,2],[0,7,8],⟨[.ptr 0 0,.row 3,.d aN],al9⟩,[.nil 7 198 .sm]⟩)),(10,(.j ⟨[1,2,8],[0,7,22],⟨[.ptr 0 0,.row 3,.d .bool],al9⟩,[]⟩)),(21,(.a [.nil 6 198 .sm]))]⟩
def Dn:ct:=cn mq qg
def Cu (n:Nat):ct:=cn mq (dF n)
def rB:FT:=⟨⟨uB,U7⟩,⟨[.d .sm],[.cells 192 ahy,.cells 78 OL,.gone,.rowsP 9 .str]⟩,dP [(1,(.a [.ren 0 7])),(6,(.j ⟨[1,5],[0,4,6],⟨Kc,La2⟩,[]⟩)),(28,(.j ⟨[1,5,6],[0,4,74],⟨Kc,La2⟩,[]⟩)),(33,(.j ⟨[],[4,7],⟨[.ptr 3 0,.ptr 4 0],[.cells 192 [.ptr 1 0,.d aN,.d aN,.d .bool,.d .bool,.d .bool,.d .bool,.row 5],.cells 78 [.d yg],.gone,.cells 198 afw,.cells 198 [.d aN,.d aN,.d .str,.d .str,.nil,.d aN,.d aN,.d .str,.d (.sl .ex),.row 6,.row 7],.rowsP 9 .str,.rows 198 ai .sm,.rows 198 ai .sm]⟩,[.cel 7 10 198 .sm]⟩)),(42,(.j ⟨[1,5,6],[0,4,100],⟨Kc,La2⟩,[]⟩)),(56,(.j ⟨[1,5,6],[0,4,133],⟨Kc,La2⟩,[]⟩)),(64,(.j ⟨[1,5,6],[0,4,165],⟨Kc,La2⟩,[]⟩)),(70,(.j ⟨[1,5,6],[0,4,188],⟨Kc,La2⟩,[]⟩)),(82,(.j ⟨[1,5,6],[0,4,210],⟨Kc,La2⟩,[]⟩)),(94,(.j ⟨[5,6],[0,4,235],⟨Kc,La2⟩,[]⟩)),(100,(.j ⟨[5],[0,4,258],⟨Kc,La2⟩,[]⟩)),(106,(.j ⟨[5],[0,4,278],⟨Kc,La2⟩,[]⟩)),(114,(.j ⟨[],[0,4,308],⟨Kc,La2⟩,[]⟩))]⟩
def D6 (n:Nat):ct:=cn rB (ep n)
def qB:FT:=⟨⟨[.ptr 0 0,.d .str,.d aN],U7⟩,⟨[.d (.sl .sm)],[.cells 192 ahy,.cells 78 OL,.gone,.rowsP 9 .str]⟩,.leaf⟩
def Cv (n:Nat):ct:=cn qB (dT n)
def AH:FT:=⟨⟨[.d Dy],[]⟩,⟨[.d MO],[]⟩,dP [(5,(.a [.cel 3 7 9 .str])),(14,(.j ⟨[5],[2,3,4,6,7],⟨[.ptr 0 0,.ptr 1 0,.ptr 2 0,.row 3,.d aN],[.cells 141 [.nil,.nil],.cells 192 [.ptr 4 0,.d aN,.d aN,.d .bool,.d .bool,.d .bool,.d .bool,.row 5],.cells 141 [.d (.sl F6),.row 6],.rows 9 aj .str,.cells 78 [.d yg],.rowsP 9 .str,.rows 182 ai sL]⟩,[.cel 4 1 182 sL]⟩)),(27,(.j ⟨[5,7],[2,3,4,6,8],⟨[.ptr 0 0,.ptr 1 0,.ptr 2 0,.row 3,.ptr 4 0],La7⟩,[.cel 8 3 198 .sm]⟩)),(34,(.j ⟨[5,7],[2,3,4,6,8,9],⟨[.ptr 0 0,.ptr 1 0,.ptr 2 0,.row 3,.ptr 4 0,.d aN],La7⟩,[.cel 8 3 198 .sm]⟩)),(48,(.j ⟨[5,7],[2,3,4,6,8],⟨[.ptr 0 0,.ptr 1 0,.ptr 2 0,.row 3,.ptr 4 0],La7⟩,[]⟩)),(49,(.j ⟨[5,7],[2,3,4,6,8,79],⟨[.ptr 0 0,.ptr 1 0,.ptr 2 0,.row 3,.ptr 4 0,.d .bool],La7⟩,[]⟩))]⟩
def Lu:ct:=cn AH oB
def Jo:FT:=⟨⟨[.d Dy],[]⟩,⟨[.d uo],[]⟩,.leaf⟩
def UC:ct:=cn Jo wY
def FX:FT:=⟨⟨[.d Dy,.d Dy],[]⟩,⟨[.d od],[]⟩,.leaf⟩
def Ry:ct:=cn FX r9
def CX:FT:=⟨⟨[],[]⟩,⟨[.d m7],[]⟩,dP [(8,(.j ⟨[21],[0,1,22],⟨uC,aec⟩,[.cel 1 5 120 oe]⟩)),(22,(.j ⟨[2,21,22],[0,1,3],⟨uC,aec⟩,[]⟩))]⟩
def N5:ct:=cn CX nl
def yV:FT:=⟨⟨[.d iO],[]⟩,⟨qQ,[]⟩,dP [(8,(.j ⟨[8,9],[3,10],⟨[.row 0,.d aN],[.rows 3 ai aN]⟩,[.nil 3 3 aN]⟩)),(16,(.j ⟨[8,9,10],[3],⟨[.row 0],[.rows 3 ai aN]⟩,[]⟩))]⟩
def JA:ct:=cn yV kQ
def CV:FT:=⟨⟨[],[]⟩,⟨qQ,[]⟩,.leaf⟩
def N2:ct:=cn CV sY
def Au:FT:=⟨⟨R1,RX⟩,⟨[.d aN],RX⟩,dP [(6,(.j ⟨[2,7],[0,8],⟨gZ,Ya⟩,[]⟩)),(16,(.j ⟨[2,7],[0,16],⟨gZ,Ya⟩,[]⟩)),(26,(.j ⟨[2,7],[0,21],⟨gZ,Ya⟩,[]⟩)),(44,(.j ⟨[2,7],[0,26],⟨gZ,Ya⟩,[]⟩)),(70,(.j ⟨[2],[0,33],⟨gZ,Ya⟩,[]⟩))]⟩
def Ld:ct:=cn Au ov
def CU:FT:=⟨⟨[.ptr 0 0,.d iO,.d aN,.d aN],RX⟩,⟨[.d aN],RX⟩,dP [(18,(.j ⟨[10],[0,5,24],⟨po,[.cells 78 [.d yg],.cells 87 [.d iO]]⟩,[]⟩))]⟩
def N0:ct:=cn CU pZ
def Fm:FT:=⟨⟨[.ptr 0 0,.row 1],[.cells 78 OL,.rows 3 ai aN]⟩,⟨qQ,[.cells 78 OL,.rows 3 ai aN]⟩,dP [(8,(.j ⟨[9],[0,1,5,8,10],⟨[.ptr 0 0,.row 1,.row 2,.row 1,.d aN],aht⟩,[.nil 5 3 aN]⟩)),(16,(.j ⟨[9,10],[0,1,5,8],⟨[.ptr 0 0,.row 1,.row 2,.row 1],aht⟩,[]⟩)),(19,(.j ⟨[7,9,10],[0,1,5,8,24],⟨[.ptr 0 0,.row 1,.row 2,.row 1,.d .bool],aht⟩,[]⟩))]⟩
def QV:ct:=cn Fm gw
def CW:FT:=⟨⟨[.ptr 0 0,.d iO,.d m7,.csl 1 1 4],al7⟩,⟨[.d iL],al7⟩,dP [(8,(.j ⟨[9],[0,3,5,6,8,11],⟨[.ptr 0 0,.csl 1 1 4,.ptr 6 0,.ptr 7 0,.ptr 8 0,.ptr 9 0],ald⟩,[]⟩)),(9,(.j ⟨[9],[0,3,5,6,8,11,36],⟨[.ptr 0 0,.csl 1 1 4,.ptr 6 0,.ptr 7 0,.ptr 8 0,.ptr 9 0,.d .bool],ald⟩,[]⟩)),(18,(.j ⟨[9],[0,3,8,11],⟨[.ptr 0 0,.csl 1 1 4,.ptr 6 0,.ptr 7 0],ale⟩,[]⟩)),(19,(.j ⟨[9],[0,3,8,11,74],⟨[.ptr 0 0,.csl 1 1 4,.ptr 6 0,.ptr 7 0,.d .bool],[.cells 78 [.d yg],.cells 53 aar,.rows 3 ai aN,.rows 3 ai aN,.rows 3 ai aN,.rows 3 ai aN,.cells 59 uD,.cells 59 uD]⟩,[]⟩)),(22,(.s 9 0 0 4)),(24,(.j ⟨[],[8,11],⟨[.ptr 6 0,.ptr 7 0],[.cells 78 [.d yg],.cells 53 aar,.rows 3 ai aN,.rows 3 ai aN,.rows 3 ai aN,.rows 3 ai aN,.cells 59 uD,.cells 59 [.d aN,.d aN,.d aN,.d aN,.d aN,.d (.sl aN),.d (.sl aN)]]⟩,[]⟩)),(25,(.j ⟨[9],[0,3,8,11,89],⟨[.ptr 0 0,.csl 1 1 4,.ptr 6 0,.ptr 7 0,.d .bool],ale⟩,[]⟩)),(28,(.s 9 0 0 4))]⟩
def N3:ct:=cn CW p_
def Fn:FT:=⟨⟨[.ptr 0 0,.d iO,.d m7,.d aN,.d .bool],RX⟩,⟨[.d (.sl iL)],RX⟩,dP [(8,(.a [.cel 12 0 3 aN,.cel 12 1 3 aN,.cel 12 2 3 aN,.cel 12 3 3 aN])),(9,(.j ⟨[3,11],[0,6,7,12],⟨[.ptr 0 0,.ptr 1 0,.ptr 2 0,.csl 3 1 4],ai6⟩,[]⟩)),(10,(.u 5)),(18,(.j ⟨[3,4,11,22,23],[0,6,7,12],⟨[.ptr 0 0,.ptr 1 0,.ptr 2 0,.csl 3 1 4],ai6⟩,[]⟩)),(21,(.j ⟨[3,4,11,13,22,23],[0,6,7,12,39],⟨[.ptr 0 0,.ptr 1 0,.ptr 2 0,.csl 3 1 4,.d .bool],ai6⟩,[]⟩)),(29,(.j ⟨[3],[0,6,7,11,12],⟨[.ptr 0 0,.ptr 1 0,.ptr 2 0,.row 3,.csl 4 1 4],ai7⟩,[.nil 11 59 iL]⟩)),(31,(.j ⟨[3],[0,6,7,11,12,65],⟨[.ptr 0 0,.ptr 1 0,.ptr 2 0,.row 3,.csl 4 1 4,.d .bool],ai7⟩,[]⟩)),(36,(.j ⟨[3],[0,6,7,11,12],⟨[.ptr 0 0,.ptr 1 0,.ptr 2 0,.row 3,.csl 4 1 4],ai7⟩,[]⟩)),(47,(.j ⟨[3],[0,6,7,11,12,14,15],⟨[.ptr 0 0,.ptr 1 0,.ptr 2 0,.row 3,.csl 4 1 4,.ptr 5 0,.ptr 6 0],alf⟩,[]⟩)),(48,(.j ⟨[3],[0,6,7,11,12,14,15,87],⟨[.ptr 0 0,.ptr 1 0,.ptr 2 0,.row 3,.csl 4 1 4,.ptr 5 0,.ptr 6 0,.d .bool],alf⟩,[]⟩)),(51,(.s 14 0 0 4))]⟩
def QW:ct:=cn Fn rY
def CY:FT:=⟨⟨OL,[]⟩,⟨[.d od],[]⟩,dP [(2,(.j ⟨[1],[0,4],⟨[.d Dy,.ptr 0 0],[.cells 34 Yd]⟩,[]⟩)),(22,(.j ⟨[1,9],[4,5,6,7,8,10],⟨[.ptr 0 0,.ptr 1 0,.ptr 2 0,.ptr 3 0,.row 4,.d aN],[.cells 34 Yd,.cells 78 [.d yg],.cells 34 [.d (.sl kx),.d (.sl qD),.d (.sl k_),.d (.sl .str),.d (.sl .str),.d (.sl oe),.nil],.cells 87 [.d iO],.rows 59 aj iL]⟩,[]⟩)),(37,(.j ⟨[1,48],[4,5,6,7,47,49],⟨[.ptr 0 0,.ptr 1 0,.ptr 2 0,.ptr 3 0,.row 4,.d aN],alh⟩,[.cel 6 6 59 iL]⟩)),(45,(.j ⟨[1,48,49],[4,5,6,7,47],⟨[.ptr 0 0,.ptr 1 0,.ptr 2 0,.ptr 3 0,.row 4],alh⟩,[]⟩))]⟩
def N6:ct:=cn CY qb
def wv:FT:=⟨⟨[.d (.st (.pr Dy (.pr Dy Dy))),.d aN],[]⟩,⟨[.d od],[]⟩,.leaf⟩
def Ez:ct:=cn wv kR
theorem KY:aI Pg 154 Lo:=mk AC kl an b9
theorem Ir:aI Pg 124 JH:=mk yX jE (ac KY an) b9
theorem Fe:aI Pg 123 Rq:=mk FR lj an b9
theorem TE:aI Pg 155 Uw:=mk Jm rh an b9
theorem TD:aI Pg 125 Uv:=mk Jl pf (ac Fe (ac TE an)) b9
theorem sd:aI Pg 92 Rr:=mk FU eZ (ac Fe (ac Ir (ac TD an))) b9
theorem Iq:aI Pg 209 Un:=mk Jg fP an b9
theorem Tu:aI Pg 187 Uo:=mk Jh tV (ac Iq an) b9
theorem Qd:aI Pg 189 Rm:=mk FM r7 (ac Iq an) b9
theorem Tv:aI Pg 186 Up:=mk Ji re an b9
theorem KX:aI Pg 221 Ln:=mk AB md an b9
theorem v8:∀ n:Nat,aI Pg 210 (Gg n)
 |0=>Pz oV
 |n+1=>mk oV (lX (hY n)) (ac sd (ac (v8 n) (ac KX an))) b9
theorem xF:aI Pg 210 Gu:=(v8 fuel)
theorem TB:aI Pg 211 Uu:=mk Jk pe an b9
theorem ru:∀ n:Nat,aI Pg 190 (Gf n)/\aI Pg 164 (D5 n)
 |0=>⟨Pz sK,Pz nN⟩
 |n+1=>⟨mk sK (j6 (eh n) (dD n)) (ac sd (ac (ru n).2 (ac xF (ac TB an)))) b9,mk nN (jv (eh n) (dD n)) (ac (ru n).1 an) b9⟩
theorem Ee:aI Pg 164 EC:=(ru fuel).2
theorem Gj:aI Pg 163 Gt:=mk xP jY (ac sd an) b9
theorem Qf:aI Pg 132 Rp:=mk FP pA (ac sd (ac Gj (ac Ee an))) b9
theorem uR:aI Pg 93 adc:=mk V6 iW an b9
theorem uQ:aI Pg 165 Ro:=mk FO hX an b9
theorem vo:aI Pg 166 Lm:=mk AA gM an b9
theorem Qe:aI Pg 212 Rn:=mk FN py (ac uR (ac uQ (ac vo an))) b9
theorem Mc:aI Pg 193 XC:=mk Mu gy (ac Qe an) b9
theorem Fh:∀ n:Nat,aI Pg 213 (Tf n)
 |0=>Pz xq
 |n+1=>mk xq (uc (mV n)) (ac (Fh n) an) b9
theorem Tz:aI Pg 213 Us:=(Fh fuel)
theorem Fg:∀ n:Nat,aI Pg 214 (Te n)
 |0=>Pz xp
 |n+1=>mk xp (ub (mU n)) (ac Mc (ac (Fg n) an)) b9
theorem Tw:aI Pg 214 Uq:=(Fg fuel)
theorem W_:aI Pg 194 XD:=mk Mv mc (ac xF (ac Tz (ac Tw an))) b9
theorem NG:aI Pg 195 Oe:=mk C9 c6 an b9
theorem acp:aI Pg 192 adb:=mk V5 iV an b9
theorem Ed:aI Pg 191 EB:=mk wy dR an b9
theorem KV:aI Pg 167 Lk:=mk Az mb (ac uR (ac uQ (ac vo (ac Ed (ac acp (ac Mc (ac W_ (ac NG an)))))))) b9
theorem yL:∀ n:Nat,aI Pg 136 (KJ n)
 |0=>Pz rR
 |n+1=>mk rR (mg (iC n)) (ac (yL n) (ac KV an)) b9
theorem KW:aI Pg 136 Ll:=(yL fuel)
theorem Fi:∀ n:Nat,aI Pg 135 (Tg n)
 |0=>Pz xr
 |n+1=>mk xr (ud (mW n)) (ac (Fi n) an) b9
theorem TA:aI Pg 135 Ut:=(Fi fuel)
theorem Tx:aI Pg 133 Ur:=mk Jj rf (ac uQ an) b9
theorem NF:aI Pg 134 Od:=mk C8 nA (ac uR (ac uQ (ac vo an))) b9
theorem xa:aI Pg 96 Of:=mk C_ fd (ac Qf (ac Tx (ac NF (ac TA (ac KW an))))) b9
theorem Ff:∀ n:Nat,aI Pg 138 (Td n)
 |0=>Pz xo
 |n+1=>mk xo (xc (pm n)) (ac (Ff n) an) b9
theorem Tp:aI Pg 138 Uh:=(Ff fuel)
theorem Fb:aI Pg 137 Rj:=mk FJ j_ an b9
theorem Fd:aI Pg 196 Rl:=mk FL li an b9
theorem Tt:aI Pg 97 Ul:=mk Je tU (ac xa (ac Fb (ac Tp an))) b9
theorem Tq:aI Pg 91 Ui:=mk Jb pa an b9
theorem xE:aI Pg 61 Gs:=mk xO hP (ac Tq (ac sd (ac uR an))) b9
theorem t_:aI Pg 100 JG:=mk yW jD an b9
theorem Fc:aI Pg 157 Rk:=mk FK px an b9
theorem Tr:aI Pg 127 Uj:=mk Jc pd (ac Fc an) b9
theorem NC:aI Pg 128 ada:=mk V4 jh an b9
theorem Ts:aI Pg 156 Uk:=mk Jd mR (ac NC an) b9
theorem NA:aI Pg 126 Oa:=mk C5 lA (ac NC (ac Ts an)) b9
theorem Ec:aI Pg 94 EA:=mk ww ik (ac t_ (ac NA (ac Tr (ac NC an)))) b9
theorem BF:aI Pg 63 Um:=mk Jf jC (ac xE (ac Ec an)) b9
theorem nI:aI Pg 99 Ob:=mk C6 cB an b9
theorem xH:∀ n:Nat,aI Pg 172 (H_ n)
 |0=>Pz qy
 |n+1=>mk qy (qm (iH n)) (ac uR (ac nI (ac (xH n) (ac Fd an)))) b9
theorem t8:aI Pg 172 JE:=(xH fuel)
theorem Gi:aI Pg 168 Gr:=mk xN lQ (ac uR (ac nI (ac t8 (ac Fd an)))) b9
theorem KU:aI Pg 171 Lj:=mk Ay jq an b9
theorem jZ:∀ n:Nat,aI Pg 98 (Ia n)/\aI Pg 139 (KI n)/\aI Pg 169 (Ct n)/\aI Pg 170 (Ge n)
 |0=>⟨Pz qz,Pz vu,Pz qA,Pz sJ⟩
 |n+1=>⟨mk qz (qn (dI n) (eK n) (c_ n) (dE n)) (ac (jZ n).2.1 an) b9,mk vu (rP (dI n) (eK n) (c_ n) (dE n)) (ac uR (ac nI (ac Fb (ac Gi (ac (jZ n).2.2.1 (ac (jZ n).2.2.2 (ac KU (ac t8 an)))))))) b9,mk qA (ml (dI n) (eK n) (c_ n) (dE n)) (ac (jZ n).1 (ac nI (ac t8 an))) b9,mk sJ (oR (dI n) (eK n) (c_ n) (dE n)) (ac (jZ n).1 (ac nI an)) b9⟩
theorem Ip:aI Pg 98 JF:=(jZ fuel).1
theorem ND:aI Pg 66 Oc:=mk C7 qf (ac xa (ac Tt (ac Ip (ac nI (ac t_ an))))) b9
theorem Io:aI Pg 82 Z0:=mk QK qe an b9
theorem Zy:aI Pg 121 ZZ:=mk QJ vP an b9
theorem In:aI Pg 85 Ug:=mk Ja rc (ac Zy an) b9
theorem KQ:aI Pg 188 Li:=mk Ax ma an b9
theorem kV:aI Pg 161 XB:=mk Mt ch an b9
theorem W9:aI Pg 162 XA:=mk Ms vO (ac In (ac t_ (ac Tu (ac KQ (ac Qd an))))) b9
theorem jr:aI Pg 131 Ri:=mk FI mQ (ac Fc (ac kV (ac W9 an))) b9
theorem Im:aI Pg 53 Ue:=mk I9 qZ an b9
theorem Eb:aI Pg 79 Xy:=mk Mq q_ an b9
theorem VO:aI Pg 80 ad9:=mk V3 qd an b9
theorem To:aI Pg 81 Ud:=mk I8 tR (ac VO an) b9
theorem Cz:aI Pg 56 N':=mk C4 j9 (ac Eb (ac VO (ac To (ac Io an)))) b9
theorem Nz:aI Pg 83 N_:=mk C3 nz an b9
theorem Ny:aI Pg 86 N9:=mk C2 qc an b9
theorem kU:aI Pg 84 Xz:=mk Mr ij an b9
theorem KP:aI Pg 83 Lh:=mk mh l_ an b9
theorem Il:aI Pg 83 JD:= @aI.ro Pg 83 mh.pre mh.post.vs l_ jB (KP.holds rfl) rfl (λx _ h=>by rw[show jB x=obind (l_ x) λy=>same y.2 x.2 (af y.1) from rfl] at h;exact h)
theorem jG:aI Pg 59 Uf:=mk I_ o_ (ac Cz (ac Io (ac Il (ac kU (ac In (ac Ny an)))))) b9
theorem Tn:aI Pg 65 Uc:=mk I7 tQ (ac Im (ac BF an)) b9
theorem W6:aI Pg 158 Xw:=mk Mp vN (ac BF (ac Eb an)) b9
theorem W3:aI Pg 159 Xu:=mk Mn vL an b9
theorem PL:aI Pg 160 QX:=mk Fo rZ (ac Tv an) b9
theorem iB:aI Pg 129 N8:=mk C1 ny (ac W6 (ac W3 (ac PL an))) b9
theorem Ik:aI Pg 36 Ua:=mk I5 mD (ac Im an) b9
theorem W2:aI Pg 54 Xt:=mk Mm vK (ac Eb an) b9
theorem aco:aI Pg 55 ad8:=mk V2 Cn an b9
theorem Nx:aI Pg 57 N7:=mk CZ nu an b9
theorem Tj:aI Pg 58 T9:=mk I3 tO (ac Io (ac Nz an)) b9
theorem Ea:aI Pg 38 Xs:=mk Ml qY (ac W2 (ac aco (ac Cz (ac Nx (ac Tj (ac jG an)))))) b9
theorem Tk:aI Pg 62 T_:=mk I4 qX an b9
theorem Tl:aI Pg 40 Ub:=mk I6 tP (ac Ik (ac Ea (ac xE (ac Tk an)))) b9
def LN (t:TypeId):Option Ty:=if aC t 175 then af (.pr .un eP) else b9 t
theorem Qc:aI Pg 130 Rh:=mk FH mP (ac kU (ac kV an)) LN
theorem P0:aI Pg 95 Q7:=mk Fx fX (ac jG (ac iB (ac Qc (ac jr an)))) LN
theorem Qb:aI Pg 130 Rg:=mk FG mO (ac kU (ac kV an)) LN
theorem PZ:aI Pg 95 Q6:=mk Fw gx (ac jG (ac iB (ac Qb (ac jr an)))) LN
theorem Qa:aI Pg 130 Rf:=mk FF mN (ac kU (ac kV an)) LN
theorem PY:aI Pg 95 Q5:=mk Fv fV (ac jG (ac iB (ac Qa (ac jr an)))) LN
theorem P':aI Pg 130 Re:=mk FE mM (ac kU (ac kV an)) LN
theorem PW:aI Pg 95 Q4:=mk Fu jp (ac jG (ac iB (ac P' (ac jr an)))) LN
theorem P_:aI Pg 130 Rd:=mk FD mL (ac kU (ac kV an)) LN
theorem PU:aI Pg 95 Q3:=mk Ft iF (ac jG (ac iB (ac P_ (ac jr an)))) LN
theorem P9:aI Pg 130 Rc:=mk FC mK (ac kU (ac kV an)) LN
theorem PR:aI Pg 95 Q2:=mk Fs g_ (ac jG (ac iB (ac P9 (ac jr an)))) LN
theorem P5:aI Pg 130 Rb:=mk FB mJ (ac kU (ac kV an)) LN
theorem PQ:aI Pg 95 Q1:=mk dB mF (ac jG (ac iB (ac P5 (ac jr an)))) LN
theorem P4:aI Pg 130 Ra:=mk FA mI (ac kU (ac kV an)) LN
theorem PP:aI Pg 95 Q0:=mk Fr mE (ac jG (ac iB (ac P4 (ac jr an)))) LN
theorem P3:aI Pg 130 Q_:=mk Fz mH (ac kU (ac kV an)) LN
theorem PO:aI Pg 95 QZ:=mk Fq lh (ac jG (ac iB (ac P3 (ac jr an)))) LN
theorem P1:aI Pg 130 Q9:=mk Fy mG (ac kU (ac kV an)) LN
theorem PN:aI Pg 95 QY:=mk Fp j8 (ac jG (ac iB (ac P1 (ac jr an)))) LN
theorem W7:aI Pg 95 Xx:=(aI.orE (pre:=dB.pre) (post:=dB.post) (m:=mF) (m':=(λx=>orE (mE x) ((λx=>orE (lh x) ((λx=>orE (j8 x) ((λx=>orE (jp x) ((λx=>orE (iF x) ((λx=>orE (g_ x) ((λx=>orE (gx x) ((λx=>orE (fV x) (fX x)) x)) x)) x)) x)) x)) x)) x))) rfl PQ (aI.orE (pre:=dB.pre) (post:=dB.post) (m:=mE) (m':=(λx=>orE (lh x) ((λx=>orE (j8 x) ((λx=>orE (jp x) ((λx=>orE (iF x) ((λx=>orE (g_ x) ((λx=>orE (gx x) ((λx=>orE (fV x) (fX x)) x)) x)) x)) x)) x)) x))) rfl PP (aI.orE (pre:=dB.pre) (post:=dB.post) (m:=lh) (m':=(λx=>orE (j8 x) ((λx=>orE (jp x) ((λx=>orE (iF x) ((λx=>orE (g_ x) ((λx=>orE (gx x) ((λx=>orE (fV x) (fX x)) x)) x)) x)) x)) x))) rfl PO (aI.orE (pre:=dB.pre) (post:=dB.post) (m:=j8) (m':=(λx=>orE (jp x) ((λx=>orE (iF x) ((λx=>orE (g_ x) ((λx=>orE (gx x) ((λx=>orE (fV x) (fX x)) x)) x)) x)) x))) rfl PN (aI.orE (pre:=dB.pre) (post:=dB.post) (m:=jp) (m':=(λx=>orE (iF x) ((λx=>orE (g_ x) ((λx=>orE (gx x) ((λx=>orE (fV x) (fX x)) x)) x)) x))) rfl PW (aI.orE (pre:=dB.pre) (post:=dB.post) (m:=iF) (m':=(λx=>orE (g_ x) ((λx=>orE (gx x) ((λx=>orE (fV x) (fX x)) x)) x))) rfl PU (aI.orE (pre:=dB.pre) (post:=dB.post) (m:=g_) (m':=(λx=>orE (gx x) ((λx=>orE (fV x) (fX x)) x))) rfl PR (aI.orE (pre:=dB.pre) (post:=dB.post) (m:=gx) (m':=(λx=>orE (fV x) (fX x))) rfl PZ (aI.orE (pre:=dB.pre) (post:=dB.post) (m:=fV) (m':=fX) rfl PY P0)))))))))
theorem W5:aI Pg 64 Xv:=mk Mo vM (ac W7 an) b9
theorem Zx:aI Pg 41 ZY:=mk QI yA (ac BF (ac W5 (ac Tn an))) b9
theorem fy:aI Pg 37 Gy:=mk xT bx an b9
theorem Eg:aI Pg 104 XH:=mk Mw rj an b9
theorem Ix:aI Pg 175 UB:=mk Jn pg an b9
theorem CG:aI Pg 174 Oj:=mk Da nC an b9
theorem CH:aI Pg 103 Ol:=mk Db ji an b9
theorem Qh:aI Pg 101 Rx:=mk FW r8 an b9
theorem K5:aI Pg 43 Lv:=mk AJ oC an b9
theorem uS:∀ n:Nat,aI Pg 173 (D7 n)
 |0=>Pz nO
 |n+1=>mk nO (nK (im n)) (ac fy (ac Eg (ac (uS n) (ac CG (ac Ix an))))) b9
theorem Eh:aI Pg 173 EG:=(uS fuel)
theorem CF:aI Pg 176 Do:=mk uX eJ (ac uR an) b9
theorem jH:∀ n:Nat,aI Pg 102 (Cu n)/\aI Pg 140 (D6 n)/\aI Pg 177 (Cv n)
 |0=>⟨Pz mq,Pz rB,Pz qB⟩
 |n+1=>⟨mk mq (mn (dF n) (ep n) (dT n)) (ac (jH n).2.1 an) b9,mk rB (nJ (dF n) (ep n) (dT n)) (ac fy (ac (jH n).1 (ac CH (ac Eg (ac Eh (ac CG (ac Ix (ac CF (ac (jH n).2.2 an))))))))) b9,mk qB (mo (dF n) (ep n) (dT n)) (ac fy (ac (jH n).1 an)) b9⟩
theorem CE:aI Pg 102 Dn:=(jH fuel).1
theorem K4:aI Pg 67 Lu:=mk AH oB (ac fy (ac xa (ac Qh (ac CE (ac CH (ac Eg an)))))) b9
theorem TJ:aI Pg 42 UC:=mk Jo wY (ac ND (ac K4 an)) b9
theorem Qi:aI Pg 18 Ry:=mk FX r9 (ac Zx (ac TJ (ac K5 an))) b9
theorem Nu:aI Pg 35 N5:=mk CX nl an b9
theorem Ih:aI Pg 122 JA:=mk yV kQ an b9
theorem Ns:aI Pg 87 N2:=mk CV sY an b9
theorem KL:aI Pg 88 Ld:=mk Au ov (ac fy an) b9
theorem Nr:aI Pg 89 N0:=mk CU pZ (ac fy (ac Ih an)) b9
theorem PI:aI Pg 90 QV:=mk Fm gw (ac fy an) b9
theorem Nt:aI Pg 60 N3:=mk CW p_ (ac fy (ac Ns (ac KL (ac Nr (ac PI an))))) b9
def tv1 (t:TypeId):Option Ty:=if aC t 53 then af (.pr .un (.pr .un (.pr .un (.pr .un (.pr .un (.sl aN)))))) else b9 t
theorem PK:aI Pg 39 QW:=mk Fn rY (ac fy (ac Ea (ac Nt an))) tv1
theorem Nv:aI Pg 17 N6:=mk CY qb (ac Nu (ac Ik (ac fy (ac Ea (ac PK (ac Tl an)))))) b9
theorem D':aI Pg 7 Ez:=mk wv kR (ac Nv (ac Qi an)) b9
abbrev ahq:List PV:=[.row 1,.row 2,.row 3,.row 4,.row 5,.row 6,.d (.sl aN),.row 7,.row 8]
abbrev Ld0:List PB:=[.cells 107 ahq,.rows 53 aj (.sl aN),.rows 53 aj (.sl aN),.rows 53 aj (.sl aN),.rows 53 aj (.sl aN),.rows 53 aj (.sl aN),.rows 53 aj (.sl aN),.rows 53 aj (.sl aN),.rows 3 ai aN,.rows 3 aj aN]
abbrev Ld4:List PV:=[.d aN,.d aN,.d aN,.d aN,.d aN,.d (.sl aN),.d (.sl aN)]
abbrev Ld3:List PV:=[.d (.sl kx),.d (.sl qD),.d (.sl k_),.d (.sl .str),.d (.sl .str),.d (.sl oe)]
abbrev Ld1:List PB:=[.cells 59 Ld4,.cells 107 [.row 3,.row 4,.row 5,.row 6,.row 7,.row 8,.d (.sl aN),.row 9,.row 10],.cells 31 Ld3,.rows 53 aj (.sl aN),.rows 53 aj (.sl aN),.rows 53 aj (.sl aN),.rows 53 aj (.sl aN),.rows 53 aj (.sl aN),.rows 53 aj (.sl aN),.rows 53 aj (.sl aN),.rows 3 ai aN]
abbrev Ld2:List PB:=[.cells 107 ahq,.rows 53 aj (.sl aN),.rows 53 aj (.sl aN),.rows 53 aj (.sl aN),.rows 53 aj (.sl aN),.rows 53 aj (.sl aN),.rows 53 aj (.sl aN),.rows 53 aj (.sl aN),.rows 3 ai aN,.rows 3 aj aN,.cells 59 Ld4]
abbrev Ld5:List PB:=[.rows 153 aj dV,.rows 4 ai .bool,.rows 155 ai h_,.cells 84 GM]
abbrev Ld6:List PB:=[.rows 153 aj dV,.rows 4 ai .bool,.rows 155 ai h_]
abbrev Ws:List PB:=[.rows 3 ai aN]
abbrev Ld8:List PB:=[.cells 87 [.d iO],.cells 59 [.d iL],.cells 235 [.d Kd1]]
abbrev Ld9:List PB:=[.rows 3 ai aN,.cells 3 [.d aN]]
abbrev al4:List PB:=[.cells 31 [.d m7],.cells 84 [.row 4,.d aN,.row 5,.row 6],.cells 3 [.d aN],.cells 84 BS,.rows 153 aj dV,.rows 4 ai .bool,.rows 155 ai h_]
abbrev OH:List PB:=[.rows 3 aj aN]
abbrev al3:List PB:=[.cells 84 BS,.cells 84 [.row 2,.d aN,.row 3,.row 4],.rows 153 aj dV,.rows 4 aj .bool,.rows 155 aj h_]
abbrev ae3:List PB:=[.cells 34 [.d od],.rows 47 ai iE]
abbrev RW:List PV:=[.row 0,.d aN]
abbrev aaq:List PB:=[.rows 53 aj (.sl aN)]
abbrev ahp:List PB:=[.rows 53 aj (.sl aN),.rows 3 aj aN]
abbrev X':List PB:=[.cells 59 [.d iL]]
abbrev aho:List PV:=[.ptr 0 0,.ptr 1 0,.ptr 2 0]
def MB:FT:=⟨⟨LC,[]⟩,⟨[.d aN],[]⟩,dP [(3,(.j ⟨[0,1],[12],⟨[.d .bool],[]⟩,[]⟩))]⟩
def XO:ct:=cn MB jt
def FZ:FT:=⟨⟨[.d (.sl aN),.d (.sl aN)],[]⟩,⟨qQ,[]⟩,dP [(8,(.j ⟨[0,1,14],[5,15],⟨RW,OH⟩,[]⟩))]⟩
def RC:ct:=cn FZ ll
def V8:FT:=⟨⟨qQ,[]⟩,⟨qQ,[]⟩,.leaf⟩
def Dq:ct:=cn V8 Nl
def agv:ct:=⟨Dq.pre,Dq.post,Bw⟩
def Js:FT:=⟨⟨[.d vz],[]⟩,⟨[.row 0],aaq⟩,dP [(8,(.j ⟨[9,10],[3,11],⟨RW,aaq⟩,[]⟩))]⟩
def UH:ct:=cn Js il
def QR:FT:=⟨⟨qQ,[]⟩,⟨[.row 0],Ws⟩,dP [(8,(.a [.nil 2 3 aN])),(12,(.a [.nil 2 3 aN]))]⟩
def zl:ct:=cn QR H5
def adn:ct:=⟨zl.pre,zl.post,oP⟩
def Jt:FT:=⟨⟨[.d Kd0],[]⟩,⟨[.agg [.row 0,.row 1,.row 2,.row 3,.row 4,.row 5,.d (.sl aN),.row 6,.row 7]],[.rows 53 aj (.sl aN),.rows 53 aj (.sl aN),.rows 53 aj (.sl aN),.rows 53 aj (.sl aN),.rows 53 aj (.sl aN),.rows 53 aj (.sl aN),.rows 53 aj (.sl aN),.rows 3 ai aN]⟩,.leaf⟩
def UI:ct:=cn Jt tX
def Mx:FT:=⟨⟨RW,aaq⟩,⟨qQ,aaq⟩,dP [(3,(.j ⟨[1],[0,12],⟨[.row 0,.d .bool],aaq⟩,[]⟩))]⟩
def XI:ct:=cn Mx tC
def Jv:FT:=⟨⟨aho,Ld1⟩,⟨[.d vz],Ld1⟩,dP [(18,(.j ⟨[6],[0,1,2,25],⟨Dx,Ld1⟩,[]⟩))]⟩
def UK:ct:=cn Jv tZ
def Mz:FT:=⟨⟨[.d m7],[]⟩,⟨[.d Kd0],[]⟩,dP [(8,(.j ⟨[40],[2,3,41],⟨uC,[.cells 107 [.nil,.nil,.nil,.nil,.nil,.nil,.nil,.nil,.nil],.cells 107 [.row 2,.row 3,.row 4,.row 5,.row 6,.row 7,.nil,.row 8,.row 9],.rows 53 aj (.sl aN),.rows 53 aj (.sl aN),.rows 53 aj (.sl aN),.rows 53 aj (.sl aN),.rows 53 aj (.sl aN),.rows 53 aj (.sl aN),.rows 53 aj (.sl aN),.rows 3 aj aN]⟩,[]⟩))]⟩
def XK:ct:=cn Mz pB
def FY:FT:=⟨⟨LC,[]⟩,⟨[.row 0],OH⟩,dP [(4,(.j ⟨[0,1,5],[6],⟨[.d .bool],[]⟩,[]⟩)),(6,(.j ⟨[0,1,6],[5],⟨[.d aN],[]⟩,[]⟩)),(16,(.j ⟨[],[7],⟨[.row 0],OH⟩,[]⟩)),(17,(.j ⟨[1],[7,33],⟨[.row 0,.d .bool],OH⟩,[]⟩))]⟩
def RB:ct:=cn FY sa
def wA:FT:=⟨⟨[.row 0],OH⟩,⟨qQ,OH⟩,.leaf⟩
def aa0:ct:=cn wA vV
def adm:ct:=⟨wA.pre,⟨wA.post.vs,[]⟩,uM⟩
def zW:FT:=⟨⟨[.d (.sl aN),.row 0],OH⟩,⟨qQ,OH⟩,dP [(8,(.j ⟨[0,14],[1,5,15],⟨[.row 0,.row 1,.d aN],[.rows 3 aj aN,.rows 3 aj aN]⟩,[]⟩))]⟩
def adk:ct:=cn zW s6
def agu:ct:=⟨zW.pre,⟨zW.post.vs,[]⟩,Bv⟩
def Jq:FT:=⟨⟨[.row 0,.d aN,.row 1],ahp⟩,⟨[],ahp⟩,dP [(0,(.j ⟨[1],[0,2,13],⟨[.row 0,.row 1,.d .bool],ahp⟩,[]⟩))]⟩
def UF:ct:=cn Jq lB
def QL:FT:=⟨⟨[.ptr 0 0,.d aN,.row 9],Ld0⟩,⟨[],Ld0⟩,.leaf⟩
def Z7:ct:=cn QL vQ
def My:FT:=⟨⟨[.d m7,.ptr 0 0,.d iL,.row 9],Ld0⟩,⟨[],Ld0⟩,dP [(6,(.j ⟨[],[],⟨[],Ld0⟩,[]⟩)),(11,(.j ⟨[20],[1,3,4,6,32],⟨[.ptr 0 0,.row 9,.ptr 10 0,.ptr 11 0,.d .bool],[.cells 107 ahq,.rows 53 aj (.sl aN),.rows 53 aj (.sl aN),.rows 53 aj (.sl aN),.rows 53 aj (.sl aN),.rows 53 aj (.sl aN),.rows 53 aj (.sl aN),.rows 53 aj (.sl aN),.rows 3 ai aN,.rows 3 aj aN,.cells 31 Ld3,.cells 59 Ld4]⟩,[]⟩)),(48,(.j ⟨[],[1,3,6,129],⟨[.ptr 0 0,.row 9,.ptr 10 0,.d .bool],Ld2⟩,[]⟩)),(59,(.j ⟨[141],[1,3,6,140,142],⟨[.ptr 0 0,.row 9,.ptr 10 0,.row 8,.d aN],Ld2⟩,[]⟩)),(67,(.j ⟨[141,142],[1,3,6,140],⟨[.ptr 0 0,.row 9,.ptr 10 0,.row 8],Ld2⟩,[]⟩))]⟩
def XJ:ct:=cn My rk
def QM:FT:=⟨⟨[.d m7,.d Kd0,.d iL],[]⟩,⟨[.d Kd0,.row 0],OH⟩,dP [(14,(.j ⟨[22,23],[3,5,6,7,24],⟨[.ptr 0 0,.ptr 1 0,.ptr 2 0,.ptr 3 0,.d aN],[.cells 31 Ld3,.cells 59 Ld4,.cells 107 [.row 4,.row 5,.row 6,.row 7,.row 8,.row 9,.d (.sl aN),.row 10,.row 11],.cells 53 qQ,.rows 53 aj (.sl aN),.rows 53 aj (.sl aN),.rows 53 aj (.sl aN),.rows 53 aj (.sl aN),.rows 53 aj (.sl aN),.rows 53 aj (.sl aN),.rows 53 aj (.sl aN),.rows 3 ai aN]⟩,[]⟩))]⟩
def Z8:ct:=cn QM r_
def I2:FT:=⟨⟨[.d m7,.d aN],[]⟩,⟨[.d aN],[]⟩,dP [(3,(.j ⟨[1],[2,13],⟨gZ,[.cells 31 Ld3]⟩,[]⟩))]⟩
def T8:ct:=cn I2 qW
def Aw:FT:=⟨⟨[.d m7,.d iL],[]⟩,⟨[.d aN,.d .bool],[]⟩,dP [(6,(.j ⟨[7],[2,3,8],⟨po,[.cells 31 Ld3,.cells 59 Ld4]⟩,[]⟩))]⟩
def Lg:ct:=cn Aw oy
def Av:FT:=⟨⟨[.d m7,.d iL],[]⟩,⟨[.d aN,.d .bool],[]⟩,dP [(6,(.j ⟨[7],[2,3,8],⟨po,[.cells 31 Ld3,.cells 59 Ld4]⟩,[]⟩))]⟩
def Lf:ct:=cn Av ox
def wu:FT:=⟨⟨[.d .str],[]⟩,⟨[.d .bool],[]⟩,dP [(6,(.j ⟨[0,5],[6],⟨[.d aN],[]⟩,[]⟩))]⟩
def Ey:ct:=cn wu kP
def At:FT:=⟨⟨[.d .str],[]⟩,⟨[.d .bool],[]⟩,dP [(3,(.j ⟨[0],[16],⟨[.d .bool],[]⟩,[]⟩)),(14,(.j ⟨[],[18],⟨[.ptr 0 0],[.mp k_ .un]⟩,[]⟩)),(24,(.j ⟨[],[18],⟨[.ptr 0 0],[.mp k_ .un]⟩,[]⟩)),(25,(.j ⟨[3,4],[18,23],⟨gZ,[.mp k_ .un]⟩,[]⟩)),(29,(.j ⟨[],[18,38],⟨gZ,[.mp k_ .un]⟩,[]⟩))]⟩
def Lc:ct:=cn At ou
def Jx:FT:=⟨⟨LC,[]⟩,⟨[.d aN],[]⟩,dP [(6,(.j ⟨[0,1,7],[8],⟨[.d aN],[]⟩,[]⟩))]⟩
def UP:ct:=cn Jx rm
def AQ:FT:=⟨⟨LC,[]⟩,⟨[.d .bool],[]⟩,.leaf⟩
def LA:ct:=cn AQ kn
def AO:FT:=⟨⟨[.d (.sl aN),.d iE],[]⟩,⟨[.d .bool],[]⟩,.leaf⟩
def Lz:ct:=cn AO oE
def Ju:FT:=⟨⟨[.d iL],[]⟩,⟨[.d .bool],[]⟩,dP [(2,(.j ⟨[],[2],⟨[.d .bool],[]⟩,[]⟩))]⟩
def UJ:ct:=cn Ju tY
def De:FT:=⟨⟨[.d od,.d aN,.d aN],[]⟩,⟨[.d .bool],[]⟩,dP [(5,(.j ⟨[],[3,7,8,30],⟨Dx,[.cells 34 [.d od],.cells 59 [.d iL],.cells 59 [.d iL]]⟩,[]⟩)),(13,(.j ⟨[],[7,8,48],⟨po,[.cells 59 [.d iL],.cells 59 [.d iL]]⟩,[]⟩)),(20,(.j ⟨[],[6],⟨[.d .bool],[]⟩,[]⟩))]⟩
def Oo:ct:=cn De qh
def Jr:FT:=⟨⟨[.d (.sl iL)],[]⟩,⟨[.d (.sl iE)],[]⟩,dP [(10,(.j ⟨[11,12],[3,4,13],⟨[.mp 0,.row 1,.d aN],[.mp aN aN,.rows 55 aj iE]⟩,[.mpt 3 aN aN]⟩))]⟩
def UG:ct:=cn Jr pi
def xU:FT:=⟨⟨vx,[]⟩,⟨[.d .bool],[]⟩,dP [(2,(.j ⟨[],[4],⟨[.d .bool],[]⟩,[]⟩))]⟩
def GA:ct:=cn xU sC
def xV:FT:=⟨⟨[.d m7,.d aN,.d .bool],[]⟩,⟨[.d .bool],[]⟩,dP [(2,(.j ⟨[],[6],⟨[.d .bool],[]⟩,[]⟩))]⟩
def GD:ct:=cn xV sD
def sT:FT:=⟨⟨[.d (.sl kx)],[]⟩,⟨[.d (.sl .str),.d .bool],[]⟩,dP [(8,(.j ⟨[0],[4,5],⟨RW,[.rows 9 ai .str]⟩,[.nil 4 9 .str]⟩)),(15,(.j ⟨[0],[4,5],⟨RW,[.rows 9 ai .str]⟩,[]⟩)),(37,(.j ⟨[0,5],[4,6,49],⟨[.row 0,.ptr 1 0,.d .bool],[.rows 9 ai .str,.cells 114 [.d kx]]⟩,[]⟩)),(48,(.j ⟨[0,5,51],[4,6,52],⟨[.row 0,.ptr 1 0,.d aN],[.rows 9 ai .str,.cells 114 [.d kx]]⟩,[]⟩))]⟩
def Am:ct:=cn sT gX
def sS:FT:=⟨⟨[.d m7,.d (.sl .str)],[]⟩,⟨[.d .bool],[]⟩,dP [(10,(.j ⟨[17,18],[2,5,19],⟨OJ,Yc⟩,[]⟩)),(27,(.j ⟨[30,31],[2,5,32],⟨OJ,Yc⟩,[]⟩)),(50,(.j ⟨[52],[10,51,53],⟨[.mp 0,.row 1,.d aN],[.mp .str .bool,.rows 9 ai .str]⟩,[.mpt 10 .str .bool]⟩)),(62,(.j ⟨[12,52,53],[10,51,64],⟨[.mp 0,.row 1,.d .bool],[.mp .str .bool,.rows 9 ai .str]⟩,[.mpt 10 .str .bool]⟩))]⟩
def Al:ct:=cn sS dK
def sR:FT:=⟨⟨[.d m7],[]⟩,⟨[.d .bool],[]⟩,dP [(8,(.j ⟨[8,9],[1,3,4,10],⟨[.ptr 0 0,.d aN,.d aN,.d aN],pK⟩,[]⟩)),(20,(.j ⟨[3,4,8,9,10],[1,6,25],⟨po,[.cells 31 [.d m7],.cells 120 [.d oe]]⟩,[]⟩)),(27,(.j ⟨[8,9,10],[1,3,4,6],⟨[.ptr 0 0,.d aN,.d aN,.ptr 1 0],[.cells 31 [.d m7],.cells 120 [.d oe]]⟩,[]⟩))]⟩
def Ak:ct:=cn sR fQ
def sU:FT:=⟨⟨[.d m7],[]⟩,⟨[.d .bool],[]⟩,dP [(3,(.j ⟨[],[1,34],⟨gZ,pK⟩,[]⟩)),(11,(.j ⟨[],[1,44],⟨gZ,pK⟩,[]⟩)),(21,(.j ⟨[],[1,58],⟨gZ,pK⟩,[]⟩)),(32,(.j ⟨[60,61],[1,62],⟨uB,pK⟩,[]⟩))]⟩
def An:ct:=cn sU dL
def AG:FT:=⟨⟨[.d m7],[]⟩,⟨[.d GP],[]⟩,dP [(8,(.j ⟨[20],[2,3,21],⟨uC,al3⟩,[]⟩)),(21,(.j ⟨[],[2,3],⟨[.ptr 0 0,.ptr 1 0],al3⟩,[]⟩))]⟩
def Ls:ct:=cn AG oA
def uV:FT:=⟨⟨[.d m7],[]⟩,⟨[.d iO],[]⟩,dP [(8,(.j ⟨[22,23],[2,3,24],⟨uC,[.cells 87 vy,.cells 87 [.d (.sl dV),.d aN,.d pM,.d (.sl h_),.row 2,.row 3,.row 4],.rows 2 aj aN,.rows 2 aj aN,.rows 3 aj aN]⟩,[]⟩))]⟩
def Di:ct:=cn uV dg
def sq:FT:=⟨⟨[.d pM,.d iL],[]⟩,⟨[.d .bool],[]⟩,dP [(6,(.j ⟨[0,13],[14],⟨[.d aN],[]⟩,[]⟩)),(20,(.j ⟨[0,13,14,17,18],[19],⟨[.d aN],[]⟩,[]⟩)),(31,(.j ⟨[0,13,14,17,18,19],[37],⟨[.d .bool],[]⟩,[]⟩))]⟩
def zg:ct:=cn sq cg
def yY:FT:=⟨⟨vx,[]⟩,⟨[.d .bool],[]⟩,dP [(2,(.j ⟨[],[4],⟨[.d .bool],[]⟩,[]⟩))]⟩
def JI:ct:=cn yY eU
def xQ:FT:=⟨⟨[.d m7,.d aN,.d aN],[]⟩,⟨[.d .bool],[]⟩,dP [(6,(.j ⟨[2,7],[3,8],⟨gZ,pK⟩,[]⟩)),(36,(.j ⟨[2,7],[3,18],⟨gZ,pK⟩,[]⟩)),(46,(.j ⟨[2,7],[3,26],⟨gZ,pK⟩,[]⟩)),(53,(.j ⟨[],[6],⟨[.d .bool],[]⟩,[]⟩)),(56,(.j ⟨[2,7],[3,43],⟨gZ,pK⟩,[]⟩)),(71,(.j ⟨[],[6],⟨[.d .bool],[]⟩,[]⟩)),(74,(.j ⟨[2,7],[3,61],⟨gZ,pK⟩,[]⟩)),(92,(.j ⟨[2,7],[3,71],⟨gZ,pK⟩,[]⟩)),(102,(.j ⟨[2],[3,79],⟨gZ,pK⟩,[]⟩))]⟩
def Gv:ct:=cn xQ lU
def C':FT:=⟨⟨[.d m7,.d GP],[]⟩,⟨[.d .bool],[]⟩,dP [(3,(.j ⟨[],[2,31],⟨gZ,pK⟩,[]⟩)),(14,(.j ⟨[33,34],[2,35],⟨uB,pK⟩,[]⟩))]⟩
def Og:ct:=cn C' kc
def AE:FT:=⟨⟨[.d m7,.d GP,.d aN,.d aN,.d aN],[]⟩,⟨[.d .bool],[]⟩,dP [(15,(.j ⟨[],[10],⟨[.d .bool],[]⟩,[]⟩)),(21,(.j ⟨[],[10],⟨[.d .bool],[]⟩,[]⟩)),(24,(.j ⟨[2,4,11],[5,6,60],⟨po,U6⟩,[]⟩)),(64,(.j ⟨[2,4,11],[5,6,109],⟨po,U6⟩,[]⟩)),(81,(.j ⟨[],[10],⟨[.d .bool],[]⟩,[]⟩)),(87,(.j ⟨[],[10],⟨[.d .bool],[]⟩,[]⟩))]⟩
def Lq:ct:=cn AE oz
def xR:FT:=⟨⟨[.d m7,.d GP,.d aN,.d aN,.d aN],[]⟩,⟨[.d .bool],[]⟩,dP [(3,(.j ⟨[2,3,4],[5,6,30],⟨po,U6⟩,[]⟩)),(25,(.j ⟨[],[10],⟨[.d .bool],[]⟩,[]⟩)),(29,(.j ⟨[],[10],⟨[.d .bool],[]⟩,[]⟩))]⟩
def Gw:ct:=cn xR i_
def wn:FT:=⟨⟨[.d m7,.d iO],[]⟩,⟨[.d .bool],[]⟩,dP [(2,(.j ⟨[],[4],⟨[.d .bool],[]⟩,[]⟩))]⟩
def Ev:ct:=cn wn kO
def uj:FT:=⟨⟨[.d m7,.d iL],[]⟩,⟨[.d .bool],[]⟩,dP [(3,(.j ⟨[],[2,3,12],⟨po,[.cells 31 [.d m7],.cells 59 [.d iL]]⟩,[]⟩)),(10,(.j ⟨[],[4],⟨[.d .bool],[]⟩,[]⟩))]⟩
def BJ:ct:=cn uj jA
def qx:FT:=⟨⟨[.d m7,.d iO,.d iL],[]⟩,⟨[.d .bool],[]⟩,dP [(2,(.j ⟨[],[4,5,7],⟨po,[.cells 87 [.d iO],.cells 59 [.d iL]]⟩,[]⟩)),(4,(.j ⟨[],[4,5,8],⟨aho,Ld8⟩,[]⟩)),(10,(.j ⟨[51],[4,5,8,52],⟨ES,Ld8⟩,[]⟩)),(22,(.j ⟨[10,51,52],[4,5,8,64],⟨Dx,Ld8⟩,[]⟩)),(34,(.j ⟨[51,52,65,66],[4,5,8,11,67],⟨[.ptr 0 0,.ptr 1 0,.ptr 2 0,.d aN,.d aN],Ld8⟩,[]⟩)),(46,(.j ⟨[13,51,52,65,66,67],[4,5,8,83],⟨Dx,Ld8⟩,[]⟩))]⟩
def xv:ct:=cn qx eQ
def ui:FT:=⟨⟨[.d iO,.d iL],[]⟩,⟨[.d .bool],[]⟩,dP [(21,(.j ⟨[],[4],⟨[.d .bool],[]⟩,[]⟩)),(24,(.j ⟨[13],[2,3,46],⟨po,[.cells 87 [.d iO],.cells 59 [.d iL]]⟩,[]⟩)),(43,(.j ⟨[53,54],[3,5,6,55],⟨[.ptr 0 0,.d aN,.d .bool,.d aN],X'⟩,[]⟩)),(51,(.j ⟨[53,54,55],[3,5,6],⟨[.ptr 0 0,.d aN,.d .bool],X'⟩,[]⟩)),(54,(.j ⟨[5,6,7,53,54,55],[3,69],⟨gZ,X'⟩,[]⟩)),(62,(.j ⟨[],[4],⟨[.d .bool],[]⟩,[]⟩)),(74,(.j ⟨[94,95],[3,9,96],⟨R1,X'⟩,[]⟩)),(82,(.j ⟨[94,95,96],[3,9],⟨uB,X'⟩,[]⟩)),(85,(.j ⟨[9,94,95,96],[3,109],⟨gZ,X'⟩,[]⟩))]⟩
def BI:ct:=cn ui gp
def AD:FT:=⟨⟨[.d h_,.d aN],[]⟩,⟨[.d .bool],[]⟩,dP [(2,(.j ⟨[],[4],⟨[.d .bool],[]⟩,[]⟩))]⟩
def Lp:ct:=cn AD me
def QU:FT:=⟨⟨[.d pM],[]⟩,⟨[.d pM],[]⟩,.leaf⟩
def zm:ct:=cn QU H7
def ado:ct:=⟨zm.pre,zm.post,Nk⟩
def MG:FT:=⟨⟨[.d pM],[]⟩,⟨[.row 0],[.rows 4 ai .bool]⟩,dP [(8,(.a [.nil 2 4 .bool])),(12,(.a [.nil 2 4 .bool]))]⟩
def wF:ct:=cn MG D3
def aa2:ct:=⟨wF.pre,wF.post,H6⟩
def QQ:FT:=⟨⟨[.d (.sl h_)],[]⟩,⟨[.d (.sl h_)],[]⟩,.leaf⟩
def zk:ct:=cn QQ H4
def adl:ct:=⟨zk.pre,zk.post,Nj⟩
def MD:FT:=⟨⟨[.d (.sl h_)],[]⟩,⟨[.row 0],[.rows 155 ai h_]⟩,dP [(8,(.a [.nil 2 155 h_])),(12,(.a [.nil 2 155 h_]))]⟩
def wD:ct:=cn MD DZ
def Z':ct:=⟨wD.pre,wD.post,H3⟩
def MF:FT:=⟨⟨qQ,[]⟩,⟨[.row 0],[.rows 2 ai aN]⟩,dP [(8,(.a [.nil 2 2 aN])),(12,(.a [.nil 2 2 aN]))]⟩
def wE:ct:=cn MF D2
def aa1:ct:=⟨wE.pre,wE.post,yD⟩
def AF:FT:=⟨⟨[.d GP],[]⟩,⟨[.agg GM],Ld6⟩,dP [(8,(.j ⟨[11,12],[1,2,3,13],⟨[.ptr 0 0,.ptr 1 0,.row 2,.d aN],[.cells 84 [.d GP],.cells 84 BS,.rows 153 aj dV]⟩,[]⟩))]⟩
def Lr:ct:=cn AF km
def yZ:FT:=⟨⟨[.agg GM,.d aN,.d aN],Ld6⟩,⟨[.d aN],Ld6⟩,dP [(8,(.j ⟨[1,2,12],[3,7,11,13],⟨[.ptr 3 0,.d aN,.row 2,.d aN],Ld5⟩,[]⟩)),(16,(.j ⟨[1,2,12,13],[3,7,11],⟨[.ptr 3 0,.d aN,.row 2],Ld5⟩,[]⟩)),(19,(.j ⟨[1,2,7,8,12,13],[3,11,29],⟨[.ptr 3 0,.row 2,.d .bool],Ld5⟩,[]⟩)),(25,(.j ⟨[7],[],⟨[],Ld6⟩,[]⟩))]⟩
def JJ:ct:=cn yZ jF
def uW:FT:=⟨⟨[.agg GM,.d aN],Ld6⟩,⟨[.d aN],Ld6⟩,dP [(8,(.j ⟨[1,10],[2,5,9,11],⟨[.ptr 3 0,.d aN,.row 2,.d aN],Ld5⟩,[]⟩)),(16,(.j ⟨[1,10,11],[2,5,9],⟨[.ptr 3 0,.d aN,.row 2],Ld5⟩,[]⟩))]⟩
def Dl:ct:=cn uW gQ
def ze:FT:=⟨⟨[.d aN],[]⟩,⟨[.d .bool],[]⟩,.leaf⟩
def JR:ct:=cn ze qi
def AM:FT:=⟨⟨vx,[]⟩,⟨[.d .bool],[]⟩,dP [(2,(.j ⟨[],[4],⟨[.d .bool],[]⟩,[]⟩))]⟩
def Ly:ct:=cn AM vn
def wz:FT:=⟨⟨[.d (.int .u64)],[]⟩,⟨[.d aN],[]⟩,.leaf⟩
def EE:ct:=cn wz ri
def zd:FT:=⟨⟨[.d (.int .u64)],[]⟩,⟨[.d aN],[]⟩,.leaf⟩
def JN:ct:=cn zd tW
def nS:FT:=⟨⟨[.row 0,.d aN,.d aN],Ws⟩,⟨[],Ws⟩,dP [(3,(.j ⟨[1,2],[0,6],⟨RW,Ws⟩,[]⟩)),(15,(.j ⟨[1,2,6],[0,7],⟨RW,Ws⟩,[]⟩)),(17,(.j ⟨[1,2,6,7],[0,30],⟨[.row 0,.d .bool],Ws⟩,[]⟩))]⟩
def uy:ct:=cn nS fK
def sQ:FT:=⟨⟨[.row 0,.d aN,.d aN,.d aN],Ws⟩,⟨[],Ws⟩,dP [(5,(.j ⟨[],[0,1,2,3,8,9],⟨[.row 0,.d aN,.d aN,.d aN,.d .bool,.d .bool],Ws⟩,[]⟩))]⟩
def Aj:ct:=cn sQ jd
def MC:FT:=⟨⟨[.row 0],Ws⟩,⟨[],Ws⟩,.leaf⟩
def XP:ct:=cn MC vU
def Dh:FT:=⟨⟨[.row 0],Ws⟩,⟨[.row 0],Ws⟩,dP [(14,(.j ⟨[],[0,3],⟨RW,Ws⟩,[]⟩))]⟩
def Ov:ct:=cn Dh lD
def xS:FT:=⟨⟨[.d aN,.ptr 0 0],[.cells 3 [.d aN]]⟩,⟨[.d .bool],[.cells 3 [.d aN]]⟩,.leaf⟩
def Gx:ct:=cn xS oO
def zf:FT:=⟨⟨[.row 0,.clo 151 1 0],Ld9⟩,⟨[.d aN],Ld9⟩,dP [(6,(.j ⟨[7],[0,1,8],⟨[.row 0,.clo 151 1 0,.d aN],Ld9⟩,[]⟩))]⟩
def JS:ct:=cn zf mT
def xW:FT:=⟨⟨[.row 0,.clo 151 1 0],Ld9⟩,⟨[.row 2],[.gone,.cells 3 [.d aN],.rows 3 aj aN]⟩,dP [(16,(.j ⟨[],[0,1,5,6],⟨[.row 0,.clo 151 1 0,.d aN,.d aN],Ld9⟩,[]⟩)),(24,(.j ⟨[6],[0,1,5],⟨[.row 0,.clo 151 1 0,.d aN],Ld9⟩,[]⟩))]⟩
def GF:ct:=cn xW ja
def mY:FT:=⟨⟨[.d m7,.d GP,.d aN,.d aN,.d aN,.d aN],[]⟩,⟨[.d GP,.d aN,.d .bool],[]⟩,dP [(17,(.j ⟨[],[7,12,15],⟨uC,[.cells 84 [.row 2,.d aN,.row 3,.row 4],.cells 84 BS,.rows 153 aj dV,.rows 4 ai .bool,.rows 155 ai h_]⟩,[]⟩)),(26,(.j ⟨[4,5,15,27],[6,7,8,12,42],⟨zu,al4⟩,[]⟩)),(34,(.j ⟨[4,5,15,27],[6,7,8,12,51],⟨zu,al4⟩,[]⟩))]⟩
def JM:ct:=cn mY gR
def y_:FT:=⟨⟨[.d GP],[]⟩,⟨[.agg [.csl 0 2 3,.d aN,.d pM,.d (.sl h_)]],[.cells 153 [.d aN,.row 1,.d aN,.row 2,.d aN,.row 3],.rows 3 ai aN,.rows 3 ai aN,.rows 3 ai aN]⟩,dP [(7,(.j ⟨[],[1,2,3],⟨[.ptr 0 0,.ptr 1 0,.csl 2 2 3],[.cells 84 [.d GP],.cells 84 BS,.cells 153 [.d aN,.row 3,.d aN,.row 4,.d aN,.row 5],.rows 3 ai aN,.rows 3 ai aN,.rows 3 ai aN]⟩,[.cel 3 1 3 aN,.cel 3 3 3 aN,.cel 3 5 3 aN]⟩)),(8,(.u 4))]⟩
def JK:ct:=cn y_ mS
def za:FT:=⟨⟨[.d m7,.d GP,.d aN,.d aN,.d aN,.d aN],[]⟩,⟨[.d GP,.d aN,.d .bool],[]⟩,dP [(17,(.j ⟨[],[7,12,15],⟨uC,[.cells 84 [.csl 2 2 3,.d aN,.d pM,.d (.sl h_)],.cells 84 BS,.cells 153 [.d dV,.d dV,.d aN,.row 3],.rowsP 3 aN]⟩,[]⟩)),(26,(.j ⟨[4,5,15,27],[6,7,8,12,42],⟨zu,[.cells 31 [.d m7],.cells 84 [.csl 4 2 3,.d aN,.d pM,.d (.sl h_)],.cells 3 [.d aN],.cells 84 BS,.cells 153 [.d aN,.row 5,.d aN,.row 6,.d aN,.row 7],.rows 3 ai aN,.rows 3 ai aN,.rows 3 ai aN]⟩,[]⟩)),(33,(.s 4 0 0 0)),(34,(.j ⟨[4,5,15,27],[6,7,8,12,51],⟨zu,[.cells 31 [.d m7],.cells 84 [.csl 4 2 3,.d aN,.d pM,.d (.sl h_)],.cells 3 [.d aN],.cells 84 BS,.cells 153 [.d aN,.d (.sl aN),.d aN,.d (.sl aN),.d aN,.row 5],.rows 3 ai aN]⟩,[]⟩)),(41,(.s 4 0 0 0)),(46,(.s 4 0 0 3)),(53,(.s 4 0 0 3)),(74,(.s 4 0 0 0)),(80,(.s 4 0 0 0)),(100,(.a [.pk 7 0 dV]))]⟩
def JL:ct:=cn za kS
def Lt:ct:=cn mY rL
def wq:FT:=⟨⟨[.d m7,.d iO,.d iL],[]⟩,⟨[.d iO,.d .bool],[]⟩,dP [(3,(.j ⟨[],[3,4,5,6,39],⟨zu,Kf⟩,[]⟩)),(11,(.j ⟨[],[3,4,5,6,70],⟨zu,Kf⟩,[]⟩)),(20,(.j ⟨[],[3,4,5,6,8],⟨[.ptr 0 0,.ptr 1 0,.ptr 2 0,.ptr 3 0,.d aN],Kf⟩,[]⟩)),(41,(.j ⟨[],[5,6,12],⟨aho,ahs⟩,[]⟩))]⟩
def Ew:ct:=cn wq fG
def um:FT:=⟨⟨[.d od],[]⟩,⟨vx,[]⟩,dP [(26,(.j ⟨[27,28],[1,4,5,29],⟨[.ptr 0 0,.ptr 1 0,.csl 2 1 1,.d aN],[.cells 34 [.d od],.cells 87 [.d iO],.cells 81 [.row 3],.rows 4 ai .bool]⟩,[.cel 5 0 4 .bool]⟩)),(40,(.j ⟨[6,27,28,29],[1,4,5,7,8,53],⟨[.ptr 0 0,.ptr 1 0,.csl 2 1 1,.ptr 3 0,.ptr 4 0,.d .bool],[.cells 34 [.d od],.cells 87 [.d iO],.cells 81 [.row 5],.cells 59 [.d iL],.cells 87 [.d iO],.rows 4 ai .bool]⟩,[]⟩)),(41,(.s 7 0 0 1)),(47,(.j ⟨[27,28,29],[1,4,5,8],⟨[.ptr 0 0,.ptr 1 0,.csl 2 1 1,.ptr 3 0],[.cells 34 [.d od],.cells 87 [.d iO],.cells 81 [.row 4],.cells 87 [.d iO],.rows 4 ai .bool]⟩,[]⟩)),(48,(.s 7 0 0 1))]⟩
def BO:ct:=cn um ec
def ul:FT:=⟨⟨[.d od],[]⟩,⟨vx,[]⟩,dP [(26,(.j ⟨[27,28],[1,4,5,29],⟨[.ptr 0 0,.ptr 1 0,.csl 2 1 2,.d aN],[.cells 34 [.d od],.cells 87 [.d iO],.cells 81 [.row 3,.row 4],.rows 4 ai .bool,.rows 4 ai .bool]⟩,[.cel 5 0 4 .bool,.cel 5 1 4 .bool]⟩)),(40,(.j ⟨[6,27,28,29],[1,4,5,7,8,53],⟨[.ptr 0 0,.ptr 1 0,.csl 2 1 2,.ptr 3 0,.ptr 4 0,.d .bool],[.cells 34 [.d od],.cells 87 [.d iO],.cells 81 [.row 5,.row 6],.cells 59 [.d iL],.cells 87 [.d iO],.rows 4 ai .bool,.rows 4 ai .bool]⟩,[]⟩)),(41,(.s 7 0 0 2)),(47,(.j ⟨[27,28,29],[1,4,5,8],⟨[.ptr 0 0,.ptr 1 0,.csl 2 1 2,.ptr 3 0],[.cells 34 [.d od],.cells 87 [.d iO],.cells 81 [.row 4,.row 5],.cells 87 [.d iO],.rows 4 ai .bool,.rows 4 ai .bool]⟩,[]⟩)),(48,(.s 7 0 0 2))]⟩
def BN:ct:=cn ul dh
def uk:FT:=⟨⟨[.d od],[]⟩,⟨vx,[]⟩,dP [(26,(.j ⟨[27,28],[1,4,5,29],⟨[.ptr 0 0,.ptr 1 0,.csl 2 1 3,.d aN],[.cells 34 [.d od],.cells 87 [.d iO],.cells 81 [.row 3,.row 4,.row 5],.rows 4 ai .bool,.rows 4 ai .bool,.rows 4 ai .bool]⟩,[.cel 5 0 4 .bool,.cel 5 1 4 .bool,.cel 5 2 4 .bool]⟩)),(40,(.j ⟨[6,27,28,29],[1,4,5,7,8,53],⟨[.ptr 0 0,.ptr 1 0,.csl 2 1 3,.ptr 3 0,.ptr 4 0,.d .bool],[.cells 34 [.d od],.cells 87 [.d iO],.cells 81 [.row 5,.row 6,.row 7],.cells 59 [.d iL],.cells 87 [.d iO],.rows 4 ai .bool,.rows 4 ai .bool,.rows 4 ai .bool]⟩,[]⟩)),(41,(.s 7 0 0 3)),(47,(.j ⟨[27,28,29],[1,4,5,8],⟨[.ptr 0 0,.ptr 1 0,.csl 2 1 3,.ptr 3 0],[.cells 34 [.d od],.cells 87 [.d iO],.cells 81 [.row 4,.row 5,.row 6],.cells 87 [.d iO],.rows 4 ai .bool,.rows 4 ai .bool,.rows 4 ai .bool]⟩,[]⟩)),(48,(.s 7 0 0 3))]⟩
def BL:ct:=cn uk dH
def eR:FT:=⟨⟨[.d od],[]⟩,⟨vx,[]⟩,dP [(26,(.j ⟨[27,28],[1,4,5,29],⟨[.ptr 0 0,.ptr 1 0,.csl 2 1 4,.d aN],[.cells 34 [.d od],.cells 87 [.d iO],.cells 81 [.row 3,.row 4,.row 5,.row 6],.rows 4 ai .bool,.rows 4 ai .bool,.rows 4 ai .bool,.rows 4 ai .bool]⟩,[.cel 5 0 4 .bool,.cel 5 1 4 .bool,.cel 5 2 4 .bool,.cel 5 3 4 .bool]⟩)),(40,(.j ⟨[6,27,28,29],[1,4,5,7,8,53],⟨[.ptr 0 0,.ptr 1 0,.csl 2 1 4,.ptr 3 0,.ptr 4 0,.d .bool],[.cells 34 [.d od],.cells 87 [.d iO],.cells 81 [.row 5,.row 6,.row 7,.row 8],.cells 59 [.d iL],.cells 87 [.d iO],.rows 4 ai .bool,.rows 4 ai .bool,.rows 4 ai .bool,.rows 4 ai .bool]⟩,[]⟩)),(41,(.s 7 0 0 4)),(47,(.j ⟨[27,28,29],[1,4,5,8],⟨[.ptr 0 0,.ptr 1 0,.csl 2 1 4,.ptr 3 0],[.cells 34 [.d od],.cells 87 [.d iO],.cells 81 [.row 4,.row 5,.row 6,.row 7],.cells 87 [.d iO],.rows 4 ai .bool,.rows 4 ai .bool,.rows 4 ai .bool,.rows 4 ai .bool]⟩,[]⟩)),(48,(.s 7 0 0 4))]⟩
def BK:ct:=cn eR d_
def Dj:ct:=cn eR mi
def Jw:FT:=⟨⟨[.d od],[]⟩,⟨[.d vz,.d aN],[]⟩,dP [(20,(.j ⟨[25,26],[1,6,7,27],⟨[.ptr 0 0,.ptr 1 0,.row 2,.d aN],[.cells 34 [.d od],.cells 107 [.d Kd0],.rows 53 aj (.sl aN)]⟩,[]⟩))]⟩
def UL:ct:=cn Jw pj
def MA:FT:=⟨⟨[.d od],[]⟩,⟨[.d (.sl iE),.d aN],[]⟩,dP [(20,(.j ⟨[4,6,23],[1,7,24],⟨OJ,ae3⟩,[.nil 7 47 iE]⟩)),(34,(.j ⟨[4,6,8,23,24,27],[1,7,28],⟨OJ,ae3⟩,[]⟩)),(42,(.j ⟨[4,6,8,23,24,27,28],[1,7],⟨[.ptr 0 0,.row 1],ae3⟩,[]⟩)),(45,(.j ⟨[4,6,8,9,23,24,27,28],[1,7,46],⟨[.ptr 0 0,.row 1,.d .bool],ae3⟩,[]⟩))]⟩
def XL:ct:=cn MA nF
def V7:FT:=⟨⟨[],[]⟩,⟨[.d m7],[]⟩,dP [(8,(.j ⟨[21],[0,1,22],⟨uC,aec⟩,[.cel 1 5 120 oe]⟩)),(22,(.j ⟨[2,21,22],[0,1,3],⟨uC,aec⟩,[]⟩))]⟩
def adi:ct:=cn V7 Cp
def Jp:FT:=⟨⟨[.d .bool],[]⟩,⟨[.d od],[]⟩,dP [(6,(.j ⟨[],[2,3],⟨[.ptr 0 0,.ptr 1 0],[.cells 34 Yd,.cells 34 [.d (.sl kx),.d (.sl qD),.d (.sl k_),.d (.sl .str),.d (.sl .str),.d (.sl oe),.row 2],.rows 59 aj iL]⟩,[]⟩))]⟩
def UE:ct:=cn Jp wZ
def Dc:FT:=⟨⟨[],[]⟩,⟨[.d .bool],[]⟩,dP [(6,(.j ⟨[],[0],⟨[.d .bool],[]⟩,[]⟩))]⟩
def Om:ct:=cn Dc sZ
theorem Ei:aI Pg 48 XO:=mk MB jt an b9
theorem Pw x:k9 (ll x) (yz x):=by
 unfold ll yz uT ck bz bF aZ cP aF cF;with_reducible repeat' first|(refine OI.o ?_;constructor)|intro _
theorem Qk:aI Pg 76 RC:=yB FZ ll yz Pw (ac Ei an) b9
theorem acu:aI Pg 117 Dq:=mk V8 Nl an b9
theorem ZL:aI Pg 117 agv:= @aI.sub Pg 117 Dq.pre Dq.post Nl Bw acu rfl (λx y h=>rD (b:=8) x y h)
theorem S5 x:k9 (il x) (Bo x):=by
 unfold il Bo xf ck bz vI bF aZ cP aF cF;with_reducible repeat' first|(refine OI.o ?_;constructor)|intro _
theorem TQ:aI Pg 118 UH:=yB Js il Bo S5 (ac ZL an) b9
theorem ZH:aI Pg 117 zl:=mk QR H5 an b9
theorem NK:aI Pg 117 adn:= @aI.sub Pg 117 zl.pre zl.post H5 oP ZH rfl (λx y h=>rD (b:=8) x y h)
theorem TU:aI Pg 73 UI:=mk Jt tX (ac NK (ac TQ an)) b9
theorem Xa:aI Pg 75 XI:=mk Mx tC an b9
theorem TX:aI Pg 74 UK:=mk Jv tZ (ac Xa an) b9
theorem WL x:k9 (pB x) (DV x):=by
 unfold pB DV zQ aX bl bw cz ef kz pN ck bz bF aZ cP aF cF;with_reducible repeat' first|(refine OI.o ?_;constructor)|intro _
theorem Xc:aI Pg 45 XK:=yB Mz pB DV WL an b9
theorem Qj:aI Pg 77 RB:=mk FY sa an b9
theorem ZG:aI Pg 117 aa0:=mk wA vV an b9
theorem VP:aI Pg 117 adm:= @aI.ro Pg 117 wA.pre wA.post.vs vV uM (ZG.holds rfl) rfl (λx _ h=>by rw[show uM x=obind (vV x) λy=>same y.2 x (af y.1) from gG (obind _) (funext λ_=>Pd ..)] at h;exact h)
theorem aca x:k9 (s6 x) (Ni x):=by
 unfold s6 Ni Hg ck bz bF aZ cP aF cF;with_reducible repeat' first|(refine OI.o ?_;constructor)|intro _
theorem acr:aI Pg 76 adk:=yB zW s6 Ni aca (ac Ei an) b9
theorem ZC:aI Pg 76 agu:= @aI.ro Pg 76 zW.pre zW.post.vs s6 Bv (acr.holds rfl) rfl (λx _ h=>by rw[show Bv x=obind (s6 x) λy=>same y.2 x.2 (af y.1) from gG (obind _) (funext λ_=>Pd ..)] at h;exact h)
theorem TN:aI Pg 119 UF:=mk Jq lB (ac ZC an) b9
theorem Zz:aI Pg 120 Z7:=mk QL vQ (ac VP an) b9
theorem WJ x:k9 (rk x) (DU x):=by
 unfold rk DU zP DB Prod.p11 Prod.p12 Prod.p13 Prod.p14 Prod.p15 Prod.p16 Prod.p17 aX bl bw cz ef kz zD BZ Prod.q10 Prod.q16 Prod.q17 Prod.q18 cS ky Prod.q9 ck bf bz jz vI bF aZ cP aF cF;with_reducible repeat' first|(refine OI.o ?_;constructor)|intro _
theorem Xb:aI Pg 78 XJ:=yB My rk DU WJ (ac ZC (ac VP (ac TN (ac Zz an)))) b9
theorem Za x:k9 (r_ x) (HY x):=by
 unfold r_ HY CI DB Prod.p11 aX bl bw cz ef kz zD BZ Prod.q11 Prod.q12 cS fc pN Prod.q9 ck bz vI bF aZ cP cF;with_reducible repeat' first|(refine OI.o ?_;constructor)|intro _
theorem ZA:aI Pg 46 Z8:=yB QM r_ HY Za (ac TU (ac TX (ac Qk (ac Qj (ac Xb an))))) b9
theorem Ij:aI Pg 52 T8:=mk I2 qW an b9
theorem KN:aI Pg 31 Lg:=mk Aw oy (ac Ij an) b9
theorem KM:aI Pg 32 Lf:=mk Av ox (ac Ij an) b9
theorem DR x:k9 (kP x) (qV x):=by
 unfold kP qV rx DB Prod.p11 Prod.p12 Prod.p13 Prod.p14 Prod.p15 Prod.p16 Prod.p17 Prod.p18 Prod.p19 aX Prod.p20 bl bw cz ef kz zD BZ Prod.q21 bz bF cP aF cF;with_reducible repeat' first|(refine OI.o ?_;constructor)|intro _
theorem D_:aI Pg 178 Ey:=yB wu kP qV DR an b9
theorem Ky x:k9 (ou x) (vi x):=by
 unfold ou vi vp bf bz jz bF aZ cP aF;with_reducible repeat' first|(refine OI.o ?_;constructor)|intro _
theorem KK:aI Pg 141 Lc:=yB At ou vi Ky (ac D_ an) b9
theorem S8 x:k9 (rm x) (Bq x):=by
 unfold rm Bq xk bf bz bK aZ cP aF cF;with_reducible repeat' first|(refine OI.o ?_;constructor)|intro _
theorem TZ:aI Pg 197 UP:=yB Jx rm Bq S8 an b9
theorem K_:aI Pg 179 LA:=mk AQ kn (ac TZ an) b9
theorem K9:aI Pg 22 Lz:=mk AO oE (ac Ei an) b9
theorem TW:aI Pg 47 UJ:=mk Ju tY an b9
theorem NI:aI Pg 21 Oo:=mk De qh (ac TW an) b9
theorem S4 x:k9 (pi x) (Bn x):=by
 unfold pi Bn xd ck bz bF bK aZ cP aF cF;with_reducible repeat' first|(refine OI.o ?_;constructor)|intro _
theorem TO:aI Pg 20 UG:=yB Jr pi Bn S4 an b9
theorem Gl:aI Pg 142 GA:=mk xU sC an b9
theorem Gm:aI Pg 107 GD:=mk xV sD (ac Gl an) b9
theorem Ab x:k9 (gX x) (nX x):=by
 unfold gX nX oa aX bl bw cz dw fc bf bz iT bF bK aZ cP aF cF;with_reducible repeat' first|(refine OI.o ?_;constructor)|intro _
theorem Ah:aI Pg 105 Am:=yB sT gX nX Ab an b9
theorem Aa x:k9 (dK x) (nW x):=by
 unfold dK nW n_ aX bl bw bz bF bK kZ aZ cP aF cF;with_reducible repeat' first|(refine OI.o ?_;constructor)|intro _
theorem Ag:aI Pg 106 Al:=yB sS dK nW Aa (ac KK an) b9
theorem z_ x:k9 (fQ x) (nV x):=by
 unfold fQ nV kF aX bl cz cS bz iT bK aZ cP aF cF;with_reducible repeat' first|(refine OI.o ?_;constructor)|intro _
theorem Af:aI Pg 108 Ak:=yB sR fQ nV z_ an b9
theorem Ac x:k9 (dL x) (nY x):=by
 unfold dL nY kG aX bl cz cS bz bK aZ cP aF cF;with_reducible repeat' first|(refine OI.o ?_;constructor)|intro _
theorem kE:aI Pg 68 An:=yB sU dL nY Ac (ac Ah (ac Ag (ac Gm (ac Af an)))) b9
theorem KB x:k9 (oA x) (vk x):=by
 unfold oA vk vq aX bl bw bL dw cS ck bz bF aZ cP aF cF;with_reducible repeat' first|(refine OI.o ?_;constructor)|intro _
theorem K2:aI Pg 109 Ls:=yB AG oA vk KB an b9
theorem Ck x:k9 (dg x) (pW x):=by
 unfold dg pW ql aX bl bw dw bz bF bK aZ cP aF cF;with_reducible repeat' first|(refine OI.o ?_;constructor)|intro _
theorem mj:aI Pg 69 Di:=yB uV dg pW Ck (ac K2 an) b9
theorem yp x:k9 (cg x) (mC x):=by
 unfold cg mC kg ef ky bz jz bF bK aZ cP aF cF;with_reducible repeat' first|(refine OI.o ?_;constructor)|intro _
theorem kf:aI Pg 71 zg:=yB sq cg mC yp an b9
theorem ua:aI Pg 144 JI:=mk yY eU an b9
theorem Gk:aI Pg 145 Gv:=mk xQ lU (ac ua an) b9
theorem Na x:k9 (kc x) (wW x):=by
 unfold kc wW s9 aX bl bw dw bz iT bK aZ cP aF cF;with_reducible repeat' first|(refine OI.o ?_;constructor)|intro _
theorem CD:aI Pg 143 Og:=yB C' kc wW Na (ac ua an) b9
theorem KZ:aI Pg 146 Lq:=mk AE oz (ac K_ an) b9
theorem sF:aI Pg 111 Gw:=mk xR i_ (ac CD (ac ua (ac Gk (ac KZ an)))) b9
theorem D9:aI Pg 110 Ev:=mk wn kO (ac CD an) b9
theorem Bz:aI Pg 112 BJ:=mk uj jA an b9
theorem wV x:k9 (eQ x) (ly x):=by
 unfold eQ ly jk aX bl bw cz bL dw fc bf bz jz bF bK aZ cP aF cF;with_reducible repeat' first|(refine OI.o ?_;constructor)|intro _
theorem w_:aI Pg 113 xv:=yB qx eQ ly wV an b9
theorem Bg x:k9 (gp x) (oY x):=by
 unfold gp oY lE aX bl bw cz bL bf bz bK aZ cP aF cF;with_reducible repeat' first|(refine OI.o ?_;constructor)|intro _
theorem By:aI Pg 114 BI:=yB ui gp oY Bg an b9
theorem Aq:aI Pg 185 Lp:=mk AD me an b9
theorem ZK:aI Pg 180 zm:=mk QU H7 an b9
theorem act:aI Pg 180 ado:= @aI.sub Pg 180 zm.pre zm.post H7 Nk ZK rfl (λx y h=>rD (b:=1) x y h)
theorem Xg:aI Pg 180 wF:=mk MG D3 an b9
theorem ZJ:aI Pg 180 aa2:= @aI.sub Pg 180 wF.pre wF.post D3 H6 Xg rfl (λx y h=>rD (b:=1) x y h)
theorem ZF:aI Pg 181 zk:=mk QQ H4 an b9
theorem acs:aI Pg 181 adl:= @aI.sub Pg 181 zk.pre zk.post H4 Nj ZF rfl (λx y h=>rD (b:=24) x y h)
theorem Xe:aI Pg 181 wD:=mk MD DZ an b9
theorem ZD:aI Pg 181 Z':= @aI.sub Pg 181 wD.pre wD.post DZ H3 Xe rfl (λx y h=>rD (b:=24) x y h)
theorem Xf:aI Pg 116 wE:=mk MF D2 an b9
theorem ZI:aI Pg 116 aa1:= @aI.sub Pg 116 wE.pre wE.post D2 yD Xf rfl (λx y h=>rD (b:=8) x y h)
theorem KA x:k9 (km x) (vj x):=by
 unfold km vj rQ aX bL ck bz bF bK aZ cP cF;with_reducible repeat' first|(refine OI.o ?_;constructor)|intro _
theorem K0:aI Pg 147 Lr:=yB AF km vj KA (ac ZL (ac ZJ (ac ZD an))) b9
theorem HR x:k9 (jF x) (tM x):=by
 unfold jF tM qp aX bl bL ck bz jz kZ aZ cP aF cF;with_reducible repeat' first|(refine OI.o ?_;constructor)|intro _
theorem Is:aI Pg 152 JJ:=yB yZ jF tM HR (ac Aq an) b9
theorem Cl x:k9 (gQ x) (pY x):=by
 unfold gQ pY mm aX bl bL dw ck bz kZ aZ cP aF cF;with_reducible repeat' first|(refine OI.o ?_;constructor)|intro _
theorem CC:aI Pg 153 Dl:=yB uW gQ pY Cl (ac Aq an) b9
theorem Iy:aI Pg 220 JR:=mk ze qi an b9
theorem K7:aI Pg 204 Ly:=mk AM vn (ac Iy an) b9
theorem Ef:aI Pg 208 EE:=mk wz ri an b9
theorem Iw:aI Pg 183 JN:=mk zd tW (ac Ef an) b9
theorem uu x:k9 (fK x) (jU x):=by
 unfold fK jU jV ck bz kZ cP aF cF;with_reducible repeat' first|(refine OI.o ?_;constructor)|intro _
theorem uv:aI Pg 198 uy:=yB nS fK jU uu (ac K7 an) b9
theorem zZ x:k9 (jd x) (nU x):=by
 unfold jd nU nZ aX bl bf jz bF aF;with_reducible repeat' first|(refine OI.o ?_;constructor)|intro _
theorem Ae:aI Pg 182 Aj:=yB sQ jd nU zZ (ac uv an) b9
theorem Xd:aI Pg 148 XP:=mk MC vU (ac Ae (ac Iw an)) b9
theorem Nf x:k9 (lD x) (wX x):=by
 unfold lD wX xl bf bz bF kZ aZ cP aF cF;with_reducible repeat' first|(refine OI.o ?_;constructor)|intro _
theorem NJ:aI Pg 149 Ov:=yB Dh lD wX Nf an b9
theorem xG:aI Pg 151 Gx:=mk xS oO an b9
theorem HW x:k9 (mT x) (tN x):=by
 unfold mT tN ug bz kZ aZ cP aF cF;with_reducible repeat' first|(refine OI.o ?_;constructor)|intro _
theorem Iz:aI Pg 184 JS:=yB zf mT tN HW (ac xG an) b9
theorem Ga x:k9 (ja x) (sB x):=by
 unfold ja sB sH ck bf bz bF kZ aZ cP aF cF;with_reducible repeat' first|(refine OI.o ?_;constructor)|intro _
theorem Gn:aI Pg 150 GF:=yB xW ja sB Ga (ac xG (ac Iz an)) b9
theorem Iv:aI Pg 115 JM:=mk mY gR (ac sF (ac K0 (ac Is (ac CC an)))) b9
def tv2 (t:TypeId):Option Ty:=if aC t 153 then af (.pr .un (.pr .un (.pr .un (.pr .un dV)))) else b9 t
theorem It:aI Pg 147 JK:=mk y_ mS (ac NK (ac act (ac acs an))) tv2
theorem Iu:aI Pg 115 JL:=mk za kS (ac sF (ac It (ac Xd (ac NJ (ac Gn an))))) tv2
theorem K3:aI Pg 115 Lt:=(aI.orE (pre:=mY.pre) (post:=mY.post) (m:=gR) (m':=kS) rfl Iv Iu)
theorem nH:aI Pg 70 Ew:=mk wq fG (ac D9 (ac sF (ac Bz (ac w_ (ac By (ac K3 (ac ZI (ac NK an)))))))) b9
def tv3 (t:TypeId):Option Ty:=if aC t 81 then af (.pr .un (.pr .un pM)) else b9 t
theorem Bk x:k9 (ec x) (o8 x):=by
 unfold ec o8 lG aX bl bw bL cS bf bz bF bK aZ cP aF cF;with_reducible repeat' first|(refine OI.o ?_;constructor)|intro _
theorem BE:aI Pg 44 BO:=yB um ec o8 Bk (ac kE (ac mj (ac nH (ac kf an)))) tv3
def tv4 (t:TypeId):Option Ty:=if aC t 81 then af (.pr .un (.pr .un (.pr .un pM))) else b9 t
theorem Bj x:k9 (dh x) (o7 x):=by
 unfold dh o7 jK aX bl bw cz bL dw fc bf bz bF bK aZ cP aF cF;with_reducible repeat' first|(refine OI.o ?_;constructor)|intro _
theorem BD:aI Pg 44 BN:=yB ul dh o7 Bj (ac kE (ac mj (ac nH (ac kf an)))) tv4
def tv5 (t:TypeId):Option Ty:=if aC t 81 then af (.pr .un (.pr .un (.pr .un (.pr .un pM)))) else b9 t
theorem Bi x:k9 (dH x) (o6 x):=by
 unfold dH o6 jJ aX bl bw cz ef bL cS fc ky bf bz bF bK aZ cP aF cF;with_reducible repeat' first|(refine OI.o ?_;constructor)|intro _
theorem BB:aI Pg 44 BL:=yB uk dH o6 Bi (ac kE (ac mj (ac nH (ac kf an)))) tv5
def tv6 (t:TypeId):Option Ty:=if aC t 81 then af (.pr .un (.pr .un (.pr .un (.pr .un (.pr .un pM))))) else b9 t
theorem Bh x:k9 (d_ x) (oZ x):=by
 unfold d_ oZ jI aX bl bw cz ef kz bL fc ky pN bf bz bF bK aZ cP aF cF;with_reducible repeat' first|(refine OI.o ?_;constructor)|intro _
theorem BA:aI Pg 44 BK:=yB eR d_ oZ Bh (ac kE (ac mj (ac nH (ac kf an)))) tv6
theorem Cy:aI Pg 44 Dj:=(aI.orE (pre:=eR.pre) (post:=eR.post) (m:=d_) (m':=(λx=>orE (dH x) ((λx=>orE (dh x) (ec x)) x))) rfl BA (aI.orE (pre:=eR.pre) (post:=eR.post) (m:=dH) (m':=(λx=>orE (dh x) (ec x))) rfl BB (aI.orE (pre:=eR.pre) (post:=eR.post) (m:=dh) (m':=ec) rfl BD BE)))
theorem S6 x:k9 (pj x) (Bp x):=by
 unfold pj Bp xg aX bL ck bz iT bF bK aZ cP aF cF;with_reducible repeat' first|(refine OI.o ?_;constructor)|intro _
theorem TY:aI Pg 19 UL:=yB Jw pj Bp S6 (ac Cy (ac Xc (ac ZA an))) b9
theorem WM x:k9 (nF x) (DW x):=by
 unfold nF DW zR bz iT bF bK aZ cP aF cF;with_reducible repeat' first|(refine OI.o ?_;constructor)|intro _
theorem Md:aI Pg 8 XL:=yB MA nF DW WM (ac TY (ac TO (ac NI (ac K9 an)))) b9
theorem ac9 x:k9 (Cp x) (Nh x):=by
 unfold Cp Nh NQ aX bl bw cz fc bz bF cP aF cF;with_reducible repeat' first|(refine OI.o ?_;constructor)|intro _
theorem acq:aI Pg 35 adi:=yB V7 Cp Nh ac9 an b9
theorem TK:aI Pg 30 UE:=mk Jp wZ (ac acq an) b9
theorem NH:aI Pg 12 Om:=mk Dc sZ (ac Md (ac TK an)) b9
abbrev Le0:List PB:=[.cells 34 [.d od]]
abbrev Le5:List PB:=[.cells 34 [.d od],.cells 47 [.d iE]]
def AK:FT:=⟨⟨[.d od,.d aN,.d aN],[]⟩,⟨[.d .bool],[]⟩,dP [(6,(.j ⟨[1,2],[3,7],⟨uB,Le0⟩,[]⟩)),(14,(.j ⟨[1,2,7],[3],⟨[.ptr 0 0],Le0⟩,[]⟩))]⟩
def Lw:ct:=cn AK mf
def AL:FT:=⟨⟨[.d Ke0],[]⟩,⟨[.d .bool],[]⟩,dP [(18,(.j ⟨[18,19],[3,20],⟨uB,Le0⟩,[]⟩)),(30,(.j ⟨[18,19,20],[3,7,41],⟨po,Le5⟩,[]⟩)),(40,(.j ⟨[18,19,20,45],[3,7,46],⟨uC,Le5⟩,[]⟩)),(51,(.j ⟨[18,19,20,45,46],[3,7,70],⟨po,Le5⟩,[]⟩))]⟩
def Lx:ct:=cn AL oD
theorem K6:aI Pg 13 Lw:=mk AK mf (ac KN (ac KM an)) b9
theorem hlaw23_HBSync:aI Pg 4 Lx:=mk AL oD (ac D' (ac Md (ac NH (ac K6 an)))) b9
theorem run_law {P:Program} {f:FuncId} {pre:Tm} {m:pre.ty.den->Option (Tm.ty ⟨[.d .bool],[]⟩).den} (sp:pH P f ⟨pre,⟨[.d .bool],[]⟩,m⟩) (h0:pre.bs.length=0) {x:pre.ty.den} (M:m x=af ai) {vs:List TV} {hp:bh} (hi:Cx pre x=af (vs,hp)) {la:List AV} (hla:cK hp vs=af la)
 {W:World} {us:List Value} (hg:∀ g cells,G g=af cells->m6 (λ_=>False) W (.ptr cells 0) (.pointer (af ⟨g,0,ah⟩))) (hrel:jW (λ_=>ah) (λ_=>False) W la us):
 Calls P f us.toArray W λe w'=>e= .returned (.bool ai)/\Below W.heap.size W w':=by
 obtain⟨l1,I⟩:=vY hi;obtain⟨l2,J⟩:=vY (t:=⟨[.d .bool],[]⟩) (x:=ai) (vs:=[.f .bool ai]) (h1:=PT.leaf) rfl;have hn:bA hp=λ_=>ah:=by
  funext n;cases hb:bA hp n with
  |none=>rfl
  |some b=>
   obtain⟨i,c,rfl,h1,_⟩:=jw hb;have:=I.lt_len h1;omega
 have own0:∀ (φ:PM) k,¬own φ (bA hp) k:=by rintro φ k ⟨i,b,h1,_⟩;rw[hn] at h1;cases h1
 have htot:tot (λ_=>False) (λ_=>ah) (bA hp)=λ_=>False:=by
  funext k;exact propext ⟨λh=>h.elim id λh=>cZ h (own0 _ k),λh=>h.elim⟩
 refine Calls.mono (sp.calls x ai M vs hp l1 _ PT.leaf l2 la _ I J hla rfl (λ_=>ah) (λ_=>False) W us ⟨(λi j b b' k h1=>by rw[hn] at h1;cases h1),(λi b h1=>by rw[hn] at h1;cases h1),(λk h=>h.elim),(λg cells h=>by rw[htot];exact hg g cells h)⟩ (by rw[htot];exact hrel) (λn k h=>by cases h)) ?_;rintro en w' ⟨v,φ',rfl,he,_,_,_,hv⟩;refine ⟨?_,⟨he.os,he.tape,he.output,he.size,λk hk=>he.blk k hk (own0 _ k)⟩⟩;have hv:cL φ' _ w' (.f (.raw (.bool ai))) v:=hv;cases hv with
 |f h=>cases h;rfl
theorem gKw:Tryz.prog.globalNamed "interleave/token.keywords" =af 0:=by kernel_rfl
theorem tKw:(Tryz.prog.globals[0]?).map (·.type)=af 276:=by kernel_rfl
theorem kw_of_laid {W:World} (h:laidMetH Tryz.prog [("interleave/token.keywords",Rows.laid_interleave_token_keywords)] W):∀ g cells,G g=af cells→m6 (λ_=>False) W (.ptr cells 0) (.pointer (af ⟨g,0,ah⟩)):=by
 intro g cells U;unfold G at U;split at U
 .rename_i hg;have hg:=eq_of_beq hg;subst hg;cases U;rw[MakeChecks.laidMetH_plain _ _ _ (by kernel_rfl)] at h;obtain⟨ps,⟨g0,t0,cs0,f0,p0,q0,M,Z,Y,hd0,_,_⟩,_,_⟩:=h;obtain rfl:=jQ (gKw.symm.trans M);obtain rfl:=jQ (tKw.symm.trans Z);obtain⟨xs,m1,rfl,J,hlen,hn,hel⟩:=DataW.trod_array Tryz.underlying276 hd0;have c1:Tryz.prog.cellsOf 9=1:=by kernel_rfl
  have c22:Tryz.prog.cellsOf 276=22:=by kernel_rfl
  rw[c22] at hlen;simp only[aD,Rows.laid_interleave_token_keywords,DataW.agg.injEq] at J;have hxs:=J.1;have hcell:∀ j,j<22→∃ l,(xs.map (·.1))[j]? =af (.lit (.string l))∧W.cell? ⟨0,j,ah⟩=af (.string ⟨l.toArray⟩):=λj hj=>by
   have h1:=hel j hj;rw[c1,Nat.mul_one] at h1;rw[aA (by omega)] at h1;obtain⟨s,e1,e2,_⟩:=DataW.trod_string Tryz.underlying9 h1;refine ⟨s.data.toList,?_,?_⟩
   .rw[bc,aA (by omega),ca,e2]
   .have:=World.var?_cell M Y j;rw[this];have h2:cs0.toList[j]? =af (.string s):=by
     have:((cs0.toList.drop j).take 1)[0]? =af (.string s):=by rw[e1];rfl
     rw[cN,aE (by omega),gV] at this;simpa using this
    rw[← cH,h2]
  have hb:0<W.heap.size:=by
   obtain⟨l,_,h2⟩:=hcell 0 (by omega);exact World.block_lt_of_cell? W _ h2
  refine .ptr Cr 0 0 0 (λj=>(W.cell? ⟨0,j,ah⟩).getD undef) (λh=>h) hb (λx I=>?_) (λj hj=>?_) (λj x I=>?_)
  .simp only[Cr,bi,cu,fY] at I;rcases I with rfl|rfl|rfl|rfl|rfl|rfl|rfl|rfl|rfl|rfl|rfl|rfl|rfl|rfl|rfl|rfl|rfl|rfl|rfl|rfl|rfl|rfl<;>rfl
  .obtain⟨l,_,h2⟩:=hcell j hj;rw[bN,h2];rfl
  .have hj:j<22:=(bk.1 I).1;obtain⟨l,h1,h2⟩:=hcell j hj;rw[← hxs] at h1;have:x= .raw (.string ⟨l.toArray⟩):=by
    rcases j with _|_|_|_|_|_|_|_|_|_|_|_|_|_|_|_|_|_|_|_|_|_|j;all_goals first|(simp only[qI,List.getElem?_cons_succ,ak,DataW.lit.injEq,Lit.string.injEq,Cr] at h1 I;subst h1;subst I;rfl)|omega
   rw[this,h2];exact .raw _
 .cases U
end
end Go.Proofs.YthehadcddfilhaaGreatDoor.AI
