/-
  Texts of the proof, part 5 of 6: what is used to prove the statement. No condition.
-/
import Derived.Test.YtloaobgmjdjhhaaGreatDoorEpochAgreesQ3
import Derived.Deep.Slices
import Derived.OpenShut
import Derived.Below
import Derived.Test.YtloaobgmjdjhhaaGreatDoorProg
import Derived.KernelRfl
import Derived.Recover
namespace Go.Proofs.YtloaobgmjdjhhaaGreatDoor.AI
open Go.RowKit
set_option maxRecDepth 100000
set_option maxHeartbeats 4000000
set_option linter.unusedVariables false
set_option linter.unusedSimpArgs false
open Act renaming put→NQ
open _root_.Array renaming replicate→oI
open _root_.Bool renaming true→J,false→af,and_false→Lf
open Call renaming operands→eU
open _root_.Classical renaming not_imp→Ah
open _root_.Int renaming ofNat_eq_natCast→ak,ofNat→aN,toNat→aQ,toNat_natCast→bY
open _root_.List renaming length→ai,replicate→aB,length_singleton→dB,take→dJ,range→dN,cons_append→fI,length_nil→gw,nil_append→j_,getElem?_cons_zero→lQ,take_succ_cons→vU,replicate_succ→vV
open _root_.Nat renaming beq→aA,testBit→aM,add_zero→c8,ble→eO,blt→gx
open Oper renaming wp→HC
open _root_.Option renaming some→M,none→D,bind_some→aF,map_some→cj,map→me,getD_some→uW
open _root_.Prod renaming p2→aY,p3→bm,p4→bz,q3→bL,p5→cH,q5→cY,q4→dx,p6→eC,q6→fo,q7→lP
open Region renaming wanted→iS
open Result renaming andThen_ok→cO
open Sem renaming run_bind→eM,run_pure→oY
open _root_.Sum renaming inr→bX,inl→oX
open Value renaming okWide→HA
open World renaming cell?→NK
noncomputable section
structure pZ (P:Program) (f:FuncId) (c:cA):Prop where
 callable:Ec P f
 calls:∀x y,c.m x=M y->∀vs hp l1 rs hq l2 la lr,qR c.pre x vs hp l1->qR c.post y rs hq l2->cJ hp vs=M la->cJ hq rs=M lr->
  ∀(φ:PM) (E:Nat->Prop) (w:World) (us:ξ),re φ E (bu hp) w->kh φ (tot E φ (bu hp)) w la us->(∀n k,φ n=M k->ow n<c.pre.bs.length)->
  Calls P f us.toArray w λen w'=>∃v φ',en= .returned v/\Ib (own φ (bu hp)) w w'/\(∀k,k<w.heap.size->own φ' (bu hq) k->own φ (bu hp) k)/\(∀i,i<c.pre.bs.length->φ' (nm i)=φ (nm i))/\re φ' E (bu hq) w'/\cN φ' (tot E φ' (bu hq)) w' (Ej lr) v
theorem MM {g:Nat->Nat}:∀(bs:Y PB) (x:(PB.tyL bs).den) (l:Y (I iu)),BQ bs=J->oK g bs x=M l->∀(i:Nat) (c:I iu),l[i]? =M c->∃b,c=M b
 |[],x,l,_,hp,i,c,hc=>by simp only[oK,ah]at hp;subst hp;simp at hc
 |b::r,x,l,hn,hp,i,c,hc=>by
  simp only[oK]at hp;split at hp
  .rename_i a s;split at hp
   .rename_i q hq;simp only[ah]at hp;subst hp;cases i with
    |zero=>
     simp at hc;subst hc;cases b with
     |gone=>simp[BQ]at hn
     |rows ty p T=>simp only[CO,ah]at s;exact⟨_,s.symm⟩
     |rowsP ty T=>simp only[CO,ah]at s;exact⟨_,s.symm⟩
     |cells ty ps=>
      simp only[CO]at s;split at s
      .simp only[ah]at s;exact⟨_,s.symm⟩
      .cases s
     |mp K V=>simp only[CO,ah]at s;exact⟨_,s.symm⟩
    |succ i=>
     refine MM r _ q ?_ hq i c (by simpa using hc);cases b<;>first|exact hn|simp[BQ]at hn
   .cases hp
  .cases hp
theorem FI {h h2:bi} {g:Nat->Nat}:∀n,ub h h2 g n=J->∀i,i<n->∀r,eH h (g i)=M r->eH h2 (g i)=M r
 |0,_,i,hi,_,_=>by omega
 |n+1,hs,i,hi,r,hr=>by
  simp only[ub,al]at hs;by_cases e:i=n
  .subst e;obtain⟨p,s,k⟩:=r;have h1:=hs.1;rw[hr]at h1;cases a:eH h2 (g i) with
   |none=>rw[a]at h1;cases h1
   |some q=>
    obtain⟨c,s',k'⟩:=q;rw[a]at h1;simp only[al,cV]at h1;rw[h1.1.1,ar h1.1.2,ar h1.2]
  .exact FI n hs.2 i (by omega) r hr
theorem kh.le {H H':HF} {φ:PM} {E:Nat->Prop} {w:World} (r:re φ E H w):∀{l a:Y AV} {us:ξ},ic H H' l a->kh φ (tot E φ H) w l us->kh φ (tot E φ H') w a us
 |[],[],[],_,_=>trivial
 |[],[],_::_,_,h=>h.elim
 |_::_,_::_,[],_,h=>h.elim
 |[],_::_,_,h,_=>h.elim
 |_::_,[],_,h,_=>h.elim
 |_::_,_::_,_::_,hl,h=>⟨hl.1 _ _ _ _ r h.1,kh.le r hl.2 h.2⟩
theorem kh.toId {φ φ':PM} {O O':Nat->Prop} {w:World} {γ:Nat->Nat} {p:Nat->Bool} (hv:∀x v,x.all p=J->cN φ O w (x.ren γ) v->cN φ' O' w x v):∀{l:Y AV} {us:ξ},AV.allL p l=J->kh φ O w (AV.renL γ l) us->kh φ' O' w l us
 |[],[],_,_=>trivial
 |[],_::_,_,h=>h.elim
 |_::_,[],_,h=>h.elim
 |_::_,_::_,hp,h=>by
  simp only[AV.allL,al]at hp;exact⟨hv _ _ hp.1 h.1,kh.toId hv hp.2 h.2⟩
theorem Wz {h:bi}:∀{rs:Y TV} {lr:Y AV},cJ h rs=M lr->ct h (Qo rs)=M (Ej lr)
 |[],lr,he=>by simp only[cJ,ah]at he;subst he;rfl
 |[x],lr,he=>by
  obtain⟨y,l2,rfl,e1,e2⟩:=c4 he;simp only[cJ,ah]at e2;subst e2;exact e1
 |x::y::r,lr,he=>by
  obtain⟨c,l2,rfl,e1,e2⟩:=c4 he;obtain⟨a,q,rfl,e3,s⟩:=c4 e2;simp only[Qo,ct,he,Ej]
theorem ZT (γ:Nat->Nat):∀l:Y AV,Ej (AV.renL γ l)=(Ej l).ren γ
 |[]=>rfl
 |[x]=>rfl
 |x::y::r=>rfl
theorem ZU {p:Nat->Bool}:∀{l:Y AV},AV.allL p l=J->(Ej l).all p=J
 |[],_=>rfl
 |[x],h=>by simp only[AV.allL,al]at h;exact h.1
 |x::y::r,h=>h
theorem aes {nx a q:Nat}:aM (((1<<<a)-1)<<<nx) q=J↔nx<=q/\q<nx+a:=by
 rw[Nat.testBit_shiftLeft,Nat.one_shiftLeft,Nat.testBit_two_pow_sub_one];simp only[al,bB];omega
theorem ac3 {P:Program} {o:Oper} {e:iX} {h:bi} {nx:Nat} {f:FuncId} {c:cA} {l:Y TV} (hinv:mo h nx) (sp:pZ P f c) {x:c.pre.ty.den} {m:Nat} {σ:PT Nat} {sm:Nat} (A:Ia 0 c.pre l h x m σ sm) {vs:Y TV} {hp:bi} {l1:Y (I iu)} (B:qR c.pre x vs hp l1) (hng:BQ c.pre.bs=J) {y:c.post.ty.den} (hm:c.m x=M y) {rs:Y TV} {hq:bi} {l2:Y (I iu)} (H:qR c.post y rs hq l2) (hle:c.pre.bs.length<=c.post.bs.length)
 {g:Nat->Nat} (glo:∀i,i<c.pre.bs.length->g i=ip σ i) (ghi:∀i,c.pre.bs.length<=i->g i=nx+(i-c.pre.bs.length)) {h2:bi} (hh2:h2=AG g 0 (l2.map (me (lX g))) (eB m h)) (hsr:ub h h2 g c.pre.bs.length=J) {la:Y AV} (hla:cJ h l=M la)
 (hexec:∀(φ:PM) (E:Nat->Prop) (h':HF) (w:World) (a:Act),(∀t,.tmp t∈o.op.operands->∀y,fM e h t=M y->cN φ (tot E φ h') w y (a.tmps.getD t undef))->re φ E h' w->∃us:ξ,(execOp a.eval o).run P w= .ok (.enter f us.toArray) w/\kh φ (tot E φ h') w la us):
 iW P o af e h nx (Qo (kN g rs)) (sm|||m) (sm|||m|||(((1<<<(c.post.bs.length-c.pre.bs.length))-1)<<<nx)) h2 (nx+(c.post.bs.length-c.pre.bs.length)):=by
 obtain⟨x1,m1,x2,m2,hx,hmm,gv,gb⟩:=A.ex;have hmr:dS h m:=by rw[hmm];exact (HW _ _ _ _ gv).or (HY _ _ _ _ gb)
 generalize hnp:c.pre.bs.length=np at*
 generalize hnq:c.post.bs.length=nq at*
 have pvg:qh (ip σ) c.pre.vs x1=M (kN (ip σ) vs):=by
  have L:=tU (ip σ) c.pre.vs x1;have h4:=B.pv;rw[hx,tN]at h4;rw[L,h4];rfl
 have pbg:oK (ip σ) c.pre.bs x2=M (l1.map (me (lX (ip σ)))):=by
  have L:=v_ (ip σ) c.pre.bs x2;have h4:=B.pb;rw[hx,u_]at h4;rw[L,h4];rfl
 have hl1:∀i,i<np->∃b,l1[i]? =M (M b):=λi hi=>by
  have hi':i<l1.length:=by rw[B.len,hnp];exact hi
  obtain⟨b,hb⟩:=MM c.pre.bs _ l1 hng B.pb i l1[i] (ay hi');exact⟨b,by rw[ay hi',hb]⟩
 have hbm:∀i b,l1[i]? =M (M b)->∃b0,h.get (ip σ i)=M b0/\BM (ip σ) h m b0 (lX (ip σ) b):=λi b hb=>by
  obtain⟨b0,s,U⟩:=Jt c.pre.bs 0 x2 m2 _ gb pbg i (lX (ip σ) b) (by rw[ba,hb];rfl);rw[bI]at s;exact⟨b0,s,U.mono λj hj=>by rw[hmm,bp,hj];simp⟩
 have inj1:∀a b,a<np->b<np->ip σ a=ip σ b->a=b:=λa b ha hb=>A.inj a b (by rw[hnp];exact ha) (by rw[hnp];exact hb)
 have sig:∀q,aM sm q=J↔∃k,k<np/\ip σ k=q:=λq=>by rw[A.sig,hnp]
 have gnx:∀i,i<np->ip σ i<nx:=λi hi=>by
  obtain⟨b,hb⟩:=hl1 i hi;obtain⟨b0,s,_⟩:=hbm i b hb;exact hinv.low _ _ s
 have hmS:∀i,i<np->aM m (ip σ i)=af:=λi hi=>by
  cases hx:aM m (ip σ i) with
  |false=>rfl
  |true=>have:=A.disj _ hx;rw[(sig _).2 ⟨i,hi,rfl⟩]at this;cases this
 have injg:∀a b,a<nq->b<nq->g a=g b->a=b:=λa b ha hb hab=>by
  by_cases h1:a<np
  .by_cases h2:b<np
   .rw[glo a h1,glo b h2]at hab;exact inj1 a b h1 h2 hab
   .rw[glo a h1,ghi b (by omega)]at hab;have:=gnx a h1;omega
  .by_cases h2:b<np
   .rw[ghi a (by omega),glo b h2]at hab;have:=gnx b h2;omega
   .rw[ghi a (by omega),ghi b (by omega)]at hab;omega
 let hv:bi:=AG (ip σ) 0 (l1.map (me (lX (ip σ)))) (eB m h)
 have hv_at:∀i b,l1[i]? =M (M b)->hv.get (ip σ i)=M (lX (ip σ) b):=λi b hb=>by
  have:=vi (ip σ) (l1.map (me (lX (ip σ)))) 0 (eB m h) (λa b ha hb=>by
   simp only[bR,B.len,hnp]at ha hb;simp only[bI];exact inj1 a b ha hb) i (M (lX (ip σ) b)) (by rw[ba,hb];rfl)
  rw[bI]at this;exact this
 have hv_ne:∀j,(∀i,i<np->j≠ip σ i)->hv.get j=(eB m h).get j:=λj hj=>
  vh (ip σ) _ 0 _ j λk hk=>by
   simp only[bR,B.len,hnp]at hk;rw[bI];exact hj k hk
 have rows_in:xW hv h:=λj r hr=>by
  rw[bS]at hr ⊢;by_cases hj:∃i,i<np/\j=ip σ i
  .obtain⟨i,hi,rfl⟩:=hj;obtain⟨b,hb⟩:=hl1 i hi;obtain⟨b0,s,U⟩:=hbm i b hb;rw[hv_at i b hb]at hr;rw[s];simp only[aF]at hr ⊢;rw[<- U.row];exact hr
  .rw[hv_ne j (λi hi e=>hj ⟨i,hi,e⟩),jg]at hr;split at hr
   .rename_i ht;obtain⟨ty,p,T,xs,hb⟩:=hmr j ht;rw[hb]at hr ⊢;exact hr
   .exact hr
 have rows_hp:∀i r,eH hp i=M r->eH hv (ip σ i)=M r:=λi r hr=>by
  rw[bS]at hr ⊢;cases hb:hp.get i with
  |none=>rw[hb]at hr;cases hr
  |some b=>
   rw[hb]at hr;rw[hv_at i b ((B.at_ i b).1 hb)];simp only[aF,Iq]at hr ⊢;exact hr
 have dead_m:∀i,aM m i=J->bu hv (nm i)=D:=λi hi=>by
  rw[bF,hv_ne i (λk hk e=>by rw[e,hmS k hk]at hi;cases hi)];obtain⟨p,sz,n,hd⟩:=t7 hmr hi;rw[hd];rfl
 have h2_at:∀i cc,l2[i]? =M cc->h2.get (g i)=(match cc with|some b=>M (lX g b)|none=>((eB m h).get (g i)).map vj):=λi cc hc=>by
  have:=vi g (l2.map (me (lX g))) 0 (eB m h) (λa b ha hb=>by
   simp only[bR,H.len,hnq]at ha hb;simp only[bI];exact injg a b ha hb) i (cc.map (lX g)) (by rw[ba,hc];rfl)
  rw[bI]at this;rw[hh2,this];cases cc<;>rfl
 have h2_ne:∀j,(∀i,i<nq->j≠g i)->h2.get j=(eB m h).get j:=λj hj=>by
  rw[hh2];refine vh g _ 0 _ j λk hk=>?_
  simp only[bR,H.len,hnq]at hk;rw[bI];exact hj k hk
 have rows_hq:∀i r,eH hq i=M r->eH h2 (g i)=M r:=λi r hr=>by
  rw[bS]at hr ⊢;cases hb:hq.get i with
  |none=>rw[hb]at hr;cases hr
  |some b=>
   rw[hb]at hr;rw[h2_at i _ ((H.at_ i b).1 hb)];simp only[aF,Iq]at hr ⊢;exact hr
 have rows2:b_ h h2:=λj r hr=>by
  by_cases hj:∃i,i<np/\j=ip σ i
  .obtain⟨i,hi,rfl⟩:=hj;rw[<- glo i hi]at hr ⊢;exact FI np hsr i hi r hr
  .have hjn:j<nx:=by
    rw[bS]at hr;cases hb:h.get j with
    |none=>rw[hb]at hr;cases hr
    |some b=>exact hinv.low j b hb
   have:=b_.kill m h j r hr;rw[bS]at this ⊢;rw[h2_ne j (λi hi e=>?_)]
   .exact this
   .by_cases hip:i<np
    .exact hj ⟨i,hip,by rw[e,glo i hip]⟩
    .rw[ghi i (by omega)]at e;omega
 obtain⟨lr,hlr⟩:=fd hq rs H.ok;obtain⟨lp,hlp⟩:=fd hp vs B.ok;have er2:∀i b yb,hq.get i=M b->jF hq b=M yb->bu h2 (nm (g i))=M (yb.ren (HZ g)):=λi b yb hb hyb=>by
  rw[bF,h2_at i _ ((H.at_ i b).1 hb)];exact Dl rows_hq hyb
 have er2':∀i,i<nq->∀z,bu h2 (nm (g i))=M z->∃b yb,hq.get i=M b/\jF hq b=M yb/\z=yb.ren (HZ g):=λi hi z Z=>by
  have hi':i<l2.length:=by rw[H.len,hnq];exact hi
  have hcc:=ay hi';cases hcv:l2[i] with
  |none=>
   rw[hcv]at hcc;rw[bF,h2_at i D hcc]at Z;simp only at Z;cases hkg:(eB m h).get (g i) with
   |none=>rw[hkg]at Z;cases Z
   |some b0=>rw[hkg]at Z;cases b0<;>simp[vj,jF]at Z
  |some b=>
   rw[hcv]at hcc;have hb:=(H.at_ i b).2 hcc;rw[bF,h2_at i (M b) hcc]at Z;have hyb:∃yb,jF hq b=M yb:=by
    cases b with
    |rows ty p T xs=>simp only[aF,lX,jF]at Z ⊢;exact⟨z,Z⟩
    |cells ty q=>
     obtain⟨q',hq'⟩:=fd hq q (H.cells i _ q hb).1;cases ty<;>exact⟨_,by simp only[jF,hq'];rfl⟩
    |dead p sz n=>simp[lX,jF]at Z
    |mp K V es=>exact⟨_,rfl⟩
   obtain⟨yb,hyb⟩:=hyb;have:=Dl rows_hq hyb;simp only[aF]at Z;rw[this]at Z;exact⟨b,yb,hb,hyb,by cases Z;rfl⟩
 have dead2:∀i,aM m i=J->bu h2 (nm i)=D:=λi hi=>by
  have hlt:=hmr.lt hinv hi;rw[bF,h2_ne i (λk hk e=>?_)]
  .obtain⟨p,sz,n,hd⟩:=t7 hmr hi;rw[hd];rfl
  .by_cases hkp:k<np
   .rw[e,glo k hkp,hmS k hkp]at hi;cases hi
   .rw[ghi k (by omega)]at e;omega
 have inv2:mo h2 (nx+(nq-np)):=by
  refine ⟨λj ty q hj=>?_,λj b hj=>?_⟩
  .by_cases hjg:∃i,i<nq/\j=g i
   .obtain⟨i,hi,rfl⟩:=hjg;have hi':i<l2.length:=by rw[H.len,hnq];exact hi
    have hcc:=ay hi';cases hcv:l2[i] with
    |none=>
     rw[hcv]at hcc;rw[h2_at i D hcc]at hj;simp only at hj;cases hkg:(eB m h).get (g i) with
     |none=>rw[hkg]at hj;cases hj
     |some b0=>rw[hkg]at hj;cases b0<;>simp[vj]at hj
    |some b=>
     rw[hcv]at hcc;have hb:=(H.at_ i b).2 hcc;rw[h2_at i (M b) hcc]at hj;simp only[ah]at hj;cases b with
     |cells ty' q'=>
      simp only[lX,iu.cells.injEq]at hj;obtain⟨_,rfl⟩:=hj;obtain⟨z,Z⟩:=fd hq q' (H.cells i _ q' hb).1;exact j8 _ _ _ (pa rows_hq q' z Z)
     |rows _ _ _ _=>simp[lX]at hj
     |dead _ _ _=>simp[lX]at hj
     |mp _ _ _=>simp[lX]at hj
   .rw[h2_ne j (λi hi e=>hjg ⟨i,hi,e⟩)]at hj;refine jd rows2 q ?_;have hkk:=(hinv.kill m).cells j _ q hj;rw[jg]at hj;split at hj
    .rename_i ht;obtain⟨_,_,_,_,hb⟩:=hmr j ht;rw[hb]at hj;cases hj
    .exact hinv.cells j _ q hj
  .by_cases hjg:∃i,i<nq/\j=g i
   .obtain⟨i,hi,rfl⟩:=hjg;by_cases hip:i<np
    .rw[glo i hip];have:=gnx i hip;omega
    .rw[ghi i (by omega)];omega
   .rw[h2_ne j (λi hi e=>hjg ⟨i,hi,e⟩)]at hj;have:=(hinv.kill m).low j b hj;omega
 let S:ι:=(dN np).map λi=>nm (ip σ i)
 have memS:∀n,n∈S↔∃i,i<np/\n=nm (ip σ i):=λn=>by
  simp only[S,di,nN];exact⟨λ⟨i,h1,h2⟩=>⟨i,h1,h2.symm⟩,λ⟨i,h1,h2⟩=>⟨i,h1,h2.symm⟩⟩
 let NN:ι:=(dN (nq-np)).map λt=>nm (nx+t)
 have memN:∀n,n∈NN↔∃t,t<nq-np/\n=nm (nx+t):=λn=>by
  simp only[NN,di,nN];exact⟨λ⟨i,h1,h2⟩=>⟨i,h1,h2.symm⟩,λ⟨i,h1,h2⟩=>⟨i,h1,h2.symm⟩⟩
 have memW:∀n,n∈S++FP m++NN↔(∃i,i<nq/\n=nm (g i))\/n∈FP m:=λn=>by
  rw[bO,bO,memS,memN];constructor
  .rintro ((⟨i,hi,rfl⟩|hn)|⟨t,ht,rfl⟩)
   .exact .inl ⟨i,by omega,by rw[glo i hi]⟩
   .exact .inr hn
   .exact .inl ⟨np+t,by omega,by rw[ghi _ (by omega),show np+t-np=t from by omega]⟩
  .rintro (⟨i,hi,rfl⟩|hn)
   .by_cases hip:i<np
    .exact .inl (.inl ⟨i,hip,by rw[glo i hip]⟩)
    .exact .inr ⟨i-np,by omega,by rw[ghi i (by omega)]⟩
   .exact .inl (.inr hn)
 have hOpT:gP P o (fM e h) (bu h) ⟨Ej (AV.renL (HZ g) lr),S++FP m,S++FP m++NN,bu h2,NN⟩:=by
  intro φ E h' w a hrd hwr hops hrep hN;have hS':∀i,i<np->h' (nm (ip σ i))=bu h (nm (ip σ i)):=λi hi=>hrd _ (lA _ ((memS _).2 ⟨i,hi,rfl⟩))
  have hM':∀i,aM m i=J->h' (nm i)=bu h (nm i):=λi hi=>hrd _ (nP _ (l7.2 hi))
  obtain⟨us,hrun,hrel⟩:=hexec φ E h' w a hops hrep
  let Hv:HF:=λn=>if n∈S++FP m then bu hv n else h' n
  have Hv_in:∀n,n∈S++FP m->Hv n=bu hv n:=λn hn=>by simp only[Hv,hn,bG]
  have Hv_out:∀n,n∉S++FP m->Hv n=h' n:=λn hn=>by simp only[Hv,hn,dP]
  have blkS:∀i,i<np->∀z,bu hv (nm (ip σ i))=M z->∃b0 b y0,h.get (ip σ i)=M b0/\l1[i]? =M (M b)/\BM (ip σ) h m b0 (lX (ip σ) b)/\jF h b0=M y0/\jF hv (lX (ip σ) b)=M z:=λi hi z Z=>by
   obtain⟨b,hb⟩:=hl1 i hi;obtain⟨b0,s,U⟩:=hbm i b hb;rw[bF,hv_at i b hb]at Z;simp only[aF]at Z;obtain⟨y0,hy0⟩:=BM.erB_some hinv s U Z;exact⟨b0,b,y0,s,hb,U,hy0,Z⟩
  have hd:uV h' Hv:=λn b hb=>by
   by_cases hn:n∈S++FP m
   .rw[Hv_in n hn]at hb;rcases bO.1 hn with hs|hs
    .obtain⟨i,hi,rfl⟩:=(memS n).1 hs;obtain⟨b0,b1,y0,s,U,q3,q4,q5⟩:=blkS i hi b hb;exact⟨y0,by rw[hS' i hi,bF,s];exact q4⟩
    .obtain⟨i,rfl,hi⟩:=n_.1 hs;rw[dead_m i hi]at hb;cases hb
   .rw[Hv_out n hn]at hb;exact⟨b,hb⟩
  have gvv:Eh h h' Hv m:=λi hi=>⟨hM' i hi,by rw[Hv_in _ (nP _ (l7.2 hi)),dead_m i hi]⟩
  have V:Ht h' Hv:=⟨hd,λn b b' hb hb'=>by
   by_cases hn:n∈S++FP m
   .rw[Hv_in n hn]at hb';rcases bO.1 hn with hs|hs
    .obtain⟨i,hi,rfl⟩:=(memS n).1 hs;obtain⟨b0,b1,y0,s,U,q3,q4,q5⟩:=blkS i hi b' hb';rw[hS' i hi,bF,s]at hb;simp only[aF]at hb;exact BM.view hd gvv rows_in q3 hb q5
    .obtain⟨i,rfl,hi⟩:=n_.1 hs;rw[dead_m i hi]at hb';cases hb'
   .rw[Hv_out n hn,hb]at hb';cases hb';exact iN.refl hd b⟩
  have hrepv:=V.rep hrep;have hlpg:cJ hv (kN (ip σ) vs)=M (AV.renL (HZ (ip σ)) lp):=pa rows_hp vs lp hlp;have hrel1:kh φ (tot E φ Hv) w (AV.renL (HZ (ip σ)) lp) us:=
   kh.le hrep (Df hd rows_in c.pre.vs l x1 m1 _ la _ gv pvg hla hlpg (λi hi=>gvv i (by rw[hmm,bp,hi];rfl))) hrel
  let E':Nat->Prop:=λk=>E k\/∃n b,Hv n=M b/\n∉S/\φ n=M k
  have T:agb c.pre x vs hp (ip σ) φ E E' Hv w:=by
   refine re.toId B (λa b ha hb=>inj1 a b (by rw[<- hnp];exact ha) (by rw[<- hnp];exact hb)) hrepv (λi b yb hb hyb=>?_) ?_ ?_ ?_
   .have hi:=B.lt_len hb;rw[hnp]at hi;rw[Hv_in _ (lA _ ((memS _).2 ⟨i,hi,rfl⟩)),bF,hv_at i b ((B.at_ i b).1 hb)];exact Dl rows_hp hyb
   .rintro k (hE|⟨n,b,h1,_,L⟩)
    .exact .inl hE
    .exact .inr ⟨n,b,h1,L⟩
   .rintro i k b hi h1 L (hE|⟨n,b',h4,h5,h6⟩)
    .obtain⟨k',p1,p2,_⟩:=hrepv.at_ _ _ h1;rw[L]at p1;cases p1;exact p2 hE
    .have:=hrepv.inj _ _ _ _ k h1 h4 L h6;exact h5 (by rw[<- this];exact (memS _).2 ⟨i,by rw[<- hnp];exact hi,rfl⟩)
   .rintro k (hE|⟨n,b,h1,_,L⟩)
    .exact hrepv.el k hE
    .obtain⟨k',s,_,ob,q3,_⟩:=hrepv.at_ n b h1;rw[L]at s;cases s;exact (cC.1 q3).1
  have hcalls:=sp.calls x y hm vs hp l1 rs hq l2 lp lr B H hlp hlr (φ1 c.pre.bs.length (ip σ) φ) E' w us T.rep (kh.toId T.val (r7 vs lp B.lt hlp) hrel1) (λn k hk=>by
   obtain⟨i,hi,rfl,_⟩:=xk hk;rw[dU];exact hi)
  unfold HC;rw[hrun];refine Calls.mono hcalls ?_;rintro en w' ⟨v,φc',rfl,hext,hown,hnm,rp,rv'⟩
  let isN:Nat->Prop:=λn=>n∈NN
  let φ':PM:=λn=>if n∈NN then φc' (nm (np+(ow n-nx))) else φ n
  have φ'_new:∀t,t<nq-np->φ' (nm (nx+t))=φc' (nm (np+t)):=λt ht=>by
   have:nm (nx+t)∈NN:=(memN _).2 ⟨t,ht,rfl⟩;simp only[φ',this,bG,dU];rw[show nx+t-nx=t from by omega]
  have φ'_old:∀n,n∉NN->φ' n=φ n:=λn hn=>by simp only[φ',hn,dP]
  have loN:∀i,i<nx->nm i∉NN:=λi hi hn=>by
   obtain⟨t,_,e⟩:=(memN _).1 hn;have:=kY e;omega
  have φ'_g:∀i,i<nq->φ' (nm (g i))=φc' (nm i):=λi hi=>by
   by_cases hip:i<np
   .rw[glo i hip,φ'_old _ (loN _ (gnx i hip)),hnm i (by rw[hnp];exact hip),ZL (by rw[hnp];exact hip)]
   .rw[ghi i (by omega),φ'_new _ (by omega),show np+(i-np)=i from by omega]
  have hsub:∀n k,φ n=M k->φ' n=M k:=λn k hk=>by
   by_cases hn:n∈NN
   .rw[hN n hn]at hk;cases hk
   .rw[φ'_old n hn];exact hk
  let F:HF:=eV h' (S++FP m++NN) (bu h2)
  have F_g:∀i,i<nq->F (nm (g i))=bu h2 (nm (g i)):=λi hi=>by
   simp only[F,eV,(memW _).2 (.inl ⟨i,hi,rfl⟩),bG]
  have F_out:∀n,n∉S++FP m++NN->F n=h' n:=λn hn=>by simp only[F,eV,hn,dP]
  have from_:∀n b,F n=M b->(∃i bq yb,i<nq/\n=nm (g i)/\hq.get i=M bq/\jF hq bq=M yb/\b=yb.ren (HZ g))\/(h' n=M b/\Hv n=M b/\n∉S/\n∉NN/\φ' n=φ n):=λn b hb=>by
   by_cases hn:n∈S++FP m++NN
   .rcases (memW n).1 hn with ⟨i,hi,rfl⟩|hs
    .rw[F_g i hi]at hb;obtain⟨bq,yb,s,U,q3⟩:=er2' i hi b hb;exact .inl ⟨i,bq,yb,hi,rfl,s,U,q3⟩
    .obtain⟨i,rfl,hi⟩:=n_.1 hs;have:F (nm i)=bu h2 (nm i):=by simp only[F,eV,hn,bG]
     rw[this,dead2 i hi]at hb;cases hb
   .rw[F_out n hn]at hb;have h1:n∉S++FP m:=λhh=>hn (lA _ hh)
    have L:n∉NN:=λhh=>hn (nP _ hh)
    exact .inr ⟨hb,by rw[Hv_out n h1];exact hb,λhh=>h1 (lA _ hh),L,φ'_old n L⟩
  have own':∀k,own φ' F k->own φc' (bu hq) k\/∃n b,Hv n=M b/\n∉S/\φ n=M k:=by
   rintro k ⟨n,b,h1,L⟩;rcases from_ n b h1 with ⟨i,bq,yb,hi,rfl,s,U,_⟩|⟨_,U,q3,_,q5⟩
   .rw[φ'_g i hi]at L;exact .inl ⟨nm i,yb,by rw[bF,s];exact U,L⟩
   .exact .inr ⟨n,b,U,q3,by rw[<- q5];exact L⟩
  have mv:ji φ φ' h' F w w':=by
   refine ⟨hsub,hext.mono λk hk=>hd.own (T.own_ k hk),λk hk ho=>?_⟩;rcases own' k ho with h1|⟨n,b,h1,_,L⟩
   .exact hd.own (T.own_ k (hown k hk h1))
   .exact hd.own ⟨n,b,h1,L⟩
  have tot':∀k,tot E φ' F k->tot E' φc' (bu hq) k:=by
   rintro k (h1|h1)
   .exact .inl (.inl h1)
   .rcases own' k h1 with L|L
    .exact .inr L
    .exact .inl (.inr L)
  let φr:PM:=λn=>if WE nq n then φc' n else D
  have rel_r:∀x v,x.all (WE nq)=J->cN φc' (tot E' φc' (bu hq)) w' x v->cN φr (tot E φ' F) w' x v:=λx v hx hr=>
   hr.restrict (λi k hi hk=>by simp only[φr,hi,bG];exact hk) tot' hx
  have rel_g:∀x v,cN φr (tot E φ' F) w' x v->cN φ' (tot E φ' F) w' (x.ren (HZ g)) v:=λx v hr=>
   hr.renTo λn k hk=>by
    simp only[φr]at hk;split at hk
    .rename_i hpn;obtain⟨i,hi,rfl⟩:=aa2 hpn;rw[xH,φ'_g i hi];exact hk
    .cases hk
  have hnqJ:=hnq;refine ⟨v,φ',rfl,mv,λn k hk=>?_,?_,?_⟩
  .by_cases hn:n∈NN
   .exact .inr hn
   .rw[φ'_old n hn]at hk;exact .inl hk
  .refine ⟨λn n' b b' k h1 L h4 h5=>?_,λn b h1=>?_,λk hk=>dD (hrep.el k hk) mv.ext.size,λg' cells hg=>mv.keepF (hrep.gl g' cells hg)⟩
   .rcases from_ n b h1 with ⟨i,bq,yb,hi,rfl,s,U,_⟩|⟨s,U,q3,_,q5⟩
    .rw[φ'_g i hi]at h4;have hqi:bu hq (nm i)=M yb:=by rw[bF,s];exact U
     rcases from_ n' b' L with ⟨j,bj,yj,hj,rfl,t1,t2,_⟩|⟨t1,t2,t3,_,t5⟩
     .rw[φ'_g j hj]at h5;have:=rp.inj _ _ _ _ k hqi (by rw[bF,t1];exact t2) h4 h5;rw[kY this]
     .exfalso;obtain⟨k',p1,p2,_⟩:=rp.at_ _ _ hqi;rw[h4]at p1;cases p1;exact p2 (.inr ⟨n',b',t2,t3,by rw[<- t5];exact h5⟩)
    .rcases from_ n' b' L with ⟨j,bj,yj,hj,rfl,t1,t2,_⟩|⟨t1,t2,t3,_,t5⟩
     .exfalso;rw[φ'_g j hj]at h5;have hqj:bu hq (nm j)=M yj:=by rw[bF,t1];exact t2
      obtain⟨k',p1,p2,_⟩:=rp.at_ _ _ hqj;rw[h5]at p1;cases p1;exact p2 (.inr ⟨n,b,U,q3,by rw[<- q5];exact h4⟩)
     .exact hrep.inj n n' b b' k s t1 (by rw[<- q5];exact h4) (by rw[<- t5];exact h5)
   .rcases from_ n b h1 with ⟨i,bq,yb,hi,rfl,s,U,rfl⟩|⟨s,U,q3,_,q5⟩
    .have hqi:bu hq (nm i)=M yb:=by rw[bF,s];exact U
     obtain⟨k,p1,p2,ob,p3,p4⟩:=rp.at_ _ _ hqi;have hall:=H.blk_all s U;rw[hnq]at hall;exact⟨k,by rw[φ'_g i hi];exact p1,λhE=>p2 (.inl hE),ob,p3,(p4.restrict rel_r hall).renTo rel_g⟩
    .obtain⟨k,p1,p2,ob,p3,p4⟩:=hrep.at_ n b s;have hk:k<w.heap.size:=(cC.1 p3).1;refine ⟨k,hsub n k p1,p2,ob,?_,p4.mono λx v hr=>mv.keep hr⟩;rw[hext.blk k hk ?_]
     .exact p3
     .rintro⟨n',y',t1,t2⟩;obtain⟨i,hi,rfl,t3⟩:=xk t2;obtain⟨j,bb,e,t4,t5⟩:=jD t1;have:=kY e;subst this;have hi':i<np:=by rw[<- hnp];exact hi
      have hvi:Hv (nm (ip σ i))=M (y'.ren (HZ (ip σ))):=by
       rw[Hv_in _ (lA _ ((memS _).2 ⟨i,hi',rfl⟩)),bF,hv_at i bb ((B.at_ i bb).1 t4)];exact Dl rows_hp t5
      have:=hrepv.inj _ _ _ _ k hvi U t3 p1;exact q3 (by rw[<- this];exact (memS _).2 ⟨i,hi',rfl⟩)
  .have hall:(Ej lr).all (WE nq)=J:=ZU (by have:=r7 rs lr H.lt hlr;rwa [hnq]at this);show cN φ' (tot E φ' F) w' (Ej (AV.renL (HZ g) lr)) v;rw[ZT];exact rel_g _ _ (rel_r _ _ hall rv')
 have hrsg:cJ h2 (kN g rs)=M (AV.renL (HZ g) lr):=pa rows_hq rs lr hlr;refine ⟨⟨_,hOpT,λz Z=>?_,?_,λn hn=>?_,λn hn=>?_,λn hn=>?_⟩,rows2,inv2,by omega,λhs=>by cases hs⟩
 .rw[Wz hrsg]at Z;cases Z;rfl
 .funext n;unfold eV;split
  .rfl
  .rename_i hn;refine (kB hinv rows2 λi e=>?_).symm;subst e;rw[h2_ne i (λk hk e=>hn ((memW _).2 (.inl ⟨k,hk,by rw[e]⟩))),jg,ax];intro hb;exact hn ((memW _).2 (.inr (l7.2 hb)))
 .rw[bp];rcases bO.1 hn with hs|hs
  .obtain⟨i,hi,rfl⟩:=(memS n).1 hs;rw[dU,(sig _).2 ⟨i,hi,rfl⟩];rfl
  .obtain⟨i,rfl,hi⟩:=n_.1 hs;rw[dU,hi];simp
 .rw[bp,bp];rcases bO.1 hn with hs|hs
  .rcases bO.1 hs with hs|hs
   .obtain⟨i,hi,rfl⟩:=(memS n).1 hs;rw[dU,(sig _).2 ⟨i,hi,rfl⟩];rfl
   .obtain⟨i,rfl,hi⟩:=n_.1 hs;rw[dU,hi];simp
  .obtain⟨t,ht,rfl⟩:=(memN n).1 hs;rw[dU,aes.2 ⟨by omega,by omega⟩];simp
 .obtain⟨t,ht,rfl⟩:=(memN n).1 hn;rw[dU];omega
mutual
def FV.fl:FV->Bool
 |.raw _=>J
 |.agg l=>FV.flL l
 |.sl _ _=>af
 |.ptr _ _=>af
def FV.flL:Y FV->Bool
 |[]=>J
 |x::r=>x.fl&&FV.flL r
end
theorem Xe:∀{l:Y FV},FV.flL l=J->∀x∈l,x.fl=J
 |[],_,x,a=>by cases a
 |y::l,h,x,a=>by
  simp only[FV.flL,al]at h;rcases bk.1 a with rfl|a
  .exact h.1
  .exact Xe h.2 x a
theorem abk:∀{l:Y FV},(∀x∈l,x.fl=J)->FV.flL l=J
 |[],_=>rfl
 |y::l,h=>by simp only[FV.flL,al];exact⟨h y (by simp),abk λx a=>h x (by simp[a])⟩
theorem nM.flat {O O':Nat->Prop} {w w':World} {x:FV} {v:Value} (h:nM O w x v):x.fl=J->nM O' w' x v:=by
 induction h with
 |raw v=>intro _;exact .raw v
 |nil a c hc=>intro h;cases h
 |sl cells n c b off us hn hc hO hb hcl hu hr q=>intro h;cases h
 |ptr cells o b off us hO hb hcl hu hr q=>intro h;cases h
 |agg cells vs hl hcl hr q=>intro h;exact .agg cells vs hl hcl λj x v s hv=>q j x v s hv (Xe h x (aX s))
mutual
def AV.fl:AV->Bool
 |.f x=>x.fl
 |.emp=>J
 |.anyb=>J
 |.agg l=>AV.flL l
 |.tup l=>AV.flL l
 |.ptr _ _=>af
 |.sl _ _ _=>af
 |.row _ _ _=>af
 |.mp _=>af
 |.clo _ _=>af
def AV.flL:Y AV->Bool
 |[]=>J
 |x::r=>x.fl&&AV.flL r
end
theorem KV:∀{l:Y AV},AV.flL l=J->∀x∈l,x.fl=J
 |[],_,x,a=>by cases a
 |y::l,h,x,a=>by
  simp only[AV.flL,al]at h;rcases bk.1 a with rfl|a
  .exact h.1
  .exact KV h.2 x a
theorem XG:∀{l:Y AV},(∀x∈l,x.fl=J)->AV.flL l=J
 |[],_=>rfl
 |y::l,h=>by simp only[AV.flL,al];exact⟨h y (by simp),XG λx a=>h x (by simp[a])⟩
theorem cN.flat {φ φ':PM} {O O':Nat->Prop} {w w':World} {x:AV} {v:Value} (h:cN φ O w x v):x.fl=J->cN φ' O' w' x v:=by
 induction h with
 |f h=>intro hf;exact .f (h.flat hf)
 |ptr h=>intro hf;cases hf
 |sl h hn hc=>intro hf;cases hf
 |row h hn hc hsh=>intro hf;cases hf
 |emp=>intro _;exact .emp
 |anyb=>intro _;exact .anyb
 |mp h=>intro hf;cases hf
 |agg hl hcl hr c=>intro hf;exact .agg hl hcl λj x v a hv=>c j x v a hv (KV hf x (aX a))
 |tup hl hr c=>intro hf;exact .tup hl λj x v a hv=>c j x v a hv (KV hf x (aX a))
 |clo hl hr c=>intro hf;cases hf
mutual
theorem aj9 (γ:Nat->Nat):∀x:AV,x.fl=J->x.ren γ=x
 |.f x,_=>rfl
 |.emp,_=>rfl
 |.anyb,_=>rfl
 |.agg l,h=>by simp only[AV.ren];rw[H3 γ l h]
 |.tup l,h=>by simp only[AV.ren];rw[H3 γ l h]
 |.ptr _ _,h=>by cases h
 |.sl _ _ _,h=>by cases h
 |.row _ _ _,h=>by cases h
 |.mp _,h=>by cases h
 |.clo _ _,h=>by cases h
theorem H3 (γ:Nat->Nat):∀l:Y AV,AV.flL l=J->AV.renL γ l=l
 |[],_=>rfl
 |x::r,h=>by
  simp only[AV.flL,al]at h;rw[AV.renL,aj9 γ x h.1,H3 γ r h.2]
end
theorem At:∀(T:Ty),T.flat=J->∀x:T.den,∀y∈bT T x,y.fl=J
 |.int _,_,x,y,c=>by simp only[bT,aI]at c;subst c;rfl
 |.bool,_,x,y,c=>by simp only[bT,aI]at c;subst c;rfl
 |.str,_,x,y,c=>by simp only[bT,aI]at c;subst c;rfl
 |.sl _,h,x,y,c=>by cases h
 |.st t,h,x,y,c=>At t h x y c
 |.pr a b,h,x,y,c=>by
  simp only[Ty.flat,al]at h;simp only[bT,bO]at c;exact c.elim (At a h.1 x.1 y) (At b h.2 x.2 y)
 |.un,_,x,y,c=>by simp[bT]at c
 |.ex,h,_,_,_=>by cases h
 |.sm,h,_,_,_=>by cases h
theorem afh (T:Ty) (h:T.flat=J) (x:T.den):(gC T x).fl=J:=by
 cases a:T.one with
 |true=>
  have:=At T h x (gC T x) (by rw[(Do T x a).1];simp);exact this
 |false=>rw[qK T x a];exact abk (At T h x)
theorem Qe (a b:Ty):(spr a b).flat=(a.flat&&b.flat):=by
 cases a<;>cases b<;>simp[spr,G4,Ty.flat]
theorem IV {n:Nat}:∀{a b:Y TV},rH n (a++b)=J->rH n a=J/\rH n b=J
 |[],b,h=>⟨rfl,h⟩
 |x::r,b,h=>by
  simp only[fI,rH,al]at h ⊢;obtain⟨h1,h2⟩:=IV h.2;exact⟨⟨h.1,h1⟩,h2⟩
mutual
theorem aej {g:Nat->Nat} {h:bi}:∀(p:PV) (x:p.ty.den) (cs:Y TV) (l:Y AV),p.ty.flat=J->qa g p x=M cs->rH 0 cs=J->cJ h cs=M l->∀y∈l,y.fl=J
 |.d T,x,cs,l,hf,hp,_,hl,y,hy=>by
  have:=(mc h 40 T x cs hp).1;rw[hl]at this;cases this;obtain⟨q,hq,rfl⟩:=di.1 hy;exact At T hf x q hq
 |.ptr i q,x,cs,l,hf,hp,hlt,hl,y,hy=>by
  simp only[qa,ah]at hp;subst hp;simp[rH,Lz]at hlt
 |.csl i q z,x,cs,l,hf,hp,hlt,hl,y,hy=>by
  simp only[qa,ah]at hp;subst hp;simp[rH,Lz]at hlt
 |.clo q i z,x,cs,l,hf,hp,hlt,hl,y,hy=>by
  simp only[qa,ah]at hp;subst hp;simp[rH,Lz]at hlt
 |.row i,x,cs,l,hf,hp,hlt,hl,y,hy=>by
  simp only[qa,ah]at hp;subst hp;simp[rH,Lz]at hlt
 |.mp i,x,cs,l,hf,hp,hlt,hl,y,hy=>by
  simp only[qa,ah]at hp;subst hp;simp[rH,Lz]at hlt
 |.nil,x,cs,l,hf,hp,hlt,hl,y,hy=>by
  simp only[qa,ah]at hp;subst hp;simp only[cJ,ct,ah]at hl;subst hl;simp only[aI]at hy;subst hy;rfl
 |.emp,x,cs,l,hf,hp,hlt,hl,y,hy=>by
  simp only[qa,ah]at hp;subst hp;simp only[cJ,ct,ah]at hl;subst hl;simp only[aI]at hy;subst hy;rfl
 |.agg ps,x,cs,l,hf,hp,hlt,hl,y,hy=>Ix ps x cs l hf hp hlt hl y hy
theorem Ix {g:Nat->Nat} {h:bi}:∀(ps:Y PV) (x:(PV.tyL ps).den) (cs:Y TV) (l:Y AV),(PV.tyL ps).flat=J->qY g ps x=M cs->rH 0 cs=J->cJ h cs=M l->∀y∈l,y.fl=J
 |[],x,cs,l,hf,hp,hlt,hl,y,hy=>by
  simp only[qY,ah]at hp;subst hp;simp only[cJ,ah]at hl;subst hl;cases hy
 |p::ps,x,cs,l,hf,hp,hlt,hl,y,hy=>by
  simp only[PV.tyL]at hf;rw[Qe,al]at hf;simp only[qY]at hp;split at hp
  .rename_i a ha;split at hp
   .rename_i b hb;simp only[ah]at hp;subst hp;obtain⟨a',b',rfl,e1,e2⟩:=B' hl;have hsp:=IV hlt;rcases bO.1 hy with hy|hy
    .exact aej p _ a a' hf.1 ha hsp.1 e1 y hy
    .exact Ix ps _ b b' hf.2 hb hsp.2 e2 y hy
   .cases hp
  .cases hp
end
theorem aeh {g:Nat->Nat} {h:bi} {p:PV} {x:p.ty.den} {u:TV} {y:AV} (hf:p.ty.flat=J) (hp:tG g p x=M u) (hlt:Lz 0 u=J) (a:ct h u=M y):y.fl=J:=by
 cases p with
 |d T=>
  simp only[tG,ah]at hp;subst hp;simp only[ct,ah]at a;subst a;exact afh T hf x
 |agg ps=>
  simp only[tG]at hp;split at hp
  .rename_i l hl;simp only[ah]at hp;subst hp;simp only[ct]at a;split at a
   .rename_i s c;simp only[ah]at a;subst a;exact XG (Ix ps _ l s hf hl hlt c)
   .cases a
  .cases hp
 |ptr i q=>simp only[tG,ah]at hp;subst hp;simp[Lz]at hlt
 |csl i q z=>simp only[tG,ah]at hp;subst hp;simp[Lz]at hlt
 |row i=>simp only[tG,ah]at hp;subst hp;simp[Lz]at hlt
 |clo q i z=>simp only[tG,ah]at hp;subst hp;simp[Lz,rH]at hlt
 |mp i=>simp only[tG,ah]at hp;subst hp;simp[Lz]at hlt
 |nil=>simp only[tG,ah]at hp;subst hp;simp only[ct,ah]at a;subst a;rfl
 |emp=>simp only[tG,ah]at hp;subst hp;simp only[ct,ah]at a;subst a;rfl
theorem Qt {g:Nat->Nat} {h:bi}:∀(ps:Y PV) (x:(PV.tyL ps).den) (us:Y TV) (l:Y AV),(PV.tyL ps).flat=J->qh g ps x=M us->rH 0 us=J->cJ h us=M l->AV.flL l=J
 |[],x,us,l,hf,hp,hlt,hl=>by
  simp only[qh,ah]at hp;subst hp;simp only[cJ,ah]at hl;subst hl;rfl
 |p::ps,x,us,l,hf,hp,hlt,hl=>by
  simp only[PV.tyL]at hf;rw[Qe,al]at hf;simp only[qh]at hp;split at hp
  .rename_i a c;split at hp
   .rename_i b hb;simp only[ah]at hp;subst hp;obtain⟨y,l2,rfl,e1,e2⟩:=c4 hl;simp only[rH,al]at hlt;simp only[AV.flL,al];exact⟨aeh hf.1 c hlt.1 e1,Qt ps _ b l2 hf.2 hb hlt.2 e2⟩
   .cases hp
  .cases hp
theorem ae4:∀{l:Y AV},AV.flL l=J->(Ej l).fl=J
 |[],_=>rfl
 |[x],h=>by simp only[AV.flL,al]at h;exact h.1
 |x::y::r,h=>h
theorem afv {P:Program} {o:Oper} {e:iX} {h:bi} {nx:Nat} {f:FuncId} {c:cA} {l:Y TV} (hinv:mo h nx) (sp:pZ P f c) {x:c.pre.ty.den} {m:Nat} {σ:PT Nat} {sm:Nat} (B:Ia 0 c.pre l h x m σ sm) {vs:Y TV} {hp:bi} {l1:Y (I iu)} (A:qR c.pre x vs hp l1) {y:c.post.ty.den} (hm:c.m x=M y) {rs:Y TV} {hq:bi} {l2:Y (I iu)} (H:qR c.post y rs hq l2) (hp0:c.pre.bs.length=0) (hq0:c.post.bs.length=0) (hfl:(PV.tyL c.post.vs).flat=J)
 (g:Nat->Nat) {la:Y AV} (hla:cJ h l=M la)
 (hexec:∀(φ:PM) (E:Nat->Prop) (h':HF) (w:World) (a:Act),(∀t,.tmp t∈o.op.operands->∀y,fM e h t=M y->cN φ (tot E φ h') w y (a.tmps.getD t undef))->re φ E h' w->∃us:ξ,(execOp a.eval o).run P w= .ok (.enter f us.toArray) w/\kh φ (tot E φ h') w la us):
 iW P o af e h nx (Qo (kN g rs)) m 0 h nx:=by
 obtain⟨Z,m1,x2,m2,hx,hmm,gv,gb⟩:=B.ex;have hmr:dS h m:=by rw[hmm];exact (HW _ _ _ _ gv).or (HY _ _ _ _ gb)
 have pvg:qh (ip σ) c.pre.vs Z=M (kN (ip σ) vs):=by
  have q:=tU (ip σ) c.pre.vs Z;have h4:=A.pv;rw[hx,tN]at h4;rw[q,h4];rfl
 obtain⟨lr,hlr⟩:=fd hq rs H.ok;obtain⟨U,hlp⟩:=fd hp vs A.ok;have hfl':AV.flL lr=J:=Qt c.post.vs _ rs lr hfl H.pv (by rw[<- hq0];exact H.lt) hlr;have hpe:∀i,hp.get i=D:=λi=>by
  cases hb:hp.get i with
  |none=>rfl
  |some b=>have:=A.lt_len hb;omega
 have hqe:∀i,hq.get i=D:=λi=>by
  cases hb:hq.get i with
  |none=>rfl
  |some b=>have:=H.lt_len hb;omega
 have rows_hp:∀i r,eH hp i=M r->eH (eB m h) (ip σ i)=M r:=λi r hr=>by rw[bS,hpe]at hr;cases hr
 have rows_hq:∀i r,eH hq i=M r->eH h (g i)=M r:=λi r hr=>by rw[bS,hqe]at hr;cases hr
 have rows_in:xW (eB m h) h:=λj r hr=>by
  rw[bS]at hr ⊢;rw[jg]at hr;split at hr
  .rename_i ht;obtain⟨ty,p,T,xs,hb⟩:=hmr j ht;rw[hb]at hr ⊢;exact hr
  .exact hr
 have hOpT:gP P o (fM e h) (bu h) ⟨Ej lr,FP m,[],λ_=>D,[]⟩:=by
  intro φ E h' w a hrd hwr hops hrep hN;obtain⟨us,hrun,hrel⟩:=hexec φ E h' w a hops hrep
  let Hv:HF:=λn=>if n∈FP m then D else h' n
  have Hv_in:∀n,n∈FP m->Hv n=D:=λn hn=>by simp only[Hv,hn,bG]
  have Hv_out:∀n,n∉FP m->Hv n=h' n:=λn hn=>by simp only[Hv,hn,dP]
  have hd:uV h' Hv:=λn b hb=>by
   by_cases hn:n∈FP m
   .rw[Hv_in n hn]at hb;cases hb
   .rw[Hv_out n hn]at hb;exact⟨b,hb⟩
  have gvv:Eh h h' Hv m:=λi hi=>⟨hrd _ (l7.2 hi),Hv_in _ (l7.2 hi)⟩
  have V:Ht h' Hv:=⟨hd,λn b b' hb s=>by
   by_cases hn:n∈FP m
   .rw[Hv_in n hn]at s;cases s
   .rw[Hv_out n hn,hb]at s;cases s;exact iN.refl hd b⟩
  have hrepv:=V.rep hrep;have hlpg:cJ (eB m h) (kN (ip σ) vs)=M (AV.renL (HZ (ip σ)) U):=pa rows_hp vs U hlp;have hrel1:kh φ (tot E φ Hv) w (AV.renL (HZ (ip σ)) U) us:=
   kh.le hrep (Df hd rows_in c.pre.vs l Z m1 _ la _ gv pvg hla hlpg (λi hi=>gvv i (by rw[hmm,bp,hi];rfl))) hrel
  let E':Nat->Prop:=λk=>E k\/∃n b,Hv n=M b/\φ n=M k
  have T:agb c.pre x vs hp (ip σ) φ E E' Hv w:=by
   refine re.toId A (λa b ha=>by omega) hrepv (λi b yb hb=>by rw[hpe]at hb;cases hb) ?_ (λi k b hi=>by omega) ?_
   .rintro k (hE|⟨n,b,h1,q⟩)
    .exact .inl hE
    .exact .inr ⟨n,b,h1,q⟩
   .rintro k (hE|⟨n,b,h1,q⟩)
    .exact hrepv.el k hE
    .obtain⟨k',L,_,ob,q3,_⟩:=hrepv.at_ n b h1;rw[q]at L;cases L;exact (cC.1 q3).1
  have hcalls:=sp.calls x y hm vs hp l1 rs hq l2 U lr A H hlp hlr (φ1 c.pre.bs.length (ip σ) φ) E' w us T.rep (kh.toId T.val (r7 vs U A.lt hlp) hrel1) (λn k hk=>by
   obtain⟨i,hi,rfl,_⟩:=xk hk;rw[dU];exact hi)
  unfold HC;rw[hrun];refine Calls.mono hcalls ?_;rintro en w' ⟨v,φc',rfl,hext,hown,hnm,rp,rv'⟩;have hno:∀k,¬own (φ1 c.pre.bs.length (ip σ) φ) (bu hp) k:=by
   rintro k ⟨n,b,h1,_⟩;obtain⟨i,bb,_,q,_⟩:=jD h1;rw[hpe]at q;cases q
  have mv:ji φ φ h' h' w w':=⟨λ_ _ h=>h,hext.mono λk hk=>bZ hk (hno k),λ_ _ h=>h⟩
  refine ⟨v,φ,rfl,?_,λ_ _ h=>.inl h,?_,?_⟩
  .rw[ua];exact mv
  .rw[ua];refine hrep.moved mv λk hk=>?_
   obtain⟨n,b,h1,q⟩:=hk;obtain⟨k',L,_,ob,q3,_⟩:=hrep.at_ n b h1;rw[q]at L;cases L;exact hext.blk k (cC.1 q3).1 (hno k)
  .exact rv'.flat (ae4 hfl')
 have hrsg:cJ h (kN g rs)=M (AV.renL (HZ g) lr):=pa rows_hq rs lr hlr;refine ⟨⟨_,hOpT,λz hz=>?_,?_,λn hn=>?_,by simp,by simp⟩,λ_ _ h=>h,hinv,bP _,λhs=>by cases hs⟩
 .rw[Wz hrsg,H3 _ lr hfl']at hz;cases hz;rfl
 .exact ua _ _
 .obtain⟨i,rfl,hi⟩:=n_.1 hn;rw[dU];exact hi
def cA.full (c:cA):cA:=⟨c.pre,⟨c.post.vs,c.pre.bs⟩,λx=>av (c.m x) λy=>M (Uq (PV.tyL c.post.vs) (PB.tyL c.pre.bs) (OO _ _ y) (Lp _ _ x))⟩
def aH (P:Program) (f:FuncId) (c:cA):Prop:=if eO c.pre.bs.length c.post.bs.length=J then pZ P f c else pZ P f c.full
theorem pZ.toC {P:Program} {f:FuncId} {c:cA} (h:pZ P f c) (hb:eO c.pre.bs.length c.post.bs.length=J):aH P f c:=by
 unfold aH;rw[aC hb];exact h
theorem aH.holds {P:Program} {f:FuncId} {c:cA} (h:aH P f c) (hb:eO c.pre.bs.length c.post.bs.length=J):pZ P f c:=by
 unfold aH at h;rw[aC hb]at h;exact h
theorem aev (a b:Ty) (z:(spr a b).den):Uq a b (OO a b z) (Lp a b z)=z:=by cases a<;>cases b<;>rfl
open Classical in
def roM {pre:Tm} {vs:Y PV} (m:pre.ty.den->I (Tm.ty ⟨vs,pre.bs⟩).den) (x:pre.ty.den):I (Tm.ty ⟨vs,[]⟩).den:=
 av (m x) λy=>if Lp (PV.tyL vs) (PB.tyL pre.bs) y=Lp _ _ x then M (Uq (PV.tyL vs) (PB.tyL []) (OO (PV.tyL vs) (PB.tyL pre.bs) y) ()) else D
theorem aH.ro {P:Program} {f:FuncId} {pre:Tm} {vs:Y PV} {m:pre.ty.den->I (Tm.ty ⟨vs,pre.bs⟩).den} {m':pre.ty.den->I (Tm.ty ⟨vs,[]⟩).den} (h:pZ P f ⟨pre,⟨vs,pre.bs⟩,m⟩) (hb:eO pre.bs.length 0=af) (hs:∀x y,m' x=M y->roM m x=M y):aH P f ⟨pre,⟨vs,[]⟩,m'⟩:=by
 unfold aH;rw[ax (by show ¬eO pre.bs.length 0=J;rw[hb];exact Bool.false_ne_true)];refine ⟨h.callable,λx y hxy=>?_⟩;refine h.calls x y ?_;have hxy:av (m' x) (λy=>M (Uq (PV.tyL vs) (PB.tyL pre.bs) (OO (PV.tyL vs) (PB.tyL []) y) (Lp _ _ x)))=M y:=hxy;obtain⟨z,s,hzy⟩:=dK hxy;have h1:=hs x z s;unfold roM at h1;obtain⟨y0,c,h2⟩:=dK h1;split at h2
 .rename_i heq;have h2:=j9 h2;have hzy:=j9 hzy;subst h2;have a:Uq (PV.tyL vs) (PB.tyL pre.bs) (OO (PV.tyL vs) (PB.tyL pre.bs) y0) (Lp (PV.tyL pre.vs) (PB.tyL pre.bs) x)=y:=(gR (λq=>Uq (PV.tyL vs) (PB.tyL pre.bs) q (Lp (PV.tyL pre.vs) (PB.tyL pre.bs) x)) (tN (PV.tyL vs) (PB.tyL []) _ ()).symm).trans hzy;rw[<- heq]at a;have:=(aev (PV.tyL vs) (PB.tyL pre.bs) y0).symm.trans a;exact c.trans (gR M this)
 .cases h2
theorem iW.drop {P:Program} {o:Oper} {e:iX} {h h':bi} {nx nx':Nat} {v:TV} {rd wr W wr':Nat} (t:iW P o af e h nx v rd wr h' nx') (hW:∀i,aM W i=J->bu h' (nm i)=bu h (nm i)/\aM rd i=J) (s:∀i,aM wr i=J->aM W i=J\/aM wr' i=J):iW P o af e h nx v rd wr' h' nx':=by
 obtain⟨⟨f,h1,h2,q,Z,U,L⟩,r,i,g,st⟩:=t;have hs:∀n,aM W (ow n)=J->bu h' n=bu h n:=λn hn=>by
  by_cases c:∃i,n=nm i
  .obtain⟨i,rfl⟩:=c;rw[dU]at hn;exact (hW i hn).1
  .rw[wN h c,wN h' c]
 have hup:∀H:HF,(∀n∈f.wr,H n=bu h n)->eV H (f.wr.filter λn=> !(aM W (ow n))) f.nw=eV H f.wr f.nw:=λH A=>by
  funext n;unfold eV;by_cases hn:n∈f.wr
  .by_cases hb:aM W (ow n)=J
   .rw[ax (by simp[hb]),aC hn];have:=congrFun q n;unfold eV at this;rw[aC hn,hs n hb]at this;rw[this,A n hn]
   .rw[aC (by simp[hn,hb]),aC hn]
  .rw[ax (by simp[hn]),ax hn]
 refine ⟨⟨⟨f.val,f.rd++(f.wr.filter λn=>aM W (ow n)),f.wr.filter λn=> !(aM W (ow n)),f.nw,f.N⟩,?_,h2,?_,λn hn=>?_,λn hn=>?_,L⟩,r,i,g,λhs=>by cases hs⟩
 .intro φ E H w a hrd hwr hops hrep z;have k1:∀i∈f.rd,H i=bu h i:=λi hi=>hrd i (lA _ hi)
  have k2:∀i∈f.wr,H i=bu h i:=λi hi=>by
   cases hb:aM W (ow i) with
   |true=>exact hrd i (nP _ (by simp[hi,hb]))
   |false=>exact hwr i (by simp[hi,hb])
  have:=h1 φ E H w a k1 k2 hops hrep z;simp only[hup H k2];exact this
 .simp only[hup (bu h) (λ_ _=>rfl)];exact q
 .rcases bO.1 hn with hn|hn
  .exact Z n hn
  .simp only[FF]at hn;exact (hW _ hn.2).2
 .simp only[FF,cW]at hn;rcases s _ (U n hn.1) with hh|hh
  .rw[hn.2]at hh;cases hh
  .exact hh
mutual
theorem aak {n n':Nat} (hle:n<=n'):∀(v:TV),Lz n v=J->Lz n' v=J
 |.row id,h=>by simp only[Lz,Nat.blt_eq]at h ⊢;omega
 |.rtl id _,h=>by simp only[Lz,Nat.blt_eq]at h ⊢;omega
 |.pel id _ _ _,h=>by simp only[Lz,Nat.blt_eq]at h ⊢;omega
 |.ptr id _,h=>by simp only[Lz,Nat.blt_eq]at h ⊢;omega
 |.csl id _ _,h=>by simp only[Lz,Nat.blt_eq]at h ⊢;omega
 |.mp id,h=>by simp only[Lz,Nat.blt_eq]at h ⊢;omega
 |.agg l,h=>wD hle l h
 |.tup l,h=>wD hle l h
 |.clo _ l,h=>wD hle l h
 |.f _ _,_=>rfl
 |.fel _ _ _ _ _,_=>rfl
 |.emp,_=>rfl
 |.nil,_=>rfl
 |.undef,_=>rfl
 |.np,_=>rfl
 |.anyb,_=>rfl
theorem wD {n n':Nat} (hle:n<=n'):∀(l:Y TV),rH n l=J->rH n' l=J
 |[],_=>rfl
 |x::r,h=>by
  simp only[rH,al]at h ⊢;exact⟨aak hle x h.1,wD hle r h.2⟩
end
theorem M1 {g g':Nat->Nat} {h:bi}:∀(bs:Y PB) (i:Nat) (x:(PB.tyL bs).den) (m:Nat),H9 bs=J->A_ g h i bs=M (x,m)->∃l,oK g' bs x=M l/\l.length=bs.length/\∀j,j<bs.length->∃ty p T xs,l[j]? =M (M (.rows ty p T xs))/\h.get (g (i+j))=M (.rows ty p T xs)
 |[],i,x,m,_,hg=>⟨[],rfl,rfl,λj hj=>by simp at hj⟩
 |.rows ty p T::r,i,x,m,q,hg=>by
  simp only[A_]at hg;split at hg
  .rename_i A m1 h1;split at hg
   .rename_i s m2 h2;simp only[ah,aD]at hg;obtain⟨rfl,rfl⟩:=hg;obtain⟨l,q1,Z,q3⟩:=M1 (g:=g) (g':=g') (h:=h) r (i+1) s m2 q h2;simp only[E5]at h1;split at h1
    .rename_i ty' p' S xs hb;split at h1
     .rename_i hc;simp only[al,cV]at hc;obtain⟨rfl,rfl⟩:=hc;split at h1
      .rename_i z hz;simp only[ah]at h1;obtain⟨rfl,_⟩:=h1;obtain⟨es,ez⟩:=ir hz;cases es;subst ez;refine ⟨M (.rows ty p T A)::l,?_,by simp[Z],λj hj=>?_⟩
       .simp only[oK];rw[tN,u_,q1];rfl
       .cases j with
        |zero=>exact⟨ty,p,T,_,rfl,hb⟩
        |succ j=>
         obtain⟨a,b,c,d,U,L⟩:=q3 j (by simpa using hj);exact⟨a,b,c,d,by simpa using U,by rw[show i+(j+1)=i+1+j from by omega];exact L⟩
      .cases h1
     .cases h1
    .cases h1
   .cases hg
  .cases hg
 |.rowsP _ _::r,i,x,m,q,hg=>by cases q
 |.cells _ _::r,i,x,m,q,hg=>by cases q
 |.mp _ _::r,i,x,m,q,hg=>by cases q
 |.gone::r,i,x,m,q,hg=>by cases q
theorem FO:∀{bs:Y PB},H9 bs=J->BQ bs=J
 |[],_=>rfl
 |.rows _ _ _::r,h=>FO (bs:=r) h
 |.rowsP _ _::r,h=>by cases h
 |.cells _ _::r,h=>by cases h
 |.mp _ _::r,h=>by cases h
 |.gone::r,h=>by cases h
theorem FJ {h h2:bi} {g:Nat->Nat}:∀(n:Nat),(∀i,i<n->h2.get (g i)=h.get (g i))->ub h h2 g n=J
 |0,_=>rfl
 |n+1,hs=>by
  simp only[ub,al];refine ⟨?_,FJ n λi hi=>hs i (by omega)⟩;have:eH h2 (g n)=eH h (g n):=by rw[bS,bS,hs n (by omega)]
  rw[this];cases eH h (g n) with
  |none=>rfl
  |some q=>obtain⟨p,s,k⟩:=q;simp
def La (P:Program) (con:FuncId->I cA):Prop:=∀f c,con f=M c->aH P f c
theorem Xx {R:Type} {P:Program} {con:FuncId->I cA} (hcon:La P con) {o:Oper} {e:iX} {h:bi} {nx:Nat} {f:FuncId} {l:Y TV} {K:KO R} {r:R} (hinv:mo h nx) (hk:Xy con f l h nx K=M r) {la:Y AV} (hla:cJ h l=M la)
 (hexec:∀(φ:PM) (E:Nat->Prop) (h':HF) (w:World) (a:Act),Ec P f->(∀t,.tmp t∈o.op.operands->∀y,fM e h t=M y->cN φ (tot E φ h') w y (a.tmps.getD t undef))->re φ E h' w->∃us:ξ,(execOp a.eval o).run P w= .ok (.enter f us.toArray) w/\kh φ (tot E φ h') w la us):kW P o af e h nx K r:=by
 unfold Xy at hk;split at hk
 .rename_i c hc;have spc:=hcon f c hc;split at hk
  .rename_i x m σ sm hM;split at hk
   .rename_i q hq;obtain⟨vs,hp⟩:=q;obtain⟨l1,z⟩:=wG hq;obtain⟨y,hy,hk⟩:=dK hk;split at hk
    .rename_i q2 hq2;obtain⟨rs1,U⟩:=q2;obtain⟨l2,A⟩:=wG hq2;split at hk
     .rename_i hcond;simp only[al]at hcond;have hle:=a_ hcond.1;have sp:=spc.holds hcond.1;simp only at hk;split at hk
      .rename_i rs hrs;have hrs':=hrs;rw[tU,A.pv]at hrs';simp only[cj,ah]at hrs';split at hk
       .rename_i hb;simp only[al]at hb;have Z:=ar hb.1.2;refine ⟨_,_,_,_,_,hk,?_⟩;rw[<- hrs'];exact afv hinv sp (wA hM) z hy A (by omega) Z hb.2 _ hla λφ E h' w a=>hexec φ E h' w a sp.callable
       .split at hk
        .rename_i h2 s;obtain⟨hsr,hk⟩:=ec hk;refine ⟨_,_,_,_,_,hk,?_⟩;rw[<- hrs'];unfold MH at s;rw[v_,A.pb]at s;simp only[cj,ah]at s;exact ac3 hinv sp (wA hM) z hcond.2 hy A hle (λi hi=>by
          have:gx i c.pre.bs.length=J:=bD hi;simp only[this,bG]) (λi hi=>by
          have:gx i c.pre.bs.length=af:=by
           cases hb:gx i c.pre.bs.length with
           |false=>rfl
           |true=>have:=a_ hb;omega
          simp only[this];rfl) s.symm hsr hla λφ E h' w a=>hexec φ E h' w a sp.callable
        .cases hk
      .cases hk
     .rename_i hcond;split at hk
      .rename_i hro;simp only[al]at hro;have Z:=ar hro.1;have hng:=FO hro.2;have sp:pZ P f c.full:=by
        unfold aH at spc
        rwa [ax (λhb=>hcond (by rw[hb,hng];rfl))]at spc
       simp only at hk;split at hk
       .rename_i rs hrs;split at hk
        .rename_i h2 s;have hrs':=hrs;rw[tU,A.pv]at hrs';simp only[cj,ah]at hrs';refine ⟨_,_,_,_,_,hk,?_⟩;rw[<- hrs'];have B:=wA hM;unfold MH at s;rw[v_,z.pb]at s;simp only[cj,ah]at s;have hqe:∀i,U.get i=D:=λi=>by
          cases hb:U.get i with
          |none=>rfl
          |some b=>have:=A.lt_len hb;omega
         have J':qR c.full.post (Uq (PV.tyL c.post.vs) (PB.tyL c.pre.bs) (OO _ _ y) (Lp _ _ x)) rs1 hp l1:=
          ⟨by show qh HV c.post.vs (OO (PV.tyL c.post.vs) (PB.tyL c.pre.bs) _)=_;rw[tN];exact A.pv,by show oK HV c.pre.bs (Lp (PV.tyL c.post.vs) (PB.tyL c.pre.bs) _)=_;rw[u_];exact z.pb,z.len,z.at_,jd (λi r hr=>by rw[bS,hqe]at hr;cases hr) _ A.ok,wD (by omega) _ A.lt,z.cells⟩
         obtain⟨x1,m1,x2,m2,hx,hmm,gv,gb⟩:=B.ex;obtain⟨l,q1,q2,q3⟩:=M1 (g':=HV) c.pre.bs 0 x2 m2 hro.2 gb;have hl1:l1=l:=by
          have:=z.pb;rw[hx,u_,q1]at this;cases this;rfl
         subst hl1;have hgi:∀i,i<c.pre.bs.length->(if gx i c.pre.bs.length then ip σ i else nx+(i-c.pre.bs.length))=ip σ i:=λi hi=>by
          have:gx i c.pre.bs.length=J:=bD hi;simp only[this,bG]
         have hsame:∀i,i<c.pre.bs.length->h2.get (ip σ i)=h.get (ip σ i):=λi hi=>by
          obtain⟨ty,p,T,xs,w1,L⟩:=q3 i hi;rw[bI]at L;have:=vi (λi=>if gx i c.pre.bs.length then ip σ i else nx+(i-c.pre.bs.length)) (l1.map (me (lX (λi=>if gx i c.pre.bs.length then ip σ i else nx+(i-c.pre.bs.length))))) 0 (eB m h) (λa b ha hb e=>by
           simp only[bR,q2]at ha hb;rw[bI,bI,hgi a ha,hgi b hb]at e;exact B.inj a b ha hb e) i (M (.rows ty p T xs)) (by rw[ba,w1];rfl)
          rw[bI,hgi i hi]at this;rw[<- s,this,L]
         have t:=ac3 (o:=o) (e:=e) hinv sp B z hng (y:=Uq (PV.tyL c.post.vs) (PB.tyL c.pre.bs) (OO _ _ y) (Lp _ _ x)) (by show av (c.m x) _=_;rw[hy];rfl) J' (bP _) (g:=λi=>if gx i c.pre.bs.length then ip σ i else nx+(i-c.pre.bs.length)) hgi (λi hi=>by
          have:gx i c.pre.bs.length=af:=by
           cases hb:gx i c.pre.bs.length with
           |false=>rfl
           |true=>have:=a_ hb;have hi:c.pre.bs.length<=i:=hi;omega
          simp only[this];rfl) s.symm (FJ _ λi hi=>by rw[hgi i hi];exact hsame i hi) hla λφ E h' w a=>hexec φ E h' w a sp.callable
         have t':iW P o af e h nx (Qo (kN (λi=>if gx i c.pre.bs.length then ip σ i else nx+(i-c.pre.bs.length)) rs1)) (sm|||m) (sm|||m|||(((1<<<(c.pre.bs.length-c.pre.bs.length))-1)<<<nx)) h2 (nx+(c.pre.bs.length-c.pre.bs.length)):=t;rw[Nat.sub_self,c8]at t';refine t'.drop (W:=sm) (λi hi=>?_) (λi hi=>?_)
         .refine ⟨?_,by rw[bp,hi];rfl⟩;obtain⟨k,hk,rfl⟩:=(B.sig i).1 hi;obtain⟨ty,p,T,xs,_,L⟩:=q3 k hk;rw[bI]at L;rw[bF,bF,hsame k hk,L];rfl
         .simp only[Nat.shiftLeft_zero,Nat.sub_self,Nat.zero_shiftLeft,Nat.or_zero,bp,jb]at hi;exact hi
        .cases hk
       .cases hk
      .cases hk
    .cases hk
   .cases hk
  .cases hk
 .cases hk
theorem aio {R:Type} {P:Program} {con:FuncId->I cA} (hcon:La P con) {b9:TypeId->I Ty} {o:Oper} {e:iX} {h:bi} {nx:Nat} {i:SI} {K:KO R} {r:R} (hinv:mo h nx) (hi:tR e h) (hc:yE P o.op=i) (hk:dX con b9 i e h nx K=M r):kW P o i.still e h nx K r:=by
 have callOps:∀(c:Call),o.op= .call c->∀x,x∈c.operands->x∈o.op.operands:=λc A x L=>by rw[A];exact L
 cases i with
 |call f args=>
  simp only[dX]at hk;split at hk
  .rename_i l hl;have A:∃c:Call,o.op= .call c/\c.callee= .value (.func f)/\c.args.toList=args:=by
    unfold yE at hc;split at hc
    .rename_i i hi;subst hc;unfold Ps at hi;split at hi
     .rename_i c A;split at hi
      .rename_i g hg;simp only[ah,SI.call.injEq]at hi;exact⟨c,A,by rw[hg,hi.1],hi.2⟩
      .simp at hi
      .cases hi
     .cases hi
    .split at hc<;>cases hc
   obtain⟨c,A,h1,h2⟩:=A;obtain⟨la,g1,g2⟩:=y_ hi hl;refine Xx hcon hinv hk g2 λφ E h' w a hcb hops hrep=>?_
   have hp:Wd φ E h' w a (JE e h) o:=λx y L Z=>tO hrep (by rw[vp];exact hops) L Z
   refine ⟨args.map a.eval,?_,OV hp args la (λx L=>callOps c A x (by simp[eU,h1,<-h2]at L ⊢;exact .inr L)) g1⟩;unfold execOp;rw[A];have hm:c.args.map a.eval=(args.map a.eval).toArray:=by rw[<- h2];apply Lg;simp
   simp[resolve,h1,Act.eval,Deferred.ofValue,invoke,hm,xn hcb]
  .cases hk
 |callv x args=>
  simp only[dX]at hk;split at hk
  .rename_i f cap l L hl;have A:∃c:Call,o.op= .call c/\c.callee= .value x/\c.args.toList=args:=by
    unfold yE at hc;split at hc
    .rename_i i hi;subst hc;unfold Ps at hi;split at hi
     .rename_i c A;split at hi
      .simp at hi
      .rename_i g hg;simp only[ah,SI.callv.injEq]at hi;exact⟨c,A,by rw[hg,hi.1],hi.2⟩
      .cases hi
     .cases hi
    .split at hc<;>cases hc
   obtain⟨c,A,h1,h2⟩:=A;obtain⟨la,g1,g2⟩:=y_ hi hl;obtain⟨yx,g3,U⟩:=bJ hi L;simp only[ct]at U;split at U
   .rename_i lc hlc;simp only[ah]at U;subst U;refine Xx hcon hinv hk (nJ g2 hlc) λφ E h' w a hcb hops hrep=>?_
    have hp:Wd φ E h' w a (JE e h) o:=λx y L Z=>tO hrep (by rw[vp];exact hops) L Z
    have hxv:=hp x _ (callOps c A x (by simp[eU,h1])) g3;have hlv:=OV hp args la (λx L=>callOps c A x (by simp[eU,h1,<-h2]at L ⊢;exact .inr L)) g1;generalize hz:a.eval x=z at hxv;cases hxv with
    |@clo _ _ vs hvl hvr=>
     refine ⟨args.map a.eval++vs,?_,hlv.append (kh.of hvl hvr)⟩;unfold execOp;rw[A];have hm:c.args.map a.eval=(args.map a.eval).toArray:=by rw[<- h2];apply Lg;simp
     simp[resolve,h1,hz,Deferred.ofValue,invoke,hm,xn hcb]
   .cases U
  .cases hk
 |op s=>
  have hc:s= .bad\/dw P o.op=M s:=by
   unfold yE at hc;split at hc
   .rename_i i hi;subst hc;unfold Ps at hi;split at hi
    .split at hi<;>simp at hi
    .cases hi
   .split at hc
    .rename_i q hq;simp only[SI.op.injEq]at hc;subst hc;exact .inr hq
    .simp only[SI.op.injEq]at hc;exact .inl hc.symm
  rcases hc with rfl|hc
  .simp[dX]at hk
  .exact K_op hinv hi hc hk
def gi (am:Nat) (e e':iX):Prop:=∀k,aM am k=af->∀a,e'.get k=M a->∃v,e.get k=M v/\(ut v=J->a=v)
theorem gi.refl (am:Nat) (e:iX):gi am e e:=λ_ _ a h=>⟨a,h,λ_=>rfl⟩
theorem gi.trans {am:Nat} {a b c:iX} (h1:gi am a b) (h2:gi am b c):gi am a c:=λk hk s hv=>by
 obtain⟨q,U,L⟩:=h2 k hk s hv;obtain⟨v,A,z⟩:=h1 k hk q U;refine ⟨v,A,λhf=>?_⟩;have:=z hf;subst this;exact L hf
theorem gi.mono {am am':Nat} {a b:iX} (h:gi am a b) (hm:∀k,aM am k=J->aM am' k=J):gi am' a b:=λk hk=>h k (by
 cases c:aM am k with
 |false=>rfl
 |true=>rw[hm k c]at hk;cases hk)
structure acr (P:Program) (ops:Array Oper) (rest:List Oper) (sl:List sO) (am:Nat) (s s':TS) (fs:List FPm) (l:List (Oper×Bz)):Prop where
 ops_:l.map (·.1)=rest
 chain:Ac P ops l (fM s.e s.h) (bu s.h) (fM s'.e s'.h) (bu s'.h)
 fsl:fs.length=l.length
 sll:sl.length=l.length
 fp:∀(j:Nat) o f q,l[j]? =M (o,f)->fs[j]? =M q->(∀n∈f.rd,aM q.rd (ow n)=J)/\∀n∈f.wr,aM q.wr (ow n)=J
 still:∀(j:Nat) o f so,l[j]? =M (o,f)->sl[j]? =M so->so.op.still=J->f.rd=[]/\f.wr=[]
 names:∀(j:Nat) o f,l[j]? =M (o,f)->∀n∈f.N,s.nx<=ow n/\ow n<s'.nx
 apart_:∀(i j:Nat) oi fi oj fj,i<j->l[i]? =M (oi,fi)->l[j]? =M (oj,fj)->∀n∈fi.N,n∉fj.N
 grows:s.nx<=s'.nx
 invH:mo s'.h s'.nx
 invE:tR s'.e s'.h
 keeps:gi am s.e s'.e
theorem aei {e:iX} {h h':bi} (hi:tR e h) (hr:b_ h h') (d:I Nat) {v:TV} {y:AV} (hv:ct h' v=M y):CL (fM e h) d y=fM (Et e d v) h':=by
 funext t;have old:(e.get t).bind (ct h)=(e.get t).bind (ct h'):=by
  cases ht:e.get t with
  |none=>rfl
  |some x=>
   obtain⟨z,a⟩:=ph h x (hi t x ht);simp only[aF,a,gr hr x z a]
 cases d with
 |none=>simp only[CL,Et,fM];rw[ax (by simp)];exact old
 |some d=>
  simp only[CL,Et,fM,PT.get_set,ah];by_cases hd:d=t
  .subst hd;simp[hv]
  .rw[ax hd,ax (λe=>hd e.symm)];exact old
theorem tR.put {e:iX} {h h':bi} (hi:tR e h) (hr:b_ h h') (d:I Nat) {v:TV} (hv:Lx h' v=J):tR (Et e d v) h':=λt x a=>by
 cases d with
 |none=>exact mY hr x (hi t x a)
 |some d=>
  simp only[Et,PT.get_set]at a;split at a
  .cases a;exact hv
  .exact mY hr x (hi t x a)
theorem Ry {e:iX} {h:bi} {t:Nat} {v:TV} (ht:e.get t=M v):fM (e.set t (M v)) h=fM e h:=by
 funext k;simp only[fM,PT.get_set];by_cases hk:k=t
 .subst hk;simp[ht]
 .rw[ax hk]
theorem tR.set {e:iX} {h:bi} {t:Nat} {v:TV} (hi:tR e h) (ht:e.get t=M v):tR (e.set t (M v)) h:=λk x a=>by
 rw[PT.get_set]at a;split at a
 .rename_i hk;subst hk;cases a;exact hi _ _ ht
 .exact hi k x a
theorem TO {R:Type} {e:iX} {g:I (Nat×Bool)} {K:Bool->iX->I R} {r:R} (h:ZO e g K=M r):
 (g=D/\K J e=M r)\/(∃t want b,g=M (t,want)/\e.get t=M (.f .bool b)/\K (b==want) (e.set t (M (.f .bool b)))=M r)\/∃t want,g=M (t,want)/\e.get t=M .undef/\K af e=M r:=by
 unfold ZO at h;split at h
 .exact .inl ⟨rfl,h⟩
 .rename_i t want;split at h
  .rename_i b hb;refine .inr (.inl ⟨t,want,b,rfl,hb,?_⟩);cases want with
   |true=>rcases pH h with ⟨rfl,h⟩|⟨rfl,h⟩<;>exact h
   |false=>rcases pH h with ⟨rfl,h⟩|⟨rfl,h⟩<;>exact h
  .rename_i hb;exact .inr (.inr ⟨t,want,rfl,hb,h⟩)
  .cases h
theorem IA {R:Type} {P:Program} {con:FuncId->I cA} (hcon:La P con) {b9:TypeId->I Ty} {ops:Array Oper} {am:Nat} (ham:∀(j:Nat) (o:Oper) (d:Nat),ops[j]? =M o->o.dst=M d->aM am d=J):
 ∀(rest:Y Oper) (sl:Y sO) (s:TS) (fs:Y FPm) (K:TS->Y FPm->I R) (r:R),(∀o∈rest,∃j:Nat,ops[j]? =M o)->sj P ops rest=M sl->Lu con b9 sl s fs K=M r->mo s.h s.nx->tR s.e s.h->∃s' fs' l,K s' (fs.reverse++fs')=M r/\acr P ops rest sl am s s' fs' l
 |[],sl,s,fs,K,r,hin,hc,hk,hH,z=>by
  simp only[sj,ah]at hc;subst hc;simp only[Lu]at hk;exact⟨s,[],[],by simpa using hk,rfl,.nil _ _,rfl,rfl,by simp,by simp,by simp,by simp,bP _,hH,z,gi.refl _ _⟩
 |o::rest,sl,s,fs,K,r,hin,hc,hk,hH,z=>by
  simp only[sj]at hc;split at hc
  .rename_i sl' hsl';have hso:∃g,sl=⟨o.dst,yE P o.op,g⟩::sl'/\((g=D/\o.guard=D)\/∃j want t,g=M (t,want)/\o.guard=M (j,want)/\(ops[j]?).bind (·.dst)=M t):=by
    split at hc
    .rename_i hg;simp only[ah]at hc;exact⟨D,hc.symm,.inl ⟨rfl,hg⟩⟩
    .rename_i j want hg;split at hc
     .rename_i t ht;simp only[ah]at hc;exact⟨M (t,want),hc.symm,.inr ⟨j,want,t,rfl,hg,ht⟩⟩
     .cases hc
   obtain⟨g,rfl,hg⟩:=hso;simp only[Lu]at hk;have hdst:∀d,o.dst=M d->aM am d=J:=λd hd=>by
    obtain⟨j,hj⟩:=hin o (cQ ..);exact ham j o d hj hd
   have hgs:∀t want,g=M (t,want)->aM am t=J:=λt want hgt=>by
    rcases hg with ⟨h1,_⟩|⟨j,want',t',h1,_,a⟩
    .rw[h1]at hgt;cases hgt
    .rw[h1]at hgt;cases hgt;cases hj:ops[j]? with
     |none=>rw[hj]at a;cases a
     |some oj=>rw[hj]at a;exact ham j oj t hj a
   have kput:∀(e:iX) (v:TV),gi am s.e e->gi am s.e (Et e o.dst v):=λe v hke k hk v' hv=>by
    cases hd:o.dst with
    |none=>rw[hd]at hv;exact hke k hk v' hv
    |some d=>
     rw[hd]at hv;simp only[Et,PT.get_set]at hv;split at hv
     .rename_i e2;rw[e2,hdst d hd]at hk;cases hk
     .exact hke k hk v' hv
   have done:∀(f:Bz) (v:TV) (h':bi) (nx' rd wr:Nat) (e:iX),fM e s.h=fM s.e s.h->tR e s.h->gi am s.e e->KW P ops o f (fM s.e s.h) (bu s.h)->(∃y,ct h' v=M y/\f.val=y)->eV (bu s.h) f.wr f.nw=bu h'->(∀n∈f.rd,aM rd (ow n)=J)->(∀n∈f.wr,aM wr (ow n)=J)->(∀n∈f.N,s.nx<=ow n/\ow n<nx')->b_ s.h h'->mo h' nx'->s.nx<=nx'->((yE P o.op).still=J->f.rd=[]/\f.wr=[])->
    Lu con b9 sl' ⟨Et e o.dst v,h',nx'⟩ (⟨rd,wr⟩::fs) K=M r->∃s' fs' l,K s' (fs.reverse++fs')=M r/\acr P ops (o::rest) (⟨o.dst,yE P o.op,g⟩::sl') am s s' fs' l:=by
    intro f v h' nx' rd wr e hee hiE hke hst hval hheap hrd hwr hN hrows hinv' hgr hstill hrun;obtain⟨y,A,hy2⟩:=hval;obtain⟨s',fs',l,c,L⟩:=IA hcon ham rest sl' _ _ K r (λo' ho'=>hin o' (bV _ ho')) hsl' hrun hinv' (hiE.put hrows o.dst (Fb _ _ _ A));have hg2:nx'<=s'.nx:=L.grows;refine ⟨s',⟨rd,wr⟩::fs',(o,f)::l,by simpa using c,by simp[L.ops_],.cons hst ?_,by simp[L.fsl],by simp[L.sll],?_,?_,?_,?_,dy hgr hg2,L.invH,L.invE,(kput e v hke).trans L.keeps⟩
    .have e1:CL (fM s.e s.h) o.dst f.val=fM (Et e o.dst v) h':=by rw[<- hee,hy2];exact aei hiE hrows o.dst A
     rw[e1,hheap];exact L.chain
    .intro j o' f' q' h1 h2;cases j with
     |zero=>simp at h1 h2;obtain⟨rfl,rfl⟩:=h1;subst h2;exact⟨hrd,hwr⟩
     |succ j=>exact L.fp j o' f' q' (by simpa using h1) (by simpa using h2)
    .intro j o' f' so h1 h2 a;cases j with
     |zero=>simp at h1 h2;obtain⟨rfl,rfl⟩:=h1;subst h2;exact hstill a
     |succ j=>exact L.still j o' f' so (by simpa using h1) (by simpa using h2) a
    .intro j o' f' h1 n hn;cases j with
     |zero=>
      simp at h1;obtain⟨rfl,rfl⟩:=h1;have:=hN n hn;exact⟨this.1,by omega⟩
     |succ j=>
      have:=L.names j o' f' (by simpa using h1) n hn;exact⟨dy hgr this.1,this.2⟩
    .intro i j oi fi oj fj hij h1 h2 n hn U;cases j with
     |zero=>omega
     |succ j=>
      have hj:=L.names j oj fj (by simpa using h2) n U;cases i with
      |zero=>
       simp at h1;obtain⟨rfl,rfl⟩:=h1;have a:=(hN n hn).2;have Z:nx'<=ow n:=hj.1;omega
      |succ i=>exact L.apart_ i j oi fi oj fj (by omega) (by simpa using h1) (by simpa using h2) n hn U
   have runs:∀(e:iX),fM e s.h=fM s.e s.h->tR e s.h->gi am s.e e->(∀f,gP P o (fM s.e s.h) (bu s.h) f->KW P ops o f (fM s.e s.h) (bu s.h))->dX con b9 (yE P o.op) e s.h s.nx (λv rd wr h nx=>if Lx h v then Lu con b9 sl' ⟨Et e o.dst v,h,nx⟩ (⟨rd,wr⟩::fs) K else D)=M r->∃s' fs' l,K s' (fs.reverse++fs')=M r/\acr P ops (o::rest) (⟨o.dst,yE P o.op,g⟩::sl') am s s' fs' l:=by
    intro e hee hiE hke hstep hk;obtain⟨v,rd,wr,h',nx',c,T⟩:=aio hcon hH hiE rfl hk;simp only[]at c;split at c
    .rename_i hok;obtain⟨f,t1,t2,t3,t4,t5,t6⟩:=T.ex;rw[hee]at t1;obtain⟨y,hy⟩:=ph h' v hok;refine done f v h' nx' rd wr e hee hiE hke (hstep f t1) ⟨y,hy,t2 y hy⟩ t3 t4 t5 t6 T.rows T.inv T.grows (λhs=>?_) c;obtain⟨r0,w0⟩:=T.st hs;subst r0;subst w0;constructor
     .cases hl:f.rd with
      |nil=>rfl
      |cons n q=>have:=t4 n (by rw[hl];simp);simp at this
     .cases hl:f.wr with
      |nil=>rfl
      |cons n q=>have:=t5 n (by rw[hl];simp);simp at this
    .cases c
   have skips:∀(e:iX),fM e s.h=fM s.e s.h->tR e s.h->gi am s.e e->KW P ops o rX (fM s.e s.h) (bu s.h)->Lu con b9 sl' ⟨Et e o.dst .undef,s.h,s.nx⟩ (⟨0,0⟩::fs) K=M r->∃s' fs' l,K s' (fs.reverse++fs')=M r/\acr P ops (o::rest) (⟨o.dst,yE P o.op,g⟩::sl') am s s' fs' l:=by
    intro e hee hiE hke hstep hk;exact done rX .undef s.h s.nx 0 0 e hee hiE hke hstep ⟨_,rfl,rfl⟩ (by funext i;simp[eV,rX]) (by simp[rX]) (by simp[rX]) (by simp[rX]) (b_.refl _) hH (bP _) (λ_=>⟨rfl,rfl⟩) hk
   rcases TO hk with ⟨h1,hk⟩|⟨t,want,b,h1,hb,hk⟩|⟨t,want,h1,hb,hk⟩
   .refine runs s.e rfl z (gi.refl _ _) (λf hf=>?_) hk;rcases hg with ⟨_,hg⟩|⟨j,want,t,h2,_,_⟩
    .exact .run hg hf
    .rw[h1]at h2;cases h2
   .rcases hg with ⟨h2,_⟩|⟨j,want',t',h2,a,Z⟩
    .rw[h1]at h2;cases h2
    .rw[h1]at h2;cases h2;have hgt:=hgs t want h1;have heb:fM s.e s.h t=M (.f (.raw (.bool b))):=by simp only[fM,hb,aF,ct];rfl
     have hke:gi am s.e (s.e.set t (M (.f .bool b))):=λk hk v' hv=>by
      rw[PT.get_set]at hv;split at hv
      .rename_i ek;rw[ek,hgt]at hk;cases hk
      .exact⟨v',hv,λ_=>rfl⟩
     cases hbw:(b==want) with
     |true=>
      rw[hbw]at hk;have:b=want:=by simpa using hbw
      subst this;exact runs _ (Ry hb) (z.set hb) hke (λf hf=>.runG j t b a Z heb hf) hk
     |false=>
      rw[hbw]at hk;refine skips _ (Ry hb) (z.set hb) hke (.skip j t want a Z (.bool b) heb ?_ rfl) hk;intro hv;cases hv;simp at hbw
   .rcases hg with ⟨h2,_⟩|⟨j,want',t',h2,a,Z⟩
    .rw[h1]at h2;cases h2
    .rw[h1]at h2;cases h2;exact skips _ rfl z (gi.refl _ _) (.skip j t want a Z undef (by simp only[fM,hb,aF,ct]) (by unfold undef;simp) rfl) hk
  .cases hc
theorem aer {P:Program} {ops:Array Oper} {sl:Y sO} {am:Nat} {s s':TS} {fs:Y FPm} {l:Y (Oper×Bz)} {prs:Y (Nat×Nat)} (hl:acr P ops ops.toList sl am s s' fs l) (hp:MI ops sl=M prs) (hok:FL fs prs=J):NIP ops l:=by
 unfold MI at hp;simp only[]at hp;split at hp
 .rename_i hall;simp only[gA,nN,al]at hall;simp only[ah]at hp;have hop:∀(j:Nat) o f,l[j]? =M (o,f)->ops[j]? =M o:=λj o f hj=>by
   have h1:(l.map (·.1))[j]? =M o:=by rw[ba,hj];rfl
   rw[hl.ops_]at h1;simpa using h1
  have hsize:∀(j:Nat) o,ops[j]? =M o->j<ops.size:=λj o h=>(cC.1 h).1
  have hprs:∀i j,(i,j)∈prs->∃a b,fs[i]? =M a/\fs[j]? =M b/\DK a.wr b.rd=J/\DK a.wr b.wr=J/\DK b.wr a.rd=J:=by
   clear hp hall;induction prs with
   |nil=>intro i j h;cases h
   |cons p prs ih=>
    obtain⟨i0,j0⟩:=p;simp only[FL,al,Xc]at hok;intro i j hm;rcases bk.1 hm with h|h
    .cases h;have h1:=hok.1;split at h1
     .rename_i a b U hb;simp only[al]at h1;exact⟨a,b,U,hb,h1.1.1,h1.1.2,h1.2⟩
     .cases h1
    .exact ih hok.2 i j h
  refine ⟨λj o Z e he hb=>?_,λi j oi fi oj fj hij hi hj=>?_,hl.apart_⟩
  .have:=(hall j (hsize j o Z)).1;rw[Z]at this;simp only[Option.all_some,gA]at this;have:=this e (by simpa using he);simp[hb]at this;exact this
  .have h1:=hop i oi fi hi;have h2:=hop j oj fj hj;have hcase:=(hall j (hsize j oj h2)).2 i hij;rw[h1,h2]at hcase;simp only[jb]at hcase;by_cases z:aM ((KJ ops.toList []).getD j 0) i=J
   .left;rw[au]at z;cases c:(KJ ops.toList [])[j]? with
    |none=>rw[c]at z;simp at z
    |some B=>
     rw[c]at z;exact Nv (ops:=ops) ops.toList [] (λj o hj=>by simpa using hj) (λj B hj=>by simp at hj) j B c i (by simpa using z)
   .right;have hap:=hcase.resolve_left z;refine ⟨hap,?_⟩;have hil:i<l.length:=(bh.1 hi).1;have hjl:j<l.length:=(bh.1 hj).1;have hsi:=ay (show i<sl.length by rw[hl.sll];exact hil);have hsj:=ay (show j<sl.length by rw[hl.sll];exact hjl);by_cases hst:(sl[i]'(by rw[hl.sll];exact hil)).op.still=J
    .obtain⟨L,A⟩:=hl.still i oi fi _ hi hsi hst;rw[L,A];exact⟨(λx c=>by cases c),(λx _ c=>by cases c)⟩
    .by_cases hst2:(sl[j]'(by rw[hl.sll];exact hjl)).op.still=J
     .obtain⟨L,A⟩:=hl.still j oj fj _ hj hsj hst2;rw[L,A];exact⟨(λx c=>⟨(by simp),(by simp)⟩),(λx c=>by cases c)⟩
     .have hmem:(i,j)∈prs:=by
       rw[<- hp,uX];refine ⟨j,nN.2 (hsize j oj h2),?_⟩;rw[List.mem_filterMap];refine ⟨i,nN.2 hij,?_⟩;rw[ax];rw[hsi,hsj];simp only[jb,not_or];exact⟨z,hst,hst2⟩
      obtain⟨a,b,U,hb,d1,d2,d3⟩:=hprs i j hmem;obtain⟨f1,f2⟩:=hl.fp i oi fi a hi U;obtain⟨g1,g2⟩:=hl.fp j oj fj b hj hb;refine ⟨λx c=>⟨λq=>?_,λq=>?_⟩,λx c q=>?_⟩
      .have:=xQ d1 (ow x) (f2 x c);rw[g1 x q]at this;cases this
      .have:=xQ d2 (ow x) (f2 x c);rw[g2 x q]at this;cases this
      .have:=xQ d3 (ow x) (g2 x c);rw[f1 x q]at this;cases this
 .cases hp
structure oW (P:Program) (E:Nat->Prop) (nt np:Nat) (φ:PM) (s:TS) (a:Act) (w:World):Prop where
 rep:re φ E (bu s.h) w
 env:NF φ (tot E φ (bu s.h)) w (fM s.e s.h) a
 dom:∀n k,φ n=M k->ow n<s.nx
 low:np<=s.nx
 invH:mo s.h s.nx
 invE:tR s.e s.h
 inert:∀d∈a.defers,ada P d
 size:a.tmps.size=nt
structure Ci (np:Nat) (φ φ':PM) (H H':HF) (w w':World):Prop where
 ext:Ib (own φ H) w w'
 own_:∀k,k<w.heap.size->own φ' H' k->own φ H k
 par:∀i,i<np->φ' (nm i)=φ (nm i)
theorem Ci.refl (np:Nat) (φ:PM) (H:HF) (w:World):Ci np φ φ H H w w:=⟨Ib.refl _ _,λ_ _ h=>h,λ_ _=>rfl⟩
theorem Ci.trans {np:Nat} {φ φ' φ'':PM} {H H' H'':HF} {w w' w'':World} (a:Ci np φ φ' H H' w w') (b:Ci np φ' φ'' H' H'' w' w''):Ci np φ φ'' H H'' w w'' where
 ext:=⟨b.ext.os.trans a.ext.os,b.ext.tape.trans a.ext.tape,b.ext.output.trans a.ext.output,dy a.ext.size b.ext.size,
  λk hk c=>(b.ext.blk k (dD hk a.ext.size) (λh=>c (a.own_ k hk h))).trans (a.ext.blk k hk c),
  λk hk=>(b.ext.shp k (dD hk a.ext.size)).trans (a.ext.shp k hk)⟩
 own_:=λk hk h=>a.own_ k hk (b.own_ k (dD hk a.ext.size) h)
 par:=λi hi=>(b.par i hi).trans (a.par i hi)
theorem Z7 {R:Type} {P:Program} {E:Nat->Prop} {nt np:Nat} {φ:PM} {s:TS} {a:Act} {w:World} {con:FuncId->I cA} {b9:TypeId->I Ty} (hm:P.follows .mixedOrders=J) (hcon:La P con) (c:oW P E nt np φ s a w) {id:Nat} {ops:Array Oper} {draw:Bool} {sl:Y sO} {prs:Y (Nat×Nat)} {am:Nat} (ham:∀(j:Nat) (o:Oper) (d:Nat),ops[j]? =M o->o.dst=M d->aM am d=J)
 (hd:(ops.toList.all λo=>match o.dst with|some d=>decide (d<nt)|none=>J)=J) (hc:sj P ops ops.toList=M sl) (hp:MI ops sl=M prs) {K:TS->I R} {r:R} (hr:Lu con b9 sl s [] (λs' fs=>if FL fs prs then K s' else D)=M r) {Q:Exit->Act->World->Prop}
 (hQ:∀a' w' s' φ',K s'=M r->oW P E nt np φ' s' a' w'->Ci np φ φ' (bu s.h) (bu s'.h) w w'->gi am s.e s'.e->Q .normal a' w'):(Code.region id ops draw).wp P Q a w:=by
 obtain⟨s',fs',l,z,L⟩:=IA hcon ham ops.toList sl s [] _ r (λo U=>by
  obtain⟨j,hj⟩:=fc U;exact⟨j,by simpa using hj⟩) hc hr c.invH c.invE
 have z:(if FL fs' prs then K s' else D)=M r:=z;by_cases hok:FL fs' prs=J
 .rw[aC hok]at z;refine Qq (φ0:=φ) (E:=E) hm L.ops_ L.chain (aer L hp hok) ?_ ?_ c.rep c.env ?_
  .intro n hn;obtain⟨p,q,hn⟩:=uX.1 hn;obtain⟨j,hj⟩:=fc q;have:=L.names j p.1 p.2 hj n hn;cases A:φ n with
   |none=>rfl
   |some k=>have:=c.dom n k A;omega
  .intro j o U d Z;have:=gA.1 hd o (by have:=Array.mem_of_getElem? U;simpa using this);rw[Z]at this;rw[c.size];simpa using this
  .rintro a' w' ⟨φ',m',d',r',en',df',sz'⟩;have hnm:∀n k,φ' n=M k->φ n=M k\/(s.nx<=ow n/\ow n<s'.nx):=λn k hik=>by
    rcases d' n k hik with h|h
    .exact .inl h
    .obtain⟨p,q,hn⟩:=uX.1 h;obtain⟨j,hj⟩:=fc q;exact .inr (L.names j p.1 p.2 hj n hn)
   have hg:=L.grows;have hlow:=c.low;refine hQ a' w' s' φ' z ⟨r',en',λn k hik=>?_,by omega,L.invH,L.invE,by rw[df'];exact c.inert,by rw[sz'];exact c.size⟩ ⟨m'.ext,m'.own_,λi hi=>?_⟩ L.keeps
   .rcases hnm n k hik with h|h
    .have:=c.dom n k h;omega
    .exact h.2
   .cases A:φ (nm i) with
    |some k=>exact m'.sub _ _ A
    |none=>
     cases hy:φ' (nm i) with
     |none=>rfl
     |some k=>
      rcases hnm (nm i) k hy with h|h
      .rw[A]at h;cases h
      .rw[dU]at h;omega
 .rw[ax hok]at z;cases z
theorem z_:∀(l:Y sO) (acc:Nat),Pv l acc=acc|||Pv l 0
 |[],acc=>by simp[Pv]
 |o::r,acc=>by
  simp only[Pv];cases o.dst with
  |none=>exact z_ r acc
  |some d=>simp only[];rw[z_ r (acc|||kE d),z_ r (0|||kE d),yG,kQ]
theorem Ao:∀(l:ι) (acc:Nat),LA l acc=acc|||LA l 0
 |[],acc=>by simp[LA]
 |k::r,acc=>by simp only[LA];rw[Ao r (acc|||kE k),Ao r (0|||kE k),yG,kQ]
theorem lw:∀(l:Y Adj) (acc:Nat),mG l acc=acc|||mG l 0
 |[],acc=>by simp[mG]
 |.nil k _ _::r,acc=>by simp only[mG];rw[lw r (acc|||kE k),lw r (0|||kE k),yG,kQ]
 |.cel _ _ _ _::r,acc=>by simp only[mG];exact lw r acc
 |.mpt _ _ _::r,acc=>by simp only[mG];exact lw r acc
 |.mz _ _::r,acc=>by simp only[mG];exact lw r acc
 |.ren k _::r,acc=>by simp only[mG];rw[lw r (acc|||kE k),lw r (0|||kE k),yG,kQ]
 |.pk _ _ _::r,acc=>by simp only[mG];exact lw r acc
theorem iM:∀(c:TC) (acc:Nat),c.asg acc=acc|||c.asg 0
 |.reg ops _,acc=>z_ ops acc
 |.seq a b,acc=>by simp only[TC.asg];rw[iM b (a.asg acc),iM b (a.asg 0),iM a acc,kQ]
 |.jseq A a b,acc=>by simp only[TC.asg];rw[iM b (a.asg _),iM b (a.asg (LA A.ks 0)),iM a (LA A.ks acc),iM a (LA A.ks 0),Ao A.ks acc,kQ,kQ,kQ]
 |.cond _ a b,acc=>by simp only[TC.asg];rw[iM b (a.asg acc),iM b (a.asg 0),iM a acc,kQ]
 |.block _ b,acc=>iM b acc
 |.jblock A _ b,acc=>by simp only[TC.asg];rw[iM b (LA A.ks acc),iM b (LA A.ks 0),Ao A.ks acc,kQ]
 |.loop A b,acc=>by simp only[TC.asg];rw[iM b (LA A.ks acc),iM b (LA A.ks 0),Ao A.ks acc,kQ]
 |.defer _ _ t,acc=>by simp[TC.asg]
 |.adj l c,acc=>by simp only[TC.asg];rw[iM c (mG l acc),iM c (mG l 0),lw l acc,kQ]
 |.split _ _ _ _ c,acc=>iM c acc
 |.unl _ b,acc=>iM b acc
 |.skip,acc=>by simp[TC.asg]
 |.exit _,acc=>by simp[TC.asg]
 |.ret,acc=>by simp[TC.asg]
 |.bad,acc=>by simp[TC.asg]
theorem vz {c:TC} {acc k:Nat} (h:aM (c.asg 0) k=J):aM (c.asg acc) k=J:=by rw[iM,bp,h];simp
theorem kC {c:TC} {acc k:Nat} (h:aM acc k=J):aM (c.asg acc) k=J:=by rw[iM,bp,h];rfl
theorem WY:∀{l:ι} {acc k:Nat},k∈l->aM (LA l acc) k=J
 |[],_,_,h=>by cases h
 |x::r,acc,k,h=>by
  simp only[LA];rcases bk.1 h with rfl|h
  .rw[Ao,bp,bp,bW.2 rfl];simp
  .exact WY h
theorem SM:∀{l:Y sO} {acc:Nat} {o:sO} {d:Nat},o∈l->o.dst=M d->aM (Pv l acc) d=J
 |[],_,_,_,h,_=>by cases h
 |x::r,acc,o,d,h,hd=>by
  simp only[Pv];rcases bk.1 h with rfl|h
  .rw[hd];simp only[];rw[z_,bp,bp,bW.2 rfl];simp
  .exact SM h hd
theorem W9:∀{e:iX} {ks:ι} {vs:Y TV},og e ks=M vs->vs.length=ks.length/\∀(j k:Nat),ks[j]? =M k->∃v,vs[j]? =M v/\e.get k=M v
 |e,[],vs,h=>by simp only[og,ah]at h;subst h;exact⟨rfl,by simp⟩
 |e,k::r,vs,h=>by
  simp only[og]at h;split at h
  .rename_i v hv;split at h
   .rename_i l hl;simp only[ah]at h;subst h;obtain⟨h1,h2⟩:=W9 hl;refine ⟨by simp[h1],λj k' hj=>?_⟩;cases j with
    |zero=>simp at hj;subst hj;exact⟨v,rfl,hv⟩
    |succ j=>simpa using h2 j k' (by simpa using hj)
   .cases h
  .cases h
theorem ID {e:iX} {h:bi} (hi:tR e h):∀{ks:ι} {vs:Y TV},og e ks=M vs->kX h vs=J
 |[],vs,hg=>by simp only[og,ah]at hg;subst hg;rfl
 |k::r,vs,hg=>by
  simp only[og]at hg;split at hg
  .rename_i v hv;split at hg
   .rename_i l hl;simp only[ah]at hg;subst hg;simp only[kX,al];exact⟨hi k v hv,ID hi hl⟩
   .cases hg
  .cases hg
theorem CD:∀{e:iX} {ks:ι} {vs:Y TV},vs.length=ks.length->∀t v,(XW e ks vs).get t=M v->(∃j:Nat,ks[j]? =M t/\vs[j]? =M v)\/(t∉ks/\e.get t=M v)
 |e,[],[],_,t,v,h=>.inr ⟨by simp,h⟩
 |e,[],_::_,hl,t,v,h=>by simp at hl
 |e,_::_,[],hl,t,v,h=>by simp at hl
 |e,k::r,u::l,hl,t,v,h=>by
  simp only[XW,PT.get_set]at h;split at h
  .rename_i a;subst a;cases h;exact .inl ⟨0,rfl,rfl⟩
  .rename_i a;rcases CD (by simpa using hl) t v h with ⟨j,h1,h2⟩|⟨h1,h2⟩
   .exact .inl ⟨j+1,by simpa using h1,by simpa using h2⟩
   .exact .inr ⟨by simp[a,h1],h2⟩
theorem tX {am:Nat} {e:iX}:∀{ks:ι} {k:Nat} {v:TV},(C3 am e ks).get k=M v->k∈ks/\e.get k=M v/\ut v=J/\aM am k=af
 |[],k,v,h=>by simp[C3,PT.get]at h
 |x::r,k,v,h=>by
  simp only[C3]at h;split at h
  .rename_i u hu;split at h
   .rename_i hc;simp only[al,cW]at hc;rw[PT.get_set]at h;split at h
    .rename_i a;subst a;cases h;exact⟨by simp,hu,hc.1,hc.2⟩
    .obtain⟨h1,h2⟩:=tX h;exact⟨by simp[h1],h2⟩
   .obtain⟨h1,h2⟩:=tX h;exact⟨by simp[h1],h2⟩
  .obtain⟨h1,h2⟩:=tX h;exact⟨by simp[h1],h2⟩
theorem I0 {am:Nat} {e0 e:iX}:∀{ks:ι},HU am e0 e ks=J->∀k v,k∈ks->e0.get k=M v->ut v=J->aM am k=af->∃c,e.get k=M c
 |[],_,k,v,h,_,_,_=>by cases h
 |x::r,hc,k,v,h,hv,hf,a=>by
  simp only[HU,al]at hc;rcases bk.1 h with rfl|h
  .have h1:=hc.1;rw[hv]at h1;simp only[hf,a,Bool.not_true,Bool.false_or]at h1;cases q:e.get k with
   |none=>rw[q]at h1;cases h1
   |some u=>exact⟨u,rfl⟩
  .exact I0 hc.2 k v h hv hf a
section walk
variable {P:Program} {E:Nat->Prop} {nt np:Nat}
theorem Rw {h:bi} {v:TV} {y:AV} (hn:aey v=J) (a:ct h v=M y):Le y .emp:=by
 cases v with
 |nil=>simp only[ct,ah]at a;subst a;exact Le.nilEmp
 |emp=>simp only[ct,ah]at a;subst a;exact Le.refl _
 |_=>cases hn
theorem XH {φ:PM} {s:TS} {a:Act} {w:World} (c:oW P E nt np φ s a w) (ty:TypeId) (T:Ty):oW P E nt np φ ⟨s.e,s.h.set s.nx (M (.rows ty J T [])),s.nx+1⟩ a w/\bu (s.h.set s.nx (M (.rows ty J T [])))=bu s.h/\b_ s.h (s.h.set s.nx (M (.rows ty J T []))):=by
 have hfr:=c.invH.fresh;have hr:b_ s.h (s.h.set s.nx (M (.rows ty J T []))):=b_.set λr hr=>by rw[bS,hfr]at hr;cases hr
 have L:bu (s.h.set s.nx (M (.rows ty J T [])))=bu s.h:=by
  funext n;by_cases hn:n=nm s.nx
  .subst hn;rw[bF,bF,PT.get_set,aC rfl,hfr];rfl
  .refine kB c.invH hr λi e=>?_
   subst e;rw[PT.get_set,ax (λe=>hn (by rw[e]))]
 refine ⟨⟨by rw[L];exact c.rep,?_,λn k hk=>Af (c.dom n k hk),iG c.low,c.invH.set hr (qU _) (Nat.le_succ _) (λ_ _ he=>by cases he),?_,c.inert,c.size⟩,L,hr⟩
 .intro t x A;rw[L];simp only[fM]at A;cases he:s.e.get t with
  |none=>rw[he]at A;cases A
  |some q=>
   rw[he]at A;obtain⟨z,U⟩:=ph s.h q (c.invE t q he);simp only[aF,gr hr q z U,ah]at A;subst A;exact c.env t _ (by simp only[fM,he,aF,U])
 .intro t x A;exact mY hr x (c.invE t x A)
theorem zd {h:bi}:∀{a b:Y TV},kX h a=J->kX h b=J->kX h (a++b)=J
 |[],_,_,hb=>hb
 |x::r,b,c,hb=>by
  simp only[kX,al]at c;simp only[fI,kX,al];exact⟨c.1,zd c.2 hb⟩
theorem MJ {h:bi}:∀{a:Y TV} (n:Nat),kX h a=J->kX h (a.take n)=J
 |[],n,_=>by simp[kX]
 |x::r,0,_=>rfl
 |x::r,n+1,c=>by
  simp only[kX,al]at c;simp only[vU,kX,al];exact⟨c.1,MJ n c.2⟩
theorem ML {h:bi}:∀{a:Y TV} (n:Nat),kX h a=J->kX h (a.drop n)=J
 |[],n,_=>by simp[kX]
 |x::r,0,c=>c
 |x::r,n+1,c=>by
  simp only[kX,al]at c;simp only[vX];exact ML n c.2
theorem yU {α:Type} {l:Y α} {j:Nat} {x:α} (h:l[j]? =M x):splice l j [x]=l:=by
 have hl:j<l.length:=by
  rcases ca j l.length with h'|h'
  .exact h'
  .rw[bE h']at h;cases h
 rw[ay hl,ah]at h;unfold splice;subst h;simp
theorem aci {φ:PM} {s:TS} {a:Act} {w:World} (c:oW P E nt np φ s a w) {id j:Nat} {cty:I TypeId} {l:Y TV} {v u:TV} (hb:s.h.get id=M (.cells cty l)) (hv:l[j]? =M v) (hn:aey v=J) (hu:ct s.h u=M .emp) (huo:Lx s.h u=J):
 oW P E nt np φ ⟨s.e,s.h.set id (M (.cells cty (splice l j [u]))),s.nx⟩ a w/\Ci np φ φ (bu s.h) (bu (s.h.set id (M (.cells cty (splice l j [u]))))) w w:=by
 have hr:b_ s.h (s.h.set id (M (.cells cty (splice l j [u])))):=b_.set λr hr=>by rw[bS,hb]at hr;cases hr
 have hlo:=c.invH.cells id _ l hb;obtain⟨L,U⟩:=fd s.h l hlo;have hsp:cJ s.h (splice l j [u])=M (splice L j [.emp]):=pV j U (by simp only[cJ,hu]);have hsp':cJ (s.h.set id (M (.cells cty (splice l j [u])))) (splice l j [u])=M (splice L j [.emp]):=gm hr _ _ hsp;obtain⟨y,hy,hey⟩:=lm U j v hv;have hold:bu s.h (nm id)=M (Xv cty L):=by rw[bF,hb];cases cty<;>(simp only[aF,jF,U];rfl)
 have hnew:bu (s.h.set id (M (.cells cty (splice l j [u])))) (nm id)=M (Xv cty (splice L j [.emp])):=by
  rw[bF,PT.get_set,aC rfl];cases cty<;>(simp only[aF,jF,hsp'];rfl)
 have hoth:∀n,n≠nm id->bu (s.h.set id (M (.cells cty (splice l j [u])))) n=bu s.h n:=λn hn'=>by
  refine kB c.invH hr λi e=>?_
  subst e;rw[PT.get_set,ax (λe=>hn' (by rw[e]))]
 have hdom:uV (bu s.h) (bu (s.h.set id (M (.cells cty (splice l j [u]))))):=λn b Z=>by
  by_cases e:n=nm id
  .subst e;exact⟨_,hold⟩
  .rw[hoth n e]at Z;exact⟨b,Z⟩
 have hcell:∀ty,cty=M ty->∀x∈L,x.isCell=J:=λty hty x A=>by
  subst hty;obtain⟨k,hk⟩:=fc A;obtain⟨q,_,_,hat⟩:=c.rep.at_ _ _ hold;unfold XQ at hat;obtain⟨ob,_,hob⟩:=hat;rw[show Xv (M ty) L=⟨ty,.mx L⟩ from rfl,pN rfl]at hob;obtain⟨arr,_,hca⟩:=hob;exact (hca.2 k x hk).1
 have hV:Ht (bu s.h) (bu (s.h.set id (M (.cells cty (splice l j [u]))))):=⟨hdom,λn b b' h1 h2=>by
  by_cases e:n=nm id
  .subst e;rw[hold]at h1;cases h1;rw[hnew]at h2;cases h2;have hle:ic (bu s.h) (bu (s.h.set id (M (.cells cty (splice l j [u]))))) L (splice L j [.emp]):=by
    have:=ic.splice j (ic.refl hdom L) (b:=[y]) (b':=[.emp]) ⟨(Rw hn hey).toH hdom,trivial⟩;rw[yU hy]at this;exact this
   cases cty with
   |none=>exact iN.told hle
   |some ty=>
    refine iN.cells rfl rfl hle λx A=>?_
    have A:x∈splice L j [.emp]:=A;unfold splice at A;rw[bO,bO,aI]at A;rcases A with (A|A)|A
    .exact hcell ty rfl x (hY A)
    .subst A;rfl
    .exact hcell ty rfl x (List.mem_of_mem_drop A)
  .rw[hoth n e,h1]at h2;cases h2;exact iN.refl hdom b⟩
 refine ⟨⟨hV.rep c.rep,?_,c.dom,c.low,c.invH.set hr (c.invH.low id _ hb) (bP _) (λty l2 he=>?_),?_,c.inert,c.size⟩,⟨Ib.refl _ _,λk _ ho=>hdom.own ho,λ_ _=>rfl⟩⟩
 .intro t x A;simp only[fM]at A;cases he:s.e.get t with
  |none=>rw[he]at A;cases A
  |some q=>
   rw[he]at A;obtain⟨z,hz⟩:=ph s.h q (c.invE t q he);simp only[aF,gr hr q z hz,ah]at A;subst A;exact (c.env t _ (by simp only[fM,he,aF,hz])).dom hdom
 .simp only[iu.cells.injEq]at he;obtain⟨_,rfl⟩:=he;refine jd hr _ ?_;unfold splice;exact zd (zd (MJ _ hlo) (by simp only[kX,huo,jG])) (ML _ hlo)
 .intro t x A;exact mY hr x (c.invE t x A)
theorem oW.congr {φ:PM} {s s':TS} {a:Act} {w:World} (c:oW P E nt np φ s a w) (he:∀t,s'.e.get t=s.e.get t) (hh:∀i,s'.h.get i=s.h.get i) (hn:s'.nx=s.nx):oW P E nt np φ s' a w/\bu s'.h=bu s.h:=by
 have hr:b_ s.h s'.h:=λi r hi=>by rw[bS]at hi ⊢;rw[hh];exact hi
 have A:bu s'.h=bu s.h:=by funext n;exact kB c.invH hr λi _=>hh i
 refine ⟨⟨by rw[A];exact c.rep,?_,by rw[hn];exact c.dom,by rw[hn];exact c.low,⟨λi ty l hg=>?_,λi b hg=>?_⟩,λt v hv=>?_,c.inert,c.size⟩,A⟩
 .intro t x q;rw[A];simp only[fM,he]at q;cases hg:s.e.get t with
  |none=>rw[hg]at q;cases q
  |some v=>
   rw[hg]at q;obtain⟨z,L⟩:=ph s.h v (c.invE t v hg);simp only[aF,gr hr v z L,ah]at q;subst q;exact c.env t _ (by simp only[fM,hg,aF,L])
 .rw[hh]at hg;exact jd hr l (c.invH.cells i _ l hg)
 .rw[hh]at hg;rw[hn];exact c.invH.low i b hg
 .rw[he]at hv;exact mY hr v (c.invE t v hv)
theorem Qg {R:Type} {v:Int} {f:Nat->I R} {r:R}:∀{m i:Nat},spl v f i m=M r->∃j,v=aN j/\f j=M r
 |0,i,h=>by cases h
 |m+1,i,h=>by
  simp only[spl]at h;rcases pH h with ⟨h1,h2⟩|⟨_,h2⟩
  .exact⟨i,a8 h1,h2⟩
  .exact Qg h2
theorem Z3 {φ:PM} {s s':TS} {a:Act} {w:World} (c:oW P E nt np φ s a w) {k off:Nat} {kd:IntKind} {v:Int} (h1:aat s k off=M (kd,v)) (h2:T8 s k off kd v=M s'):oW P E nt np φ s' a w/\bu s'.h=bu s.h/\∀t,s'.e.get t=s.e.get t:=by
 unfold aat at h1;unfold T8 at h2;cases hk:s.e.get k with
 |none=>rw[hk]at h1;cases h1
 |some x=>
  rw[hk]at h1 h2;cases x with
  |f T q=>
   cases T with
   |int kd'=>
    simp only[ah,aD]at h1;obtain⟨rfl,rfl⟩:=h1;simp only[ah]at h2;subst h2;have he:∀t,(s.e.set k (M (.f (.int kd') q))).get t=s.e.get t:=λt=>by
     rw[PT.get_set];split
     .rename_i e;subst e;exact hk.symm
     .rfl
    obtain⟨A,z⟩:=c.congr (s':=⟨s.e.set k (M (.f (.int kd') q)),s.h,s.nx⟩) he (λ_=>rfl) rfl;exact⟨A,z,he⟩
   |_=>cases h1
  |ptr a0 o0=>
   simp only[]at h1 h2;cases hb:s.h.get a0 with
   |none=>rw[hb]at h1;cases h1
   |some b=>
    rw[hb]at h1 h2;cases b with
    |cells ty l=>
     cases ty with
     |none=>cases h1
     |some ty=>
     simp only[]at h1 h2;cases hl:l[o0+off]? with
     |none=>rw[hl]at h1;cases h1
     |some y=>
      rw[hl]at h1;cases y with
      |f T q=>
       cases T with
       |int kd'=>
        simp only[ah,aD]at h1;obtain⟨rfl,rfl⟩:=h1;simp only[ah]at h2;subst h2;have hh:∀i,(s.h.set a0 (M (.cells (M ty) (splice l (o0+off) [.f (.int kd') q])))).get i=s.h.get i:=λi=>by
         rw[PT.get_set];split
         .rename_i e;subst e;rw[hb,yU hl]
         .rfl
        obtain⟨A,z⟩:=c.congr (s':=⟨s.e,s.h.set a0 (M (.cells (M ty) (splice l (o0+off) [.f (.int kd') q]))),s.nx⟩) (λ_=>rfl) hh rfl;exact⟨A,z,λ_=>rfl⟩
       |_=>cases h1
      |_=>cases h1
    |_=>cases h1
  |_=>cases h1
mutual
theorem MA (id sz n:Nat):∀v:TV,ut v=J->Lo id sz n v=v
 |.f _ _,_=>rfl
 |.fel _ _ _ _ _,_=>rfl
 |.emp,_=>rfl
 |.nil,_=>rfl
 |.undef,_=>rfl
 |.np,_=>rfl
 |.anyb,_=>rfl
 |.agg l,h=>by simp only[Lo];rw[BF id sz n l h]
 |.tup l,h=>by simp only[Lo];rw[BF id sz n l h]
 |.pel _ _ _ _,h=>by cases h
 |.ptr _ _,h=>by cases h
 |.csl _ _ _,h=>by cases h
 |.row _,h=>by cases h
 |.rtl _ _,h=>by cases h
 |.mp _,h=>by cases h
 |.clo _ _,h=>by cases h
theorem BF (id sz n:Nat):∀l:Y TV,qE l=J->Cz id sz n l=l
 |[],_=>rfl
 |x::r,h=>by
  simp only[qE,al]at h;simp only[Cz];rw[MA id sz n x h.1,BF id sz n r h.2]
end
section subs
variable {id sz n:Nat} {h h':bi}
mutual
theorem NZ (hr:b_ h h') (hid:eH h' id=M (af,sz,n)):∀(v:TV) (y:AV),ct h v=M y->ct h' (Lo id sz n v)=M y
 |.csl i s m,y,he=>by
  simp only[ct,ah]at he;subst he;simp only[Lo];split
  .rename_i hq;simp only[al]at hq;have e1:=ar hq.1.1;have e2:=ar hq.1.2;have e3:=ar hq.2;subst e1;subst e2;subst e3;simp only[ct,hid,fE,lB,ci,dP]
  .rfl
 |.agg l,y,he=>by
  simp only[ct]at he;cases hl:cJ h l with
  |none=>rw[hl]at he;cases he
  |some l'=>rw[hl]at he;simp only[Lo,ct,v8 hr hid l l' hl];exact he
 |.tup l,y,he=>by
  simp only[ct]at he;cases hl:cJ h l with
  |none=>rw[hl]at he;cases he
  |some l'=>rw[hl]at he;simp only[Lo,ct,v8 hr hid l l' hl];exact he
 |.clo g l,y,he=>by
  simp only[ct]at he;cases hl:cJ h l with
  |none=>rw[hl]at he;cases he
  |some l'=>rw[hl]at he;simp only[Lo,ct,v8 hr hid l l' hl];exact he
 |.f T v,y,he=>gr hr _ _ he
 |.fel T xs j hj off,y,he=>gr hr _ _ he
 |.pel _ _ _ _,y,he=>gr hr _ _ he
 |.ptr _ _,y,he=>gr hr _ _ he
 |.row _,y,he=>gr hr _ _ he
 |.rtl _ _,y,he=>gr hr _ _ he
 |.emp,y,he=>gr hr _ _ he
 |.nil,y,he=>gr hr _ _ he
 |.mp _,y,he=>gr hr _ _ he
 |.undef,y,he=>gr hr _ _ he
 |.np,y,he=>gr hr _ _ he
 |.anyb,y,he=>gr hr _ _ he
theorem v8 (hr:b_ h h') (hid:eH h' id=M (af,sz,n)):∀(l:Y TV) (l':Y AV),cJ h l=M l'->cJ h' (Cz id sz n l)=M l'
 |[],l',he=>by simp only[cJ,ah]at he;subst he;rfl
 |x::r,l',he=>by
  obtain⟨y,l2,rfl,h1,h2⟩:=c4 he;simp only[Cz];exact pd (NZ hr hid x y h1) (v8 hr hid r l2 h2)
end
end subs
theorem amc {φ:PM} {s:TS} {a:Act} {w:World} (c:oW P E nt np φ s a w) {T:Ty} {id sz n:Nat} {s':TS} (hp:pkS s T id sz n=M s'):oW P E nt np φ s' a w/\Ci np φ φ (bu s.h) (bu s'.h) w w/\gi 0 s.e s'.e:=by
 unfold pkS at hp;split at hp
 .rename_i ty l hb;split at hp
  .rename_i hs;have hs:=ar hs;subst hs;split at hp
   .rename_i xs m hpk;split at hp
    .cases hp
    .rename_i hmid;simp only[ah]at hp;subst hp;have hm:dS s.h m:=N8 n l xs m hpk;obtain⟨l',hl⟩:=fd s.h l (c.invH.cells id _ l hb);have hidlt:=c.invH.low id _ hb;have og:∀i,((PT.updI (λ_ b=>XU id T.size n b) 1 0 (eB m s.h)).set id (M (.rows ty af T xs))).get i=if i=id then M (.rows ty af T xs) else if aM m i then (s.h.get i).map vj else (s.h.get i).map (XU id T.size n):=λi=>by
      rw[PT.get_set];by_cases e:i=id
      .rw[aC e,aC e]
      .rw[ax e,ax e,PT.get_updI,jg];split
       .cases hg:s.h.get i with
        |none=>rfl
        |some b=>cases b<;>rfl
       .rfl
     generalize hH2:((PT.updI (λ_ b=>XU id T.size n b) 1 0 (eB m s.h)).set id (M (.rows ty af T xs)))=h2 at og ⊢;have hr:b_ s.h h2:=λi r hi=>by
      rw[bS]at hi ⊢;rw[og];by_cases e:i=id
      .subst e;rw[hb]at hi;cases hi
      .rw[ax e];cases hg:s.h.get i with
       |none=>rw[hg]at hi;cases hi
       |some b=>
        rw[hg]at hi;split
        .exact MF hi
        .cases b<;>first|exact hi|cases hi
     have hnone:∀i,aM m i=J->bu h2 (nm i)=D:=λi hi=>by
      have e:i≠id:=λe=>by subst e;exact hmid hi
      obtain⟨ty',p',T',xs',L⟩:=hm i hi;rw[bF,og,ax e,aC hi,L];rfl
     have hdom:uV (bu s.h) (bu h2):=λq b hq=>by
      obtain⟨i,cc,rfl,A,h4⟩:=jD hq;rw[bF];rw[og]at A;by_cases e:i=id
      .subst e;rw[hb];simp only[aF,jF,hl];exact⟨_,rfl⟩
      .rw[ax e]at A;cases hg:s.h.get i with
       |none=>rw[hg]at A;split at A<;>cases A
       |some b0=>
        rw[hg]at A;split at A
        .simp only[cj,ah]at A;subst A;cases b0<;>simp[vj,jF]at h4
        .simp only[cj,ah]at A;subst A;simp only[aF];cases b0 with
         |cells ty0 l0=>
          obtain⟨l0',Z⟩:=fd s.h l0 (c.invH.cells i _ l0 hg);exact⟨Xv ty0 l0',by cases ty0<;>(simp only[jF,Z];rfl)⟩
         |rows=>exact⟨_,h4⟩
         |dead=>exact⟨_,h4⟩
         |mp=>exact⟨_,h4⟩
     have giv:Eh s.h (bu s.h) (bu h2) m:=λi hi=>⟨rfl,hnone i hi⟩
     obtain⟨hle,hlen⟩:=CP hdom n l xs m l' hpk hl giv;have hrow:eH h2 id=M (af,T.size,n):=by rw[bS,og,aC rfl,<-hlen];rfl
     have hV:Ht (bu s.h) (bu h2):=⟨hdom,λq b b' A h4=>by
      obtain⟨i,cc,rfl,h5,h6⟩:=jD h4;rw[bF]at A;rw[og]at h5;by_cases e:i=id
      .subst e;rw[aC rfl]at h5;cases h5;rw[hb]at A;simp only[aF,jF,hl,ah]at A;subst A;simp only[jF,lB,ci,dP,ah]at h6;subst h6;refine iN.cells rfl rfl hle λx L=>?_
       simp only[BC.toMx]at L;obtain⟨q,hq,rfl⟩:=di.1 L;exact rP T _ q hq
      .rw[ax e]at h5;cases hg:s.h.get i with
       |none=>rw[hg]at h5;split at h5<;>cases h5
       |some b0=>
        rw[hg]at h5 A;split at h5
        .simp only[cj,ah]at h5;subst h5;cases b0<;>simp[vj,jF]at h6
        .simp only[cj,ah]at h5;subst h5;have:b=b':=by
          simp only[aF]at A;cases b0 with
          |cells ty0 l0=>
           obtain⟨l0',Z⟩:=fd s.h l0 (c.invH.cells i _ l0 hg);cases ty0<;>
            (simp only[jF,Z,ah]at A
             simp only[XU,jF,v8 hr hrow l0 l0' Z,ah]at h6;rw[<- A,<-h6])
          |rows ty1 p1 T1 xs1=>
           have h3':jF h2 (.rows ty1 p1 T1 xs1)=M b:=A;exact j9 (h3'.symm.trans h6)
          |dead p1 s1 n1=>
           have h3':jF h2 (.dead p1 s1 n1)=M b:=A;exact j9 (h3'.symm.trans h6)
          |mp K1 V1 es1=>
           have h3':jF h2 (.mp K1 V1 es1)=M b:=A;exact j9 (h3'.symm.trans h6)
         subst this;exact iN.refl hdom b⟩
     refine ⟨⟨hV.rep c.rep,?_,c.dom,c.low,⟨λi ty' l2 hg=>?_,λi b hg=>?_⟩,?_,c.inert,c.size⟩,⟨Ib.refl _ _,λk _ hk=>hdom.own hk,λ_ _=>rfl⟩,?_⟩
     .intro t x L;simp only[fM,PT.get_updI]at L;cases he:s.e.get t with
      |none=>rw[he]at L;cases L
      |some v=>
       rw[he]at L;obtain⟨z,hz⟩:=ph s.h v (c.invE t v he);simp only[cj,aF,NZ hr hrow v z hz,ah]at L;subst L;exact (c.env t _ (by simp only[fM,he,aF,hz])).dom hdom
     .rw[og]at hg;by_cases e:i=id
      .rw[aC e]at hg;cases hg
      .rw[ax e]at hg;cases hg0:s.h.get i with
       |none=>rw[hg0]at hg;split at hg<;>cases hg
       |some b0=>
        rw[hg0]at hg;split at hg
        .simp only[cj,ah]at hg;cases b0<;>simp[vj]at hg
        .simp only[cj,ah]at hg;cases b0 with
         |cells ty0 l0=>
          simp only[XU,iu.cells.injEq]at hg;obtain⟨_,rfl⟩:=hg;obtain⟨l0',Z⟩:=fd s.h l0 (c.invH.cells i _ l0 hg0);exact j8 _ _ _ (v8 hr hrow l0 l0' Z)
         |_=>cases hg
     .rw[og]at hg;by_cases e:i=id
      .subst e;exact hidlt
      .rw[ax e]at hg;cases hg0:s.h.get i with
       |none=>rw[hg0]at hg;split at hg<;>cases hg
       |some b0=>exact c.invH.low i b0 hg0
     .intro t x L;simp only[PT.get_updI]at L;cases he:s.e.get t with
      |none=>rw[he]at L;cases L
      |some v=>
       rw[he]at L;simp only[cj,ah]at L;subst L;obtain⟨z,hz⟩:=ph s.h v (c.invE t v he);exact Fb _ _ _ (NZ hr hrow v z hz)
     .intro k _ v' U;simp only[PT.get_updI]at U;cases he:s.e.get k with
      |none=>rw[he]at U;cases U
      |some v=>
       rw[he]at U;simp only[cj,ah]at U;subst U;exact⟨v,rfl,λhf=>MA _ _ _ v hf⟩
   .cases hp
  .cases hp
 .cases hp
theorem am7 {φ:PM} {s:TS} {a:Act} {w:World} (c:oW P E nt np φ s a w) {k off:Nat} {s':TS} (h:Ml s (.ren k off)=M s'):∃φ',oW P E nt np φ' s' a w/\Ci np φ φ' (bu s.h) (bu s'.h) w w/\gi (mG [.ren k off] 0) s.e s'.e:=by
 simp only[Ml]at h;split at h
 .rename_i b o hk;split at h
  .rename_i cty l hb;split at h
   .rename_i id hv;split at h
    .rename_i ty p T xs L;simp only[ah]at h;subst h;have hfr:=c.invH.fresh;have hidlt:=c.invH.low id _ L;have hblt:=c.invH.low b _ hb;have hbid:b≠id:=λe=>by rw[e,L]at hb;cases hb
     have hbn:b≠s.nx:=by omega
     have hin:id≠s.nx:=by omega
     generalize hh2:(((s.h.set id (M (.dead p T.size xs.length))).set s.nx (M (.rows ty p T xs))).set b (M (.cells (M cty) (splice l (o+off) [.row s.nx]))))=h2;have og:∀i,h2.get i=if i=b then M (.cells (M cty) (splice l (o+off) [.row s.nx])) else if i=s.nx then M (.rows ty p T xs) else if i=id then M (.dead p T.size xs.length) else s.h.get i:=λi=>by
      rw[<- hh2,PT.get_set,PT.get_set,PT.get_set]
     have hr:b_ s.h h2:=λi r hi=>by
      rw[bS]at hi ⊢;rw[og];by_cases e1:i=b
      .subst e1;rw[hb]at hi;cases hi
      .rw[ax e1];by_cases e2:i=s.nx
       .subst e2;rw[hfr]at hi;cases hi
       .rw[ax e2];by_cases e3:i=id
        .subst e3;rw[aC rfl];rw[L]at hi;exact hi
        .rw[ax e3];exact hi
     have hlo:=c.invH.cells b _ l hb;obtain⟨l',hl'⟩:=fd s.h l hlo;have hrow:ct h2 (.row s.nx)=M (fE p s.nx T.size xs.length):=by
      simp only[ct,bS,og];rw[ax hbn.symm];simp only[bG,aF,mV]
     have hsp:cJ h2 (splice l (o+off) [.row s.nx])=M (splice l' (o+off) [fE p s.nx T.size xs.length]):=pV _ (gm hr _ _ hl') (by simp only[cJ,hrow]);obtain⟨y,hy,hey⟩:=lm hl' _ _ hv;have hy0:y=fE p id T.size xs.length:=by
      simp only[ct,bS,L,aF,mV,ah]at hey;exact hey.symm
     subst hy0;have hold:bu s.h (nm b)=M ⟨cty,.mx l'⟩:=by rw[bF,hb];simp only[aF,jF,hl']
     have hnew:bu h2 (nm b)=M ⟨cty,.mx (splice l' (o+off) [fE p s.nx T.size xs.length])⟩:=by
      rw[bF,og,aC rfl];simp only[aF,jF,hsp]
     have hdead:bu h2 (nm id)=D:=by rw[bF,og,ax hbid.symm,ax hin,aC rfl];rfl
     have hnx2:bu h2 (nm s.nx)=if p&&xs.length==0 then D else M ⟨ty,.fz (xs.flatMap (bT T))⟩:=by rw[bF,og,ax hbn.symm,aC rfl];rfl
     have hid0:bu s.h (nm id)=if p&&xs.length==0 then D else M ⟨ty,.fz (xs.flatMap (bT T))⟩:=by rw[bF,L];rfl
     have hoth:∀n,n≠nm b->n≠nm s.nx->n≠nm id->bu h2 n=bu s.h n:=λn e1 e2 e3=>kB c.invH hr λi e=>by
      subst e;rw[og,ax (λe=>e1 (by rw[e])),ax (λe=>e2 (by rw[e])),ax (λe=>e3 (by rw[e]))]
     have hnb:nm b≠nm s.nx:=λe=>hbn (kY e)
     have hbi:nm b≠nm id:=λe=>hbid (kY e)
     have hni:nm s.nx≠nm id:=λe=>hin (kY e).symm
     have hinv:mo h2 (s.nx+1):=by
      refine ⟨λi ty2 l2 hil=>?_,λi q hiq=>?_⟩
      .rw[og]at hil;split at hil
       .simp only[ah,iu.cells.injEq]at hil;obtain⟨_,rfl⟩:=hil;exact j8 _ _ _ hsp
       .split at hil
        .cases hil
        .split at hil
         .cases hil
         .exact jd hr l2 (c.invH.cells i _ l2 hil)
      .rw[og]at hiq;split at hiq
       .omega
       .split at hiq
        .omega
        .split at hiq
         .omega
         .have:=c.invH.low i q hiq;omega
     have hE:∀t x,fM s.e h2 t=M x->fM s.e s.h t=M x:=λt x A=>by
      simp only[fM]at A ⊢;cases he:s.e.get t with
      |none=>rw[he]at A;cases A
      |some q=>
       rw[he]at A;obtain⟨z,hz⟩:=ph s.h q (c.invE t q he);simp only[aF,gr hr q z hz,ah]at A;subst A;simp only[aF,hz]
     by_cases hp:(p&&xs.length==0)=J
     ·
      have hH:bu h2=bu s.h:=by
       funext n;by_cases e1:n=nm b
       .subst e1;rw[hold,hnew];have:fE p s.nx T.size xs.length=fE p id T.size xs.length:=by unfold fE;rw[aC hp,aC hp]
        rw[this,yU hy]
       .by_cases e2:n=nm s.nx
        .subst e2;rw[hnx2,aC hp,bF,hfr];rfl
        .by_cases e3:n=nm id
         .subst e3;rw[hdead,hid0,aC hp]
         .exact hoth n e1 e2 e3
      refine ⟨φ,⟨by rw[hH];exact c.rep,λt x A=>by rw[hH];exact c.env t x (hE t x A),λn q hq=>Af (c.dom n q hq),iG c.low,hinv,λt x A=>mY hr x (c.invE t x A),c.inert,c.size⟩,by rw[hH];exact Ci.refl _ _ _ _,gi.refl _ _⟩
     .have hid1:bu s.h (nm id)=M ⟨ty,.fz (xs.flatMap (bT T))⟩:=by rw[hid0,ax hp]
      obtain⟨kk,k1,k2,ob,k3,k4⟩:=c.rep.at_ _ _ hid1;have hφn:φ (nm s.nx)=D:=by
       cases hq:φ (nm s.nx) with
       |none=>rfl
       |some q=>have:=c.dom _ q hq;rw[dU]at this;omega
      let nw:HF:=λn=>if n=nm s.nx then M ⟨ty,.fz (xs.flatMap (bT T))⟩ else D
      have hsh:Fx w w kk ob:=⟨rfl,rfl,rfl,rfl,k3,λ_ _=>rfl,λ_=>rfl⟩
      obtain⟨φ',p1,p2,p3,p4⟩:=c.rep.wren hid1 k1 hφn hsh k4 nw (by simp[nw]) (by simp only[nw];rw[ax hni.symm]);have hb1:eV (bu s.h) [nm s.nx,nm id] nw (nm b)=M ⟨cty,.mx l'⟩:=by
       unfold eV;rw[ax (by simp[hnb,hbi]),hold]
      obtain⟨kb,b1,b2,ob2,b3,b4⟩:=p4.at_ _ _ hb1;have hlt:o+off<l'.length:=by
       rcases ca (o+off) l'.length with h'|h'
       .exact h'
       .rw[bE h']at hy;cases hy
      have hob:jh φ' (tot E φ' (eV (bu s.h) [nm s.nx,nm id] nw)) w ⟨cty,.mx (splice l' (o+off) [fE p s.nx T.size xs.length])⟩ ob2:=by
       rw[pN rfl]at b4 ⊢;obtain⟨arr,a1,a2⟩:=b4;refine ⟨arr,a1,?_⟩;unfold vA at a2 ⊢;refine ⟨by simp only[BC.len]at a2 ⊢;rw[oJ (by simp;omega)];exact a2.1,λj x A=>?_⟩;simp only[BC.get]at A a2;rw[mU (by simp;omega)]at A;split at A
       .exact a2.2 j x A
       .split at A
        .rename_i h3 U;simp only[dB]at U;have hj:j=o+off:=by omega
         subst hj;simp only[Nat.sub_self,lQ,ah]at A;subst A;obtain⟨_,v,a3,a4⟩:=a2.2 _ _ hy;unfold fE at a4 ⊢;rw[ax hp]at a4 ⊢;refine ⟨rfl,v,a3,?_⟩;cases a4 with
         |@row _ _ _ cc q hφq hn hc hs2=>
          have:=p2.sub _ _ k1;rw[this,ah]at hφq;subst hφq;exact .row p1 hn hc hs2
        .exact a2.2 j x A
      obtain⟨q1,q2⟩:=p4.wset hb1 b1 (⟨rfl,rfl,rfl,rfl,b3,λ_ _=>rfl,λ_=>rfl⟩:Fx w w kb ob2) hob (λn=>if n=nm b then M ⟨cty,.mx (splice l' (o+off) [fE p s.nx T.size xs.length])⟩ else D) (by simp);have hH:eV (eV (bu s.h) [nm s.nx,nm id] nw) [nm b] (λn=>if n=nm b then M ⟨cty,.mx (splice l' (o+off) [fE p s.nx T.size xs.length])⟩ else D)=bu h2:=by
       funext n;by_cases e1:n=nm b
       .subst e1;rw[hnew];simp[eV]
       .by_cases e2:n=nm s.nx
        .subst e2;rw[hnx2,ax hp];simp[eV,nw,hnb.symm]
        .by_cases e3:n=nm id
         .subst e3;rw[hdead];simp[eV,nw,hbi.symm,hni.symm]
         .rw[hoth n e1 e2 e3];simp[eV,e1,e2,e3]
      rw[hH]at q1 q2;have m:=p2.trans q1;refine ⟨φ',⟨q2,λt x A=>m.keep (c.env t x (hE t x A)),λn q hq=>?_,iG c.low,hinv,λt x A=>mY hr x (c.invE t x A),c.inert,c.size⟩,⟨Ib.refl _ _,m.own_,λi hi=>?_⟩,gi.refl _ _⟩
      .rcases p3 n q hq with U|U
       .exact Af (c.dom n q U)
       .simp only[aI]at U;subst U;rw[dU];exact qU _
      .cases hq:φ' (nm i) with
       |none=>
        cases hq2:φ (nm i) with
        |none=>rfl
        |some z=>rw[p2.sub _ _ hq2]at hq;cases hq
       |some z=>
        rcases p3 _ _ hq with U|U
        .exact U.symm
        .simp only[aI]at U;have:=kY U;have:=c.low;omega
    .cases h
   .cases h
  .cases h
 .rename_i id hk;split at h
  .rename_i ty p T xs L;simp only[ah]at h;subst h;have hfr:=c.invH.fresh;have hidlt:=c.invH.low id _ L;have hin:id≠s.nx:=by omega
   generalize hh2:((s.h.set id (M (.dead p T.size xs.length))).set s.nx (M (.rows ty p T xs)))=h2;have og:∀i,h2.get i=if i=s.nx then M (.rows ty p T xs) else if i=id then M (.dead p T.size xs.length) else s.h.get i:=λi=>by
    rw[<- hh2,PT.get_set,PT.get_set]
   have hr:b_ s.h h2:=λi r hi=>by
    rw[bS]at hi ⊢;rw[og];by_cases e2:i=s.nx
    .subst e2;rw[hfr]at hi;cases hi
    .rw[ax e2];by_cases e3:i=id
     .subst e3;rw[aC rfl];rw[L]at hi;exact hi
     .rw[ax e3];exact hi
   have hrow:ct h2 (.row s.nx)=M (fE p s.nx T.size xs.length):=by
    simp only[ct,bS,og,bG,aF,mV]
   have hrow0:ct s.h (.row id)=M (fE p id T.size xs.length):=by
    simp only[ct,bS,L,aF,mV]
   have hdead:bu h2 (nm id)=D:=by rw[bF,og,ax hin,aC rfl];rfl
   have hnx2:bu h2 (nm s.nx)=if p&&xs.length==0 then D else M ⟨ty,.fz (xs.flatMap (bT T))⟩:=by rw[bF,og,aC rfl];rfl
   have hid0:bu s.h (nm id)=if p&&xs.length==0 then D else M ⟨ty,.fz (xs.flatMap (bT T))⟩:=by rw[bF,L];rfl
   have hoth:∀n,n≠nm s.nx->n≠nm id->bu h2 n=bu s.h n:=λn e2 e3=>kB c.invH hr λi e=>by
    subst e;rw[og,ax (λe=>e2 (by rw[e])),ax (λe=>e3 (by rw[e]))]
   have hni:nm s.nx≠nm id:=λe=>hin (kY e).symm
   have hinv:mo h2 (s.nx+1):=by
    refine ⟨λi ty2 l2 hil=>?_,λi q hiq=>?_⟩
    .rw[og]at hil;split at hil
     .cases hil
     .split at hil
      .cases hil
      .exact jd hr l2 (c.invH.cells i _ l2 hil)
    .rw[og]at hiq;split at hiq
     .omega
     .split at hiq
      .omega
      .have:=c.invH.low i q hiq;omega
   have hE:∀t x,t≠k->fM (s.e.set k (M (.row s.nx))) h2 t=M x->fM s.e s.h t=M x:=λt x ht A=>by
    simp only[fM,PT.get_set]at A ⊢;rw[ax ht]at A;cases he:s.e.get t with
    |none=>rw[he]at A;cases A
    |some q=>
     rw[he]at A;obtain⟨z,hz⟩:=ph s.h q (c.invE t q he);simp only[aF,gr hr q z hz,ah]at A;subst A;simp only[aF,hz]
   have hIE:tR (s.e.set k (M (.row s.nx))) h2:=λt x A=>by
    simp only[PT.get_set]at A;split at A
    .cases A;exact Fb _ _ _ hrow
    .exact mY hr x (c.invE t x A)
   have hKp:gi (mG [.ren k off] 0) s.e (s.e.set k (M (.row s.nx))):=λt ht v' hv'=>by
    simp only[PT.get_set]at hv';split at hv'
    .rename_i et;subst et;simp only[mG]at ht;rw[bp,bW.2 rfl]at ht;simp at ht
    .exact⟨v',hv',λ_=>rfl⟩
   have Z:=c.env k (fE p id T.size xs.length) (by simp only[fM,hk,aF,hrow0]);by_cases hp:(p&&xs.length==0)=J
   .have hH:bu h2=bu s.h:=by
     funext n;by_cases e2:n=nm s.nx
     .subst e2;rw[hnx2,aC hp,bF,hfr];rfl
     .by_cases e3:n=nm id
      .subst e3;rw[hdead,hid0,aC hp]
      .exact hoth n e2 e3
    have hsame:fE p s.nx T.size xs.length=fE p id T.size xs.length:=by unfold fE;rw[aC hp,aC hp]
    refine ⟨φ,⟨by rw[hH];exact c.rep,λt x A=>?_,λn q hq=>Af (c.dom n q hq),iG c.low,hinv,hIE,c.inert,c.size⟩,by rw[hH];exact Ci.refl _ _ _ _,hKp⟩;rw[hH];by_cases ht:t=k
    .subst ht;simp only[fM,PT.get_set,bG,aF,hrow,ah]at A;subst A;rw[hsame];exact Z
    .exact c.env t x (hE t x ht A)
   .have hid1:bu s.h (nm id)=M ⟨ty,.fz (xs.flatMap (bT T))⟩:=by rw[hid0,ax hp]
    obtain⟨kk,k1,k2,ob,k3,k4⟩:=c.rep.at_ _ _ hid1;have hφn:φ (nm s.nx)=D:=by
     cases hq:φ (nm s.nx) with
     |none=>rfl
     |some q=>have:=c.dom _ q hq;rw[dU]at this;omega
    let nw:HF:=λn=>if n=nm s.nx then M ⟨ty,.fz (xs.flatMap (bT T))⟩ else D
    have hsh:Fx w w kk ob:=⟨rfl,rfl,rfl,rfl,k3,λ_ _=>rfl,λ_=>rfl⟩
    obtain⟨φ',p1,p2,p3,p4⟩:=c.rep.wren hid1 k1 hφn hsh k4 nw (by simp[nw]) (by simp only[nw];rw[ax hni.symm]);have hH:eV (bu s.h) [nm s.nx,nm id] nw=bu h2:=by
     funext n;by_cases e2:n=nm s.nx
     .subst e2;rw[hnx2,ax hp];simp[eV,nw]
     .by_cases e3:n=nm id
      .subst e3;rw[hdead];simp[eV,nw,hni.symm]
      .rw[hoth n e2 e3];simp[eV,e2,e3]
    rw[hH]at p2 p4;refine ⟨φ',⟨p4,λt x A=>?_,λn q hq=>?_,iG c.low,hinv,hIE,c.inert,c.size⟩,⟨Ib.refl _ _,p2.own_,λi hi=>?_⟩,hKp⟩
    .by_cases ht:t=k
     .subst ht;simp only[fM,PT.get_set,bG,aF,hrow,ah]at A;subst A;unfold fE at Z ⊢;rw[ax hp]at Z ⊢;generalize a.tmps.getD t undef=z at Z;cases Z with
      |@row _ _ _ cc q hφq hn hc hs2=>
       rw[k1,ah]at hφq;subst hφq;exact .row p1 hn hc hs2
     .exact p2.keep (c.env t x (hE t x ht A))
    .rcases p3 n q hq with U|U
     .exact Af (c.dom n q U)
     .simp only[aI]at U;subst U;rw[dU];exact qU _
    .cases hq:φ' (nm i) with
     |none=>
      cases hq2:φ (nm i) with
      |none=>rfl
      |some z=>rw[p2.sub _ _ hq2]at hq;cases hq
     |some z=>
      rcases p3 _ _ hq with U|U
      .exact U.symm
      .simp only[aI]at U;have:=kY U;have:=c.low;omega
  .cases h
 .cases h
theorem ajr {φ:PM} {s:TS} {a:Act} {w:World} (c:oW P E nt np φ s a w) {ad:Adj} {s':TS} (h:Ml s ad=M s') (hnr:∀k off,ad≠ .ren k off):oW P E nt np φ s' a w/\Ci np φ φ (bu s.h) (bu s'.h) w w/\gi (mG [ad] 0) s.e s'.e:=by
 cases ad with
 |ren k off=>exact bZ rfl (hnr k off)
 |nil k ty T=>
  simp only[Ml]at h;split at h
  .rename_i v hv;split at h
   .rename_i hn;simp only[ah]at h;subst h;obtain⟨L,Z,hr⟩:=XH c ty T;refine ⟨⟨L.rep,?_,L.dom,L.low,L.invH,?_,L.inert,L.size⟩,by rw[Z];exact Ci.refl _ _ _ _,?_⟩
    .intro t x A;simp only[fM,PT.get_set]at A;split at A
     .rename_i et;subst et;simp only[aF,ct,bS,PT.get_set,bG,mV,fE,gw,cU,jG,ah]at A;subst A;obtain⟨z,U⟩:=ph s.h v (c.invE _ v hv);rw[Z];exact Rw hn U _ _ _ _ (c.env _ _ (by simp only[fM,hv,aF,U]))
     .exact L.env t x A
    .intro t x A;simp only[PT.get_set]at A;split at A
     .cases A;simp only[Lx,bS,PT.get_set,bG];rfl
     .exact L.invE t x A
    .intro t ht v' hv';simp only[PT.get_set]at hv';split at hv'
     .rename_i et;subst et;simp only[mG]at ht;rw[bp,bW.2 rfl]at ht;simp at ht
     .exact⟨v',hv',λ_=>rfl⟩
   .simp only[ah]at h;subst h;exact⟨c,Ci.refl _ _ _ _,gi.refl _ _⟩
  .cases h
 |cel k off ty T=>
  simp only[Ml]at h;split at h
  .rename_i id o hk;split at h
   .rename_i cty l hb;split at h
    .rename_i v hv;split at h
     .rename_i hn;simp only[ah]at h;subst h;obtain⟨L,Z,hr⟩:=XH c ty T;have hid:id≠s.nx:=λe=>by have:=c.invH.low id _ hb;omega
      obtain⟨c2,t2⟩:=aci L (id:=id) (cty:=cty) (l:=l) (v:=v) (u:=.row s.nx) (by show (s.h.set s.nx _).get id=_;rw[PT.get_set,ax hid];exact hb) hv hn (by simp only[ct,bS,PT.get_set,bG,aF,mV,fE,gw,cU,jG]) (by simp only[Lx,bS,PT.get_set,bG];rfl);exact⟨c2,by rw[<- Z];exact t2,gi.refl _ _⟩
     .simp only[ah]at h;subst h;exact⟨c,Ci.refl _ _ _ _,gi.refl _ _⟩
    .cases h
   .cases h
  .cases h
 |mpt k K V=>
  simp only[Ml]at h;split at h
  .rename_i id hk;split at h
   .rename_i K' V' es hb;split at h
    .rename_i hE;simp only[ah]at h;subst h;have hr:b_ s.h (s.h.set id (M (.mp K V []))):=b_.set λr hr=>by rw[bS,hb]at hr;cases hr
     have Z:bu (s.h.set id (M (.mp K V [])))=bu s.h:=by
      funext n;by_cases hn:n=nm id
      .subst hn;rw[bF,bF,PT.get_set,aC rfl,hb];simp only[aF,jF,zg (aag (lD.1 hE).1),zg (lD.1 hE).2,Od (lD.1 hE).1,List.map_nil]
      .refine kB c.invH hr λi e=>?_
       subst e;rw[PT.get_set,ax (λe=>hn (by rw[e]))]
     refine ⟨⟨by rw[Z];exact c.rep,?_,c.dom,c.low,c.invH.set hr (c.invH.low id _ hb) (bP _) (λ_ _ he=>by cases he),λt x A=>mY hr x (c.invE t x A),c.inert,c.size⟩,by rw[Z];exact Ci.refl _ _ _ _,gi.refl _ _⟩;intro t x A;rw[Z];simp only[fM]at A;cases he:s.e.get t with
     |none=>rw[he]at A;cases A
     |some q=>
      rw[he]at A;obtain⟨z,U⟩:=ph s.h q (c.invE t q he);simp only[aF,gr hr q z U,ah]at A;subst A;exact c.env t _ (by simp only[fM,he,aF,U])
    .simp only[ah]at h;subst h;exact⟨c,Ci.refl _ _ _ _,gi.refl _ _⟩
   .cases h
  .cases h
 |mz k n=>
  simp only[Ml]at h;split at h
  .rename_i id hk;split at h
   .rename_i K' V' es hb;split at h
    .rename_i hE;simp only[ah]at h;subst h;have hr:b_ s.h (s.h.set id (M (.cells D (aB n .nil)))):=b_.set λr hr=>by rw[bS,hb]at hr;cases hr
     have hold:bu s.h (nm id)=M ⟨0,.mp []⟩:=by rw[bF,hb];simp only[aF,jF,zg (aag hE),Od hE,List.map_nil]
     have hvs:∀(h:bi) m,cJ h (aB m .nil)=M (aB m (.f (.raw (.slice D 0 0)))):=λh m=>by
      induction m with
      |zero=>rfl
      |succ m ih=>rw[vV,vV];simp only[cJ,ct,ih]
     have hnew:bu (s.h.set id (M (.cells D (aB n .nil)))) (nm id)=M ⟨1,.mp (oU 0 (aB n (.f (.raw (.slice D 0 0)))))⟩:=by
      rw[bF,PT.get_set,aC rfl];simp only[aF,jF,hvs]
     have hoth:∀q,q≠nm id->bu (s.h.set id (M (.cells D (aB n .nil)))) q=bu s.h q:=λq hn'=>kB c.invH hr λi e=>by
      subst e;rw[PT.get_set,ax (λe=>hn' (by rw[e]))]
     have hdom:uV (bu s.h) (bu (s.h.set id (M (.cells D (aB n .nil))))):=λq b hb'=>by
      by_cases e:q=nm id
      .subst e;exact⟨_,hold⟩
      .rw[hoth q e]at hb';exact⟨b,hb'⟩
     have hV:Ht (bu s.h) (bu (s.h.set id (M (.cells D (aB n .nil))))):=⟨hdom,λq b b' h1 h2=>by
      by_cases e:q=nm id
      .subst e;rw[hold]at h1;cases h1;rw[hnew]at h2;cases h2;exact iN.lay n
      .rw[hoth q e,h1]at h2;cases h2;exact iN.refl hdom b⟩
     refine ⟨⟨hV.rep c.rep,?_,c.dom,c.low,c.invH.set hr (c.invH.low id _ hb) (bP _) (λty l2 he=>?_),λt x A=>mY hr x (c.invE t x A),c.inert,c.size⟩,⟨Ib.refl _ _,λk _ ho=>hdom.own ho,λ_ _=>rfl⟩,gi.refl _ _⟩
     .intro t x A;simp only[fM]at A;cases he:s.e.get t with
      |none=>rw[he]at A;cases A
      |some q=>
       rw[he]at A;obtain⟨z,U⟩:=ph s.h q (c.invE t q he);simp only[aF,gr hr q z U,ah]at A;subst A;exact (c.env t _ (by simp only[fM,he,aF,U])).dom hdom
     .simp only[iu.cells.injEq]at he;obtain⟨_,rfl⟩:=he;exact j8 _ _ _ (hvs _ n)
    .cases h
   .simp only[ah]at h;subst h;exact⟨c,Ci.refl _ _ _ _,gi.refl _ _⟩
  .cases h
 |pk k off T=>
  simp only[Ml]at h;split at h
  .obtain⟨h1,h2,h3⟩:=amc c h;exact⟨h1,h2,h3.mono λk hk=>by simp at hk⟩
  .cases h
theorem ajq {φ:PM} {s:TS} {a:Act} {w:World} (c:oW P E nt np φ s a w) {q:Adj} {s':TS} (h:Ml s q=M s'):∃φ',oW P E nt np φ' s' a w/\Ci np φ φ' (bu s.h) (bu s'.h) w w/\gi (mG [q] 0) s.e s'.e:=by
 by_cases hn:∃k off,q= .ren k off
 .obtain⟨k,off,rfl⟩:=hn;exact am7 c h
 .exact⟨φ,ajr c h λk off e=>hn ⟨k,off,e⟩⟩
theorem V4 {φ:PM} {a:Act} {w:World}:∀{l:Y Adj} {s s':TS},oW P E nt np φ s a w->Y1 s l=M s'->∃φ',oW P E nt np φ' s' a w/\Ci np φ φ' (bu s.h) (bu s'.h) w w/\gi (mG l 0) s.e s'.e
 |[],s,s',c,h=>by simp only[Y1,ah]at h;subst h;exact⟨φ,c,Ci.refl _ _ _ _,gi.refl _ _⟩
 |z::r,s,s',c,h=>by
  simp only[Y1]at h;split at h
  .rename_i s1 h1;obtain⟨φ1,U,t1,k1⟩:=ajq c h1;obtain⟨φ2,L,A,k2⟩:=V4 U h;refine ⟨φ2,L,t1.trans A,(k1.mono ?_).trans (k2.mono ?_)⟩
   .intro k hk;cases z with
    |nil q ty T=>simp only[mG]at hk ⊢;rw[lw,bp,hk];rfl
    |cel q off ty T=>simp[mG]at hk
    |mpt q K V=>simp[mG]at hk
    |mz q n=>simp[mG]at hk
    |pk q off T=>simp[mG]at hk
    |ren q off=>simp only[mG]at hk ⊢;rw[lw,bp,hk];rfl
   .intro k hk;cases z with
    |nil q ty T=>simp only[mG];rw[lw,bp,hk];simp
    |cel q off ty T=>simp only[mG];exact hk
    |mpt q K V=>simp only[mG];exact hk
    |mz q n=>simp only[mG];exact hk
    |pk q off T=>simp only[mG];exact hk
    |ren q off=>simp only[mG];rw[lw,bp,hk];simp
  .cases h
mutual
theorem Rn {h:bi}:∀(v:TV) (y:AV),ut v=J->ct h v=M y->y.all (λ_=>af)=J
 |.f _ _,y,_,he=>by simp only[ct,ah]at he;subst he;rfl
 |.fel _ _ _ _ _,y,_,he=>by simp only[ct,ah]at he;subst he;rfl
 |.emp,y,_,he=>by simp only[ct,ah]at he;subst he;rfl
 |.nil,y,_,he=>by simp only[ct,ah]at he;subst he;rfl
 |.undef,y,_,he=>by simp only[ct,ah]at he;subst he;rfl
 |.np,y,_,he=>by simp only[ct,ah]at he;subst he;rfl
 |.anyb,y,_,he=>by simp only[ct,ah]at he;subst he;rfl
 |.agg l,y,hl,he=>by
  simp only[ct]at he;split at he
  .rename_i l' hl';simp only[ah]at he;subst he;exact E7 l l' hl hl'
  .cases he
 |.tup l,y,hl,he=>by
  simp only[ct]at he;split at he
  .rename_i l' hl';simp only[ah]at he;subst he;exact E7 l l' hl hl'
  .cases he
 |.pel _ _ _ _,_,h,_=>by cases h
 |.ptr _ _,_,h,_=>by cases h
 |.csl _ _ _,_,h,_=>by cases h
 |.row _,_,h,_=>by cases h
 |.rtl _ _,_,h,_=>by cases h
 |.mp _,_,h,_=>by cases h
 |.clo _ _,_,h,_=>by cases h
theorem E7 {h:bi}:∀(l:Y TV) (l':Y AV),qE l=J->cJ h l=M l'->AV.allL (λ_=>af) l'=J
 |[],l',_,he=>by simp only[cJ,ah]at he;subst he;rfl
 |x::r,l',hl,he=>by
  obtain⟨y,l2,rfl,e1,e2⟩:=c4 he;simp only[qE,al]at hl;simp only[AV.allL,al];exact⟨Rn x y hl.1 e1,E7 r l2 hl.2 e2⟩
end
mutual
theorem Xa (h:bi):∀(v:TV),ut v=J->Lx h v=J
 |.f _ _,_=>rfl
 |.fel _ _ _ _ _,_=>rfl
 |.emp,_=>rfl
 |.nil,_=>rfl
 |.undef,_=>rfl
 |.np,_=>rfl
 |.anyb,_=>rfl
 |.agg l,hl=>Jv h l hl
 |.tup l,hl=>Jv h l hl
 |.pel _ _ _ _,h=>by cases h
 |.ptr _ _,h=>by cases h
 |.csl _ _ _,h=>by cases h
 |.row _,h=>by cases h
 |.rtl _ _,h=>by cases h
 |.mp _,h=>by cases h
 |.clo _ _,h=>by cases h
theorem Jv (h:bi):∀(l:Y TV),qE l=J->kX h l=J
 |[],_=>rfl
 |x::r,hl=>by
  simp only[qE,al]at hl;simp only[kX,al];exact⟨Xa h x hl.1,Jv h r hl.2⟩
end
structure Seen (np:Nat) (t:Tm) (x:t.ty.den) (us:List TV) (h1:bi) (φ φ':PM) (H:HF) (E:Nat->Prop) (w:World) (la lu:List AV):Prop where
 rep:re φ' E (bu h1) w
 val:∀(j:Nat) y v,lu[j]? =M y->∃z,la[j]? =M z/\(cN φ (tot E φ H) w z v->cN φ' (tot E φ' (bu h1)) w y v)
 len:lu.length=la.length
 tot_:∀k,tot E φ' (bu h1) k->tot E φ H k
 own_:∀k,own φ' (bu h1) k->own φ H k
 dom:∀n k,φ' n=M k->ow n<t.bs.length
 par:∀i,i<np->i<t.bs.length->φ' (nm i)=φ (nm i)
theorem Lr {t:Tm} {x:t.ty.den} {us:Y TV} {h1:bi} {l1:Y (I iu)} (A:qR t x us h1 l1) {h:bi} {nx:Nat} (hinv:mo h nx) {vs:Y TV} {m:Nat} {σ:PT Nat} {sm:Nat} (B:Ia np t vs h x m σ sm) {la:Y AV} (hla:cJ h vs=M la) {φ:PM} {w:World} (r:re φ E (bu h) w):∃φ' lu,cJ h1 us=M lu/\Seen np t x us h1 φ φ' (bu h) E w la lu:=by
 obtain⟨x1,m1,x2,m2,hx,hmm,gv,gb⟩:=B.ex;have hmr:dS h m:=by rw[hmm];exact (HW _ _ _ _ gv).or (HY _ _ _ _ gb)
 have pvg:qh (ip σ) t.vs x1=M (kN (ip σ) us):=by
  have L:=tU (ip σ) t.vs x1;have s:=A.pv;rw[hx,tN]at s;rw[L,s];rfl
 have pbg:oK (ip σ) t.bs x2=M (l1.map (me (lX (ip σ)))):=by
  have L:=v_ (ip σ) t.bs x2;have s:=A.pb;rw[hx,u_]at s;rw[L,s];rfl
 have hbm:∀i b,l1[i]? =M (M b)->∃b0,h.get (ip σ i)=M b0/\BM (ip σ) h m b0 (lX (ip σ) b):=λi b hb=>by
  obtain⟨b0,U,Z⟩:=Jt t.bs 0 x2 m2 _ gb pbg i (lX (ip σ) b) (by rw[ba,hb];rfl);rw[bI]at U;exact⟨b0,U,Z.mono λj hj=>by rw[hmm,bp,hj];simp⟩
 let hv:bi:=AG (ip σ) 0 (l1.map (me (lX (ip σ)))) PT.leaf
 have hv_at:∀i b,l1[i]? =M (M b)->hv.get (ip σ i)=M (lX (ip σ) b):=λi b hb=>by
  have:=vi (ip σ) (l1.map (me (lX (ip σ)))) 0 PT.leaf (λa b ha hb=>by
   simp only[bR,A.len]at ha hb;simp only[bI];exact B.inj a b ha hb) i (M (lX (ip σ) b)) (by rw[ba,hb];rfl)
  rw[bI]at this;exact this
 have hv_ex:∀j c,hv.get j=M c->∃i b,l1[i]? =M (M b)/\j=ip σ i/\c=lX (ip σ) b:=λj c hj=>by
  by_cases hex:∃i,i<l1.length/\j=ip σ i
  .obtain⟨i,hi,rfl⟩:=hex;have hcc:=ay hi;cases hcv:l1[i] with
   |some b=>rw[hcv]at hcc;rw[hv_at i b hcc]at hj;cases hj;exact⟨i,b,hcc,rfl,rfl⟩
   |none=>
    rw[hcv]at hcc;have:=vi (ip σ) (l1.map (me (lX (ip σ)))) 0 PT.leaf (λa b ha hb=>by
     simp only[bR,A.len]at ha hb;simp only[bI];exact B.inj a b ha hb) i D (by rw[ba,hcc];rfl)
    rw[bI]at this;have hj':(AG (ip σ) 0 (l1.map (me (lX (ip σ)))) PT.leaf).get (ip σ i)=M c:=hj;rw[this]at hj';simp[PT.get]at hj'
  .have:hv.get j=(PT.leaf:bi).get j:=vh (ip σ) _ 0 _ j λk hk=>by
    simp only[bR]at hk;rw[bI];exact λe=>hex ⟨k,hk,e⟩
   rw[this]at hj;simp[PT.get]at hj
 have rows_in:xW hv h:=λj q hq=>by
  rw[bS]at hq ⊢;cases hc:hv.get j with
  |none=>rw[hc]at hq;cases hq
  |some c=>
   rw[hc]at hq;obtain⟨i,b,U,rfl,rfl⟩:=hv_ex j c hc;obtain⟨b0,Z,q3⟩:=hbm i b U;rw[Z];simp only[aF]at hq ⊢;rw[<- q3.row];exact hq
 have rows_h1:∀i q,eH h1 i=M q->eH hv (ip σ i)=M q:=λi q hq=>by
  rw[bS]at hq ⊢;cases hb:h1.get i with
  |none=>rw[hb]at hq;cases hq
  |some b=>
   rw[hb]at hq;rw[hv_at i b ((A.at_ i b).1 hb)];simp only[aF,Iq]at hq ⊢;exact hq
 have hd:uV (bu h) (bu hv):=λn y hy=>by
  obtain⟨j,c,rfl,L,s⟩:=jD hy;obtain⟨i,b,U,rfl,rfl⟩:=hv_ex j c L;obtain⟨b0,Z,q3⟩:=hbm i b U;obtain⟨y0,hy0⟩:=BM.erB_some hinv Z q3 s;exact⟨y0,by rw[bF,Z];exact hy0⟩
 have gvv:Eh h (bu h) (bu hv) m:=λi hi=>⟨rfl,by
  cases hc:bu hv (nm i) with
  |none=>rfl
  |some y=>
   obtain⟨j,c,e,L,s⟩:=jD hc;have:=kY e;subst this;obtain⟨k,b,U,rfl,rfl⟩:=hv_ex i c L;have hk:k<t.bs.length:=by rw[<- A.len];exact (bh.1 U).1
   have h5:=B.disj _ hi;rw[(B.sig _).2 ⟨k,hk,rfl⟩]at h5;cases h5⟩
 have V:Ht (bu h) (bu hv):=⟨hd,λn b b' hb hb'=>by
  obtain⟨j,c,rfl,L,s⟩:=jD hb';obtain⟨i,bb,U,rfl,rfl⟩:=hv_ex j c L;obtain⟨b0,Z,q3⟩:=hbm i bb U;rw[bF,Z]at hb;exact BM.view hd gvv rows_in q3 hb s⟩
 have rv:=V.rep r;have T:agb t x us h1 (ip σ) φ E E (bu hv) w:=by
  refine re.toId A B.inj rv (λi b yb hb hyb=>?_) (λk hk=>.inl hk) (λi k b hi L s hE=>?_) rv.el
  .rw[bF,hv_at i b ((A.at_ i b).1 hb)];exact Dl rows_h1 hyb
  .obtain⟨k',p1,p2,_⟩:=rv.at_ _ _ L;rw[s]at p1;cases p1;exact p2 hE
 obtain⟨lu,hlu⟩:=fd h1 us A.ok;have hlug:cJ hv (kN (ip σ) us)=M (AV.renL (HZ (ip σ)) lu):=pa rows_h1 us lu hlu;have hle:=Df hd rows_in t.vs vs x1 m1 _ la _ gv pvg hla hlug (λi hi=>gvv i (by rw[hmm,bp,hi];rfl));have hall:=r7 us lu A.lt hlu;refine ⟨_,lu,hlu,T.rep,λj y v hy=>?_,?_,λk hk=>hd.tot (T.tot_ k hk),λk hk=>hd.own (T.own_ k hk),λn k hk=>?_,λi hi hb=>?_⟩
 .rw[mX]at hle;obtain⟨z,hz,hlz⟩:=hle.get j (y.ren (HZ (ip σ))) (by rw[ba,hy];rfl);exact⟨z,hz,λhr=>T.val y v (mm hall y (aX hy)) (hlz _ _ _ _ r hr)⟩
 .have:=hle.length;rw[mX,bR]at this;exact this
 .obtain⟨i,hi,rfl,_⟩:=xk hk;rw[dU];exact hi
 .rw[ZL hb,B.fix i hi]
theorem Oi {φ:PM} {s':TS} {a:Act} {w:World} (c:oW P E nt np φ s' a w) {A:ZG} {am:Nat} {s0 s1:TS} {x:A.D} (q:LY np A am s0 s'=M x) (hs:G5 A am s0 x=M s1)
 (hk:∀k,k∈A.keep->k∉A.ks->∀v,s0.e.get k=M v->ut v=J->aM am k=af->∀U,s'.e.get k=M U->U=v):∃φ',oW P E nt np φ' s1 a w/\Ci np φ φ' (bu s'.h) (bu s1.h) w w:=by
 unfold LY at q;split at q
 .rename_i hc;simp only[al]at hc;have hnp:=a_ hc.1;split at q
  .rename_i s2 h2;obtain⟨φ2,c2,t2,_⟩:=V4 c h2;split at q
   .rename_i vs hvs;split at q
    .rename_i z m σ sm hM;simp only[ah]at q;subst q;have B:=wA hM;unfold G5 at hs;split at hs
     .rename_i us h1 hi;obtain⟨l1,H⟩:=wG hi;split at hs
      .rename_i hlen;have hlen:=ar hlen;simp only[ah]at hs;subst hs;obtain⟨g1,g2⟩:=W9 hvs;have hvok:kX s2.h vs=J:=ID c2.invE hvs;obtain⟨la,hla⟩:=fd s2.h vs hvok;obtain⟨φ',lu,hlu,S⟩:=Lr (E:=E) H c2.invH B hla c2.rep;refine ⟨φ',⟨S.rep,?_,S.dom,hnp,⟨λi ty l hl=>(H.cells i _ l hl).1,λi b hb=>H.lt_len hb⟩,?_,c.inert,c.size⟩,t2.trans ⟨Ib.refl _ _,λk _ h=>S.own_ k h,λi hi=>S.par i hi (by omega)⟩⟩
       .intro t y s;simp only[fM]at s;cases ht:(XW (C3 am s0.e A.keep) A.ks us).get t with
        |none=>rw[ht]at s;cases s
        |some v=>
         rw[ht]at s;simp only[aF]at s;rcases CD hlen t v ht with ⟨j,q1,L⟩|⟨q1,L⟩
         .obtain⟨y',p1,p2⟩:=lm hlu j v L;rw[s]at p2;cases p2;obtain⟨z,p3,p4⟩:=S.val j y (a.tmps.getD t undef) p1;refine p4 ?_;obtain⟨v0,p5,p6⟩:=g2 j t q1;obtain⟨z',p7,p8⟩:=lm hla j v0 p5;rw[p3]at p7;cases p7;exact c2.env t _ (by simp only[fM,p6,aF,p8])
         .obtain⟨k1,k2,k3,k4⟩:=tX L;obtain⟨U,k5⟩:=I0 hc.2 t v k1 k2 k3 k4;have:=hk t k1 q1 v k2 k3 k4 U k5;subst this;have h3:=c.env t y (by simp only[fM,k5,aF];rw[Rx s'.h h1 U k3];exact s);exact h3.restrict (p:=λ_=>af) (λi k hi _=>by cases hi) (λk hk=>by
           have Z:=S.tot_ k hk;rcases Z with Z|Z
           .exact .inl Z
           .exact .inr (by
             have hkl:k<w.heap.size:=by
              obtain⟨n,b,e1,e2⟩:=Z;obtain⟨k',p1,_,ob,p3,_⟩:=c2.rep.at_ n b e1;rw[e2]at p1;cases p1;exact (cC.1 p3).1
             exact t2.own_ k hkl Z)) (Rn U y k3 s)
       .intro t v hv;rcases CD hlen t v hv with ⟨j,q1,L⟩|⟨q1,L⟩
        .obtain⟨y',_,p2⟩:=lm hlu j v L;exact Fb _ _ _ p2
        .exact Xa _ v (tX L).2.2.1
      .cases hs
     .cases hs
    .cases q
   .cases q
  .cases q
 .cases q
theorem Eo {A:ZG} {am:Nat} {a s1:TS} {x:A.D} (hs:G5 A am a x=M s1):gi (LA A.ks 0) a.e s1.e/\∀k,k∉A.ks->∀v,s1.e.get k=M v->a.e.get k=M v:=by
 unfold G5 at hs;split at hs
 .rename_i us h1 hi;split at hs
  .rename_i hlen;have hlen:=ar hlen;simp only[ah]at hs;subst hs;have key:∀k,k∉A.ks->∀v,(XW (C3 am a.e A.keep) A.ks us).get k=M v->a.e.get k=M v:=λk hk v hv=>by
    rcases CD hlen k v hv with ⟨j,s,_⟩|⟨_,q⟩
    .exact bZ (aX s) hk
    .exact (tX q).2.1
   refine ⟨λk hk c hv=>?_,key⟩;have hnk:k∉A.ks:=λhm=>by rw[WY hm]at hk;cases hk
   exact⟨c,key k hnk c hv,λ_=>rfl⟩
  .cases hs
 .cases hs
end walk
inductive Er:TC->SC->Prop
 |skip:Er .skip .skip
 |reg (ops:List sO) (prs:List (Nat×Nat)):Er (.reg ops prs) (.reg ops prs)
 |seq {a b:TC} {a' b':SC}:Er a a'->Er b b'->Er (.seq a b) (.seq a' b')
 |jseq (A:ZG) {a b:TC} {a' b':SC}:Er a a'->Er b b'->Er (.jseq A a b) (.seq a' b')
 |cond (c:Nat) {a b:TC} {a' b':SC}:Er a a'->Er b b'->Er (.cond c a b) (.cond c a' b')
 |block (id:Nat) {b:TC} {b':SC}:Er b b'->Er (.block id b) (.block id b')
 |jblock (A:ZG) (id:Nat) {b:TC} {b':SC}:Er b b'->Er (.jblock A id b) (.block id b')
 |loop (A:ZG) {b:TC} {b':SC}:Er b b'->Er (.loop A b) (.loop b')
 |exit (id:Nat):Er (.exit id) (.exit id)
 |ret:Er .ret .ret
 |defer (f:FuncId) (c:List Operand) (t:Nat):Er (.defer f c t) (.defer f c t)
 |adj (l:List Adj) {c:TC} {c':SC}:Er c c'->Er (.adj l c) c'
 |split (k off lo n:Nat) {c:TC} {c':SC}:Er c c'->Er (.split k off lo n c) c'
 |unl (n:Nat) {b:TC} {b':SC}:Er b b'->Er (.unl n b) (.loop b')
 |bad (c:SC):Er .bad c
theorem Cu {H:PT adb} {n:Nat} {c:TC} {c':SC} (h:Er c c'):Er (If H n c) c':=by
 unfold If;split
 .exact .adj _ h
 .exact .split _ _ _ _ h
 .exact h
theorem xR (H:PT adb):∀(c:SC) (n:Nat),Er (DP H c n).1 c
 |.skip,n=>Cu .skip
 |.reg o p,n=>Cu (.reg o p)
 |.seq a b,n=>by
  have h1:=xR H a (n+1);have h2:=xR H b (DP H a (n+1)).2;simp only[DP];split
  .exact .jseq _ h1 h2
  .exact .seq h1 h2
 |.cond c a b,n=>by
  have h1:=xR H a (n+1);have h2:=xR H b (DP H a (n+1)).2;simp only[DP];exact Cu (.cond c h1 h2)
 |.block id b,n=>by
  have h1:=xR H b (n+1);simp only[DP];split
  .exact .jblock _ id h1
  .exact .block id h1
 |.loop b,n=>by
  have h1:=xR H b (n+1);simp only[DP];split
  .exact .loop _ h1
  .exact .unl _ h1
  .exact .bad _
 |.exit id,n=>Cu (.exit id)
 |.ret,n=>Cu .ret
 |.defer f c t,n=>.defer f c t
 |.bad,n=>.bad _
theorem X7 {σ R:Type} {step:σ->I (σ⊕R)} {x:σ} {r:R} (h:iter step x=M r):∃n,iterN step n x=M r:=by
 unfold iter at h;split at h
 .exact⟨_,h⟩
 .cases h
theorem W2 {α R:Type} {o:I (R⊕α)} {k:α->I R} {r:R} (h:jn o k=M r):(∃x,o=M (.inr x)/\k x=M r)\/o=M (.inl r):=by
 unfold jn at h;split at h
 .exact .inl ⟨_,rfl,h⟩
 .cases h;exact .inr rfl
 .cases h
section inv
variable {P:Program} {nt:Nat}
theorem zS (id:Nat) (ops:Array Oper) (a:Bool):cu P nt (.region id ops a)= .bad\/
 ((ops.toList.all λo=>match o.dst with|some d=>decide (d<nt)|none=>J)=J/\
   ((∃f caps t,DO ops a=M (f,caps,t)/\cu P nt (.region id ops a)= .defer f caps t)\/
    ∃l prs,sj P ops ops.toList=M l/\MI ops l=M prs/\cu P nt (.region id ops a)= .reg l prs)):=by
 simp only[cu];split
 .rename_i hd;split
  .rename_i f caps t h;exact .inr ⟨hd,.inl ⟨f,caps,t,h,rfl⟩⟩
  .split
   .rename_i l hl;split
    .rename_i prs hp;exact .inr ⟨hd,.inr ⟨l,prs,hl,hp,rfl⟩⟩
    .exact .inl rfl
   .exact .inl rfl
 .exact .inl rfl
def Ey:Code->Bool
 |.cond (.const (.bool _)) _ _=>af
 |_=>J
theorem ko (P:Program) (nt:Nat) (c:Code):∃c',Ey c'=J/\cu P nt c'=cu P nt c/\∀Q a w,c'.wp P Q a w->c.wp P Q a w:=by
 have self:∀c:Code,Ey c=J->∃c',Ey c'=J/\cu P nt c'=cu P nt c/\∀Q a w,c'.wp P Q a w->c.wp P Q a w:=λc h=>⟨c,h,rfl,λ_ _ _ h=>h⟩
 induction c with
 |cond o x y ihx ihy=>
  cases o with
  |const v=>
   cases v with
   |bool b=>
    cases b with
    |true=>
     obtain⟨c',h1,h2,q⟩:=ihx;exact⟨c',h1,h2,λQ a w h=>wp_cond_true rfl (q Q a w h)⟩
    |false=>
     obtain⟨c',h1,h2,q⟩:=ihy;exact⟨c',h1,h2,λQ a w h=>wp_cond_false rfl (q Q a w h)⟩
   |_=>exact self _ rfl
  |_=>exact self _ rfl
 |_=>exact self _ rfl
theorem FR {α:Prop} {o:Operand} {x y:Code} {sc:SC} (hn:Ey (.cond o x y)=J) (h:cu P nt (.cond o x y)=sc) (h1:sc≠ .bad) (h2:∀t a b,sc≠ .cond t a b):α:=by
 cases o with
 |tmp q=>exact (h2 _ _ _ h.symm).elim
 |const v=>cases v<;>first|exact (h1 h.symm).elim|cases hn
 |global g=>exact (h1 h.symm).elim
 |func f=>exact (h1 h.symm).elim
theorem af0 {c:Code} {sl:Y sO} {prs:Y (Nat×Nat)} (hn:Ey c=J) (h:cu P nt c= .reg sl prs):∃id ops a,c= .region id ops a/\(ops.toList.all λo=>match o.dst with|some d=>decide (d<nt)|none=>J)=J/\sj P ops ops.toList=M sl/\MI ops sl=M prs:=by
 cases c with
 |region id ops a=>
  rcases zS (P:=P) (nt:=nt) id ops a with h1|⟨hd,⟨f,caps,t,_,h1⟩|⟨l,p,h2,q,h1⟩⟩
  .rw[h1]at h;cases h
  .rw[h1]at h;cases h
  .rw[h1]at h;cases h;exact⟨id,ops,a,rfl,hd,h2,q⟩
 |cond o x y=>exact FR hn h (by simp) (by simp)
 |_=>simp[cu]at h
theorem X8 {c:Code} {f:FuncId} {caps:Y Operand} {t:Nat} (hn:Ey c=J) (h:cu P nt c= .defer f caps t):∃id ops a,c= .region id ops a/\(ops.toList.all λo=>match o.dst with|some d=>decide (d<nt)|none=>J)=J/\DO ops a=M (f,caps,t):=by
 cases c with
 |region id ops a=>
  rcases zS (P:=P) (nt:=nt) id ops a with h1|⟨hd,⟨f',caps',t',h2,h1⟩|⟨l,p,h2,q,h1⟩⟩
  .rw[h1]at h;cases h
  .rw[h1]at h;cases h;exact⟨id,ops,a,rfl,hd,h2⟩
  .rw[h1]at h;cases h
 |cond o x y=>exact FR hn h (by simp) (by simp)
 |_=>simp[cu]at h
theorem po {c:Code} {sc:SC} (h:cu P nt c=sc) (h1:sc≠ .bad) (h2:∀a b,sc≠ .reg a b) (z:∀a b t,sc≠ .defer a b t):∀id ops s,c≠ .region id ops s:=by
 rintro id ops s rfl;rcases zS (P:=P) (nt:=nt) id ops s with q|⟨_,⟨f,caps,t,_,q⟩|⟨l,p,_,_,q⟩⟩<;>rw[q]at h
 .exact h1 h.symm
 .exact z _ _ _ h.symm
 .exact h2 _ _ h.symm
theorem aaq {c:Code} (hn:Ey c=J) (h:cu P nt c= .skip):c= .skip:=by
 have a:=po h (by simp) (by simp) (by simp);cases c with
 |skip=>rfl
 |region id ops q=>exact bZ rfl (a id ops q)
 |cond o x y=>exact FR hn h (by simp) (by simp)
 |_=>simp[cu]at h
theorem aez {c:Code} (hn:Ey c=J) (h:cu P nt c= .ret):c= .ret:=by
 have a:=po h (by simp) (by simp) (by simp);cases c with
 |ret=>rfl
 |region id ops q=>exact bZ rfl (a id ops q)
 |cond o x y=>exact FR hn h (by simp) (by simp)
 |_=>simp[cu]at h
theorem aar {c:Code} {i:Nat} (hn:Ey c=J) (h:cu P nt c= .exit i):c= .exit i:=by
 have a:=po h (by simp) (by simp) (by simp);cases c with
 |exit id=>simp[cu]at h;rw[h]
 |region id ops q=>exact bZ rfl (a id ops q)
 |cond o x y=>exact FR hn h (by simp) (by simp)
 |_=>simp[cu]at h
theorem W3 {c:Code} {a b:SC} (hn:Ey c=J) (h:cu P nt c= .seq a b):∃x y,c= .seq x y/\cu P nt x=a/\cu P nt y=b:=by
 have q:=po h (by simp) (by simp) (by simp);cases c with
 |seq x y=>simp[cu]at h;exact⟨x,y,rfl,h.1,h.2⟩
 |region id ops s=>exact bZ rfl (q id ops s)
 |cond o x y=>exact FR hn h (by simp) (by simp)
 |_=>simp[cu]at h
theorem aas {c:Code} {t:Nat} {a b:SC} (hn:Ey c=J) (h:cu P nt c= .cond t a b):∃x y,c= .cond (.tmp t) x y/\cu P nt x=a/\cu P nt y=b:=by
 have s:=po h (by simp) (by simp) (by simp);cases c with
 |cond o x y=>
  cases o with
  |tmp q=>simp[cu]at h;obtain⟨rfl,h1,h2⟩:=h;exact⟨x,y,rfl,h1,h2⟩
  |const v=>cases v<;>first|(simp [cu]at h;done)|cases hn
  |_=>simp[cu]at h
 |region id ops z=>exact bZ rfl (s id ops z)
 |_=>simp[cu]at h
theorem MZ {c:Code} {id:Nat} {b:SC} (hn:Ey c=J) (h:cu P nt c= .block id b):∃y,c= .block id y/\cu P nt y=b:=by
 have a:=po h (by simp) (by simp) (by simp);cases c with
 |block i y=>simp[cu]at h;obtain⟨rfl,h1⟩:=h;exact⟨y,rfl,h1⟩
 |region id ops q=>exact bZ rfl (a id ops q)
 |cond o x y=>exact FR hn h (by simp) (by simp)
 |_=>simp[cu]at h
theorem QL {c:Code} {b:SC} (hn:Ey c=J) (h:cu P nt c= .loop b):∃y,c= .loop y/\cu P nt y=b:=by
 have a:=po h (by simp) (by simp) (by simp);cases c with
 |loop y=>simp[cu]at h;exact⟨y,rfl,h⟩
 |region id ops q=>exact bZ rfl (a id ops q)
 |cond o x y=>exact FR hn h (by simp) (by simp)
 |_=>simp[cu]at h
end inv
def ai9 {R:Type} (P:Program) (E:Nat->Prop) (nt np:Nat) (φ:PM) (s:TS) (w:World) (am:Nat) (K:Ex->TS->I R) (r:R):Exit->Act->World->Prop:=
 λe a' w'=>∃ex s' φ',e=ex.to/\K ex s'=M r/\oW P E nt np φ' s' a' w'/\Ci np φ φ' (bu s.h) (bu s'.h) w w'/\gi am s.e s'.e
theorem oW.bool {P:Program} {E:Nat->Prop} {nt np:Nat} {φ:PM} {s:TS} {a:Act} {w:World} (c:oW P E nt np φ s a w) {t:Nat} {b:Bool} (ht:s.e.get t=M (.f .bool b)):a.eval (.tmp t)= .bool b:=
 fk (c.env t _ (by simp only[fM,ht,aF,ct];rfl))
theorem oW.anyb {P:Program} {E:Nat->Prop} {nt np:Nat} {φ:PM} {s:TS} {a:Act} {w:World} (c:oW P E nt np φ s a w) {t:Nat} (ht:s.e.get t=M .anyb):∃b,a.eval (.tmp t)= .bool b:=by
 have:=c.env t .anyb (by simp only[fM,ht,aF,ct]);show ∃b,a.tmps.getD t undef= .bool b;generalize a.tmps.getD t undef=z at this;cases this with
 |anyb=>exact⟨_,rfl⟩
theorem YZ {R:Type} {a b:I R} {r:R} (h:Fr a b=M r):a=M r/\b=M r:=by
 unfold Fr at h;split at h
 .rename_i e;exact⟨h,by rw[<- e];exact h⟩
 .cases h
theorem ain {P:Program} {E:Nat->Prop} {nt np:Nat} {con:FuncId->I cA} {b9:TypeId->I Ty} {inert:FuncId->Bool} (hm:P.follows .mixedOrders=J) (hcon:La P con) (hin:K6 P inert):
 ∀{tc:TC} {sc:SC},Er tc sc->∀(c:Code),cu P nt c=sc->∀(R:Type) (s:TS) (K:Ex->TS->I R) (r:R),pg np con b9 inert tc s K=M r->∀(φ:PM) (a:Act) (w:World),oW P E nt np φ s a w->c.wp P (ai9 P E nt np φ s w (tc.asg 0) K r) a w:=by
 intro tc sc hE;induction hE with
 |skip=>
  intro c hc R s K r h φ a w g;obtain⟨c',hn,z,hsim⟩:=ko P nt c;refine hsim _ _ _ ?_;rw[<- z]at hc;rw[aaq hn hc];exact wp_skip ⟨.normal,s,φ,rfl,h,g,Ci.refl _ _ _ _,gi.refl _ _⟩
 |reg ops prs=>
  intro c hc R s K r h φ a w g;obtain⟨c',hn,z,hsim⟩:=ko P nt c;refine hsim _ _ _ ?_;rw[<- z]at hc;obtain⟨id,os,dr,rfl,h1,h2,h3⟩:=af0 hn hc;simp only[pg]at h;refine Z7 (K:=λs'=>K .normal s') hm hcon g (am:=Pv ops 0) (λj o d ho hd=>?_) h1 h2 h3 h λa' w' s' φ' q1 L q3 q4=>⟨.normal,s',φ',rfl,q1,L,q3,q4⟩
  have hmem:o∈os.toList:=by have:=Array.mem_of_getElem? ho;simpa using this
  have key:∀(rest:Y Oper) (sl:Y sO),sj P os rest=M sl->∀o∈rest,∃so∈sl,so.dst=o.dst:=by
   intro rest;induction rest with
   |nil=>intro sl _ o ho;cases ho
   |cons x rest ih=>
    intro sl hsl o ho;simp only[sj]at hsl;split at hsl
    .rename_i l hl;have:∃so,sl=so::l/\so.dst=x.dst:=by
      split at hsl
      .simp only[ah]at hsl;exact⟨_,hsl.symm,rfl⟩
      .split at hsl
       .simp only[ah]at hsl;exact⟨_,hsl.symm,rfl⟩
       .cases hsl
     obtain⟨so,rfl,hso⟩:=this;rcases bk.1 ho with rfl|ho
     .exact⟨so,by simp,hso⟩
     .obtain⟨q,hq,hq2⟩:=ih l hl o ho;exact⟨q,by simp[hq],hq2⟩
    .cases hsl
  obtain⟨so,hso,hd2⟩:=key os.toList ops h2 o hmem;exact SM hso (by rw[hd2];exact hd)
 |@seq x y x' y' _ _ ihx ihy=>
  intro c hc R s K r h φ a w g;obtain⟨c',hn,z,hsim⟩:=ko P nt c;refine hsim _ _ _ ?_;rw[<- z]at hc;obtain⟨cx,cy,rfl,h1,h2⟩:=W3 hn hc;simp only[pg]at h;refine wp_seq (wp_mono (ihx cx h1 R s _ r h φ a w g) ?_);rintro e a' w' ⟨ex,s',φ',rfl,hk,g',st,U⟩;have kp':gi ((TC.seq x y).asg 0) s.e s'.e:=U.mono λk hk=>by simp only[TC.asg];exact kC hk
  cases ex with
  |normal=>
   refine wp_mono (ihy cy h2 R s' K r hk φ' a' w' g') ?_;rintro e2 a2 w2 ⟨ex2,s2,φ2,rfl,hk2,g2,Z0,kp2⟩;exact⟨ex2,s2,φ2,rfl,hk2,g2,st.trans Z0,kp'.trans (kp2.mono λk hk=>by simp only[TC.asg];exact vz hk)⟩
  |exit id=>exact⟨.exit id,s',φ',rfl,hk,g',st,kp'⟩
  |ret=>exact⟨.ret,s',φ',rfl,hk,g',st,kp'⟩
 |@jseq A x y x' y' _ _ ihx ihy=>
  intro c hc R s K r h φ a w g;obtain⟨c',hn,z,hsim⟩:=ko P nt c;refine hsim _ _ _ ?_;rw[<- z]at hc;obtain⟨cx,cy,rfl,h1,h2⟩:=W3 hn hc;simp only[pg]at h;have sub1:∀k,aM (x.asg 0) k=J->aM ((TC.jseq A x y).asg 0) k=J:=λk hk=>by simp only[TC.asg];exact kC (vz hk)
  have sub2:∀k,aM (y.asg 0) k=J->aM ((TC.jseq A x y).asg 0) k=J:=λk hk=>by simp only[TC.asg];exact vz hk
  have sub3:∀k,aM (LA A.ks 0) k=J->aM ((TC.jseq A x y).asg 0) k=J:=λk hk=>by simp only[TC.asg];exact kC (kC hk)
  rcases W2 h with ⟨d,h3,h4⟩|h3
  .refine wp_seq (wp_mono (ihx cx h1 _ s _ _ h3 φ a w g) ?_);rintro e a' w' ⟨ex,s',φ',rfl,hk,g',st,U⟩;cases ex with
   |normal=>
    simp only[]at hk;obtain⟨d',q1,L⟩:=dK hk;simp only[ah,Sum.inr.injEq]at L;subst L;split at h4
    .rename_i s1 hs1;obtain⟨φ1,g1,In⟩:=Oi g' q1 hs1 λk _ _ v hv hf ha v' Z=>by
      obtain⟨v0,e1,e2⟩:=U k ha v' Z;rw[hv]at e1;cases e1;exact e2 hf
     refine wp_mono (ihy cy h2 R s1 K r h4 φ1 a' w' g1) ?_;rintro e2 a2 w2 ⟨ex2,s2,φ2,rfl,hk2,g2,Z0,kp2⟩;exact⟨ex2,s2,φ2,rfl,hk2,g2,(st.trans In).trans Z0,((Eo hs1).1.mono sub3).trans (kp2.mono sub2)⟩
    .cases h4
   |exit id=>simp only[]at hk;obtain⟨_,_,L⟩:=dK hk;simp at L
   |ret=>simp only[]at hk;obtain⟨_,_,L⟩:=dK hk;simp at L
  .refine wp_seq (wp_mono (ihx cx h1 _ s _ _ h3 φ a w g) ?_);rintro e a' w' ⟨ex,s',φ',rfl,hk,g',st,U⟩;cases ex with
   |normal=>simp only[]at hk;obtain⟨_,_,L⟩:=dK hk;simp at L
   |exit id=>
    simp only[]at hk;obtain⟨r',q1,L⟩:=dK hk;simp only[ah,Sum.inl.injEq]at L;subst L;exact⟨.exit id,s',φ',rfl,q1,g',st,U.mono sub1⟩
   |ret=>
    simp only[]at hk;obtain⟨r',q1,L⟩:=dK hk;simp only[ah,Sum.inl.injEq]at L;subst L;exact⟨.ret,s',φ',rfl,q1,g',st,U.mono sub1⟩
 |@cond t x y x' y' _ _ ihx ihy=>
  intro c hc R s K r h φ a w g;obtain⟨c',hn,z,hsim⟩:=ko P nt c;refine hsim _ _ _ ?_;rw[<- z]at hc;obtain⟨cx,cy,rfl,h1,h2⟩:=aas hn hc;simp only[pg]at h;split at h
  .rename_i b hb;rcases pH h with ⟨rfl,h⟩|⟨rfl,h⟩
   .refine wp_cond_true (g.bool hb) (wp_mono (ihx cx h1 R s K r h φ a w g) ?_);rintro e a' w' ⟨ex,s',φ',rfl,hk,g',st,U⟩;exact⟨ex,s',φ',rfl,hk,g',st,U.mono λk hk=>by simp only[TC.asg];exact kC hk⟩
   .refine wp_cond_false (g.bool hb) (wp_mono (ihy cy h2 R s K r h φ a w g) ?_);rintro e a' w' ⟨ex,s',φ',rfl,hk,g',st,U⟩;exact⟨ex,s',φ',rfl,hk,g',st,U.mono λk hk=>by simp only[TC.asg];exact vz hk⟩
  .rename_i hb;obtain⟨ha,hbb⟩:=YZ h;obtain⟨bv,hbv⟩:=g.anyb hb;cases bv with
   |true=>
    refine wp_cond_true hbv (wp_mono (ihx cx h1 R s K r ha φ a w g) ?_);rintro e a' w' ⟨ex,s',φ',rfl,hk,g',st,U⟩;exact⟨ex,s',φ',rfl,hk,g',st,U.mono λk hk=>by simp only[TC.asg];exact kC hk⟩
   |false=>
    refine wp_cond_false hbv (wp_mono (ihy cy h2 R s K r hbb φ a w g) ?_);rintro e a' w' ⟨ex,s',φ',rfl,hk,g',st,U⟩;exact⟨ex,s',φ',rfl,hk,g',st,U.mono λk hk=>by simp only[TC.asg];exact vz hk⟩
  .cases h
 |@block id b b' _ ih=>
  intro c hc R s K r h φ a w g;obtain⟨c',hn,z,hsim⟩:=ko P nt c;refine hsim _ _ _ ?_;rw[<- z]at hc;obtain⟨cb,rfl,h1⟩:=MZ hn hc;simp only[pg]at h;refine wp_block (wp_mono (ih cb h1 R s _ r h φ a w g) ?_);rintro e a' w' ⟨ex,s',φ',rfl,hk,g',st,U⟩;cases ex with
  |normal=>exact⟨.normal,s',φ',rfl,hk,g',st,U⟩
  |ret=>exact⟨.ret,s',φ',rfl,hk,g',st,U⟩
  |exit i=>
   simp only[Ex.to,Exit.inBlock];simp only[]at hk;split at hk
   .rename_i hb;rw[aC (ar hb)];exact⟨.normal,s',φ',rfl,hk,g',st,U⟩
   .rename_i hb;rw[ax (λe=>hb (by rw[e];exact rV id))];exact⟨.exit i,s',φ',rfl,hk,g',st,U⟩
 |@jblock A id b b' _ ih=>
  intro c hc R s K r h φ a w g;obtain⟨c',hn,z,hsim⟩:=ko P nt c;refine hsim _ _ _ ?_;rw[<- z]at hc;obtain⟨cb,rfl,h1⟩:=MZ hn hc;simp only[pg]at h;have sub1:∀k,aM (b.asg 0) k=J->aM ((TC.jblock A id b).asg 0) k=J:=λk hk=>by simp only[TC.asg];exact vz hk
  have sub3:∀k,aM (LA A.ks 0) k=J->aM ((TC.jblock A id b).asg 0) k=J:=λk hk=>by simp only[TC.asg];exact kC hk
  rcases W2 h with ⟨d,h3,h4⟩|h3
  .refine wp_block (wp_mono (ih cb h1 _ s _ _ h3 φ a w g) ?_);rintro e a' w' ⟨ex,s',φ',rfl,hk,g',st,U⟩;have fin:av (LY np A (b.asg 0) s s') (λx=>M (bX (α:=R) x))=M (bX d)->ai9 P E nt np φ s w ((TC.jblock A id b).asg 0) K r .normal a' w':=by
    intro hk;obtain⟨d',q1,L⟩:=dK hk;simp only[ah,Sum.inr.injEq]at L;subst L;split at h4
    .rename_i s1 hs1;obtain⟨φ1,g1,In⟩:=Oi g' q1 hs1 λk _ _ v hv hf ha v' Z=>by
      obtain⟨v0,e1,e2⟩:=U k ha v' Z;rw[hv]at e1;cases e1;exact e2 hf
     exact⟨.normal,s1,φ1,rfl,h4,g1,st.trans In,(Eo hs1).1.mono sub3⟩
    .cases h4
   cases ex with
   |normal=>exact fin hk
   |ret=>simp only[]at hk;obtain⟨_,_,L⟩:=dK hk;simp at L
   |exit i=>
    simp only[Ex.to,Exit.inBlock];simp only[]at hk;split at hk
    .rename_i hb;rw[aC (ar hb)];exact fin hk
    .obtain⟨_,_,L⟩:=dK hk;simp at L
  .refine wp_block (wp_mono (ih cb h1 _ s _ _ h3 φ a w g) ?_);rintro e a' w' ⟨ex,s',φ',rfl,hk,g',st,U⟩;cases ex with
   |normal=>simp only[]at hk;obtain⟨_,_,L⟩:=dK hk;simp at L
   |ret=>
    simp only[]at hk;obtain⟨r',q1,L⟩:=dK hk;simp only[ah,Sum.inl.injEq]at L;subst L;exact⟨.ret,s',φ',rfl,q1,g',st,U.mono sub1⟩
   |exit i=>
    simp only[Ex.to,Exit.inBlock];simp only[]at hk;split at hk
    .obtain⟨_,_,L⟩:=dK hk;simp at L
    .rename_i hb;rw[ax (λe=>hb (by rw[e];exact rV id))];obtain⟨r',q1,L⟩:=dK hk;simp only[ah,Sum.inl.injEq]at L;subst L;exact⟨.exit i,s',φ',rfl,q1,g',st,U.mono sub1⟩
 |@loop A b b' _ ih=>
  intro c hc R s K r h φ a w g;obtain⟨c',hn,z,hsim⟩:=ko P nt c;refine hsim _ _ _ ?_;rw[<- z]at hc;obtain⟨cb,rfl,h1⟩:=QL hn hc;simp only[pg]at h;obtain⟨x0,hx0,h⟩:=dK h;obtain⟨n,hn⟩:=X7 h;have sub1:∀k,aM (b.asg 0) k=J->aM ((TC.loop A b).asg 0) k=J:=λk hk=>by simp only[TC.asg];exact vz hk
  have sub3:∀k,aM (LA A.ks 0) k=J->aM ((TC.loop A b).asg 0) k=J:=λk hk=>by simp only[TC.asg];exact kC hk
  obtain⟨step,hstep⟩:∃step:A.D->I (A.D⊕R),step=λx=>(match G5 A (b.asg 0) s x with
   |some s'=>pg np con b9 inert b s' λex s'=>(match ex with
    |.normal=>av (LY np A (b.asg 0) s s') λy=>M (oX y)
    |ex=>av (K ex s') λr=>M (bX r))
   |none=>D):=⟨_,rfl⟩
  have hn:iterN step n x0=M r:=by rw[hstep];exact hn
  have stepEq:∀x,step x=(match G5 A (b.asg 0) s x with
   |some s'=>pg np con b9 inert b s' λex s'=>(match ex with
    |.normal=>av (LY np A (b.asg 0) s s') λy=>M (oX y)
    |ex=>av (K ex s') λr=>M (bX r))
   |none=>D):=λx=>by rw[hstep]
  let Inv:Nat->Act->World->Prop:=λn a w'=>∃x s1 φ1,iterN step n x=M r/\G5 A (b.asg 0) s x=M s1/\oW P E nt np φ1 s1 a w'/\Ci np φ φ1 (bu s.h) (bu s1.h) w w'
  have head:∀(n:Nat) (x:A.D),iterN step n x=M r->∃s1,G5 A (b.asg 0) s x=M s1:=by
   intro n x hn;cases n with
   |zero=>cases hn
   |succ n=>
    simp only[iterN]at hn;cases hr:G5 A (b.asg 0) s x with
    |some s1=>exact⟨s1,rfl⟩
    |none=>rw[stepEq,hr]at hn;cases hn
  refine Cv Inv ?_ (n:=n) ?_
  .rintro n a1 w1 ⟨x,s1,φ1,hi,hr,g1,In⟩;cases n with
   |zero=>cases hi
   |succ n=>
    simp only[iterN]at hi;have hse:=stepEq x;rw[hr]at hse;simp only[]at hse;obtain⟨kp1,kp1'⟩:=Eo hr;split at hi
    .rename_i y hy;rw[hy]at hse;refine wp_mono (ih cb h1 _ s1 _ _ hse.symm φ1 a1 w1 g1) ?_;rintro e a' w' ⟨ex,s',φ',rfl,hk,g',st,U⟩;cases ex with
     |normal=>
      simp only[]at hk;obtain⟨d',q1,L⟩:=dK hk;simp only[ah,Sum.inl.injEq]at L;subst L;obtain⟨s2,hs2⟩:=head n d' hi;obtain⟨φ2,g2,Z0⟩:=Oi g' q1 hs2 λk hkk hks v hv hf ha v' Z=>by
       obtain⟨v0,e1,e2⟩:=U k ha v' Z;have:=kp1' k hks v0 e1;rw[hv]at this;cases this;exact e2 hf
      exact⟨n,by omega,d',s2,φ2,hi,hs2,g2,(In.trans st).trans Z0⟩
     |exit id=>simp only[]at hk;obtain⟨_,_,L⟩:=dK hk;simp at L
     |ret=>simp only[]at hk;obtain⟨_,_,L⟩:=dK hk;simp at L
    .rename_i r' hy;cases hi;rw[hy]at hse;refine wp_mono (ih cb h1 _ s1 _ _ hse.symm φ1 a1 w1 g1) ?_;rintro e a' w' ⟨ex,s',φ',rfl,hk,g',st,U⟩;cases ex with
     |normal=>simp only[]at hk;obtain⟨_,_,L⟩:=dK hk;simp at L
     |exit id=>
      simp only[]at hk;obtain⟨r',q1,L⟩:=dK hk;simp only[ah,Sum.inr.injEq]at L;subst L;exact⟨.exit id,s',φ',rfl,q1,g',In.trans st,(kp1.mono sub3).trans (U.mono sub1)⟩
     |ret=>
      simp only[]at hk;obtain⟨r',q1,L⟩:=dK hk;simp only[ah,Sum.inr.injEq]at L;subst L;exact⟨.ret,s',φ',rfl,q1,g',In.trans st,(kp1.mono sub3).trans (U.mono sub1)⟩
    .cases hi
  .obtain⟨s1,hs1⟩:=head n x0 hn;obtain⟨φ1,g1,In⟩:=Oi g hx0 hs1 λk _ _ v hv _ _ v' Z=>by rw[hv]at Z;cases Z;rfl
   exact⟨x0,s1,φ1,hn,hs1,g1,In⟩
 |exit id=>
  intro c hc R s K r h φ a w g;obtain⟨c',hn,z,hsim⟩:=ko P nt c;refine hsim _ _ _ ?_;rw[<- z]at hc;rw[aar hn hc];exact wp_exit ⟨.exit id,s,φ,rfl,h,g,Ci.refl _ _ _ _,gi.refl _ _⟩
 |ret=>
  intro c hc R s K r h φ a w g;obtain⟨c',hn,z,hsim⟩:=ko P nt c;refine hsim _ _ _ ?_;rw[<- z]at hc;rw[aez hn hc];exact wp_ret ⟨.ret,s,φ,rfl,h,g,Ci.refl _ _ _ _,gi.refl _ _⟩
 |defer f caps t=>
  intro c hc R s K r h φ a w g;obtain⟨c',hn,z,hsim⟩:=ko P nt c;refine hsim _ _ _ ?_;rw[<- z]at hc;obtain⟨id,ops,dr,rfl,h1,h2⟩:=X8 hn hc;simp only[pg]at h;split at h
  .rename_i l hl;split at h
   .rename_i hi;obtain⟨l',e1,e2⟩:=y_ g.invE hl;obtain⟨H,hH⟩:=jV s.h;have lowN:∀n k,φ n=M k->n<2*s.nx+2:=λn k hk=>by have:=g.dom n k hk;unfold ow at this;omega
    have cfg:Cfg P ⟨2*s.nx+2,φ,E,bu s.h,w⟩ nt ⟨JE s.e s.h,H,2*s.nx+2,0⟩ a w:=by
     refine ⟨⟨φ,?_,?_,?_,lowN,λi k hk=>.inl hk⟩,bP _,g.inert,g.size⟩
     .rw[hH];exact ji.refl _ _ _
     .rw[hH];exact g.rep
     .rw[hH,vp];exact g.env
    refine RL hin cfg h1 h2 e1 hi λa' w' c'=>?_
    obtain⟨φ',m',r',en',dm',d0'⟩:=c'.ex;have hφ:φ'=φ:=by
     funext n;cases hx:φ n with
     |some k=>exact m'.sub n k hx
     |none=>
      cases hy:φ' n with
      |none=>rfl
      |some k=>
       rcases d0' n k hy with h3|h3
       .have h3:φ n=M k:=h3;rw[hx]at h3;cases h3
       .have h4:n<2*s.nx+2:=dm' n k hy;have h5:2*s.nx+2<=n:=h3;omega
    subst hφ;simp only[hH]at m' r' en';refine ⟨.normal,_,φ',rfl,h,⟨r',?_,g.dom,g.low,g.invH,?_,c'.inert,c'.size⟩,⟨m'.ext,m'.own_,λ_ _=>rfl⟩,?_⟩
    .intro u x hx;refine en' u x ?_;simp only[fM,PT.get_set]at hx;simp only[Ab.put,PT.get_set];split at hx
     .rename_i eu;rw[aC eu];simp only[aF,ct,e2,ah]at hx;rw[hx]
     .rename_i eu;rw[ax eu,vp];exact hx
    .intro u x hx;simp only[PT.get_set]at hx;split at hx
     .cases hx;simp only[Lx];exact j8 _ _ _ e2
     .exact g.invE u x hx
    .intro k hk v' Z;simp only[PT.get_set]at Z;split at Z
     .rename_i ek;subst ek;simp only[TC.asg]at hk;rw[bp,bW.2 rfl]at hk;simp at hk
     .exact⟨v',Z,λ_=>rfl⟩
   .cases h
  .cases h
 |@adj l tc' sc' _ ih=>
  intro c hc R s K r h φ a w g;obtain⟨c',hn,z,hsim⟩:=ko P nt c;refine hsim _ _ _ ?_;rw[<- z]at hc;simp only[pg]at h;split at h
  .rename_i s1 hs1;obtain⟨φ1,g1,In,kp1⟩:=V4 g hs1;refine wp_mono (ih c' hc R s1 K r h φ1 a w g1) ?_;rintro e a' w' ⟨ex,s',φ',rfl,hk,g',st,U⟩;exact⟨ex,s',φ',rfl,hk,g',In.trans st,(kp1.mono λk hk=>by simp only[TC.asg];exact kC hk).trans (U.mono λk hk=>by simp only[TC.asg];exact vz hk)⟩
  .cases h
 |@split k off lo n tc' sc' _ ih=>
  intro c hc R s K r h φ a w g;obtain⟨c',hn,z,hsim⟩:=ko P nt c;refine hsim _ _ _ ?_;rw[<- z]at hc;simp only[pg]at h;split at h
  .rename_i kd v hv;obtain⟨j,hj,h2⟩:=Qg h;subst hj;split at h2
   .rename_i s1 hs1;obtain⟨g1,hH,he⟩:=Z3 g hv hs1;refine wp_mono (ih c' hc R s1 K r h2 φ a w g1) ?_;rintro e a' w' ⟨ex,s',φ',rfl,hk,g',st,U⟩;exact⟨ex,s',φ',rfl,hk,g',by rw[<- hH];exact st,λk hk v' Z=>by
     obtain⟨v,q1,L⟩:=U k hk v' Z;exact⟨v,by rw[<- he];exact q1,L⟩⟩
   .cases h2
  .cases h
 |@unl n b b' _ ih=>
  intro c hc R s K r h φ a w g;obtain⟨c',hn,z,hsim⟩:=ko P nt c;refine hsim _ _ _ ?_;rw[<- z]at hc;obtain⟨cb,rfl,h1⟩:=QL hn hc;simp only[pg]at h
  let Inv:Nat->Act->World->Prop:=λm a w'=>∃s1 φ1,ae3 (λs K=>pg np con b9 inert b s K) m s1 K=M r/\oW P E nt np φ1 s1 a w'/\Ci np φ φ1 (bu s.h) (bu s1.h) w w'/\gi (b.asg 0) s.e s1.e
  refine Cv Inv ?_ (n:=n) ⟨s,φ,h,g,Ci.refl _ _ _ _,gi.refl _ _⟩;rintro m a1 w1 ⟨s1,φ1,hi,g1,In,kp1⟩;cases m with
  |zero=>cases hi
  |succ m=>
   simp only[ae3]at hi;refine wp_mono (ih cb h1 R s1 _ r hi φ1 a1 w1 g1) ?_;rintro e a' w' ⟨ex,s',φ',rfl,hk,g',st,U⟩;cases ex with
   |normal=>exact⟨m,qU m,s',φ',hk,g',In.trans st,kp1.trans U⟩
   |exit id=>exact⟨.exit id,s',φ',rfl,hk,g',In.trans st,kp1.trans U⟩
   |ret=>exact⟨.ret,s',φ',rfl,hk,g',In.trans st,kp1.trans U⟩
 |bad sc'=>
  intro c hc R s K r h;simp[pg]at h
theorem N5 {P:Program} {φ:PM} {E:Nat->Prop} {s:TS} {a:Act} {w:World} (hinv:mo s.h s.nx) (hiE:tR s.e s.h) (r:re φ E (bu s.h) w) (en:NF φ (tot E φ (bu s.h)) w (fM s.e s.h) a):∀(rs:Y ResultVar) (rvs:Y RV) (l:Y TV),vy P rs=M rvs->T_ s rvs=M l->
 ∃la vs,cJ s.h l=M la/\(rs.mapM (XY a.tmps)).run P w= .ok vs w/\kh φ (tot E φ (bu s.h)) w la vs
 |[],rvs,l,hc,hr=>by
  simp only[vy,ah]at hc;subst hc;simp only[T_,ah]at hr;subst hr;exact⟨[],[],rfl,by simp,trivial⟩
 |.tmp t::rs,rvs,l,hc,hr=>by
  simp only[vy]at hc;split at hc
  .rename_i rvs' hrs;simp only[ah]at hc;subst hc;simp only[T_]at hr;split at hr
   .rename_i v hv;split at hr
    .rename_i A c;simp only[ah]at hr;subst hr;obtain⟨la,vs,h0,h1,h2⟩:=N5 hinv hiE r en rs rvs' A hrs c;simp only[rvT]at hv;obtain⟨y,U⟩:=ph s.h v (hiE t v hv);refine ⟨y::la,a.tmps.getD t undef::vs,pd U h0,?_,en t y (by simp only[fM,hv,aF,U]),h2⟩;simp only[List.mapM_cons,eM,XY,oY,cO];show ((rs.mapM (XY a.tmps)).run P w).andThen _=_;rw[h1];rfl
    .cases hr
   .cases hr
  .cases hc
 |.cell ad t::rs,rvs,l,hc,hr=>by
  simp only[vy]at hc;split at hc
  .rename_i rvs' sz ag hrs hsz hag;simp only[ah]at hc;subst hc;simp only[T_]at hr;split at hr
   .rename_i v hv;split at hr
    .rename_i A c;simp only[ah]at hr;subst hr;obtain⟨la,vs,h0,h1,h2⟩:=N5 hinv hiE r en rs rvs' A hrs c;simp only[rvT]at hv;split at hv
     .rename_i id off hp;split at hv
      .rename_i ty q hb;obtain⟨q',z⟩:=fd s.h q (hinv.cells id _ q hb);obtain⟨y,e1,e2⟩:=Wq z hv;obtain⟨H,Z⟩:=jV s.h;have hR:D6 H sz ag (.ptr (nm id) off)=M ⟨y,[nm id],[],[],[]⟩:=by
        have hg:H.get (nm id)=M ⟨ty,.mx q'⟩:=by rw[Z,bF,hb];simp only[aF,jF,z]
        simp only[D6,hg,e2]
       obtain⟨_,_,_,h3⟩:=S0 (P:=P) hsz hag hR;obtain⟨qq,L,h4,h5,h6⟩:=h3 φ E (bu s.h) w _ (λi _=>by rw[Z]) r (en ad _ (by simp only[fM,hp,aF,ct]));refine ⟨y::la,L::vs,pd e1 h0,?_,h6,h2⟩;have hone:(XY a.tmps (.cell ad t)).run P w= .ok L w:=by
        simp only[XY,eM,h4,asAddr,oY,cO,h5]
       rw[List.mapM_cons];simp only[eM,hone,cO,h1,oY]
      .cases hv
     .cases hv
    .cases hr
   .cases hr
  .cases hc
theorem Ft:∀(args:Y TV) (k t:Nat) (x:TV),(KP k args).get t=M x->k<=t/\args[t-k]? =M x
 |[],k,t,x,h=>by simp[KP,PT.get]at h
 |y::args,k,t,x,h=>by
  rw[KP,PT.get_set]at h;split at h
  .rename_i hk;subst hk;cases h;exact⟨bP _,by simp⟩
  .obtain⟨h1,h2⟩:=Ft args (k+1) t x h;refine ⟨by omega,?_⟩;rw[show t-k=t-(k+1)+1 from by omega];simpa using h2
theorem aa9 {h:bi} {l:Y TV} (c:kX h l=J) {j:Nat} {v:TV} (hj:l[j]? =M v):Lx h v=J:=by
 obtain⟨q,hl⟩:=fd h l c;obtain⟨y,_,a⟩:=lm hl j v hj;exact Fb _ _ _ a
theorem TY {P:Program} {con:FuncId->I cA} {b9:TypeId->I Ty} {inert:FuncId->Bool} (hm:P.follows .mixedOrders=J) (hcon:La P con) (hin:K6 P inert) {f:FuncId} {Z:SF} (hf:zU P f=M Z) (A:FT) (m:A.pre.ty.den->I A.post.ty.den) (hmod:∀x y,m x=M y->ZX con b9 inert (M Z) A x=M y):pZ P f ⟨A.pre,A.post,m⟩:=by
 obtain⟨fn,c,hfn,hb,hnm,hcode,hres,hnt⟩:=St hf;refine ⟨⟨fn,hfn,by rw[hb];rfl,hnm⟩,λx y hxy vs hp l1 rs hq l2 la lr B K hla hlr φ E w us hrep hrel hdom=>?_⟩;have ht:=hmod x y hxy;unfold ZX at ht;simp only[]at ht;split at ht
 .rename_i args h hins;obtain⟨l1',I'⟩:=wG hins;have e1:args=vs:=by have h1:=B.pv;have h2:=I'.pv;rw[h1]at h2;cases h2;rfl
  have e2:l1'=l1:=by have h1:=B.pb;have h2:=I'.pb;rw[h1]at h2;cases h2;rfl
  subst e1;subst e2;have hget:∀i,h.get i=hp.get i:=λi=>by
   cases L:hp.get i with
   |some b=>exact (I'.at_ i b).2 ((B.at_ i b).1 L)
   |none=>
    cases h4:h.get i with
    |none=>rfl
    |some b=>have:=(B.at_ i b).2 ((I'.at_ i b).1 h4);rw[L]at this;cases this
  have hrow:∀i,eH h i=eH hp i:=λi=>by rw[bS,bS,hget]
  have herH:bu h=bu hp:=by
   funext n;by_cases hn:∃i,n=nm i
   .obtain⟨i,rfl⟩:=hn;rw[bF,bF,hget];cases L:hp.get i with
    |none=>rfl
    |some b=>
     simp only[aF];refine JF (λi r hr=>by rw[hrow];exact hr) λty l e=>?_
     exact (B.cells i _ l (by rw[L,e])).1
   .rw[wN _ hn,wN _ hn]
  have hla':cJ h args=M la:=gm (λi r hr=>by rw[hrow];exact hr) args la hla;split at ht
  .rename_i hle;simp only[al]at hle;have hle2:=a_ hle.2;have hle:=a_ hle.1;have hlen:=hrel.length;have hargl:args.length=la.length:=(gK hla).symm;refine calls_of_wp_defers hfn hb ?_;have hcfg:oW P E fn.ntmps A.pre.bs.length φ ⟨KP 0 args,h,A.pre.bs.length⟩ {tmps:=us.toArray++oI (fn.ntmps-us.toArray.size) undef,defers:=[]} w:=by
    refine ⟨by rw[herH];exact hrep,?_,hdom,bP _,⟨λi ty l hl=>(I'.cells i _ l hl).1,λi b hbb=>I'.lt_len hbb⟩,?_,by simp,by simp;omega⟩
    .intro t z a;simp only[fM]at a;cases s:(KP 0 args).get t with
     |none=>rw[s]at a;cases a
     |some v0=>
      rw[s]at a;obtain⟨_,h2⟩:=Ft args 0 t v0 s;rw[Nat.sub_zero]at h2;obtain⟨y0,U,q⟩:=lm hla' t v0 h2;simp only[aF]at a;rw[a]at q;cases q;obtain⟨v,L,h4⟩:=hrel.get t z U;have hlt:t<us.length:=(bh.1 L).1;have:(us.toArray++oI (fn.ntmps-us.toArray.size) undef).getD t undef=v:=by
       rw[gL,Array.getElem?_append];simp only[tC,hlt,bG,kD,L,uW]
      show cN φ _ w z ((us.toArray++oI (fn.ntmps-us.toArray.size) undef).getD t undef);rw[this,herH];exact h4
    .intro t v0 hv0;obtain⟨_,h2⟩:=Ft args 0 t v0 hv0;exact aa9 I'.ok h2
   refine wp_mono (ain (E:=E) hm hcon hin (xR A.hints Z.code 0) c hcode.symm _ _ _ _ ht φ _ w hcfg) ?_;rintro e a' w' ⟨ex,s',φ',rfl,hk,g',st,_⟩;have fin:(match T_ s' Z.res with
    |some l=>(match EE A.pre.bs.length A.post l s'.h with
     |some ⟨y,_,_,_⟩=>(match C5 A.post y with|some _=>M y|none=>D)
     |none=>D)
    |none=>D)=M y->Leaves P fn a'.tmps (λen w'=>∃v φ',en= .returned v/\Ib (own φ (bu hp)) w w'/\(∀k,k<w.heap.size->own φ' (bu hq) k->own φ (bu hp) k)/\(∀i,i<A.pre.bs.length->φ' (nm i)=φ (nm i))/\re φ' E (bu hq) w'/\cN φ' (tot E φ' (bu hq)) w' (Ej lr) v) a'.defers .returning w':=by
    intro hk;split at hk
    .rename_i l hl;split at hk
     .rename_i y' m' σ sm hM;split at hk
      .simp only[ah]at hk;subst hk;obtain⟨lo,rvs,q0,U,q⟩:=N5 g'.invH g'.invE g'.rep g'.env fn.results.toList Z.res l hres hl;have H:=wA hM;obtain⟨φ2,lu,hlu,S⟩:=Lr (np:=A.pre.bs.length) (E:=E) K g'.invH H q0 g'.rep;rw[hlr]at hlu;cases hlu;have hresults:(results fn a'.tmps).run P w'= .ok (if h:rvs.toArray.size=1 then rvs.toArray[0] else .tuple rvs.toArray) w':=by
        rw[Ub,Array.mapM_eq_mapM_toList];simp only[eM,Sem.run_map,U,cO,oY]
       have hrl:kh φ2 (tot E φ2 (bu hq)) w' lr rvs:=by
        refine kh.of (by rw[q.length,S.len]) λj z v a hv=>?_
        obtain⟨z0,p1,p2⟩:=S.val j z v a;obtain⟨v',p3,p4⟩:=q.get j z0 p1;rw[hv]at p3;cases p3;exact p2 p4
       have hval:cN φ2 (tot E φ2 (bu hq)) w' (Ej lr) (if h:rvs.toArray.size=1 then rvs.toArray[0] else .tuple rvs.toArray):=by
        have hll:=hrl.length;clear hlr S;cases lr with
        |nil=>
         cases rvs with
         |nil=>exact cN.tup (vs:=[]) rfl (by intro j x v s;simp at s)
         |cons _ _=>exact hrl.elim
        |cons z lr=>
         cases rvs with
         |nil=>exact hrl.elim
         |cons v rvs=>
          cases lr with
          |nil=>
           cases rvs with
           |nil=>exact hrl.1
           |cons _ _=>exact hrl.2.elim
          |cons y l=>
           cases rvs with
           |nil=>exact hrl.2.elim
           |cons u rvs=>
            rw[dif_neg (by simp)];refine cN.tup (vs:=v::u::rvs) (by simpa using hll) λj x' v' s hv=>?_
            obtain⟨v'',U,q⟩:=hrl.get j x' s;rw[hv]at U;cases U;exact q
       have st':Ci A.pre.bs.length φ φ' (bu hp) (bu s'.h) w w':=by rw[<- herH];exact st
       refine CW hresults ⟨_,φ2,rfl,st'.ext,λk hk ho=>st'.own_ k hk (S.own_ k ho),λi hi=>?_,S.rep,hval⟩ a'.defers g'.inert;rw[S.par i hi (dD hi hle2),st'.par i hi]
      .cases hk
     .cases hk
    .cases hk
   cases ex with
   |normal=>exact fin hk
   |ret=>exact fin hk
   |exit id=>cases hk
  .cases ht
 .cases ht
def Vx:Y (FuncId×cA)->FuncId->I cA
 |[],_=>D
 |(g,c)::r,f=>if aA g f then M c else Vx r f
def TB (P:Program):Y (FuncId×cA)->Prop
 |[]=>True
 |p::r=>aH P p.1 p.2/\TB P r
theorem Xs {P:Program}:∀{l:Y (FuncId×cA)},TB P l->La P (Vx l)
 |[],_,f,c,h=>by simp[Vx]at h
 |(g,d)::r,a,f,c,h=>by
  simp only[Vx]at h;split at h
  .rename_i hb;have:=ar hb;subst this;cases h;exact a.1
  .exact Xs a.2 f c h
theorem Rg {P:Program} {inert:FuncId->Bool} (hm:P.follows .mixedOrders=J) (hin:K6 P inert) {l:Y (FuncId×cA)} (a:TB P l) {b9:TypeId->I Ty} {f:FuncId} {z:FT} {m:z.pre.ty.den->I z.post.ty.den} (hs:(zU P f).isSome=J) (he:∀x,ZX (Vx l) b9 inert (zU P f) z x=m x):pZ P f ⟨z.pre,z.post,m⟩:=by
 obtain⟨c,hf⟩:=iT.1 hs;exact TY hm (Xs a) hin hf z m λx y hxy=>by rw[<- hf,he];exact hxy
theorem pZ.sub {P:Program} {f:FuncId} {pre post:Tm} {m m':pre.ty.den->I post.ty.den} (h:pZ P f ⟨pre,post,m⟩) (hs:∀x y,m' x=M y->m x=M y):pZ P f ⟨pre,post,m'⟩:=
 ⟨h.callable,λx y hxy=>h.calls x y (hs x y hxy)⟩
theorem aH.sub {P:Program} {f:FuncId} {pre post:Tm} {m m':pre.ty.den->I post.ty.den} (h:aH P f ⟨pre,post,m⟩) (hb:eO pre.bs.length post.bs.length=J) (hs:∀x y,m' x=M y->m x=M y):aH P f ⟨pre,post,m'⟩:=
 ((h.holds hb).sub hs).toC hb
theorem rS {α:Type} {b:Nat}:∀(x y:Y α),chk (bc (ai x) b) (λ_=>M x)=M y->aG (aA (ai x) 0) (Fr (M ([]:Y α)) (chk (bc (ai ([]:Y α)+ai x) b) λ_=>(M (([]:Y α)++x)))) (chk (bc (ai ([]:Y α)+ai x) b) λ_=>(M (([]:Y α)++x)))=M y:=by
 intro x y h;rw[j_,gw,bI,h];cases x with
 |nil=>
  obtain⟨_,h⟩:=ec h;cases h;show Fr (M []) (M [])=_;unfold Fr;rw[aC rfl]
 |cons a r=>rfl
theorem US {P:Program} {f:FuncId} {pre post:Tm} (hs:(zU P f).isSome=J):pZ P f ⟨pre,post,λ_=>D⟩:=by
 obtain⟨a,hf⟩:=iT.1 hs;obtain⟨fn,c,hfn,hb,hnm,_⟩:=St hf;exact⟨⟨fn,hfn,by rw[hb];rfl,hnm⟩,λx y h=>by cases h⟩
theorem pZ.orElse {P:Program} {f:FuncId} {pre post:Tm} {m m':pre.ty.den->I post.ty.den} (h:pZ P f ⟨pre,post,m⟩) (h':pZ P f ⟨pre,post,m'⟩):pZ P f ⟨pre,post,λx=>match m x with|some y=>M y|none=>m' x⟩:=
 ⟨h.callable,λx y hxy=>by
   cases hm:m x with
   |some z=>rw[show (cA.m ⟨pre,post,λx=>match m x with|some y=>M y|none=>m' x⟩ x)=M z by show (match m x with|some y=>M y|none=>m' x)=M z;rw[hm]]at hxy;cases hxy;exact h.calls x _ hm
   |none=>rw[show (cA.m ⟨pre,post,λx=>match m x with|some y=>M y|none=>m' x⟩ x)=m' x by show (match m x with|some y=>M y|none=>m' x)=m' x;rw[hm]]at hxy;exact h'.calls x y hxy⟩
theorem aH.orE {P:Program} {f:FuncId} {pre post:Tm} {m m':pre.ty.den->I post.ty.den} (hb:eO pre.bs.length post.bs.length=J) (h:aH P f ⟨pre,post,m⟩) (h':aH P f ⟨pre,post,m'⟩):aH P f ⟨pre,post,λx=>AI.orE (m x) (m' x)⟩:=by
 have e:(λx=>AI.orE (m x) (m' x))=λx=>match m x with|some y=>M y|none=>m' x:=by funext x;cases m x<;>rfl
 rw[e];exact ((h.holds hb).orElse (h'.holds hb)).toC hb
def ZS (P:Program) (f:Ty->TypeId->Bool):Y Field->Nat->Ty->Bool
 |[],_,.un=>J
 |[x],off,T=>aA x.offset off&&f T x.type&&aA (P.cellsOf x.type) T.size
 |x::y::r,off,.pr a b=>aA x.offset off&&f a x.type&&aA (P.cellsOf x.type) a.size&&ZS P f (y::r) (off+a.size) b
 |_,_,_=>af
def TW (P:Program) (f:Ty->TypeId->Bool) (e:TypeId):Nat->Ty->Bool
 |1,T=>f T e&&aA (P.cellsOf e) T.size
 |m+2,.pr a b=>f a e&&aA (P.cellsOf e) a.size&&TW P f e (m+1) b
 |_,_=>af
def BD (P:Program):Nat->Ty->TypeId->Bool
 |0,_,_=>af
 |n+1,T,t=>match T,P.underlying t with
  |.int k,M (.int k')=>k==k'
  |.bool,M .bool=>J
  |.str,M .string=>J
  |.sl U,M (.slice e)=>BD P n U e&&aA (P.cellsOf e) U.size&&gx 0 U.size
  |.st U,M (.struct fs)=>ZS P (BD P n) fs.toList 0 U&&aA (P.cellsOf t) U.size
  |.st U,M (.array m e)=>TW P (BD P n) e m U&&aA (P.cellsOf t) U.size
  |_,_=>af
def Wm:(T:Ty)->T.den->Prop
 |.int k,n=>(Lit.int k n).wf=J
 |.str,s=>ai s<=maxLen
 |.sl U,xs=>ai xs<=maxLen/\∀x∈(xs:Y U.den),Wm U x
 |.st t,v=>Wm t v
 |.pr a b,v=>Wm a v.1/\Wm b v.2
 |_,_=>True
def K0 (W:World) (T:Ty) (x:T.den) (cs:ξ):Prop:=cs.length=T.size/\∀(j:Nat) y v,(bT T x)[j]? =M y->cs[j]? =M v->nM (λ_=>False) W y v
theorem KB {α:Type} (z:α) (P:Nat->α->Prop):∀n:Nat,(∀i,i<n->∃a,P i a)->∃l:Y α,l.length=n/\∀i x,l[i]? =M x->P i x
 |0,_=>⟨[],rfl,λi x h=>by simp at h⟩
 |n+1,h=>by
  obtain⟨l,hl,hp⟩:=KB z P n (λi hi=>h i (by omega));obtain⟨a,q⟩:=h n (by omega);refine ⟨l++[a],by simp[hl],λi x c=>?_⟩;by_cases hi:i<l.length
  .rw[bQ hi]at c;exact hp i x c
  .rw[cf (by omega)]at c;by_cases h0:i-l.length=0
   .rw[h0]at c;simp at c;subst c;rw[show i=n from by omega];exact q
   .rw[bE (by simp;omega)]at c;cases c
theorem Addr.add_plain {a:Addr} (h:a.spot=D) (n:Nat):a.add n=⟨a.block,a.off+n,D⟩:=by
 unfold Addr.add;split
 .rename_i h0;subst h0;cases a;simp at h;subst h;rfl
 .rfl
theorem YV {w:World} {a:Addr} {v:Value} (h:w.cell? a=M v):a.spot=D:=by
 unfold NK at h;split at h
 .split at h
  .cases h
  .rename_i hs;cases hh:a.spot with
   |none=>rfl
   |some _=>simp[hh]at hs
 .cases h
theorem K0.sub {W:World} {T:Ty} {x:T.den} {cs:ξ} {off n:Nat} (h:K0 W T x ((cs.drop off).take n)) (hn:n=T.size) (hl:off+n<=cs.length):∀(j:Nat) y v,(bT T x)[j]? =M y->cs[off+j]? =M v->nM (λ_=>False) W y v:=λj y v a hv=>by
 refine h.2 j y v a ?_;have hj:j<T.size:=by have:=(bh.1 a).1;rwa [bC]at this
 rw[cR,aC (by omega),hZ];exact hv
section
variable {H:Type} {enc:TypeId×Value->H} {P:Program} {W:World} {base:Nat} {sp:Nat->Bool} {hd:Bool}
theorem WG {f:Ty->TypeId->Bool} {m:Nat} (s:∀(T:Ty) (t:TypeId) (cs:ξ) x,f T t=J->DataW.trod enc P W base sp hd m t cs=M x->∃v,K0 W T v cs/\Wm T v) (cs:ξ) (ts:Y (DataW H×Y MemPlace)):
 ∀(fs:Y Field) (off k:Nat) (T:Ty),ZS P f fs off T=J->off+T.size<=cs.length->(∀(i:Nat) (fl:Field),fs[i]? =M fl->∃z,DataW.trod enc P W base sp hd m fl.type ((cs.drop fl.offset).take (P.cellsOf fl.type))=M z)->
 ∃v,(∀(j:Nat) y u,(bT T v)[j]? =M y->cs[off+j]? =M u->nM (λ_=>False) W y u)/\Wm T v
 |[],off,k,.un,_,_,_=>⟨(),λj y u c=>by simp[bT]at c,trivial⟩
 |[x],off,k,T,h,hl,hg=>by
  simp only[ZS,al]at h;obtain⟨⟨h1,h2⟩,q⟩:=h;have h1:=ar h1;have q:=ar q;obtain⟨z,A⟩:=hg 0 x rfl;obtain⟨v,hv,U⟩:=s T _ _ _ h2 A;rw[h1]at hv;exact⟨v,hv.sub q (by omega),U⟩
 |x::x'::r,off,k,.pr a b,h,hl,hg=>by
  simp only[ZS,al]at h;obtain⟨⟨⟨h1,h2⟩,q⟩,h4⟩:=h;have h1:=ar h1;have q:=ar q;simp only[Ty.size]at hl;obtain⟨z,A⟩:=hg 0 x rfl;obtain⟨v,hv,U⟩:=s a _ _ _ h2 A;rw[h1]at hv;have hv:=hv.sub q (by omega);obtain⟨v',Z,L⟩:=WG s cs ts (x'::r) (off+a.size) (k+1) b h4 (by omega) (λi fl hi=>hg (i+1) fl (by simpa using hi));refine ⟨(v,v'),λj y u c hu=>?_,U,L⟩;simp only[bT]at c;by_cases hj:j<a.size
  .rw[bQ (by rw[bC];exact hj)]at c;exact hv j y u c hu
  .rw[cf (by rw[bC];omega),bC]at c;exact Z _ y u c (by rw[show off+a.size+(j-a.size)=off+j from by omega];exact hu)
theorem WH {f:Ty->TypeId->Bool} {m:Nat} {e:TypeId} (q:∀(T:Ty) (t:TypeId) (cs:ξ) x,f T t=J->DataW.trod enc P W base sp hd m t cs=M x->∃v,K0 W T v cs/\Wm T v) (cs:ξ):
 ∀(n i:Nat) (T:Ty),TW P f e n T=J->i*P.cellsOf e+T.size<=cs.length->(∀j,j<n->∃z,DataW.trod enc P W base sp hd m e ((cs.drop ((i+j)*P.cellsOf e)).take (P.cellsOf e))=M z)->
 ∃v,(∀(j:Nat) y u,(bT T v)[j]? =M y->cs[i*P.cellsOf e+j]? =M u->nM (λ_=>False) W y u)/\Wm T v
 |0,i,T,h,_,_=>by unfold TW at h;cases h
 |1,i,T,h,hl,hg=>by
  simp only[TW,al]at h;have Z:=ar h.2;obtain⟨z,s⟩:=hg 0 (by omega);obtain⟨v,hv,L⟩:=q T _ _ _ h.1 s;rw[c8]at hv;exact⟨v,hv.sub Z (by omega),L⟩
 |n+2,i,T,h,hl,hg=>by
  cases T with
  |pr a b=>
   simp only[TW,al]at h;obtain⟨⟨h1,h2⟩,h4⟩:=h;have Z:=ar h2;simp only[Ty.size]at hl;obtain⟨z,s⟩:=hg 0 (by omega);obtain⟨v,hv,L⟩:=q a _ _ _ h1 s;rw[c8]at hv;have hv:=hv.sub Z (by omega);obtain⟨v',U,A⟩:=WH q cs (n+1) (i+1) b h4 (by rw[NP,Nat.one_mul];omega) (λj hj=>by have:=hg (j+1) (by omega);rwa [show i+(j+1)=i+1+j from by omega]at this);refine ⟨(v,v'),λj y u c hu=>?_,L,A⟩;simp only[bT]at c;by_cases hj:j<a.size
   .rw[bQ (by rw[bC];exact hj)]at c;exact hv j y u c hu
   .rw[cf (by rw[bC];omega),bC]at c;exact U _ y u c (by rw[NP,Nat.one_mul,show i*P.cellsOf e+P.cellsOf e+(j-a.size)=i*P.cellsOf e+j from by omega];exact hu)
  |_=>unfold TW at h;cases h
theorem HO:∀(n:Nat) (T:Ty) (t:TypeId) (fuel:Nat) (cs:ξ) x,BD P n T t=J->(∀b,sp b=J)->DataW.trod enc P W base sp hd fuel t cs=M x->∃v,K0 W T v cs/\Wm T v
 |0,_,_,_,_,_,h,_,_=>by unfold BD at h;cases h
 |n+1,T,t,fuel,cs,x,h,hsp,ht=>by
  unfold BD at h;split at h
  .rename_i k k' hu;have hk:=eq_of_beq h;subst hk;obtain⟨m,rfl,_,A⟩:=DataW.trod_int hu ht;refine ⟨m,⟨rfl,λj y v c hv=>?_⟩,A⟩;cases j with
   |zero=>simp[bT]at c hv;subst c hv;exact .raw _
   |succ j=>simp[bT]at c
  .rename_i hu;obtain⟨b,rfl,_⟩:=DataW.trod_bool hu ht;refine ⟨b,⟨rfl,λj y v c hv=>?_⟩,trivial⟩;cases j with
   |zero=>simp[bT]at c hv;subst c hv;exact .raw _
   |succ j=>simp[bT]at c
  .rename_i hu;obtain⟨s,rfl,_,hs⟩:=DataW.trod_string hu ht;refine ⟨s.data.toList,⟨rfl,λj y v c hv=>?_⟩,by simpa[Wm] using hs⟩;cases j with
   |zero=>simp[bT]at c hv;subst c hv;exact .raw _
   |succ j=>simp[bT]at c
  .rename_i U e hu;simp only[al]at h;obtain⟨⟨h1,h2⟩,h3⟩:=h;have h2:=ar h2;have h3:0<U.size:=a_ h3;rcases Go.Deep.open_slice hu ht with ⟨rfl,_⟩|⟨a,len,cap,m,k,z,Pl,rfl,hb,hl,hm,hmm,_,hi⟩
   .refine ⟨[],⟨rfl,λj y v c hv=>?_⟩,by simp[Wm]⟩;cases j with
    |zero=>simp[bT]at c hv;subst c hv;exact .nil _ _ (by unfold maxLen;omega)
    |succ j=>simp[bT]at c
   .rw[hsp,aC rfl]at hmm;rw[h2]at hi;obtain⟨xs,hx1,Z⟩:=KB U.zero (λi (v:U.den)=>∃cs',W.cells? base (a.add (i*U.size)) U.size=M cs'/\K0 W U v cs'/\Wm U v) len (λi hil=>by
     obtain⟨cs',hc,htt⟩:=hi i (by omega);obtain⟨v,hv,A⟩:=HO n U e k cs' _ h1 hsp htt;exact⟨v,cs',hc,hv,A⟩)
    refine ⟨xs,⟨rfl,λj y v c hv=>?_⟩,by show ai xs<=maxLen;omega,λy c=>?_⟩
    .cases j with
     |succ j=>simp[bT]at c
     |zero=>
      simp[bT]at c hv;subst c hv;by_cases h0:len=0
      .have:xs=[]:=gQ.1 (by omega);subst this;subst h0;exact .nil _ _ hm
      .obtain⟨x0,hx0⟩:∃x0,xs[0]? =M x0:=⟨xs[0]'(by omega),ay (by omega)⟩
       obtain⟨cs0,hc0,_⟩:=Z 0 x0 hx0;obtain⟨_,hcl0,hat0⟩:=World.cells?_some hc0;have hca:=hat0 0 h3;rw[ay (by omega)]at hca;have hspot:a.spot=D:=by
        have:=YV hca;simpa[Addr.add] using this
       have hblk:=World.block_lt_of_cell? W _ hca;rw[Nat.zero_mul,Addr.add_plain hspot,Addr.add_plain rfl]at hca hblk;have hcell:∀(i j:Nat) x,xs[i]? =M x->j<U.size->∃cs',W.cell? ⟨a.block,a.off+(i*U.size+j),D⟩=cs'[j]? /\j<cs'.length/\K0 W U x cs':=λi j x hx hj=>by
        obtain⟨cs',hc,hr,_⟩:=Z i x hx;obtain⟨_,hcl,hat⟩:=World.cells?_some hc;have:=hat j hj;rw[Addr.add_plain hspot,Addr.add_plain rfl,sR]at this;exact⟨cs',this,by omega,hr⟩
       have hflat:∀j,j<xs.length*U.size->∃x,xs[j/U.size]? =M x/\j%U.size<U.size/\j=j/U.size*U.size+j%U.size:=λj hj=>by
        have h5:j/U.size<xs.length:=Nat.div_lt_of_lt_mul (by rw[HE];exact hj);exact⟨xs[j/U.size],ay h5,Nat.mod_lt _ h3,by rw[HE];exact (Nat.div_add_mod j U.size).symm⟩
       have hlen:(List.flatMap (bT U) xs).length=xs.length*U.size:=fH (bC U) xs;obtain⟨ab,ao,az⟩:=a;cases hspot;rw[<- hx1];refine .sl (List.flatMap (bT U) xs) xs.length cap ab ao (λj=>(W.cell? ⟨ab,ao+j,D⟩).getD undef) (by omega) hm (λh=>h) hblk (rP U xs) (λj hj=>?_) (λj y c=>?_)
       .obtain⟨x,hx,hjs,hje⟩:=hflat j (by omega);obtain⟨cs',g1,g2,_⟩:=hcell _ _ x hx hjs;rw[<- hje]at g1;simp only[g1,ay g2,uW]
       .have hj:j<xs.length*U.size:=by rw[<- hlen];exact (bh.1 c).1
        obtain⟨x,hx,hjs,hje⟩:=hflat j hj;obtain⟨cs',g1,g2,g3⟩:=hcell _ _ x hx hjs;rw[<- hje]at g1;simp only[g1];rw[ay g2];refine g3.2 (j%U.size) y _ ?_ (ay g2);obtain⟨r,hr⟩:=E8 (bC U) xs (j/U.size) x hx;have:((List.flatMap (bT U) xs).drop (j/U.size*U.size))[j%U.size]? =M y:=by rw[hZ,<-hje];exact c
        rw[hr,bQ (by rw[bC];exact hjs)]at this;exact this
    .obtain⟨i,L⟩:=fc c;obtain⟨_,_,_,A⟩:=Z i y L;exact A
  .rename_i U fs hu;simp only[al]at h;have h2:=ar h.2;obtain⟨xs,m,rfl,_,hl,hxl,hg⟩:=DataW.trod_struct hu ht;obtain⟨v,hv,A⟩:=WG (f:=BD P n) (m:=m) (λT t cs x h1 h2=>HO n T t m cs x h1 hsp h2) cs xs fs.toList 0 0 U h.1 (by omega) (λi fl hi=>by
    have L:fs[i]? =M fl:=by simpa using hi
    have:=hg i fl L;have hlt:i<xs.length:=by rw[hxl];exact (cC.1 L).1
    rw[ay hlt]at this;exact⟨_,this⟩)
   exact⟨v,⟨by rw[hl,h2];rfl,λj y u c hu=>hv j y u c (by rw[bI];exact hu)⟩,A⟩
  .rename_i U m e hu;simp only[al]at h;have h2:=ar h.2;obtain⟨xs,q,rfl,_,hl,hxl,hg⟩:=DataW.trod_array hu ht;obtain⟨v,hv,A⟩:=WH (f:=BD P n) (m:=q) (λT t cs x h1 h2=>HO n T t q cs x h1 hsp h2) cs m 0 U h.1 (by omega) (λj hj=>by
    have:=hg j hj;rw[ay (by omega)]at this;rw[bI];exact⟨_,this⟩)
   exact⟨v,⟨by rw[hl,h2];rfl,λj y u c hu=>hv j y u c (by rw[Nat.zero_mul,bI];exact hu)⟩,A⟩
  .cases h
theorem Qz {n:Nat} {T:Ty} {t:TypeId} {v:Value} {r:Reach} {bs:Nat} (a:BD P n T t=J) (h1:T.one=J) (h:HA P W r bs t v):v.cells.toList=[v]:=by
 cases n with
 |zero=>unfold BD at a;cases a
 |succ n=>
  unfold BD at a;unfold HA at h;cases v with
  |agg cs=>
   exfalso;split at a<;>rename_i hu<;>first|(rw [hu]at h;simp only[]at h;unfold Cell.okWide at h;rw[hu]at h;unfold Cell.ok at h;rw[hu]at h;simp at h)|cases h1|cases a
  |_=>rfl
theorem Uh {n:Nat} {T:Ty} {t:TypeId} {v:Value} {r:Reach} {bs:Nat} (a:BD P n T t=J) (h1:T.one=af) (h:HA P W r bs t v):∃cs,v= .agg cs:=by
 cases n with
 |zero=>unfold BD at a;cases a
 |succ n=>
  unfold BD at a;unfold HA at h;split at a<;>rename_i hu<;>first|(rw [hu]at h;obtain⟨cs,h,_⟩:=h;exact⟨cs,h⟩)|cases h1|cases a
theorem open_arg {n:Nat} {T:Ty} {t:TypeId} {v:Value} {d:DataW H} {ps:Y MemPlace} {r:Reach} {bs:Nat} (c:BD P n T t=J) (hsp:∀b,sp b=J) (hok:HA P W r bs t v) (h:DataW.Trod enc P W base sp hd t v d ps):∃x,nM (λ_=>False) W (gC T x) v/\Wm T x:=by
 obtain⟨fuel,hf⟩:=h;obtain⟨x,a,s⟩:=HO n T t fuel _ _ c hsp hf;refine ⟨x,?_,s⟩;by_cases h1:T.one=J
 .obtain⟨e1,e2⟩:=Do T x h1;exact a.2 0 _ v (by rw[e1];rfl) (by rw[Qz c h1 hok];rfl)
 .obtain⟨cs,rfl⟩:=Uh c (by simpa using h1) hok;rw[qK T x (by simpa using h1)];have hl:cs.toList.length=(bT T x).length:=by rw[bC];exact a.1
  have:=nM.agg (O:=λ_=>False) (w:=W) (bT T x) cs.toList hl (oh T x) (λj y u q hu=>a.2 j y u q hu);simpa using this
end
theorem Xz {z:Int} (h:(Lit.int .u8 z).wf=J):0<=z/\z<=255:=⟨a8 (lD.1 h).1,a8 (lD.1 h).2⟩
theorem Y2:uq=ve:=rfl
def cnB (l:Y ET) (a b:Nat):Bool:=decide (¬(c6 l a).th=(c6 l b).th/\S5 (c6 l a)=J/\S5 (c6 l b)=J/\(c6 l a).ob=(c6 l b).ob/\((c6 l a).k=4\/(c6 l b).k=4))
theorem Fw {w:WT} {l:Y ET} (c:TR (w,l)) {a:Nat} (q:a<l.length) (h:S5 (c6 l a)=J):(eN l a).2.2.1=((c6 l a).ob:Int):=(wM c q).ob (by rcases a8 h with h|h<;>rw[h]<;>decide)
theorem Ss {w:WT} {l:Y ET} (c:TR (w,l)) {a b:Nat} (A:a<l.length) (hb:b<l.length):qA ((w,l),(a:Int),(b:Int))=M (cnB l a b&& !su w.1 (c6 l b).ob):=by
 refine cD ?_;unfold qA cnB aY bm bL bg bM aE;rw[Y2];have ka:(eN l a).2.1=(c6 l a).k:=(wM c A).k;have kb:(eN l b).2.1=(c6 l b).k:=(wM c hb).k;refine cE (aT (cE (aT ?_)));have fin:∀{p:Prop} [Decidable p] {v:Bool},¬p->af=(decide p&&v):=λh=>by rw[bt h];rfl
 refine aU (λx=>x.2=((w,l),eN l a,eN l b)/\(x.1=af↔¬(eN l a).1=(eN l b).1/\(eN l a).2.2.1=(eN l b).2.2.1)) (aK (λh=>aj ⟨rfl,?_⟩) λh=>aj ⟨rfl,?_⟩) ?_
 .have h:(eN l a).1=(eN l b).1:=h;exact⟨λq=>(by cases q),λq=>(q.1 h).elim⟩
 .have h:¬(eN l a).1=(eN l b).1:=h;change (!decide ((eN l a).2.2.1=(eN l b).2.2.1))=af↔_;rw[Bool.not_eq_false',bB];exact⟨λq=>⟨h,q⟩,λq=>q.2⟩
 rintro⟨x,y⟩ ⟨e,h⟩;dsimp only at e h;subst e;refine aP (λs=>aj (fin λq=>?_)) λs=>?_
 .have h1:=h.2 ⟨λr=>q.1 ((ZV c A hb).1 r),by rw[Fw c A q.2.1,Fw c hb q.2.2.1,q.2.2.2.1]⟩;rw[show x=J from s]at h1;cases h1
 obtain⟨U,Z⟩:=h.1 s;have U:¬(c6 l a).th=(c6 l b).th:=λq=>U ((ZV c A hb).2 q)
 refine aU (λx=>x.2=(eN l a,eN l b)/\(x.1=af↔S5 (c6 l a)=J/\S5 (c6 l b)=J/\su w.1 (c6 l b).ob=af)) ?_ ?_
 .refine aS (TD c A) (dZ (λh1=>aj ⟨rfl,λq=>(by cases q),λq=>(by rw[q.1]at h1;cases h1)⟩) λh1=>aS (TD c hb) (dZ (λh2=>aj ⟨rfl,λq=>(by cases q),λq=>(by rw[q.2.1]at h2;cases h2)⟩) λh2=>?_));have hk:=a8 h2;have ce:=((Fa c hb).ce hk).2;change Ok (chk (fy (eN l a).2.2.1 (ai w.1)) λ_=>lt (aJ (T:=My) w.1 (eN l a).2.2.1) λz=>M (bX (z.2.2.2.1,eN l a,eN l b))) _;rw[Z,Fw c hb h2];refine cE (aT (aj ⟨rfl,?_⟩));rw[OL];exact⟨λq=>⟨h1,h2,q⟩,λq=>q.2.2⟩
 rintro⟨x,y⟩ ⟨e,h⟩;dsimp only at e h;subst e;refine aP (λs=>aj ?_) λs=>gF ?_
 .symm
  rw[Ai];intro q;obtain⟨L,q2⟩:=lD.1 q;have L:=a8 L;have h1:=h.2 ⟨L.2.1,L.2.2.1,by simpa using q2⟩;rw[show x=J from s]at h1;cases h1
 .obtain⟨h1,h2,h5⟩:=h.1 s;rw[Fw c A h1,Fw c hb h2]at Z;rw[h5,Bool.not_false,Bool.and_true];refine aK (λg=>aj (aj ?_)) λg=>aj (aj ?_)
  .have g:(eN l a).2.1=4:=g;exact (aO ⟨U,h1,h2,by omega,by omega⟩).symm
  .have g:¬(eN l a).2.1=4:=g;change decide ((eN l b).2.1=4)=_;rw[decide_eq_decide];exact⟨λq=>⟨U,h1,h2,by omega,by omega⟩,λq=>by omega⟩
def Lk (w:WT) (l:Y ET) (a b:Nat):Bool:=cnB l a b&&(!su w.1 (c6 l b).ob&& !decide ((zV l (c6 l a).th a:Int)+1<=(qe w l b).getD (c6 l a).th 0))
def rI (w:WT) (l:Y ET) (b:Nat):Nat->Y ν
 |0=>[]
 |i+1=>if Lk w l i b=J then rI w l b i++[((i:Int),(b:Int))] else rI w l b i
def rO (w:WT) (l:Y ET):Nat->Y ν
 |0=>[]
 |b+1=>rO w l b++rI w l b b
theorem Uf (w:WT) (l:Y ET) (b:Nat):∀i,(rI w l b i).length<=i
 |0=>bP _
 |i+1=>by
  have:=Uf w l b i;rw[rI];split
  .rw[be,dB];omega
  .omega
theorem Ue (w:WT) (l:Y ET):∀b,b<=1000->(rO w l b).length<=b*1000
 |0,_=>hX _
 |b+1,h=>by
  have:=Ue w l b (by omega);have:=Uf w l b b;rw[rO,be];omega
theorem Ep {w:WT} {l:Y ET} {b:Nat} {p:ν}:∀i,p∈rI w l b i->∃a:Nat,a<i/\Lk w l a b=J/\p=((a:Int),(b:Int))
 |i+1,h=>by
  rw[rI]at h;split at h
  .rename_i q;rcases bO.1 h with h|h
   .obtain⟨a,h1,h2⟩:=Ep i h;exact⟨a,by omega,h2⟩
   .exact⟨i,by omega,q,aI.1 h⟩
  .obtain⟨a,h1,h2⟩:=Ep i h;exact⟨a,by omega,h2⟩
theorem Ud {w:WT} {l:Y ET} {p:ν}:∀n,p∈rO w l n->∃a b:Nat,a<b/\b<n/\Lk w l a b=J/\p=((a:Int),(b:Int))
 |n+1,h=>by
  rw[rO]at h;rcases bO.1 h with h|h
  .obtain⟨a,b,h1,h2,c⟩:=Ud n h;exact⟨a,b,h1,by omega,c⟩
  .obtain⟨a,h1,h2⟩:=Ep n h;exact⟨a,n,h1,by omega,h2⟩
theorem acw {w:WT} {l:Y ET} (a:TR (w,l)):rF (w,l)=M (rO w l l.length,0):=by
 have hl:=a.len;dsimp only at hl;refine cD ?_;unfold rF Ar bx iU bH bM aV cP aE cG;refine aS (NI a) (dh (aS (Yy a) ?_));refine io l.length (by omega) (λb x=>x=((b:Int),(w,l),rO w l b)) ?_ ?_ rfl
 .rintro b x hb rfl;have hO:=Ue w l b (by omega);refine dg ?_;refine io b (by omega) (λi x=>x=((i:Int),(w,l),rO w l b++rI w l b i)) ?_ ?_ ?_
  .rintro i x hi rfl;have c:=Uf w l b i;refine dg ?_;refine aU (λx=>x=((w,l),rO w l b++rI w l b (i+1))) ?_ ?_
   .refine aU (λx=>x=(Lk w l i b,(w,l),rO w l b++rI w l b i)) ?_ ?_
    .refine aS (Ss a (show i<l.length by omega) hb) ?_;unfold Lk;refine aP (λh=>?_) λh=>aj ?_
     .obtain⟨h1,h2⟩:=lD.1 h;refine aR (by dsimp only;omega) (by dsimp only;rw[bR,fP];omega) (aT (aR (by dsimp only;omega) (by dsimp only;rw[bR,fP];omega) (aT ?_)));dsimp only;rw[Kn hb,abp (show i<l.length by omega)];refine aS (K_ _ _ _) (aj ?_);rw[h1,h2];rfl
     .rw[<- Bool.and_assoc,h];rfl
    rintro x rfl;rw[rI];refine aP (λh=>bd ?_ (by omega) (aj ?_)) λh=>aj ?_
    .dsimp only;rw[be,dB];omega
    .dsimp only;rw[aC h,iH]
    .dsimp only at h ⊢;rw[ax (by rw[h];decide)]
   rintro x rfl;refine aj ?_;dsimp only;rw[gD (by omega)]
  .rintro x rfl;refine dc (aj ?_);dsimp only;rw[gD (by omega)];rfl
  .rw[rI,kc];rfl
 .rintro x rfl;exact dc (aj rfl)
abbrev Sh:Type:=(ν)×(ν)×η
def yI (l:η) (t:Nat) (n:Int):η:=(l++aB (t+1-l.length) 0).set t n
theorem CF (l:η) (t:Nat) (n:Int):(yI l t n).length=max l.length (t+1):=by unfold yI;rw[ia,be,b8];omega
theorem yW (l:η) (t:Nat) (n:Int) (u:Nat):(yI l t n).getD u 0=if t=u then n else l.getD u 0:=by
 unfold yI;rw[qJ,be,b8];by_cases h:t=u
 .rw[aC ⟨h,by omega⟩,aC h]
 .rw[ax λq=>h q.1,ax h,au,au,List.getElem?_append];split
  .rfl
  .rename_i q;rw[ju,bE (by omega:l.length<=u)];split<;>rfl
theorem Wx (l:η) (t:Nat) (n:Int):yI l t n≠[]:=λh=>by
 have:=CF l t n;rw[h]at this;simp only[gw]at this;omega
def DU (c:η) (e:ν):Bool:=decide (e.1<=c.getD e.2.toNat 0)
def lqQ (a c:η):Bool:= @decide (∀u:Nat,a.getD u 0<=c.getD u 0) (Classical.propDecidable _)
theorem WV {a c:η}:lqQ a c=J↔∀u:Nat,a.getD u 0<=c.getD u 0:=by unfold lqQ;exact @decide_eq_true_iff _ (Classical.propDecidable _)
theorem OW {w:WT} {l:Y ET} {a j:Nat}:DU (qe w l j) (ZJ l a)=J↔Cr w l a j:=by unfold DU ZJ Cr;simp only[bB,bY]
def rdF (s:Sh) (c:η) (t:Nat):Sh×Bool:=
 (if s.2.2≠[] then (s.1,s.2.1,yI s.2.2 t (c.getD t 0)) else if s.2.1.1=0\/DU c s.2.1=J then (s.1,(c.getD t 0,(t:Int)),[]) else (s.1,(0,0),yI (yI [] s.2.1.2.toNat s.2.1.1) t (c.getD t 0)),!DU c s.1)
def wrF (s:Sh) (c:η) (t:Nat):Sh×Bool:=(((c.getD t 0,(t:Int)),(0,0),[]),!(DU c s.1&&(DU c s.2.1&&lqQ s.2.2 c)))
def Ll (l:Y ET) (o k:Nat):Bool:=S5 (c6 l k)&&decide ((c6 l k).ob=o)
theorem sM {l:Y ET} {o k:Nat}:Ll l o k=J↔((c6 l k).k=3\/(c6 l k).k=4)/\(c6 l k).ob=o:=by unfold Ll S5;rw[al,bB,bB]
def G3 (w:WT) (l:Y ET) (s:Sh) (j:Nat):Sh×Bool:=if (c6 l j).k=3 then rdF s (qe w l j) (c6 l j).th else wrF s (qe w l j) (c6 l j).th
def T6 (w:WT) (l:Y ET) (o:Nat):Nat->Sh
 |0=>((0,0),(0,0),[])
 |i+1=>if Ll l o i=J then (G3 w l (T6 w l o i) i).1 else T6 w l o i
def raF (w:WT) (l:Y ET) (o i:Nat):Bool:=Ll l o i&&(G3 w l (T6 w l o i) i).2
def Xg (w:WT) (l:Y ET) (o:Nat):Nat->Int
 |0=> -1
 |i+1=>if raF w l o i=J/\Xg w l o i<0 then i else Xg w l o i
abbrev TI (l:Y ET) (o k:Nat):Prop:=(c6 l k).k=4/\(c6 l k).ob=o
abbrev ldO (l:Y ET) (o k:Nat):Prop:=(c6 l k).k=3/\(c6 l k).ob=o
def V3 (l:Y ET) (o i k:Nat):Prop:=k<i/\ldO l o k/\∀a,k<a->a<i->¬TI l o a
structure Wj (w:WT) (l:List ET) (o i:Nat) (s:Sh):Prop where
 W:(s.1=(0,0)/\∀b,b<i->¬TI l o b)\/∃a,a<i/\TI l o a/\s.1=ZJ l a/\∀b,a<b->b<i->¬TI l o b
 R:s.2.2=[]->(s.2.1=(0,0)/\∀b,¬V3 l o i b)\/∃r,V3 l o i r/\s.2.1=ZJ l r/\∀b,V3 l o i b->b=r\/b<r/\Cr w l b r
 Z:s.2.2≠[]->s.2.1=(0,0)
 V:s.2.2≠[]->∀u:Nat,s.2.2.getD u 0=0\/∃r,V3 l o i r/\(c6 l r).th=u/\s.2.2.getD u 0=(zV l u r:Int)+1
 U:s.2.2≠[]->∀b,V3 l o i b->∃r,V3 l o i r/\s.2.2.getD (c6 l r).th 0=(zV l (c6 l r).th r:Int)+1/\(b=r\/b<r/\Cr w l b r)
theorem ach {l:Y ET} {o i:Nat} (hs:¬TI l o i) {b:Nat}:V3 l o (i+1) b↔V3 l o i b\/b=i/\ldO l o i:=by
 constructor
 .rintro⟨h1,h2,c⟩;by_cases q:b=i
  .subst q;exact .inr ⟨rfl,h2⟩
  .exact .inl ⟨by omega,h2,λa x y=>c a x (by omega)⟩
 .rintro (⟨h1,h2,c⟩|⟨rfl,h⟩)
  .exact⟨by omega,h2,λa x y=>by
    by_cases q:a=i
    .subst q;exact hs
    .exact c a x (by omega)⟩
  .exact⟨by omega,h,λa x y=>by omega⟩
theorem ajp {l:Y ET} {o i:Nat} (hs:TI l o i) (b:Nat):¬V3 l o (i+1) b:=λ⟨h1,h2,a⟩=>by
 by_cases q:b=i
 .subst q;have:=hs.1;have:=h2.1;omega
 .exact a i (by omega) (by omega) hs
theorem Wj.zero (w:WT) (l:Y ET) (o:Nat):Wj w l o 0 ((0,0),(0,0),[]):=⟨.inl ⟨rfl,λb h=>by omega⟩,λ_=>.inl ⟨rfl,λb h=>by have:=h.1;omega⟩,λh=>bZ rfl h,λh=>bZ rfl h,λh=>bZ rfl h⟩
theorem Wj.skip {w:WT} {l:Y ET} {o i:Nat} {s:Sh} (f:Wj w l o i s) (h:Ll l o i=af):Wj w l o (i+1) s:=by
 have h:¬Ll l o i=J:=by rw[h];decide
 rw[sM]at h;have c:¬TI l o i:=λq=>h ⟨.inr q.1,q.2⟩
 have z:¬ldO l o i:=λq=>h ⟨.inl q.1,q.2⟩
 have e:∀b,V3 l o (i+1) b↔V3 l o i b:=λb=>by rw[ach c];exact or_iff_left λq=>z q.2
 refine ⟨?_,?_,f.Z,?_,?_⟩
 .rcases f.W with ⟨h1,h2⟩|⟨a,h1,h2,L,A⟩
  .exact .inl ⟨h1,λb hb=>by
    by_cases q:b=i
    .subst q;exact c
    .exact h2 b (by omega)⟩
  .exact .inr ⟨a,by omega,h2,L,λb x y=>by
    by_cases q:b=i
    .subst q;exact c
    .exact A b x (by omega)⟩
 .simp only[e];exact f.R
 .simp only[e];exact f.V
 .simp only[e];exact f.U
theorem Wj.store {w:WT} {l:Y ET} (a:TR (w,l)) {o i:Nat} {s:Sh} (hi:i<l.length) (h:TI l o i):Wj w l o (i+1) (G3 w l s i).1:=by
 unfold G3 wrF;rw[ax (by have:=h.1;omega)];refine ⟨.inr ⟨i,by omega,h,?_,λb x y=>by omega⟩,λ_=>.inl ⟨rfl,λb=>ajp h b⟩,λq=>bZ rfl q,λq=>bZ rfl q,λq=>bZ rfl q⟩;dsimp only;rw[H5 a hi];rfl
theorem Wj.load {w:WT} {l:Y ET} (z:TR (w,l)) {o i:Nat} {s:Sh} (f:Wj w l o i s) (hi:i<l.length) (h:ldO l o i):Wj w l o (i+1) (G3 w l s i).1:=by
 have n4:¬TI l o i:=λq=>by have:=h.1;have:=q.1;omega
 have e:∀b,V3 l o (i+1) b↔V3 l o i b\/b=i:=λb=>by rw[ach n4];exact or_congr_right ⟨λq=>q.1,λq=>⟨q,h⟩⟩
 have own:=H5 z hi;have fW:(s.1=(0,0)/\∀b,b<i+1->¬TI l o b)\/∃a,a<i+1/\TI l o a/\s.1=ZJ l a/\∀b,a<b->b<i+1->¬TI l o b:=by
  rcases f.W with ⟨h1,h2⟩|⟨a,h1,h2,c,h4⟩
  .exact .inl ⟨h1,λb hb=>by
    by_cases q:b=i
    .subst q;exact n4
    .exact h2 b (by omega)⟩
  .exact .inr ⟨a,by omega,h2,c,λb x y=>by
    by_cases q:b=i
    .subst q;exact n4
    .exact h4 b x (by omega)⟩
 unfold G3 rdF;rw[aC h.1];by_cases hl:s.2.2≠[]
 .rw[aC hl];refine ⟨fW,λq=>bZ q (Wx _ _ _),λ_=>f.Z hl,λ_ u=>?_,λ_ b hb=>?_⟩
  .dsimp only;rw[yW];by_cases q:(c6 l i).th=u
   .rw[aC q,own];exact .inr ⟨i,(e i).2 (.inr rfl),q,by rw[q]⟩
   .rw[ax q];rcases f.V hl u with h1|⟨r,h1,h2⟩
    .exact .inl h1
    .exact .inr ⟨r,(e r).2 (.inl h1),h2⟩
  .have new:∃r,V3 l o (i+1) r/\(yI s.2.2 (c6 l i).th ((qe w l i).getD (c6 l i).th 0)).getD (c6 l r).th 0=(zV l (c6 l r).th r:Int)+1/\r=i:=⟨i,(e i).2 (.inr rfl),by rw[yW,aC rfl,own],rfl⟩
   rcases (e b).1 hb with hb|rfl
   .obtain⟨r,h1,h2,c⟩:=f.U hl b hb;by_cases q:(c6 l i).th=(c6 l r).th
    .obtain⟨r',n1,n2,rfl⟩:=new;have hri:=h1.1;have c1:=Cr.own z hri hi q.symm;refine ⟨r',n1,n2,.inr ?_⟩;rcases c with rfl|⟨c,h4⟩
     .exact⟨hri,c1⟩
     .exact⟨by omega,h4.trans z (by omega) (by omega) hi c1⟩
    .exact⟨r,(e r).2 (.inl h1),by dsimp only;rw[yW,ax q];exact h2,c⟩
   .obtain⟨r,n1,n2,n3⟩:=new;exact⟨r,n1,n2,.inl n3.symm⟩
 .rw[ax hl];have hl:s.2.2=[]:=Classical.not_not.1 hl;by_cases hc:s.2.1.1=0\/DU (qe w l i) s.2.1=J
  .rw[aC hc];refine ⟨fW,λ_=>.inr ⟨i,(e i).2 (.inr rfl),by dsimp only;rw[own];rfl,λb hb=>?_⟩,λq=>bZ rfl q,λq=>bZ rfl q,λq=>bZ rfl q⟩;rcases (e b).1 hb with hb|rfl
   .rcases f.R hl with ⟨_,h2⟩|⟨r,h1,h2,c⟩
    .exact bZ hb (h2 b)
    .have hri:=h1.1;rw[h2]at hc;have cr:Cr w l r i:=by
      rcases hc with hc|hc
      .exfalso;unfold ZJ at hc;dsimp only at hc;omega
      .exact OW.1 hc
     rcases c b hb with rfl|⟨h4,h5⟩
     .exact .inr ⟨hri,cr⟩
     .exact .inr ⟨by omega,h5.trans z (by omega) (by omega) hi cr⟩
   .exact .inl rfl
  .rw[ax hc];have A:=not_or.1 hc;rcases f.R hl with ⟨h1,_⟩|⟨r,h1,h2,c⟩
   .exact bZ (by rw[h1]) A.1
   .have hri:=h1.1;have nc:¬Cr w l r i:=λq=>A.2 (by rw[h2];exact OW.2 q)
    have nt:¬(c6 l r).th=(c6 l i).th:=λq=>nc (Cr.own z hri hi q)
    have et:s.2.1.2.toNat=(c6 l r).th:=by rw[h2];unfold ZJ;dsimp only;omega
    have ev:s.2.1.1=(zV l (c6 l r).th r:Int)+1:=by rw[h2];rfl
    have g:∀u,(yI (yI [] s.2.1.2.toNat s.2.1.1) (c6 l i).th ((qe w l i).getD (c6 l i).th 0)).getD u 0=if (c6 l i).th=u then (zV l (c6 l i).th i:Int)+1 else if (c6 l r).th=u then (zV l (c6 l r).th r:Int)+1 else 0:=λu=>by
     rw[yW,yW,own,et,ev];simp
    refine ⟨fW,λq=>bZ q (Wx _ _ _),λ_=>rfl,λ_ u=>?_,λ_ b hb=>?_⟩
    .dsimp only;rw[g];by_cases q:(c6 l i).th=u
     .rw[aC q];exact .inr ⟨i,(e i).2 (.inr rfl),q,by rw[q]⟩
     .rw[ax q];by_cases L:(c6 l r).th=u
      .rw[aC L];exact .inr ⟨r,(e r).2 (.inl h1),L,by rw[L]⟩
      .rw[ax L];exact .inl rfl
    .rcases (e b).1 hb with hb|rfl
     .exact⟨r,(e r).2 (.inl h1),by dsimp only;rw[g,ax λq=>nt q.symm,aC rfl],c b hb⟩
     .exact⟨b,(e b).2 (.inr rfl),by dsimp only;rw[g,aC rfl],.inl rfl⟩
theorem HL {w:WT} {l:Y ET} (a:TR (w,l)) (o:Nat):∀i,i<=l.length->Wj w l o i (T6 w l o i)
 |0,_=>Wj.zero w l o
 |i+1,h=>by
  have f:=HL a o i (by omega);rw[T6];by_cases q:Ll l o i=J
  .rw[aC q];rcases sM.1 q with ⟨z|s,c⟩
   .exact f.load a (by omega) ⟨z,c⟩
   .exact Wj.store a (by omega) ⟨s,c⟩
  .rw[ax q];exact f.skip (by simpa using q)
def qkO (w:WT) (l:Y ET) (o i:Nat):Prop:=∀a b,a<b->b<i->(c6 l b).ob=o->Lk w l a b=af
theorem N7 {w:WT} {l:Y ET} {o a j:Nat} (z:Ll l o a=J) (hj:Ll l o j=J) (A:(c6 l a).k=4\/(c6 l j).k=4) (hv:su w.1 o=af) (ht:¬(c6 l a).th=(c6 l j).th) (hc:¬Cr w l a j):Lk w l a j=J:=by
 obtain⟨a1,a2⟩:=sM.1 z;obtain⟨s,q⟩:=sM.1 hj;have c:cnB l a j=J:=aO ⟨ht,aO a1,aO s,a2.trans q.symm,A⟩;unfold Lk;rw[c,q,hv,Bool.not_false,ib,ib,cW,decide_eq_false_iff_not];exact hc
theorem Is {w:WT} {l:Y ET} {a j:Nat} (h:Lk w l a j=J):Ll l (c6 l j).ob a=J/\Ll l (c6 l j).ob j=J/\((c6 l a).k=4\/(c6 l j).k=4)/\su w.1 (c6 l j).ob=af/\¬Cr w l a j:=by
 unfold Lk at h;rw[al,al,cW,cW,decide_eq_false_iff_not]at h;obtain⟨h1,h2,q⟩:=h;obtain⟨s,c,q3,q4,q5⟩:=a8 h1;exact⟨sM.2 ⟨a8 c,q4⟩,sM.2 ⟨a8 q3,rfl⟩,q5,h2,q⟩
theorem Wj.check {w:WT} {l:Y ET} (A:TR (w,l)) {o i:Nat} {s:Sh} (f:Wj w l o i s) (hi:i<l.length) (ha:Ll l o i=J) (hv:su w.1 o=af) (qk:qkO w l o i):(G3 w l s i).2=J↔∃a,a<i/\Lk w l a i=J:=by
 have en:=VF A hi;have ge:∀u,0<=(qe w l i).getD u 0:=λu=>(en.2 u).1
 have cov0:DU (qe w l i) (0,0)=J:=aO (ge _);have low:∀a b,b<a->a<i->TI l o a->Ll l o b=J->Cr w l b a:=λa b hba hai hs hb=>by
  by_cases ht:(c6 l b).th=(c6 l a).th
  .exact Cr.own A hba (by omega) ht
  .refine Classical.not_not.1 λnc=>?_
   have:=N7 hb (sM.2 ⟨.inr hs.1,hs.2⟩) (.inr hs.1) hv ht nc;rw[qk b a hba hai hs.2]at this;exact bZ this (by decide)
 have oi:(c6 l i).ob=o:=(sM.1 ha).2;have wr:DU (qe w l i) s.1=J↔∀a,a<i->TI l o a->Cr w l a i:=by
  rcases f.W with ⟨h1,h2⟩|⟨a,h1,h2,h3,h4⟩
  .rw[h1];exact⟨λ_ a x y=>bZ y (h2 a x),λ_=>cov0⟩
  .rw[h3,OW];refine ⟨λh b x y=>?_,λh=>h a h1 h2⟩;by_cases q:b=a
   .subst q;exact h
   .by_cases q2:a<b
    .exact bZ y (h4 b q2 x)
    .exact (low a b (by omega) h1 h2 (sM.2 ⟨.inr y.1,y.2⟩)).trans A (by omega) (by omega) hi h
 have ntc:∀a,a<i->¬Cr w l a i->¬(c6 l a).th=(c6 l i).th:=λa x y q=>y (Cr.own A x hi q)
 unfold G3;by_cases h3:(c6 l i).k=3
 .rw[aC h3];unfold rdF;dsimp only;rw[cW];constructor
  .intro h;have c:¬DU (qe w l i) s.1=J:=by rw[h];decide
   rw[wr]at c;obtain⟨a,c⟩:=Classical.not_forall.1 c;obtain⟨x,c⟩:=Ah.1 c;obtain⟨y,c⟩:=Ah.1 c;exact⟨a,x,N7 (sM.2 ⟨.inr y.1,y.2⟩) ha (.inl y.1) hv (ntc a x c) c⟩
  .rintro⟨a,x,y⟩;obtain⟨h1,h2,h4,h5,h6⟩:=Is y;rw[oi]at h1;have st:TI l o a:=⟨by omega,(sM.1 h1).2⟩
   have c:¬DU (qe w l i) s.1=J:=λq=>h6 (wr.1 q a x st)
   simpa using c
 .rw[ax h3];have h4:(c6 l i).k=4:=(sM.1 ha).1.resolve_left h3;unfold wrF;dsimp only;rw[cW,Bool.and_eq_false_iff,Bool.and_eq_false_iff];have rd:(DU (qe w l i) s.2.1=J/\lqQ s.2.2 (qe w l i)=J)↔∀b,V3 l o i b->Cr w l b i:=by
   by_cases hl:s.2.2=[]
   .have lq:lqQ s.2.2 (qe w l i)=J:=by rw[hl,WV];intro u;simpa using ge u
    rw[lq];rcases f.R hl with ⟨h1,h2⟩|⟨r,h1,h2,h5⟩
    .rw[h1];exact⟨λ_ b x=>bZ x (h2 b),λ_=>⟨cov0,rfl⟩⟩
    .rw[h2,OW];refine ⟨λh b x=>?_,λh=>⟨h r h1,rfl⟩⟩;rcases h5 b x with rfl|⟨y,z⟩
     .exact h.1
     .exact z.trans A (by omega) (by have:=h1.1;omega) hi h.1
   .rw[f.Z hl,cov0,WV];refine ⟨λh b x=>?_,λh=>⟨rfl,λu=>?_⟩⟩
    .obtain⟨r,h1,h2,h5⟩:=f.U hl b x;have:=h.2 (c6 l r).th;rw[h2]at this;have cr:Cr w l r i:=this;rcases h5 with rfl|⟨y,z⟩
     .exact cr
     .exact z.trans A (by omega) (by have:=h1.1;omega) hi cr
    .rcases f.V hl u with h1|⟨r,h1,h2,h5⟩
     .rw[h1];exact ge u
     .have:=h r h1;unfold Cr at this;rw[h5,<-h2];exact this
  constructor
  .intro h;by_cases L:DU (qe w l i) s.1=J
   .have c:¬(DU (qe w l i) s.2.1=J/\lqQ s.2.2 (qe w l i)=J):=λq=>by
     rw[L,q.1,q.2]at h;rcases h with h|h|h<;>exact bZ h (by decide)
    rw[rd]at c;obtain⟨b,c⟩:=Classical.not_forall.1 c;obtain⟨x,c⟩:=Ah.1 c;exact⟨b,x.1,N7 (sM.2 ⟨.inl x.2.1.1,x.2.1.2⟩) ha (.inr h4) hv (ntc b x.1 c) c⟩
   .rw[wr]at L;obtain⟨a,c⟩:=Classical.not_forall.1 L;obtain⟨x,c⟩:=Ah.1 c;obtain⟨y,c⟩:=Ah.1 c;exact⟨a,x,N7 (sM.2 ⟨.inr y.1,y.2⟩) ha (.inl y.1) hv (ntc a x c) c⟩
  .rintro⟨b,x,y⟩;obtain⟨h1,h2,_,_,h6⟩:=Is y;rw[oi]at h1;by_cases L:DU (qe w l i) s.1=J
   .have hw':=wr.1 L;have hb:=sM.1 h1;have nst:∀a,b<a->a<i->¬TI l o a:=λa p q r=>h6 ((low a b p q r h1).trans A (by omega) (by omega) hi (hw' a q r))
    have h3b:(c6 l b).k=3:=hb.1.resolve_right λq=>h6 (hw' b x ⟨q,hb.2⟩)
    have c:¬(DU (qe w l i) s.2.1=J/\lqQ s.2.2 (qe w l i)=J):=λq=>h6 (rd.1 q b ⟨x,⟨h3b,hb.2⟩,nst⟩)
    by_cases h7:DU (qe w l i) s.2.1=J
    .exact .inr (.inr (by simpa using λq=>c ⟨h7,q⟩))
    .exact .inr (.inl (by simpa using h7))
   .exact .inl (by simpa using L)
theorem Z8 {w:WT} {l:Y ET} {a b o:Nat} (h:Lk w l a b=J) (c:(c6 l b).ob=o):Ll l o b=J:=by rw[<- c];exact (Is h).2.1
theorem abl {w:WT} {l:Y ET} (c:TR (w,l)) {o:Nat} (hv:su w.1 o=af):∀i,i<=l.length->Xg w l o i<0->qkO w l o i
 |0,_,_=>λa b x y=>by omega
 |i+1,hi,h=>by
  rw[Xg]at h;have h1:Xg w l o i<0:=by
   by_cases q:raF w l o i=J/\Xg w l o i<0
   .exact q.2
   .rw[ax q]at h;exact h
  have h2:raF w l o i=af:=by
   cases q:raF w l o i with
   |false=>rfl
   |true=>rw[aC ⟨q,h1⟩]at h;omega
  have s:=abl c hv i (by omega) h1;intro a b x y z;by_cases q:b=i
  .subst q;cases hr:Lk w l a b with
   |false=>rfl
   |true=>
    have A:=Z8 hr z;have:=((HL c o b (by omega)).check c (by omega) A hv s).2 ⟨a,x,hr⟩;unfold raF at h2;rw[A,this]at h2;exact bZ h2 (by decide)
  .exact s a b x (by omega) z
theorem aiw {w:WT} {l:Y ET} (c:TR (w,l)) {o i:Nat} (hi:i<l.length) (hv:su w.1 o=af) (h:Xg w l o i<0):raF w l o i=J↔(c6 l i).ob=o/\∃a,a<i/\Lk w l a i=J:=by
 have q:=abl c hv i (by omega) h;unfold raF;rw[al];constructor
 .rintro⟨h1,h2⟩;exact⟨(sM.1 h1).2,((HL c o i (by omega)).check c hi h1 hv q).1 h2⟩
 .rintro⟨h1,a,x,y⟩;have s:=Z8 y h1;exact⟨s,((HL c o i (by omega)).check c hi s hv q).2 ⟨a,x,y⟩⟩
def Jw (l:Y ET) (o:Nat) (r:Int):Y ν->Int
 |[]=>r
 |p::q=>Jw l o (if (c6 l p.2.toNat).ob=o/\r<0 then p.2 else r) q
theorem Dh (l:Y ET) (o:Nat):∀(p q:Y ν) (r:Int),Jw l o r (p++q)=Jw l o (Jw l o r p) q
 |[],_,_=>rfl
 |x::p,q,r=>by rw[fI,Jw,Jw,Dh l o p q]
theorem U3 (w:WT) (l:Y ET) (o b:Nat) (r:Int):∀i,Jw l o r (rI w l b i)=if (c6 l b).ob=o/\r<0/\∃a,a<i/\Lk w l a b=J then (b:Int) else r
 |0=>by rw[rI,Jw,ax λq=>by obtain⟨_,_,a,h,_⟩:=q;omega]
 |i+1=>by
  rw[rI];have A:=U3 w l o b r i;by_cases q:Lk w l i b=J
  .rw[aC q,Dh,A,Jw,Jw];by_cases s:(c6 l b).ob=o/\r<0
   .have n1:(if (c6 l b).ob=o/\r<0/\∃a,a<i+1/\Lk w l a b=J then (b:Int) else r)=b:=aC ⟨s.1,s.2,i,by omega,q⟩;rw[n1];dsimp only;rw[bY];by_cases c:∃a,a<i/\Lk w l a b=J
    .have n0:(if (c6 l b).ob=o/\r<0/\∃a,a<i/\Lk w l a b=J then (b:Int) else r)=b:=aC ⟨s.1,s.2,c⟩;rw[n0];split<;>rfl
    .have n0:(if (c6 l b).ob=o/\r<0/\∃a,a<i/\Lk w l a b=J then (b:Int) else r)=r:=ax λz=>c z.2.2
     rw[n0,aC s]
   .have n1:∀P:Prop,¬((c6 l b).ob=o/\r<0/\P):=λP h=>s ⟨h.1,h.2.1⟩
    rw[ax (n1 _),ax (n1 _)];dsimp only;rw[bY,ax s]
  .rw[ax q,A];have:(∃a,a<i/\Lk w l a b=J)↔∃a,a<i+1/\Lk w l a b=J:=⟨λ⟨a,x,y⟩=>⟨a,by omega,y⟩,λ⟨a,x,y⟩=>⟨a,by
    by_cases z:a=i
    .subst z;exact bZ y q
    .omega,y⟩⟩
   simp only[this]
theorem ahr {w:WT} {l:Y ET} (c:TR (w,l)) {o:Nat} (hv:su w.1 o=af):∀n,n<=l.length->Jw l o (-1) (rO w l n)=Xg w l o n
 |0,_=>rfl
 |n+1,h=>by
  rw[rO,Dh,ahr c hv n (by omega),U3,Xg];by_cases q:Xg w l o n<0
  .have:=aiw c (show n<l.length by omega) hv q;by_cases a:raF w l o n=J
   .rw[aC ⟨(this.1 a).1,q,(this.1 a).2⟩,aC ⟨a,q⟩]
   .rw[ax λz=>a (this.2 ⟨z.1,z.2.2⟩),ax λz=>a z.1]
  .rw[ax λz=>q z.2.1,ax λz=>q z.2]
theorem abh {w:WT} {l:Y ET} {o:Nat} (hv:su w.1 o=J):∀n,Jw l o (-1) (rO w l n)= -1
 |0=>rfl
 |n+1=>by
  rw[rO,Dh,abh hv n,U3,ax];rintro⟨h1,_,a,_,h2⟩;have:=(Is h2).2.2.2.1;rw[h1,hv]at this;exact bZ this (by decide)
abbrev Kg0:Ty:=(.st (.pr il (.pr il (.sl aL))))
abbrev Kg1:Ty:=(.st (.pr D' (.pr D' D')))
abbrev Kg2:Ty:=(.pr aL (.pr aL .un))
abbrev ZK:=(ν×(ν)×η)
abbrev Yg1:=(η×(η)×(η)×(η)×η)
def xG (it:yQ) (x:η×η):I (Bool):=
 (it (Int) _ (λa=>(bx a (gO (aV x.1) (aV x.2)) (av (gJ (x.1,a)) λq=>(av (gJ (x.2,a)) λc=>(bx c q (aE af) (cP (cG a))))) (aE J))) 0)
def BU (x:η×η):I (Bool):=xG @iter x
def pD (x:η×η):I (Bool):=xG @gq x
def gV (x:Int):I (Bool):=
 (jn (jI 0 x (aE (fJ x 4)) (aE af)) λa=>(M a))
def lK (x:ZK×(η)×Int):I (ZK×Bool):=
 (jn (α:=Bool×ZK×Int×Int×Int×Int) (av (gV x.2.2) λy2=>(aG (!y2) (aE (J,x.1,0,0,0,0)) (av (gV x.1.1.2) λZ=>(aG (!Z) (aE (J,x.1,0,0,0,0)) (av (gV x.1.2.1.2) λU=>(aE ((!U),x.1,0,0,0,0))))))) λa=>(aG a.1 (M (((0,0),(0,0),([]:η)),af)) (av (gJ x.2) λq=>(bx 0 (aV a.2.1.2.2) (bH (cZ 0 (gO (aV a.2.1.2.2) (cG x.2.2))&&cZ (gO (aV a.2.1.2.2) (cG x.2.2)) (gO (aV a.2.1.2.2) (cG x.2.2))&&bc (aQ (gO (aV a.2.1.2.2) (cG x.2.2))) 8) (ck (fy x.2.2 (ai (Nt (aB (aQ (gO (aV a.2.1.2.2) (cG x.2.2))) (0:Int)) a.2.1.2.2))) (av (eQ (x.2.1,a.2.1.1)) λL=>(M ((a.2.1.1,a.2.1.2.1,(cI (Nt (aB (aQ (gO (aV a.2.1.2.2) (cG x.2.2))) (0:Int)) a.2.1.2.2) x.2.2 q)),(!L)))))) (jn (bg a.2.1.2.1.1 0 (aE (J,a.2.1,a.2.2,a.2.1.1.1,a.2.1.1.2,a.2.1.2.1)) (av (eQ (x.2.1,a.2.1.2.1)) λA=>(aE (A,a.2.1,a.2.2,a.2.1.1.1,a.2.1.1.2,a.2.1.2.1)))) λc=>(aG c.1 (av (eQ (x.2.1,c.2.1.1)) λz=>(M (((c.p3,c.p4),(q,x.2.2),([]:η)),(!z)))) (bH (cZ 0 (bl .i64 ((gO c.2.1.2.1.2 x.2.2)+1))&&cZ (bl .i64 ((gO c.2.1.2.1.2 x.2.2)+1)) (bl .i64 ((gO c.2.1.2.1.2 x.2.2)+1))&&bc (aQ (bl .i64 ((gO c.2.1.2.1.2 x.2.2)+1))) 8) (ck (fy c.2.1.2.1.2 (ai (aB (aQ (bl .i64 ((gO c.2.1.2.1.2 x.2.2)+1))) (0:Int)))) (ck (fy x.2.2 (ai (cI (aB (aQ (bl .i64 ((gO c.2.1.2.1.2 x.2.2)+1))) (0:Int)) c.2.1.2.1.2 c.2.1.2.1.1))) (av (eQ (x.2.1,c.2.1.1)) λs=>(M (((c.p3,c.p4),(0,0),(cI (cI (aB (aQ (bl .i64 ((gO c.2.1.2.1.2 x.2.2)+1))) (0:Int)) c.2.1.2.1.2 c.2.1.2.1.1) x.2.2 q)),(!s)))))))))))))
def kx (x:ZK×(η)×Int):I (ZK×Bool):=
 (jn (α:=Bool×ZK×Int×Int×Int×Int) (av (gV x.2.2) λU=>(aG (!U) (aE (J,x.1,0,0,0,0)) (av (gV x.1.1.2) λL=>(aG (!L) (aE (J,x.1,0,0,0,0)) (av (gV x.1.2.1.2) λA=>(aE ((!A),x.1,0,0,0,0))))))) λa=>(aG a.1 (M (((0,0),(0,0),([]:η)),af)) (jn (av (eQ (x.2.1,a.2.1.1)) λz=>(aG z (av (eQ (x.2.1,a.2.1.2.1)) λs=>(aG s (av (pD (a.2.1.2.2,x.2.1)) λq=>(aE (q,a.2.2))) (aE (af,a.2.2)))) (aE (af,a.2.2)))) λZ=>(av (gJ x.2) λc=>(M (((c,x.2.2),(0,0),([]:η)),(!Z.1)))))))
def oS (x:fD×Y jB):I (η×(Y ZK)×Int):=
 (av (nE x) λy1=>(iU y1.2 0 (M (([]:η),([]:Y ZK),y1.2)) (jn (α:=(fD×Y jB)×(η)×(η)×(η)×(η)×η) (iter (σ:=Int×(fD×Y jB)×(η)×(η)×(η)×(η)×η) (λs=>(bx s.1 (aV x.2) (jn (α:=(fD×Y jB)×(η)×(η)×(η)×(η)×η) (bM jE x.2 s.1 λz5=>(jn (bg z5.2.1 3 (aE (J,s.2.1,z5,s.2.2)) (aE ((decide ((z5.2.1:Int)=4)),s.2.1,z5,s.2.2))) λc=>(aG c.1 (bg c.p2.p2 0 (bH (bc (ai c.p3+ai ([s.1])) 8) (aE (c.2.1,(c.p3++([s.1])),c.q4))) (bg c.p2.p2 1 (bH (bc (ai c.p4+ai ([s.1])) 8) (aE (c.2.1,c.p3,(c.p4++([s.1])),c.q5))) (bg c.p2.p2 2 (bH (bc (ai c.p5+ai ([s.1])) 8) (aE (c.2.1,c.p3,c.p4,(c.p5++([s.1])),c.q6))) (bg c.p2.p2 3 (bH (bc (ai c.p6+ai ([s.1])) 8) (aE (c.2.1,c.p3,c.p4,c.p5,(c.p6++([s.1])),c.q7))) (bg c.p2.p2 4 (bH (bc (ai c.q7+ai ([s.1])) 8) (aE (c.2.1,c.p3,c.p4,c.p5,c.p6,(c.q7++([s.1]))))) D))))) (aE (c.2.1,c.q3))))) λx4=>(cP ((cG s.1),x4))) (aE (bX s.2)))) (0,x,([]:η),([]:η),([]:η),([]:η),([]:η))) λA=>(bH (cZ 0 (aV A.1.1.1)&&cZ (aV A.1.1.1) (aV A.1.1.1)&&bc (aQ (aV A.1.1.1)) 8) (bH (cZ 0 (aV A.1.1.1)&&cZ (aV A.1.1.1) (aV A.1.1.1)&&bc (aQ (aV A.1.1.1)) 56) (iter (σ:=Int×(fD×Y jB)×Yg1×(η)×Y ZK) (λa=>(bx a.1 (aV A.1.1.1) (jn (α:=(fD×Y jB)×Yg1×(η)×Y ZK) (bM kO A.1.1.1 a.1 λz9=>(ck (fy a.1 (ai a.p3)) (aG z9.p3 (aE (a.2.1,a.p2,(cI a.p3 a.1 (-1)),a.q4)) (jn (α:=(η×Int×Int)×(fD×Y jB)×Yg1×(η)×Y ZK) (bg a.1 0 (aE ((a.p2.1,(aV a.p2.1),0),a.2.1,a.p2,(cI a.p3 a.1 (-1)),a.q4)) (bg a.1 1 (aE ((a.p2.2.1,(aV a.p2.2.1),0),a.2.1,a.p2,(cI a.p3 a.1 (-1)),a.q4)) (bg a.1 2 (aE ((a.p2.p2,(aV a.p2.p2),0),a.2.1,a.p2,(cI a.p3 a.1 (-1)),a.q4)) (bg a.1 3 (aE ((a.p2.p3,(aV a.p2.p3),0),a.2.1,a.p2,(cI a.p3 a.1 (-1)),a.q4)) (bg a.1 4 (aE ((a.p2.q4,(aV a.p2.q4),0),a.2.1,a.p2,(cI a.p3 a.1 (-1)),a.q4)) D))))) λZ=>(iter (σ:=Int×(fD×Y jB)×Yg1×(η)×Y ZK) (λq=>(bx q.1 Z.1.2.1 (jn (bM aL Z.1.1 q.1 λL=>(jn (bM jE q.2.1.2 L λz15=>(bg z15.2.1 3 (lG Kg0 q.q4 a.1 λz16=>(bM (.sl aL) y1.1 L λz17=>(av (lK (z16,z17,z15.1)) λy18=>(ck (fy a.1 (ai q.q4)) (aE (y18.2,q.2.1,q.p2,q.p3,(cI q.q4 a.1 y18.1))))))) (lG Kg0 q.q4 a.1 λz19=>(bM (.sl aL) y1.1 L λz20=>(av (kx (z19,z20,z15.1)) λy21=>(ck (fy a.1 (ai q.q4)) (aE (y21.2,q.2.1,q.p2,q.p3,(cI q.q4 a.1 y21.1))))))))) λU=>(jn (aG U.1 (lG aL U.p3 a.1 λz23=>(aE ((fJ z23 0),U.2))) (aE (af,U.2))) λz=>(aG z.1 (ck (fy a.1 (ai z.p3)) (aE (z.2.1,z.p2,(cI z.p3 a.1 L),z.q4))) (aE z.2))))) λx12=>(cP ((cG q.1),x12))) (aE (bX q.2)))) (Z.1.2.2,Z.2)))))) λx8=>(cP ((cG a.1),x8))) (aE (a.p3,a.q4,0)))) (0,A.1,A.2,(aB (aQ (aV A.1.1.1)) (0:Int)),(aB (aQ (aV A.1.1.1)) (((0,0),((0,0),[])):ν×(ν)×η)))))))))
def qB (x:fD×Y jB):I g_:=
 (av (oS x) λa=>(M (a.1,a.2.2)))
def tI (x:Unit):I (Bool):=
 (av (lK (((0,0),(0,0),([]:η)),[0,3],1)) λc=>(av (lK (c.1,[2,0],0)) λa=>(av (kx (a.1,[3,2],0)) λz=>(av (kx (a.1,[3,3],0)) λs=>(jn (α:=Bool) (aG (!c.2) (aG (!a.2) (aG z.2 (aG (!s.2) (aG (PZ Kg2 (c.1.2.1.1,c.1.2.1.2,()) (3,1,()) !=af) (av (EC (a.1.2.2,[2,3])) λq=>(aG q (aE (decide (((aV a.1.2.2):Int)=2))) (aE af))) (aE af)) (aE af)) (aE af)) (aE af)) (aE af)) λA=>(M A))))))
def jP (x:η×(η)×η):I (Bool):=
 (av (lh (x,50)) λq=>(av (qB q) λZ=>(av (rF q) λU=>(jn (iU Z.2 0 (aE (J,q)) (iU U.2 0 (aE (J,q)) (aE ((!decide (((aV Z.1):Int)=(aV q.1.1))),q)))) λx4=>(aG x4.1 (M af) (iter (σ:=Int×fD×Y jB) (λs=>(bx s.1 (aV x4.2.1.1) (iter (σ:=(ν)×fD×Y jB) (λa=>(bx a.1.2 (aV U.1) (jn (bM il U.1 a.1.2 λc=>(jn (jI 0 c.2 (bx c.2 (aV a.2.2) (bM jE a.2.2 c.2 λL=>(bg L.2.2.1 s.1 (bx a.1.1 0 (aE (J,a.2,c)) (aE ((fJ c.2 a.1.1),a.2,c))) (aE (af,a.2,c)))) (aE (af,a.2,c))) (aE (af,a.2,c))) λz=>(aG z.1 (aE (z.q3,z.2.1)) (aE (a.1.1,z.2.1))))) λx7=>(cP ((x7.1,(cG a.1.2)),x7.2))) (av (bM aL Z.1 s.1 λA=>(iU A a.1.1 (aE af) (cP ((cG s.1),a.2)))) λr=>M (bX r)))) (((-1),0),s.2)) (av (av (tI ()) λy12=>(M y12)) λr=>M (bX r)))) (0,x4.2)))))))
theorem pM {n:Nat} (h:n<4):gV (n:Int)=M J:=by
 refine cD ?_;unfold gV jI aE;refine aU (λx=>x=J) ?_ λx a=>aj a
 exact fU (λ_=>aj (r_.2 (by omega))) λh=>bZ h (by omega)
theorem Ax (c:η) (e:ν) (h:0<=e.2):eQ (c,e)=M (DU c e):=by
 obtain⟨a,b⟩:=e;obtain⟨u,rfl⟩:∃u:Nat,b=u:=⟨b.toNat,(fA h).symm⟩
 rw[K_];unfold DU;rw[bY]
theorem akc (a c:η) (s:a.length<=1000) (hc:c.length<=1000):pD (a,c)=M (lqQ a c):=by
 refine cD ?_;unfold pD xG bx aV cP aE cG;refine io (max a.length c.length) (by omega) (λi x=>x=(i:Int)/\∀v,v<i->a.getD v 0<=c.getD v 0) ?_ ?_ ⟨rfl,λv h=>by omega⟩
 .rintro i x hi ⟨rfl,h⟩;simp only[qD];refine dg (aS (xZ a i) (aS (xZ c i) (bK (λg=>aj ?_) λg=>aj ?_)))
  .show af=lqQ a c
   symm;rw[Ai];intro q
   have:=WV.1 q i;omega
  .refine ⟨gD (by omega),λv hv=>?_⟩;by_cases e:v=i
   .subst e;exact g
   .exact h v (by omega)
 .rintro x ⟨rfl,h⟩;simp only[qD];refine dc (aj ?_);show J=lqQ a c
  symm;rw[WV];intro v
  by_cases hv:v<max a.length c.length
  .exact h v hv
  .rw[au,au,bE (by omega),bE (by omega)];exact du _
theorem afs (l:η) (t:Nat) (n:Int):cI (Nt (aB (max l.length (t+1)) (0:Int)) l) (t:Int) n=yI l t n:=by
 rw[Kt _ _ (by omega),dY];unfold yI;rw[show max l.length (t+1)-l.length=t+1-l.length by omega]
theorem aed (u t:Nat) (p n:Int):cI (cI (aB (max u t+1) (0:Int)) (u:Int) p) (t:Int) n=yI (yI [] u p) t n:=by
 have e:aB (max u t+1) (0:Int)=aB (u+1) 0++aB (t+1-(u+1)) 0:=by rw[List.replicate_append_replicate];congr 1;omega
 rw[dY,dY,e,List.set_append_left _ _ (by rw[b8];omega)];unfold yI;simp only[j_,gw,ia,b8,Nat.sub_zero]
structure Wc (s:Sh):Prop where
 a0:0<=s.1.2
 a1:s.1.2<4
 b0:0<=s.2.1.2
 b1:s.2.1.2<4
 len:s.2.2.length<=4
theorem Wc.zero:Wc ((0,0),(0,0),[]):=⟨by decide,by decide,by decide,by decide,hX _⟩
theorem am9 {s:Sh} (h:Wc s) (c:η) {t:Nat} (ht:t<4):Wc (rdF s c t).1:=by
 obtain⟨h1,h2,q,a,z⟩:=h;unfold rdF;dsimp only;split
 .exact⟨h1,h2,q,a,by dsimp only;rw[CF];omega⟩
 split
 .exact⟨h1,h2,by dsimp only;omega,by dsimp only;omega,hX _⟩
 .refine ⟨h1,h2,du 0,(by decide:(0:Int)<4),?_⟩;dsimp only;rw[CF,CF,gw];omega
theorem am2 (s:Sh) (c:η) {t:Nat} (ht:t<4):Wc (wrF s c t).1:=by
 unfold wrF;exact⟨by dsimp only;omega,by dsimp only;omega,du 0,(by decide:(0:Int)<4),hX _⟩
theorem agi {s:Sh} (h:Wc s) {c:η} (hc:c.length<=4) {t:Nat} (ht:t<4):lK (s,c,(t:Int))=M (rdF s c t):=by
 obtain⟨h1,h2,A,h4,Z⟩:=h;obtain⟨⟨a,b⟩,⟨p,q⟩,r⟩:=s;dsimp only at h1 h2 A h4 Z;obtain⟨u,rfl⟩:∃u:Nat,b=u:=⟨b.toNat,(fA h1).symm⟩
 obtain⟨v,rfl⟩:∃v:Nat,q=v:=⟨q.toNat,(fA A).symm⟩
 refine cD ?_;unfold lK bm bz ck bg bx bH aV aE cG;refine aU (λx=>x.1=af/\x.2.1=((a,(u:Int)),(p,(v:Int)),r)) ?_ ?_
 .exact aS (pM ht) (dh (aS (pM (show u<4 by omega)) (dh (aS (pM (show v<4 by omega)) (aj ⟨rfl,rfl⟩)))))
 rintro⟨b0,s',z⟩ ⟨e1,e2⟩;dsimp only at e1 e2;subst e1;subst e2;refine dh (aS (xZ c t) ?_);have L:eQ (c,(a,(u:Int)))=M (DU c (a,(u:Int))):=Ax _ _ h1;have cr:eQ (c,(p,(v:Int)))=M (DU c (p,(v:Int))):=Ax _ _ A;have m1:gO (aN r.length) (bl .i64 ((t:Int)+1))=((max r.length (t+1):Nat):Int):=by rw[gD (by omega)];exact qD _ _
 have m2:bl .i64 (gO (v:Int) (t:Int)+1)=((max v t+1:Nat):Int):=by rw[show gO (v:Int) (t:Int)=((max v t:Nat):Int) from qD v t];exact gD (by omega)
 refine bK (λg=>?_) λg=>?_
 .have g:r≠[]:=λq=>by subst q;exact bZ g (Int.lt_irrefl 0)
  dsimp only;rw[m1];refine cX (cX (dA (by omega) (dA (by omega) (bd (by omega) (by omega) ?_))));have k:=afs r t (c.getD t 0);have U:(Nt (aB (max r.length (t+1)) (0:Int)) r).length=max r.length (t+1):=by rw[Kt _ _ (by omega),be,b8];omega
  rw[bY];refine aR (by omega) (by rw[U];omega) (aR (by omega) (by rw[U];omega) (aS L (aj ?_)));rw[k];unfold rdF;dsimp only;rw[aC g]
 .have g:r=[]:=List.eq_nil_of_length_eq_zero (by dsimp only[ak]at g;omega);subst g;have rd:rdF ((a,(u:Int)),(p,(v:Int)),[]) c t=(if p=0\/DU c (p,(v:Int))=J then ((a,(u:Int)),(c.getD t 0,(t:Int)),[]) else ((a,(u:Int)),(0,0),yI (yI [] v p) t (c.getD t 0)),!DU c (a,(u:Int))):=by
   unfold rdF;dsimp only;rw[ax λq=>q rfl,bY]
  rw[rd];refine aU (λx=>x.1=(decide (p=0)||DU c (p,(v:Int)))/\x.2.1=((a,(u:Int)),(p,(v:Int)),[])/\x.2.2.2=(a,(u:Int),(p,(v:Int)))) ?_ ?_
  .refine aK (λg=>aj ⟨?_,rfl,rfl⟩) λg=>aS cr (aj ⟨?_,rfl,rfl⟩)
   .have g:p=0:=g;dsimp only;rw[aO g];rfl
   .have g:¬p=0:=g;dsimp only;rw[bt g];rfl
  rintro⟨x1,x2,x3,x4⟩ ⟨e1,e2,e3⟩;dsimp only at e1 e2 e3;subst e1;subst e2;subst e3;refine aP (λg=>?_) λg=>?_
  .have g:p=0\/DU c (p,(v:Int))=J:=by simpa using g
   rw[aC g];exact aS L (aj rfl)
  .have g:¬(p=0\/DU c (p,(v:Int))=J):=by
    have g:(decide (p=0)||DU c (p,(v:Int)))=af:=g;rw[Bool.or_eq_false_iff,decide_eq_false_iff_not]at g;rintro (q|q)
    .exact g.1 q
    .rw[q]at g;exact bZ g.2 (by decide)
   rw[ax g];dsimp only;rw[m2];refine cX (cX (dA (by omega) (dA (by omega) (bd (by omega) (by omega) ?_))));rw[bY];refine aR (by omega) (by rw[b8];omega) (aR (by omega) (by rw[b8];omega) ?_);refine aR (by omega) (by rw[bU,b8];omega) (aR (by omega) (by rw[bU,b8];omega) (aS L (aj ?_)));rw[aed]
theorem aco {s:Sh} (h:Wc s) {c:η} (hc:c.length<=4) {t:Nat} (ht:t<4):kx (s,c,(t:Int))=M (wrF s c t):=by
 obtain⟨h1,h2,L,Z,U⟩:=h;obtain⟨⟨a,b⟩,⟨p,q⟩,r⟩:=s;dsimp only at h1 h2 L Z U;obtain⟨u,rfl⟩:∃u:Nat,b=u:=⟨b.toNat,(fA h1).symm⟩
 obtain⟨v,rfl⟩:∃v:Nat,q=v:=⟨q.toNat,(fA L).symm⟩
 refine cD ?_;unfold kx aE;refine aU (λx=>x.1=af/\x.2.1=((a,(u:Int)),(p,(v:Int)),r)) ?_ ?_
 .exact aS (pM ht) (dh (aS (pM (show u<4 by omega)) (dh (aS (pM (show v<4 by omega)) (aj ⟨rfl,rfl⟩)))))
 rintro⟨b0,s',z⟩ ⟨e1,e2⟩;dsimp only at e1 e2;subst e1;subst e2;refine dh (aU (λx=>x.1=(DU c (a,(u:Int))&&(DU c (p,(v:Int))&&lqQ r c))) ?_ ?_)
 .refine aS (Ax _ _ h1) (aP (λg=>?_) λg=>aj ?_)
  .refine aS (Ax _ _ L) (aP (λA=>?_) λA=>aj ?_)
   .refine aS (akc r c (by omega) (by omega)) (aj ?_);dsimp only at g A ⊢;rw[g,A];rfl
   .dsimp only at g A ⊢;rw[g,A];rfl
  .dsimp only at g ⊢;rw[g];rfl
 .rintro⟨x1,z2⟩ e;dsimp only at e;subst e;exact aS (xZ c t) (aj rfl)
def Aw (l:Y ET) (o:Nat):Nat->η
 |0=>[]
 |n+1=>if Ll l o n=J then Aw l o n++[(n:Int)] else Aw l o n
theorem PA (l:Y ET) (o:Nat):∀n,(Aw l o n).length<=n
 |0=>bP _
 |n+1=>by
  have:=PA l o n;rw[Aw];split
  .rw[be,dB];omega
  .omega
theorem H_ {l:Y ET} {o:Nat} {z:Int}:∀n,z∈Aw l o n->∃j:Nat,z=j/\j<n/\Ll l o j=J
 |0,h=>by cases h
 |n+1,h=>by
  rw[Aw]at h;split at h
  .rename_i q;rcases bO.1 h with h|h
   .obtain⟨j,h1,h2,a⟩:=H_ n h;exact⟨j,h1,by omega,a⟩
   .rw[aI]at h;exact⟨n,h,by omega,q⟩
  .obtain⟨j,h1,h2,a⟩:=H_ n h;exact⟨j,h1,by omega,a⟩
abbrev PQ:Sh:=((0,0),(0,0),[])
def stS (w:WT) (l:Y ET) (x:Sh×Int) (z:Int):Sh×Int:=((G3 w l x.1 z.toNat).1,if (G3 w l x.1 z.toNat).2=J/\x.2<0 then z else x.2)
theorem Rs (w:WT) (l:Y ET) (o:Nat):∀n,(Aw l o n).foldl (stS w l) (PQ,-1)=(T6 w l o n,Xg w l o n)
 |0=>rfl
 |n+1=>by
  rw[Aw,T6,Xg];have a:=Rs w l o n;unfold raF;by_cases q:Ll l o n=J
  .rw[aC q,aC q,eD,a,q,ib];unfold stS;dsimp only[List.foldl];rw[bY]
  .rw[ax q,ax q,a,ax];rintro⟨h,_⟩;rw[al]at h;exact q h.1
theorem am5 {w:WT} {l:Y ET} {s:Sh} {j:Nat} (h:Wc s) (ht:(c6 l j).th<4):Wc (G3 w l s j).1:=by
 unfold G3;split
 .exact am9 h _ ht
 .exact am2 _ _ ht
theorem abj {w:WT} {l:Y ET} (ht:∀j,j<l.length->(c6 l j).th<4):∀(y:η) (x:Sh×Int),(∀z∈y,∃j:Nat,z=j/\j<l.length)->Wc x.1->Wc (y.foldl (stS w l) x).1
 |[],_,_,h=>h
 |z::y,x,a,h=>by
  obtain⟨j,rfl,hj⟩:=a z (cQ ..);exact abj ht y _ (λz q=>a z (bV _ q)) (am5 h (ht j hj))
theorem TX {w:WT} {l:Y ET} (a:TR (w,l)) (j:Nat) (h:j<l.length):(c6 l j).th<4:=(Fa a h).th4
theorem ait {w:WT} {l:Y ET} (a:TR (w,l)) {j:Nat} (h:j<l.length) {s:Sh} (hs:Wc s) (hk:(c6 l j).k=3):lK (s,qe w l j,(eN l j).1)=M (G3 w l s j):=by
 rw[(wM a h).th,agi hs (VF a h).1 (TX a j h)];unfold G3;rw[aC hk]
theorem ais {w:WT} {l:Y ET} (a:TR (w,l)) {j:Nat} (h:j<l.length) {s:Sh} (hs:Wc s) (hk:¬(c6 l j).k=3):kx (s,qe w l j,(eN l j).1)=M (G3 w l s j):=by
 rw[(wM a h).th,aco hs (VF a h).1 (TX a j h)];unfold G3;rw[ax hk]
theorem aap {w:WT} {l:Y ET} (a:TR (w,l)) {j:Nat} (h:j<l.length):(eN l j).2.1=3↔(c6 l j).k=3:=by rw[(wM a h).k];omega
theorem ahk {w:WT} {l:Y ET} (a:TR (w,l)) {j:Nat} (h:j<l.length) (q:S5 (c6 l j)=J):(eN l j).2.2.1=((c6 l j).ob:Int)/\(c6 l j).ob<5:=by
 refine ⟨Fw a h q,?_⟩;have:=((Fa a h).ce (a8 q)).2;rw[a.wx.c]at this;exact this
theorem acj {e:EV} {z:Int} (a:z=(e.k:Int)):S5 e=(decide (z=3)||decide (z=4)):=by
 subst a;unfold S5;rw[Bool.eq_iff_iff];simp;omega
abbrev Pz (l:Y ET) (n:Nat):η×η×η×η×η:=(Aw l 0 n,Aw l 1 n,Aw l 2 n,Aw l 3 n,Aw l 4 n)
theorem ae6 {α:Type} {n:Nat} {f:Nat->α} {z:α} {i:Nat} (h:f i=z):tA n f z (i+1)=tA n f z i:=by
 unfold tA;refine mq λk _=>?_
 by_cases e:k=i
 .subst e;rw[aC (by omega),ax (by omega),h]
 .by_cases g:k<i
  .rw[aC g,aC (by omega)]
  .rw[ax g,ax (by omega)]
theorem ae5 {α:Type} {n:Nat} {f:Nat->α} {z:α} {i:Nat} (h:i<n):(tA n f z i).set i z=tA n f z i:=by
 apply dk
 .simp
 intro k h1 h2;rw[qV];split
 .rename_i e;subst e;simp only[tA,mS,kL,xh,dP]
 .rfl
def Ln (w:WT) (l:Y ET) (k:Nat):Int:=if su w.1 k=J then -1 else Xg w l k l.length
def Wb (w:WT) (l:Y ET) (k:Nat):Sh:=if su w.1 k=J then PQ else T6 w l k l.length
theorem Yu {w:WT} {l:Y ET} (A:TR (w,l)):oS (w,l)=M ((dN 5).map (Ln w l),(dN 5).map (Wb w l),0):=by
 have hl:=A.len;dsimp only at hl;have hw:w.1.length=5:=by rw[A.wx.c];rfl
 have L:aN w.1.length=5:=by rw[hw];rfl
 refine cD ?_;unfold oS aY bm bz cH eC bL dx cY fo lP ck bg bx iU bH bM lG aV cP aE cG;refine aS (NI A) (dh (aU (λx=>x=((w,l),Pz l l.length)) ?_ ?_))
 .refine ch l.length (λi x=>x=((i:Int),(w,l),Pz l i)) ?_ ?_ rfl
  .rintro i x hi rfl;refine dg (aU (λx=>x=((w,l),Pz l (i+1))) (cE (aT ?_)) ?_)
   .refine aU (λx=>x=(S5 (c6 l i),(w,l),eN l i,Pz l i)) ?_ ?_
    .refine aK (λg=>aj ?_) λg=>aj ?_
     .have g:(eN l i).2.1=3:=g;dsimp only;rw[acj (wM A hi).k,aO g];rfl
     .have g:¬(eN l i).2.1=3:=g;dsimp only;rw[acj (wM A hi).k,bt g,Bool.false_or]
    rintro x rfl;refine aP (λg=>?_) λg=>?_
    .obtain⟨h1,h2⟩:=ahk A hi g;have e:∀k,Aw l k (i+1)=if (c6 l i).ob=k then Aw l k i++[(i:Int)] else Aw l k i:=λk=>by
      rw[Aw,Ll];dsimp only at g;rw[g,ib];simp only[bB]
     have hk:∀k,(Aw l k i).length<=400:=λk=>by have:=PA l k i;omega
     dsimp only;rw[h1];have Z:(c6 l i).ob=0\/(c6 l i).ob=1\/(c6 l i).ob=2\/(c6 l i).ob=3\/(c6 l i).ob=4:=by omega
     have r:∀k,(Aw l k i).length+[(i:Int)].length<=1000:=λk=>by have:=hk k;rw[dB];omega
     rcases Z with o|o|o|o|o
     .rw[o];exact wa (bd (by have:=r 0;omega) (by omega) (aj (by rw[Pz,e,e,e,e,e,o];rfl)))
     .rw[o];exact dh (wa (bd (by have:=r 1;omega) (by omega) (aj (by rw[Pz,e,e,e,e,e,o];rfl))))
     .rw[o];exact dh (dh (wa (bd (by have:=r 2;omega) (by omega) (aj (by rw[Pz,e,e,e,e,e,o];rfl)))))
     .rw[o];exact dh (dh (dh (wa (bd (by have:=r 3;omega) (by omega) (aj (by rw[Pz,e,e,e,e,e,o];rfl))))))
     .rw[o];exact dh (dh (dh (dh (wa (bd (by have:=r 4;omega) (by omega) (aj (by rw[Pz,e,e,e,e,e,o];rfl)))))))
    .have e:∀k,Aw l k (i+1)=Aw l k i:=λk=>by
      rw[Aw,Ll];dsimp only at g;rw[g,lB];rfl
     refine aj ?_;show ((w,l),Pz l i)=((w,l),Pz l (i+1))
     unfold Pz;rw[e,e,e,e,e]
   .rintro x rfl;refine aj ?_;dsimp only;rw[gD (by omega)]
  .rintro x rfl;exact dc (aj rfl)
 rintro x rfl;dsimp only;refine cX (cX (dA (by rw[L];omega) (dA (du _) (bd (by rw[L];decide) (by omega) ?_))));refine cX (cX (dA (by rw[L];omega) (dA (du _) (bd (by rw[L];decide) (by omega) ?_))));refine ch 5 (λi x=>x=((i:Int),(w,l),Pz l l.length,tA 5 (Ln w l) 0 i,tA 5 (Wb w l) PQ i)) ?_ ?_ ?_
 .rintro i x hi rfl;refine dg ?_ (by dsimp only[ak];omega);refine aU (λx=>x=((w,l),Pz l l.length,tA 5 (Ln w l) 0 (i+1),tA 5 (Wb w l) PQ (i+1))) (cE (aT ?_)) ?_
  .refine aR (by dsimp only;omega) (by dsimp only;rw[vD];omega) (aR (by dsimp only;omega) (by dsimp only;rw[vD];omega) ?_);have ev:(aJ (T:=My) w.1 (i:Int)).2.2.2.1=su w.1 i:=by rw[OL];rfl
   refine aP (λg=>?_) λg=>?_
   .have g:su w.1 i=J:=by rw[<- ev];exact g
    have f1:Ln w l i= -1:=by unfold Ln;rw[aC g]
    have s1:Wb w l i=PQ:=by unfold Wb;rw[aC g]
    refine aj ?_;dsimp only;rw[dY,<-f1,Ik (by omega),ae6 s1]
   .have g:¬su w.1 i=J:=by rw[<- ev];rw[show (aJ (T:=My) w.1 (i:Int)).2.2.2.1=af from g];decide
    have f1:Ln w l i=Xg w l i l.length:=by unfold Ln;rw[ax g]
    have s1:Wb w l i=T6 w l i l.length:=by unfold Wb;rw[ax g]
    refine aU (λx=>x=((Aw l i l.length,aN (Aw l i l.length).length,0),(w,l),Pz l l.length,(tA 5 (Ln w l) 0 i).set i (-1),tA 5 (Wb w l) PQ i)) ?_ ?_
    .dsimp only;rw[dY];have Z:i=0\/i=1\/i=2\/i=3\/i=4:=by omega
     rcases Z with o|o|o|o|o
     .subst o;exact wa (aj rfl)
     .subst o;exact dh (wa (aj rfl))
     .subst o;exact dh (dh (wa (aj rfl)))
     .subst o;exact dh (dh (dh (wa (aj rfl))))
     .subst o;exact dh (dh (dh (dh (wa (aj rfl)))))
    rintro x rfl;have hal:=PA l i l.length;have Ur:∀z∈Aw l i l.length,∃j:Nat,z=j/\j<l.length:=λz U=>by obtain⟨j,a,b,_⟩:=H_ _ U;exact⟨j,a,b⟩
    refine ch (Aw l i l.length).length (λp x=>x=((p:Int),(w,l),Pz l l.length,(tA 5 (Ln w l) 0 i).set i (((Aw l i l.length).take p).foldl (stS w l) (PQ,-1)).2,(tA 5 (Wb w l) PQ i).set i (((Aw l i l.length).take p).foldl (stS w l) (PQ,-1)).1)) ?_ ?_ ?_
    .rintro p x hp rfl;obtain⟨z,U⟩:∃z,(Aw l i l.length)[p]? =M z:=⟨_,ay hp⟩
     obtain⟨j,rfl,hj,haj⟩:=H_ _ (aX U);have tk:(Aw l i l.length).take (p+1)=(Aw l i l.length).take p++[(j:Int)]:=by rw[List.take_add_one,U];rfl
     have gz:aJ (T:=.int .i64) (Aw l i l.length) (p:Int)=(j:Int):=by
      unfold aJ;rw[bY,au,U];rfl
     have fB:Wc (((Aw l i l.length).take p).foldl (stS w l) (PQ,-1)).1:=abj (TX A) _ _ (λz q=>Ur z (hY q)) Wc.zero;rw[tk,eD];generalize ((Aw l i l.length).take p).foldl (stS w l) (PQ,-1)=f at fB ⊢;obtain⟨fs,fi⟩:=f;dsimp only at fB;have fS:List.foldl (stS w l) (fs,fi) [(j:Int)]=((G3 w l fs j).1,if (G3 w l fs j).2=J/\fi<0 then (j:Int) else fi):=by dsimp only[List.foldl];unfold stS;dsimp only;rw[bY]
     rw[fS];have sg:aJ (T:=.st (.pr (.st (.pr (.int .i64) (.int .i64))) (.pr (.st (.pr (.int .i64) (.int .i64))) (.sl (.int .i64))))) ((tA 5 (Wb w l) PQ i).set i fs) (i:Int)=fs:=by
      unfold aJ;rw[bY,au,List.getElem?_set_self (by rw[vD];omega)];rfl
     have fg:aJ (T:=.int .i64) ((tA 5 (Ln w l) 0 i).set i fi) (i:Int)=fi:=by
      unfold aJ;rw[bY,au,List.getElem?_set_self (by rw[vD];omega)];rfl
     refine dg ?_;refine aU (λx=>x=((w,l),Pz l l.length,(tA 5 (Ln w l) 0 i).set i (if (G3 w l fs j).2=J/\fi<0 then (j:Int) else fi),(tA 5 (Wb w l) PQ i).set i (G3 w l fs j).1)) (cE (aT ?_)) ?_
     .rw[gz];refine aU (λx=>x=((G3 w l fs j).2,(w,l),Pz l l.length,(tA 5 (Ln w l) 0 i).set i fi,(tA 5 (Wb w l) PQ i).set i (G3 w l fs j).1)) (cE (aT ?_)) ?_
      .have ls:((tA 5 (Wb w l) PQ i).set i fs).length=5:=by rw[ia,vD]
       have s:((i:Nat):Int)<(((tA 5 (Wb w l) PQ i).set i fs).length:Int):=by rw[ls];omega
       refine aK (λg=>?_) λg=>?_
       .have g:(c6 l j).k=3:=(aap A hj).1 g;refine aR (by omega) s (aR (by omega) s (aT ?_));refine aR (by omega) (by rw[bR,fP];omega) (aT ?_);dsimp only;rw[sg,Kn hj];refine aS (ait A hj fB g) (aR (by omega) s (aR (by omega) s (aj ?_)));dsimp only;rw[dY,List.set_set]
       .have g:¬(c6 l j).k=3:=λq=>g ((aap A hj).2 q)
        refine aR (by omega) s (aR (by omega) s (aT ?_));refine aR (by omega) (by rw[bR,fP];omega) (aT ?_);dsimp only;rw[sg,Kn hj];refine aS (ais A hj fB g) (aR (by omega) s (aR (by omega) s (aj ?_)));dsimp only;rw[dY,List.set_set]
      rintro x rfl;have lf:((tA 5 (Ln w l) 0 i).set i fi).length=5:=by rw[ia,vD]
      have s:((i:Nat):Int)<(((tA 5 (Ln w l) 0 i).set i fi).length:Int):=by rw[lf];omega
      refine aU (λx=>x=(decide ((G3 w l fs j).2=J/\fi<0),(w,l),Pz l l.length,(tA 5 (Ln w l) 0 i).set i fi,(tA 5 (Wb w l) PQ i).set i (G3 w l fs j).1)) ?_ ?_
      .refine aP (λg=>?_) λg=>aj ?_
       .refine aR (by dsimp only;omega) s (aR (by dsimp only;omega) s (aT (aj ?_)));dsimp only at g ⊢;rw[fg,g];unfold fJ;simp
       .dsimp only at g ⊢;rw[g];simp
      rintro x rfl;refine aP (λg=>?_) λg=>aj ?_
      .refine aR (by dsimp only;omega) s (aR (by dsimp only;omega) s (aj ?_));dsimp only;rw[dY,List.set_set,aC (a8 g)]
      .dsimp only;rw[ax (t_ g)]
     rintro x rfl;refine aj ?_;dsimp only;rw[gD (by omega)]
    .rintro x rfl;rw[cK,Rs];refine dc (aj ?_);dsimp only;rw[<- f1,<-s1,Ik (by omega),Ik (by omega)]
    .dsimp only[dJ,List.foldl];rw[ae5 (by omega)];rfl
  .rintro x rfl;refine aj ?_;dsimp only;rw[gD (by omega)]
 .rintro x rfl;refine dc (aj ?_) (by dsimp only[ak];omega);dsimp only;rw[NX,NX]
 .rw[HK,HK,L];rfl
theorem ade {w:WT} {l:Y ET} (a:TR (w,l)):qB (w,l)=M ((dN 5).map (Ln w l),0):=by
 refine cD ?_;unfold qB;exact aS (Yu a) (aj rfl)
theorem Yr {f:Nat->Int} {k:Nat} (h:k<5):aJ (T:=.int .i64) ((dN 5).map f) (k:Int)=f k:=by
 unfold aJ;rw[bY,au,ba,vW h];rfl
theorem ajg {w:WT} {l:Y ET} (a:TR (w,l)):w.1.length=5:=by rw[a.wx.c];rfl
theorem ag5 {l:Y ET} {i k:Nat} (h:S5 (c6 l i)=af\/¬(c6 l i).ob=k):Ll l k i=af:=by
 unfold Ll;rcases h with h|h
 .rw[h];rfl
 .rw[bt h,Lf]
theorem Ww {w:WT} {l:Y ET} {i k:Nat} (h:S5 (c6 l i)=af\/¬(c6 l i).ob=k):T6 w l k (i+1)=T6 w l k i:=by rw[T6,ag5 h];rfl
def QvI (w:WT) (l:Y ET) (i:Nat) (s:Y Sh):Prop:=s.length=5/\∀k,k<5->¬su w.1 k=J->(Ln w l k<0\/(i:Int)<=Ln w l k)->s.getD k PQ=T6 w l k i
theorem QvI.skip {w:WT} {l:Y ET} {i:Nat} {s:Y Sh} (h:QvI w l i s) (hs:∀k,k<5->¬su w.1 k=J->(Ln w l k<0\/((i+1:Nat):Int)<=Ln w l k)->S5 (c6 l i)=af\/¬(c6 l i).ob=k):QvI w l (i+1) s:=
 ⟨h.1,λk a b c=>by rw[Ww (hs k a b c)];exact h.2 k a b (by omega)⟩
theorem QvI.put {w:WT} {l:Y ET} {i:Nat} {s:Y Sh} (h:QvI w l i s) {k:Nat} (hk:k<5) (A:(c6 l i).ob=k) (L:S5 (c6 l i)=J):QvI w l (i+1) (s.set k (G3 w l (T6 w l k i) i).1):=by
 refine ⟨by rw[ia];exact h.1,λq a b c=>?_⟩;rw[au,jZ];have z:k<s.length:=by rw[h.1];exact hk
 by_cases e:k=q
 .subst e;rw[aC rfl,aC z];rw[T6,Ll,L,A,aO rfl];rfl
 .rw[ax e,<-au,Ww (.inr (by omega))];exact h.2 q a b (by omega)
theorem ag4:tI ()=M J:=by kernel_rfl
theorem Z9 {α:Type} {R:α->α->Prop}:∀l:Y α,(∀x∈l,∀y∈l,R x y)->l.Pairwise R
 |[],_=>List.Pairwise.nil
 |a::l,h=>List.Pairwise.cons (λy c=>h a (cQ ..) y (bV _ c)) (Z9 l λx q y c=>h x (bV _ q) y (bV _ c))
theorem ahi (w:WT) (l:Y ET):∀n,(rO w l n).Pairwise λp q=>p.2<=q.2
 |0=>List.Pairwise.nil
 |b+1=>by
  rw[rO,List.pairwise_append];refine ⟨ahi w l b,Z9 _ λx c y a=>?_,λx c y a=>?_⟩
  .obtain⟨_,_,_,rfl⟩:=Ep _ c;obtain⟨_,_,_,rfl⟩:=Ep _ a;exact du _
  .obtain⟨_,b',_,h,_,rfl⟩:=Ud _ c;obtain⟨_,_,_,rfl⟩:=Ep _ a;dsimp only;omega
theorem Xb (l:Y ET) (o:Nat):∀(y:Y ν) (r:Int),Jw l o r y=r\/∃p∈y,Jw l o r y=p.2
 |[],r=>.inl rfl
 |p::y,r=>by
  rw[Jw];rcases Xb l o y (if (c6 l p.2.toNat).ob=o/\r<0 then p.2 else r) with h|⟨q,h1,h2⟩
  .rw[h];split
   .exact .inr ⟨p,cQ ..,rfl⟩
   .exact .inl rfl
  .exact .inr ⟨q,bV _ h1,h2⟩
theorem aj8 {w:WT} {l:Y ET} (a:TR (w,l)) (o:Nat):Jw l o (-1) (rO w l l.length)=Ln w l o:=by
 unfold Ln;by_cases v:su w.1 o=J
 .rw[aC v,abh v]
 .rw[ax v,ahr a (by simpa using v) _ (bP _)]
theorem Ea (a b c:η) (ha:a.length<=9223372036854775807) (Z:∀z∈a,0<=z/\z<=255) (hc:c.length<=9223372036854775807) (U:∀z∈c,0<=z/\z<=255):Ok (jP (a,b,c)) λy=>y=J:=by
 unfold jP bL bg bx jI iU bM aV cP aE cG;refine aw (P:=TR) (PD a b c 50 (by omega) (by omega) ha Z hc U) ?_;rintro⟨w,l⟩ L;have hl:=L.len;dsimp only at hl;have hw:=ajg L;have A:aN w.1.length=5:=by rw[hw];rfl
 have hr:=Ue w l l.length (by omega);refine aS (ade L) (aS (acw L) (aU (λx=>x=(af,(w,l))) ?_ ?_))
 .refine dh (dh (aj ?_));dsimp only;rw[A,bR,fP];rfl
 rintro x rfl;refine dh ?_;refine ch 5 (λi x=>x=((i:Int),(w,l))) ?_ ?_ rfl
 .rintro i x hi rfl;refine dg ?_ (by dsimp only;rw[A];omega);refine ch (rO w l l.length).length (λj x=>x=((Jw l i (-1) ((rO w l l.length).take j),(j:Int)),(w,l))) ?_ ?_ rfl
  .rintro j x hj rfl;refine dg ?_;obtain⟨p,hp⟩:∃p,(rO w l l.length)[j]? =M p:=⟨_,ay hj⟩
   have gp:aJ (T:=.st (.pr (.int .i64) (.int .i64))) (rO w l l.length) (j:Int)=p:=by
    unfold aJ;rw[bY,au,hp];rfl
   have tk:(rO w l l.length).take (j+1)=(rO w l l.length).take j++[p]:=by rw[List.take_add_one,hp];rfl
   obtain⟨k,m,h1,h2,h3,rfl⟩:=Ud _ (aX hp);have hob:=(ahk L h2 (sM.1 (Is h3).2.1 |>.1|>aO)).1;have early:∀q∈(rO w l l.length).take j,q.2<=(m:Int):=λq hq=>by
    obtain⟨s,hs,rfl⟩:=List.mem_iff_getElem.1 hq;rw[bA]at hs;rw[List.getElem_take];have:=List.pairwise_iff_getElem.1 (ahi w l l.length) s j (by omega) hj (by omega);rw[(bh.1 hp).2]at this;exact this
   have val:=Xb l i ((rO w l l.length).take j) (-1);have st:Jw l i (-1) ((rO w l l.length).take (j+1))=if (c6 l m).ob=i/\Jw l i (-1) ((rO w l l.length).take j)<0 then (m:Int) else Jw l i (-1) ((rO w l l.length).take j):=by
    rw[tk,Dh,Jw,Jw];dsimp only;rw[bY]
   rw[st];generalize Jw l i (-1) ((rO w l l.length).take j)=f at val ⊢;have low:0<=f->¬(m:Int)<f:=λh=>by
    rcases val with e|⟨q,h5,h6⟩
    .omega
    .have:=early q h5;omega
   refine aU (λx=>x=((if (c6 l m).ob=i/\f<0 then (m:Int) else f),(w,l))) (cE (aT ?_)) ?_
   .rw[gp];refine aU (λx=>x=(decide ((c6 l m).ob=i/\f<0),(w,l),(k:Int),(m:Int))) ?_ ?_
    .refine fU (λ_=>?_) λq=>bZ q (by dsimp only;omega)
     refine dg ?_ (by dsimp only[ak];omega);refine cE (aT ?_);refine aK (λg=>?_) λg=>?_
     .have g:(c6 l m).ob=i:=by have g:(eN l m).2.2.1=(i:Int):=g;rw[hob]at g;omega
      refine bK (λq=>aj ?_) λq=>aj ?_
      .have q:f<0:=q;dsimp only;rw[aO ⟨g,q⟩]
      .have q:0<=f:=q;dsimp only;rw[fZ.2 (x_.1 (low q)),bt λz=>bZ z.2 (by omega)]
     .have g:¬(c6 l m).ob=i:=λq=>g (by show (eN l m).2.2.1=(i:Int);rw[hob,q])
      refine aj ?_;dsimp only;rw[bt λz=>g z.1]
    rintro x rfl;refine aP (λg=>aj ?_) λg=>aj ?_
    .dsimp only;rw[aC (a8 g)]
    .dsimp only;rw[ax (t_ g)]
   .rintro x rfl;refine aj ?_;dsimp only;rw[gD (by omega)]
  .rintro x rfl;refine dc ?_;rw[cK,aj8 L];refine aw (P:=λr=>r=oX (((i+1:Nat):Int),(w,l))) ?_ ?_
   .refine aR (by dsimp only;omega) (by dsimp only;rw[bR,fP];omega) (aT ?_);dsimp only;rw[Yr hi];refine cg (λq=>bZ rfl q) λ_=>aj ?_
    rw[gD (by omega)]
   .rintro r rfl;exact aj rfl
 .rintro x rfl;exact dc (aS (x:=J) (cD (aS ag4 (aj rfl))) (aj rfl)) (by dsimp only;rw[A];omega)
theorem EpochAgrees_law (x:η×η×η) (w:Wm (.st (.pr (.sl (.int .u8)) (.pr (.sl (.int .u8)) (.sl (.int .u8))))) x):jP x=M J:=by
 obtain⟨a,b,c⟩:=x;obtain⟨⟨l0,w0⟩,_,⟨l2,s⟩⟩:=w;obtain⟨y,h,rfl⟩:=Ea a b c l0 (λz q=>Xz (w0 z q)) l2 (λz q=>Xz (s z q));exact h
def inert (f:FuncId):Bool:=aA f 63
theorem QN:∃a,Tryz.prog.underlying 20=M (.interface a):=⟨#[],by kernel_rfl⟩
theorem aav (w:World):(Op.equal 20 .nilIface .nilIface).run Tryz.prog w= .ok J w:=by
 obtain⟨a,hu⟩:=QN;have key:∀d,(Op.equalIn (d+1) 20 .nilIface .nilIface).run Tryz.prog w= .ok J w:=λd=>by simp[Op.equalIn,run_underlying hu]
 exact key 9999
theorem aa7 {P:Program} {ops:Array Oper} {Q:Exit->Act->Y Frame->World->Prop} {i:Nat} {rest:ι} {a:Act} {cs:Y Frame} {w w':World} {o:Oper} (q:ops[i]? =M o) (c:o.guard=D) (hr:(execOp a.eval o).run P w= .ok .recover w') (hn:recoverD cs=D) (h:wpOpsS P ops Q rest (a.put o.dst .nilIface) cs w'):wpOpsS P ops Q (i::rest) a cs w:=by
 have c:iS o (yielded ops a.tmps)=J:=by unfold iS;rw[c]
 simp only[wpOpsS,q,c,bG,hr,hn];exact h
theorem aa6 {P:Program} {ops:Array Oper} {Q:Exit->Act->Y Frame->World->Prop} {i:Nat} {rest:ι} {a:Act} {cs:Y Frame} {w w':World} {o:Oper} {v:Value} (q:ops[i]? =M o) (c:o.guard=D) (hr:(execOp a.eval o).run P w= .ok (.value v) w') (h:wpOpsS P ops Q rest (a.put o.dst v) cs w'):wpOpsS P ops Q (i::rest) a cs w:=by
 have c:iS o (yielded ops a.tmps)=J:=by unfold iS;rw[c]
 simp only[wpOpsS,q,c,bG,hr];exact h
theorem QM:K6 Tryz.prog inert:=by
 intro f hf;have hf:f=63:=ar hf;subst hf;refine ⟨⟨Tryz.f63,Tryz.func63,by kernel_rfl,by kernel_rfl⟩,λargs w=>?_⟩;refine callsD_of_wpS Tryz.func63 rfl λc₀ cs hu=>?_
 refine wpS_seq (wpS_region ?_);generalize ht:(args++oI (Tryz.f63.ntmps-args.size) undef)=T;have hs:5<=T.size:=by
  rw[<- ht];simp only[Array.size_append,Array.size_replicate];have:Tryz.f63.ntmps=5:=rfl;omega
 have hr:recoverD (c₀::cs)=D:=by simp[recoverD,hu]
 refine aa7 (i:=0) (rest:=[1]) rfl rfl (w':=w) ?_ hr ?_
 .simp[execOp,resolve,invoke,builtin]
 refine aa6 (v:=.bool af) rfl rfl (w':=w) ?_ ?_
 .have hv:Act.eval (NQ {tmps:=T,defers:=[]} (M 2) .nilIface) (.tmp 2)= .nilIface:=by
   simp[Act.eval,NQ,show 2<T.size by omega]
  have h2:=aav w;have hcst:Act.eval (NQ {tmps:=T,defers:=[]} (M 2) .nilIface) (.const .nilIface)= .nilIface:=rfl;show (execOp (Act.eval (NQ {tmps:=T,defers:=[]} (M 2) .nilIface)) _).run _ w=_;simp[execOp,hv,hcst,eqGuard,binOp,h2]
 show Exit.thenS _ _ .normal _ _ _;refine wpS_cond (t:=af) ?_ ?_
 .simp[Act.eval,NQ,show 3<T.size by omega]
 refine wpS_of_wp (wp_skip ?_);have hres:Tryz.f63.results=#[]:=rfl;exact⟨rfl,c₀.mode,rfl,.tuple #[],by simp[results,hres],⟨_,rfl⟩,hu,rfl⟩
def dT {α:Type}:Y (Nat×α)->PT α
 |[]=>.leaf
 |p::r=>(dT r).set p.1 (M p.2)
noncomputable abbrev Pg:Program:=Tryz.prog
def cn (y:FT) (m:y.pre.ty.den->I y.post.ty.den):cA:=⟨y.pre,y.post,m⟩
theorem amm:Pg.follows .mixedOrders=J:=by kernel_rfl
theorem ac {f:FuncId} {c:cA} {l:Y (FuncId×cA)} (h:aH Pg f c) (t:TB Pg l):TB Pg ((f,c)::l):=⟨h,t⟩
theorem an:TB Pg []:=trivial
inductive OI {R:Type}:Option R->Option R->Prop where
 |rfl {a:Option R}:OI a a
 |chk {b:Bool} {k k':Option R} (h:lE k k'):OI (chk b λ_=>k) (chk b λ_=>k')
 |aG {b:Bool} {t f t' f':Option R} (h1:lE t t') (h2:lE f f'):OI (aG b t f) (aG b t' f')
 |lt {α:Type} {x:α} {k k':α->Option R} (h:∀y,lE (k y) (k' y)):OI (lt x k) (lt x k')
 |jn {α:Type} {o o':Option (R⊕α)} {k k':α->Option R} (h:lE o o') (hk:∀x,lE (k x) (k' x)):OI (jn o k) (jn o' k')
 |av {α:Type} {o o':Option α} {k k':α->Option R} (h:lE o o') (hk:∀x,lE (k x) (k' x)):OI (av o k) (av o' k')
 |iter {σ:Type} {f g:σ->Option (σ⊕R)} {x:σ} (h:∀x,lE (f x) (g x)):OI (gq f x) (iter g x)
theorem OI.o {R:Type} {a b:I R} (h:OI a b):lE a b:=by
 cases h with
 |rfl=>exact lE.rfl
 |chk h=>exact lE.chk h
 |aG h g=>exact lE.bcase h g
 |lt h=>exact lE.lt h
 |jn h g=>exact lE.jn h g
 |av h g=>exact lE.obind h g
 |iter h=>exact lE.iter h
theorem mk {f:FuncId} (y:FT) (m:y.pre.ty.den->I y.post.ty.den) {l:Y (FuncId×cA)} (c:TB Pg l) (a:TypeId->I Ty) (he:∀x,ZX (Vx l) a inert (zU Pg f) y x=m x:=by intro x;kernel_rfl) (hs:(zU Pg f).isSome=J:=by kernel_rfl) (hb:eO y.pre.bs.length y.post.bs.length=J:=by kernel_rfl):aH Pg f (cn y m):=(Rg amm QM c hs he).toC hb
theorem yP {f:FuncId} (y:FT) (m n:y.pre.ty.den->I y.post.ty.den) (c:∀x,lE (m x) (n x)) {l:Y (FuncId×cA)} (q:TB Pg l) (a:TypeId->I Ty) (he:∀x,ZX (Vx l) a inert (zU Pg f) y x=n x:=by intro x;kernel_rfl) (hs:(zU Pg f).isSome=J:=by kernel_rfl) (hb:eO y.pre.bs.length y.post.bs.length=J:=by kernel_rfl):aH Pg f (cn y m):=((Rg amm QM q hs he).sub c).toC hb
theorem MO {f:FuncId} (y:FT) (hs:(zU Pg f).isSome=J:=by kernel_rfl) (hb:eO y.pre.bs.length y.post.bs.length=J:=by kernel_rfl):aH Pg f (cn y λ_=>D):=(US hs).toC hb
abbrev uU:Y PV:=[.d aL,.d aL,.d aL,.d aL,.d aL,.nil,.nil]
abbrev vQ:Y PV:=[.nil,.d aL,.nil,.nil,.nil,.nil,.nil]
abbrev aie:Y PV:=[.ptr 1 0,.d aL,.d aL,.d .bool,.d .bool,.d .bool,.d .bool,.row 4]
abbrev aii:Y PV:=[.d aL,.d aL,.d .str,.d .str,.nil,.d aL,.d aL,.d .str,.nil,.nil,.nil]
abbrev La2:Y PB:=[.cells 214 aie,.cells 90 [.d yO],.gone,.cells 220 aii,.rowsP 9 .str]
abbrev NA:Y PV:=[.ptr 0 0,.ptr 1 0,.ptr 2 0,.ptr 3 0,.ptr 4 0,.ptr 5 0,.ptr 6 0,.ptr 7 0,.d .bool]
abbrev La4:Y PB:=[.cells 206 [.d (.sl kO),.d (.sl rT),.d (.sl mn),.d (.sl .str),.d (.sl .str),.d (.sl pI),.d (.sl .str),.row 2,.d aL,.d aL],.gone,.rows 210 J qW]
abbrev La5:Y PB:=[.cells 206 [.d (.sl kO),.d (.sl rT),.d (.sl mn),.d (.sl .str),.d (.sl .str),.d (.sl pI),.d (.sl .str),.row 1,.d aL,.d aL],.rows 210 J qW]
abbrev La6:Y PV:=[.d aL,.row 11,.row 12,.d aL]
abbrev La7:Y PB:=[.cells 159 [.nil,.nil],.cells 214 [.ptr 5 0,.d aL,.d aL,.d .bool,.d .bool,.d .bool,.d .bool,.row 6],.cells 159 [.d (.sl G2),.row 7],.rows 9 af .str,.cells 204 [.d .str,.d aL,.row 8,.row 9],.cells 90 [.d yO],.rowsP 9 .str,.rows 204 J s7,.rows 9 af .str,.rows 220 J .sm]
abbrev La8:Y PB:=[.cells 245 [.d (.sl G2),.d (.sl s7),.d aL,.row 1,.row 6,.row 7],.rowsP 220 .sm,.gone,.gone,.cells 220 [.d .sm],.cells 159 [.d ND],.rows 9 J .str,.rows 9 J .str]
abbrev La9:Y PV:=[.d (.sl eh),.d aL,.d qd,.d (.sl ik),.row 8,.row 9,.csl 10 4 4]
abbrev agu:Y PB:=[.cells 107 [.d (.sl eh),.d aL,.d qd,.d (.sl ik),.row 6,.row 7,.csl 8 4 4],.cells 162 [.d il],.cells 107 vQ,.cells 57 uU,.cells 57 [.d jE],.cells 197 [.d eX],.rows 2 J aL,.rows 2 J aL,.cells 197 [.d eX,.d eX,.d eX,.d eX]]
abbrev aif:Y PV:=[.ptr 1 0,.d aL,.d aL,.d .bool,.d .bool,.d .bool,.d .bool,.row 2]
abbrev PL:Y PV:=[.d D',.d aL]
abbrev Wh:Y PB:=[.cells 214 aif,.cells 90 PL,.rowsP 9 .str]
abbrev Ms:Y PV:=[.ptr 0 0,.ptr 1 0,.ptr 2 0,.ptr 3 0,.ptr 4 0,.ptr 5 0,.ptr 6 0,.ptr 7 0,.d aL]
abbrev ako:Y PV:=[.d (.sl eh),.d aL,.d qd,.d (.sl ik),.row 8,.row 9,.csl 10 4 3]
abbrev al8:Y PB:=[.cells 112 [.d uL],.cells 107 ako,.cells 162 [.d il],.cells 107 vQ,.cells 57 uU,.cells 57 [.d jE],.cells 197 La6,.cells 210 [.d qW],.rows 2 J aL,.rows 2 J aL,.cells 197 [.d aL,.row 11,.row 12,.d aL,.d eX,.d eX],.rows 2 J aL,.rows 36 J (.sl aL)]
abbrev al7:Y PB:=[.cells 112 [.d uL],.cells 107 ako,.cells 162 [.d il],.cells 107 vQ,.cells 57 uU,.cells 57 [.d jE],.cells 197 La6,.cells 210 [.d qW],.rows 2 J aL,.rows 2 J aL,.cells 197 [.d eX,.d aL,.row 11,.row 12,.d aL,.d eX],.rows 2 J aL,.rows 36 J (.sl aL)]
abbrev al6:Y PB:=[.cells 112 [.d uL],.cells 107 ako,.cells 162 [.d il],.cells 107 vQ,.cells 57 uU,.cells 57 [.d jE],.cells 197 La6,.cells 210 [.d qW],.rows 2 J aL,.rows 2 J aL,.cells 197 [.d eX,.d eX,.d aL,.row 11,.row 12,.d aL],.rows 2 J aL,.rows 36 J (.sl aL)]
abbrev aih:Y PV:=[.d (.sl eh),.d aL,.d qd,.d (.sl ik),.row 8,.row 9,.csl 10 4 2]
abbrev al5:Y PB:=[.cells 112 [.d uL],.cells 107 aih,.cells 162 [.d il],.cells 107 vQ,.cells 57 uU,.cells 57 [.d jE],.cells 197 La6,.cells 210 [.d qW],.rows 2 J aL,.rows 2 J aL,.cells 197 [.d aL,.row 11,.row 12,.d aL,.d eX],.rows 2 J aL,.rows 36 J (.sl aL)]
abbrev al4:Y PB:=[.cells 112 [.d uL],.cells 107 aih,.cells 162 [.d il],.cells 107 vQ,.cells 57 uU,.cells 57 [.d jE],.cells 197 La6,.cells 210 [.d qW],.rows 2 J aL,.rows 2 J aL,.cells 197 [.d eX,.d aL,.row 11,.row 12,.d aL],.rows 2 J aL,.rows 36 J (.sl aL)]
abbrev Zo:Y PB:=[.cells 245 [.d (.sl G2),.d (.sl s7),.d aL,.row 1,.row 4,.row 5],.rowsP 220 .sm,.gone,.gone,.rows 9 J .str,.rows 9 J .str]
abbrev Mr:Y PV:=[.ptr 0 0,.ptr 1 0,.ptr 2 0,.ptr 3 0,.ptr 4 0,.ptr 5 0,.ptr 6 0,.d .bool]
abbrev hP:Y PV:=[.ptr 0 0,.d .bool]
abbrev Zn:Y PB:=[.cells 245 [.d (.sl G2),.d (.sl s7),.d aL,.row 1,.row 2,.row 3],.rowsP 220 .sm,.rows 9 J .str,.rows 9 J .str]
abbrev al3:Y PB:=[.cells 112 [.d uL],.cells 107 [.d (.sl eh),.d aL,.d qd,.d (.sl ik),.row 8,.row 9,.csl 10 4 1],.cells 162 [.d il],.cells 107 vQ,.cells 57 uU,.cells 57 [.d jE],.cells 197 La6,.cells 210 [.d qW],.rows 2 J aL,.rows 2 J aL,.cells 197 La6,.rows 2 J aL,.rows 36 J (.sl aL)]
abbrev Mq:Y PV:=[.ptr 0 0,.ptr 1 0,.ptr 2 0,.ptr 3 0,.ptr 4 0,.ptr 5 0,.ptr 6 0]
abbrev al2:Y PB:=[.cells 112 [.d uL],.cells 107 La9,.cells 162 [.d il],.cells 107 vQ,.cells 57 uU,.cells 57 [.d jE],.cells 197 La6,.cells 210 [.d qW],.rows 2 J aL,.rows 2 J aL,.cells 197 [.d aL,.row 11,.row 12,.d aL,.d eX,.d eX,.d eX],.rows 2 J aL,.rows 36 J (.sl aL)]
abbrev al1:Y PB:=[.cells 112 [.d uL],.cells 107 La9,.cells 162 [.d il],.cells 107 vQ,.cells 57 uU,.cells 57 [.d jE],.cells 197 La6,.cells 210 [.d qW],.rows 2 J aL,.rows 2 J aL,.cells 197 [.d eX,.d aL,.row 11,.row 12,.d aL,.d eX,.d eX],.rows 2 J aL,.rows 36 J (.sl aL)]
abbrev al0:Y PB:=[.cells 112 [.d uL],.cells 107 La9,.cells 162 [.d il],.cells 107 vQ,.cells 57 uU,.cells 57 [.d jE],.cells 197 La6,.cells 210 [.d qW],.rows 2 J aL,.rows 2 J aL,.cells 197 [.d eX,.d eX,.d aL,.row 11,.row 12,.d aL,.d eX],.rows 2 J aL,.rows 36 J (.sl aL)]
abbrev akz:Y PB:=[.cells 112 [.d uL],.cells 107 La9,.cells 162 [.d il],.cells 107 vQ,.cells 57 uU,.cells 57 [.d jE],.cells 197 La6,.cells 210 [.d qW],.rows 2 J aL,.rows 2 J aL,.cells 197 [.d eX,.d eX,.d eX,.d aL,.row 11,.row 12,.d aL],.rows 2 J aL,.rows 36 J (.sl aL)]
abbrev K5:Y PB:=[.cells 31 [.d oG],.cells 99 [.d iY],.cells 57 [.d jE],.cells 99 vQ]
abbrev Mp:Y PV:=[.ptr 0 0,.ptr 1 0,.ptr 2 0,.ptr 3 0,.ptr 4 0,.ptr 5 0]
abbrev aky:Y PB:=[.cells 107 [.d (.sl eh),.d aL,.d qd,.d (.sl ik),.row 6,.row 7,.csl 8 4 3],.cells 162 [.d il],.cells 107 vQ,.cells 57 uU,.cells 57 [.d jE],.cells 197 [.d eX],.rows 2 J aL,.rows 2 J aL,.cells 197 [.d eX,.d eX,.d eX]]
abbrev Tf:Y PV:=[.d (.sl eh),.d aL,.d qd,.d (.sl ik),.row 7,.row 8,.csl 9 4 4]
abbrev qc:Y PV:=[.ptr 0 0,.ptr 1 0,.d .bool]
abbrev Aa:Y PV:=[.ptr 0 0,.ptr 1 0,.ptr 2 0,.ptr 3 0,.d .bool]
abbrev agn:Y PV:=[.nil,.nil,.nil,.nil,.nil,.nil]
abbrev akx:Y PB:=[.cells 159 [.d ND],.cells 31 agn,.cells 31 [.row 4,.row 5,.row 6,.row 7,.nil,.nil],.cells 248 [.d G2],.rows 60 J kO,.rows 137 J rT,.rows 130 J mn,.rows 9 J .str]
abbrev ad0:Y PV:=[.nil,.nil,.nil,.nil,.nil,.nil,.nil]
abbrev anx:Y PV:=[.d (.sl kO),.d (.sl rT),.d (.sl mn),.d (.sl .str),.d (.sl .str),.d (.sl pI),.row 5]
abbrev aob:Y PB:=[.cells 159 [.d ND],.cells 112 ad0,.cells 112 anx,.cells 206 [.d (.sl kO),.d (.sl rT),.d (.sl mn),.d (.sl .str),.d (.sl .str),.d (.sl pI),.d (.sl .str),.row 6,.d aL,.d aL],.cells 193 [.d aL,.row 6],.rows 193 J xd,.rows 210 J qW]
abbrev Hx:Y PV:=[.row 0,.d aL,.row 1,.row 2]
abbrev akw:Y PB:=[.cells 90 [.d yO],.cells 99 [.d iY],.cells 31 [.d oG],.rows 57 J jE,.cells 36 [.row 5,.row 6,.row 7,.row 8],.rows 3 J aL,.rows 3 J aL,.rows 3 J aL,.rows 3 J aL]
abbrev FA:Y PV:=[.ptr 0 0,.ptr 1 0,.ptr 2 0,.d aL]
abbrev K4:Y PV:=[.d aL,.d (.sl aL),.d vR,.d aL]
abbrev Zm:Y PV:=[.d (.sl eh),.d aL,.d qd,.d (.sl ik),.row 7,.row 8,.csl 9 4 3]
abbrev akv:Y PB:=[.cells 90 [.d yO],.cells 99 [.d iY],.cells 31 [.d oG],.cells 36 [.row 4,.row 5,.row 6,.row 7],.rows 3 J aL,.rows 3 J aL,.rows 3 J aL,.rows 3 J aL]
abbrev Cm:Y PV:=[.ptr 0 0,.ptr 1 0,.ptr 2 0,.d .bool]
abbrev xX:Y PV:=[.ptr 0 0,.ptr 1 0,.d aL]
abbrev K3:Y PV:=[.d aL,.row 10,.row 11,.d aL]
abbrev agm:Y PV:=[.d aL,.row 0,.row 1,.d aL]
abbrev XO:Y PV:=[.d aL,.nil,.nil,.d aL]
abbrev aku:Y PB:=[.rows 2 J aL,.rows 36 J (.sl aL),.cells 210 [.d qW],.cells 197 agm,.cells 197 XO]
abbrev akt:Y PB:=[.cells 245 [.d (.sl G2),.d (.sl s7),.d aL,.row 4,.row 5,.row 6],.gone,.gone,.gone,.rowsP 220 .sm,.rows 9 J .str,.rows 9 J .str]
abbrev Cl:Y PV:=[.nil,.d aL,.nil,.nil]
abbrev aks:Y PB:=[.cells 96 [.row 2,.d aL,.row 3,.row 4],.cells 96 Cl,.rows 176 J eh,.rows 4 J .bool,.rows 178 J ik]
abbrev K2:Y PV:=[.ptr 0 0,.ptr 3 0,.d .bool]
abbrev aoa:Y PB:=[.cells 107 [.d (.sl eh),.d aL,.d qd,.d (.sl ik),.row 6,.row 7,.csl 8 4 2],.cells 162 [.d il],.cells 107 vQ,.cells 57 uU,.cells 57 [.d jE],.cells 197 [.d eX],.rows 2 J aL,.rows 2 J aL,.cells 197 [.d eX,.d eX]]
abbrev ao9:Y PB:=[.cells 34 ad0,.cells 90 [.d yO],.cells 34 anx,.cells 99 [.d iY],.rows 57 af jE,.rows 57 J jE]
abbrev qb:Y PB:=[.cells 31 [.d oG]]
abbrev ao8:Y PB:=[.cells 90 [.d yO],.cells 99 [.d iY],.cells 31 [.d oG],.rows 57 J jE,.cells 36 [.row 7,.row 8,.row 9,.row 10],.cells 57 [.d jE],.cells 99 [.d iY],.rows 3 J aL,.rows 3 J aL,.rows 3 J aL,.rows 3 J aL]
abbrev ao7:Y PB:=[.cells 31 agn,.cells 31 [.row 2,.row 3,.row 4,.row 5,.row 6,.row 7],.rows 60 af kO,.rows 137 af rT,.rows 130 af mn,.rows 9 af .str,.rows 9 af .str,.rows 139 J pI]
abbrev uT:Y PV:=[.ptr 0 0,.d aL]
abbrev acz:Y PV:=[.row 2,.row 3,.row 4,.row 5]
abbrev ao6:Y PB:=[.cells 90 [.d yO],.cells 36 acz,.rows 3 J aL,.rows 3 J aL,.rows 3 J aL,.rows 3 J aL,.cells 57 uU,.cells 57 [.d aL,.d aL,.d aL,.d aL,.d aL,.d (.sl aL),.nil]]
abbrev agt:Y PV:=[.d (.sl eh),.d aL,.d qd,.d (.sl ik),.row 7,.row 8,.csl 9 4 2]
abbrev Mo:Y PV:=[.d vS,.d jE,.d .bool]
abbrev ao5:Y PB:=[.cells 90 [.d yO],.cells 36 acz,.rows 3 J aL,.rows 3 J aL,.rows 3 J aL,.rows 3 J aL,.cells 99 [.d iY],.cells 31 [.d oG],.cells 57 uU,.cells 57 uU]
abbrev ao4:Y PB:=[.cells 159 [.d ND],.cells 31 agn,.cells 31 [.row 3,.row 4,.row 5,.row 6,.nil,.nil],.rows 60 J kO,.rows 137 J rT,.rows 130 J mn,.rows 9 J .str]
abbrev akr:Y PV:=[.d (.sl eh),.d aL,.d qd,.d (.sl ik),.row 3,.row 4,.row 5]
abbrev Mn:Y PV:=[.d uL,.d vS,.d il]
abbrev akq:Y PB:=[.rows 176 J eh,.rows 4 J .bool,.rows 178 J ik,.cells 96 Hx,.rows 3 J aL]
abbrev ad3:Y PV:=[.row 3,.d aL,.row 4,.row 5]
abbrev ao3:Y PB:=[.cells 31 [.d oG],.cells 96 ad3,.cells 96 Cl,.rows 176 J eh,.rows 4 J .bool,.rows 178 J ik]
abbrev vP:Y PV:=[.d aL,.d aL]
abbrev akp:Y PB:=[.rows 57 J jE,.cells 112 [.d uL],.cells 107 [.d vS],.cells 107 vQ]
abbrev ao2:Y PB:=[.cells 193 [.d xd],.cells 197 [.d aL,.row 3,.row 4,.d aL],.cells 197 XO,.rows 2 J aL,.rows 36 J (.sl aL)]
abbrev ao1:Y PB:=[.cells 214 aie,.cells 90 [.d yO],.gone,.rows 220 J .sm,.rowsP 9 .str]
abbrev akn:Y PV:=[.ptr 1 0,.d aL,.d aL,.d .bool,.d .bool,.d .bool,.d .bool,.row 3]
abbrev ao0:Y PB:=[.cells 57 uU,.cells 197 [.d eX],.cells 210 [.d qW],.cells 57 [.d aL,.d aL,.d aL,.d aL,.d aL,.row 4,.nil],.rows 3 J aL]
abbrev PK:Y PB:=[.cells 220 [.d .sm]]
abbrev ags:Y PV:=[.agg [.agg Hx,.row 3,.row 4,.csl 5 4 4]]
abbrev Te:Y PB:=[.cells 159 [.d ND]]
abbrev akm:Y PB:=[.cells 31 [.d oG],.cells 193 [.d xd],.cells 210 [.d qW]]
abbrev agr:Y PB:=[.cells 159 [.d ND],.cells 204 [.d s7]]
abbrev agq:Y PB:=[.cells 159 [.d ND],.cells 218 [.d .ex]]
abbrev akl:Y PB:=[.rows 176 J eh,.rows 4 J .bool,.rows 178 J ik]
abbrev akk:Y PB:=[.cells 31 [.d oG],.rows 9 J .str,.cells 60 [.d kO]]
abbrev agp:Y PB:=[.cells 31 [.d oG],.cells 210 [.d qW]]
abbrev ago:Y PV:=[.ptr 0 0,.ptr 4 0,.ptr 5 0,.d .bool]
abbrev akj:Y PV:=[.ptr 0 0,.ptr 1 0,.ptr 2 0,.ptr 3 0,.ptr 4 0,.d aL]
abbrev Wg:Y PB:=[.cells 31 [.d oG],.cells 96 [.d Hy]]
abbrev aki:Y PB:=[.cells 90 [.d yO],.rows 3 J aL,.rows 3 J aL]
abbrev Zl:Y PB:=[.cells 31 [.d oG],.rows 9 J .str]
abbrev akh:Y PB:=[.cells 57 [.d jE],.cells 99 vQ,.cells 99 akr,.rows 2 J aL,.rows 2 J aL,.rows 3 J aL]
abbrev anz:Y PB:=[.cells 90 PL,.cells 36 acz,.rows 3 J aL,.rows 3 J aL,.rows 3 J aL,.rows 3 J aL]
abbrev Hw:Y PV:=[.d (.sl aL),.d aL]
abbrev PI:Y PV:=[.ptr 0 0,.row 1,.d aL]
abbrev Zk:Y PB:=[.cells 248 [.d G2]]
abbrev Zj:Y PB:=[.cells 90 [.d yO]]
abbrev akg:Y PV:=[.agg [.agg Hx,.row 3,.row 4,.csl 5 4 3]]
abbrev Td:Y PB:=[.cells 90 PL]
abbrev ad8:Y PB:=[.rows 2 J aL,.rows 36 J (.sl aL)]
abbrev ad7:Y PB:=[.cells 112 [.d uL],.cells 107 [.d vS]]
abbrev ad6:Y PB:=[.cells 31 [.d oG],.cells 193 [.d xd]]
abbrev rf:Y PV:=[.d (.sl aL)]
abbrev ad5:Y PV:=[.ptr 0 0,.ptr 1 0,.ptr 2 0,.ptr 3 0]
abbrev aig:Y PV:=[.d (.sl eh),.d aL,.d qd,.d (.sl ik),.row 7,.row 8,.csl 9 4 1]
abbrev ad4:Y PB:=[.cells 96 [.d Hy],.rows 3 J aL]
abbrev NC:Y PV:=[.ptr 0 0,.d aL,.d aL]
def tyT:PT Ty:=dT [(2,aL),(3,aL),(4,.bool),(9,.str),(36,(.sl aL)),(50,il),(52,(.st (.pr il (.pr il (.sl aL))))),(57,jE),(60,kO),(67,il),(93,qd),(130,mn),(137,rT),(139,pI),(162,il),(176,eh),(178,ik),(193,xd),(197,eX),(204,s7),(210,qW),(218,.ex),(220,.sm),(248,G2)]
def b9 (t:TypeId):I Ty:=tyT.get t
def Bi:FT:=⟨⟨[],[]⟩,⟨[.d (.sl .str)],[]⟩,.leaf⟩
def L9:cA:=cn Bi kG
def zJ:FT:=⟨⟨[.d .str],[]⟩,⟨[.d .bool],[]⟩,dT [(8,(.j ⟨[0,3],[4],⟨[.d aL],[]⟩,[]⟩))]⟩
def Ks:cA:=cn zJ jN
def GG:FT:=⟨⟨[.d (.int .u8)],[]⟩,⟨[.d .bool],[]⟩,dT [(2,(.j ⟨[],[2],⟨[.d .bool],[]⟩,[]⟩))]⟩
def Sq:cA:=cn GG lJ
def J8:FT:=⟨⟨[.d (.int .u8)],[]⟩,⟨[.d .bool],[]⟩,dT [(2,(.j ⟨[],[2],⟨[.d .bool],[]⟩,[]⟩))]⟩
def Vv:cA:=cn J8 rB
def J7:FT:=⟨⟨[.d (.int .u8)],[]⟩,⟨[.d .bool],[]⟩,dT [(2,(.j ⟨[],[2],⟨[.d .bool],[]⟩,[]⟩))]⟩
def Vu:cA:=cn J7 px
def GJ:FT:=⟨⟨[.d .str],[]⟩,⟨[.d .bool],[]⟩,dT [(3,(.j ⟨[0],[21],⟨[.d .bool],[]⟩,[]⟩)),(14,(.j ⟨[0],[3],⟨[.d aL],[]⟩,[]⟩))]⟩
def Sr:cA:=cn GJ fh
def J2:FT:=⟨⟨[.d .bool],[]⟩,⟨[.d aL],[]⟩,.leaf⟩
def Vm:cA:=cn J2 f_
def J3:FT:=⟨⟨vP,[]⟩,⟨[.d aL,.d .bool],[]⟩,.leaf⟩
def Vn:cA:=cn J3 ul
def Gz:FT:=⟨⟨[.d aL,.d aL,.d aL],[]⟩,⟨[.d aL,.d .bool],[]⟩,dT [(91,(.j ⟨[],[6,7],⟨[.d aL,.d .bool],[]⟩,[]⟩)),(97,(.j ⟨[],[6,7],⟨[.d aL,.d .bool],[]⟩,[]⟩))]⟩
def Sm:cA:=cn Gz sB
def J4:FT:=⟨⟨vP,[]⟩,⟨[.d aL],[]⟩,dT [(12,(.j ⟨[],[5],⟨[.d aL],[]⟩,[]⟩))]⟩
def Vo:cA:=cn J4 rz
def Bh:FT:=⟨⟨[.d aL],[]⟩,⟨[.d aL],[]⟩,dT [(4,(.j ⟨[0],[3],⟨[.d .bool],[]⟩,[]⟩)),(10,(.j ⟨[0],[10],⟨[.d .bool],[]⟩,[]⟩)),(16,(.j ⟨[],[17],⟨[.d .bool],[]⟩,[]⟩))]⟩
def L8:cA:=cn Bh mB
def pf:FT:=⟨⟨[.d .ex],[]⟩,⟨[.d .bool],[]⟩,dT [(2,(.j ⟨[],[1,3],⟨hP,[.cells 218 [.d .ex]]⟩,[]⟩)),(5,(.j ⟨[],[1,50],⟨hP,[.cells 218 [.d .ex]]⟩,[]⟩)),(16,(.j ⟨[],[1,4],⟨uT,[.cells 218 [.d .ex]]⟩,[]⟩))]⟩
def Hl:cA:=cn pf jk
def G_ (n:Nat):cA:=cn pf (ij n)
def J6:FT:=⟨⟨[.d .ex],[]⟩,⟨[.d .bool],[]⟩,dT [(2,(.j ⟨[],[2],⟨[.d .bool],[]⟩,[]⟩))]⟩
def Vt:cA:=cn J6 pw
def s6:FT:=⟨⟨[.d .sm],[]⟩,⟨[.d .bool],[]⟩,dT [(3,(.j ⟨[],[1,13],⟨hP,PK⟩,[]⟩)),(10,(.j ⟨[],[1,3],⟨hP,PK⟩,[]⟩)),(13,(.j ⟨[],[1,47],⟨hP,PK⟩,[]⟩)),(21,(.j ⟨[],[1,66],⟨hP,PK⟩,[]⟩)),(29,(.j ⟨[],[1,95],⟨hP,PK⟩,[]⟩)),(36,(.j ⟨[],[1,4],⟨hP,PK⟩,[]⟩)),(39,(.j ⟨[],[1,130],⟨hP,PK⟩,[]⟩)),(46,(.j ⟨[],[1,5],⟨hP,PK⟩,[]⟩)),(49,(.j ⟨[],[1,157],⟨hP,PK⟩,[]⟩)),(56,(.j ⟨[],[2],⟨[.d .bool],[]⟩,[]⟩))]⟩
def G9 (n:Nat):cA:=cn s6 (eE n)
def ol:FT:=⟨⟨[.d (.sl .sm)],[]⟩,⟨[.d .bool],[]⟩,dT [(6,(.j ⟨[0],[3],⟨[.d aL],[]⟩,[]⟩))]⟩
def Fl:cA:=cn ol nW
def EJ (n:Nat):cA:=cn ol (dF n)
def yq:FT:=⟨⟨[.d G2],[]⟩,⟨[.d .bool],[]⟩,dT [(3,(.j ⟨[],[1,31],⟨hP,Zk⟩,[]⟩)),(11,(.j ⟨[],[1,50],⟨hP,Zk⟩,[]⟩)),(18,(.j ⟨[],[2],⟨[.d .bool],[]⟩,[]⟩))]⟩
def Hk:cA:=cn yq ki
def GF:FT:=⟨⟨[.d ND],[]⟩,⟨[.d .bool],[]⟩,dT [(6,(.j ⟨[],[1,3],⟨uT,Te⟩,[]⟩)),(27,(.j ⟨[],[1,4],⟨uT,Te⟩,[]⟩)),(42,(.j ⟨[4],[1,5,6],⟨xX,agr⟩,[]⟩)),(59,(.j ⟨[4],[1,56],⟨hP,Te⟩,[]⟩))]⟩
def Sp:cA:=cn GF pQ
def Xq:FT:=⟨⟨[.d (.sl .str),.d .str],[]⟩,⟨[.d aL],[]⟩,dT [(6,(.j ⟨[0,1],[5],⟨[.d aL],[]⟩,[]⟩))]⟩
def afr:cA:=cn Xq jf
def GD:FT:=⟨⟨[.d (.sl G2),.d .str],[]⟩,⟨[.d aL],[]⟩,dT [(6,(.j ⟨[0,1],[5],⟨[.d aL],[]⟩,[]⟩))]⟩
def So:cA:=cn GD ii
def Bg:FT:=⟨⟨[.d (.sl s7),.d .str],[]⟩,⟨[.d aL],[]⟩,dT [(6,(.j ⟨[0,1],[5],⟨[.d aL],[]⟩,[]⟩))]⟩
def L7:cA:=cn Bg gU
def GA:FT:=⟨⟨[.d ND,.d aL,.d .str],[]⟩,⟨[.d aL],[]⟩,dT [(3,(.j ⟨[2],[3,27],⟨hP,Te⟩,[]⟩)),(52,(.j ⟨[7],[3,56],⟨hP,Te⟩,[]⟩))]⟩
def Sn:cA:=cn GA pP
def Nh:FT:=⟨⟨[.d ND,.d aL,.d .str,.d aL,.d aL],[]⟩,⟨[.d aL],[]⟩,dT [(13,(.j ⟨[],[25],⟨[.d .bool],[]⟩,[]⟩))]⟩
def YL:cA:=cn Nh gI
def xO:FT:=⟨⟨[.d .ex],[]⟩,⟨vP,[]⟩,dT [(8,(.j ⟨[],[1,4,5,6],⟨[.ptr 0 0,.d aL,.d aL,.d aL],[.cells 218 [.d .ex]]⟩,[]⟩))]⟩
def Vr:cA:=cn xO BX
def Uv (n:Nat):cA:=cn xO (nH n)
def xN:FT:=⟨⟨[.d ND,.d aL,.d .ex],[]⟩,⟨[.d aL],[]⟩,dT [(7,(.j ⟨[1],[3,5,7],⟨xX,agq⟩,[]⟩)),(21,(.j ⟨[1],[3,5,7,8],⟨[.ptr 0 0,.ptr 1 0,.d aL,.d aL],agq⟩,[]⟩)),(23,(.j ⟨[1,7,8],[3,5,33],⟨qc,agq⟩,[]⟩))]⟩
def Vp:cA:=cn xN BW
def Uu (n:Nat):cA:=cn xN (nG n)
def Ni:FT:=⟨⟨[.d ND,.d aL,.d .ex],[]⟩,⟨[.d aL],[]⟩,dT [(13,(.j ⟨[1],[3,5,22],⟨qc,agq⟩,[]⟩))]⟩
def YM:cA:=cn Ni mA
def DE:FT:=⟨⟨[.d .bool],[]⟩,⟨[.d aL],[]⟩,.leaf⟩
def Pa:cA:=cn DE c5
def Xo:FT:=⟨⟨vP,[]⟩,⟨[.d aL],[]⟩,.leaf⟩
def afq:cA:=cn Xo je
def wU:FT:=⟨⟨[.ptr 0 0,.d aL,.d aL,.d .str],Zn⟩,⟨[.d .bool],Zn⟩,dT [(6,(.j ⟨[1,2,3],[0,9],⟨uT,Zn⟩,[]⟩)),(17,(.j ⟨[1,2,3,9],[0,46],⟨hP,Zn⟩,[]⟩))]⟩
def Fk:cA:=cn wU dW
def Bf:FT:=⟨⟨[.ptr 0 0,.d .sm],Zn⟩,⟨[.d aL],Zo⟩,dT [(1,(.a [.ren 0 4,.ren 0 5])),(28,(.j ⟨[6,7,8,9,30],[0,3,5,67],⟨ago,La8⟩,[]⟩)),(41,(.j ⟨[],[4],⟨[.d aL],Zo⟩,[]⟩)),(44,(.j ⟨[6,7,8,9,30],[0,3,5,91],⟨ago,La8⟩,[]⟩)),(51,(.j ⟨[],[4],⟨[.d aL],Zo⟩,[]⟩)),(63,(.j ⟨[],[4],⟨[.d aL],Zo⟩,[]⟩)),(66,(.j ⟨[6,7,8,9,30],[0,3,5,119],⟨ago,La8⟩,[]⟩)),(89,(.j ⟨[],[4],⟨[.d aL],Zo⟩,[]⟩)),(108,(.j ⟨[],[0,3,187],⟨[.ptr 0 0,.ptr 4 0,.d .bool],[.cells 245 [.d (.sl G2),.d (.sl s7),.d aL,.row 1,.row 5,.row 6],.rowsP 220 .sm,.gone,.gone,.cells 220 [.d .sm],.rows 9 J .str,.rows 9 J .str]⟩,[]⟩)),(131,(.j ⟨[],[4],⟨[.d aL],Zo⟩,[]⟩)),(137,(.j ⟨[6],[0,3,5,14],⟨[.ptr 0 0,.ptr 4 0,.ptr 5 0,.d aL],La8⟩,[]⟩)),(139,(.j ⟨[6],[0,3,5,14],⟨[.ptr 0 0,.ptr 4 0,.ptr 5 0,.d aL],La8⟩,[]⟩)),(140,(.j ⟨[6,14],[0,3,5,253],⟨ago,La8⟩,[]⟩))]⟩
def L5:cA:=cn Bf my
def sh:FT:=⟨⟨[.ptr 0 0,.d (.sl .sm)],Zn⟩,⟨vP,akt⟩,dT [(1,(.a [.ren 0 3,.ren 0 4,.ren 0 5])),(6,(.j ⟨[1],[0,6],⟨uT,akt⟩,[]⟩)),(19,(.j ⟨[1,6],[0,7,8],⟨[.ptr 0 0,.ptr 4 0,.d aL],[.cells 245 [.d (.sl G2),.d (.sl s7),.d aL,.row 5,.row 6,.row 7],.gone,.gone,.gone,.cells 220 [.d .sm],.rowsP 220 .sm,.rows 9 J .str,.rows 9 J .str]⟩,[]⟩)),(37,(.j ⟨[1,6],[0,8,9],⟨NC,akt⟩,[]⟩))]⟩
def L6:cA:=cn sh vH
def LC (n:Nat):cA:=cn sh (iL n)
def xP:FT:=⟨⟨[.d (.sl .sm)],[]⟩,⟨[.d aL],[]⟩,dT [(8,(.j ⟨[0],[3,4],⟨vP,[]⟩,[]⟩))]⟩
def Vs:cA:=cn xP BY
def Uw (n:Nat):cA:=cn xP (nI n)
def J5:FT:=⟨⟨[.d (.sl G2)],[]⟩,⟨vP,[]⟩,dT [(8,(.j ⟨[0],[4,5,6,7,8],⟨[.d aL,.d aL,.d aL,.d aL,.d aL],[]⟩,[]⟩)),(16,(.j ⟨[0,8],[4,5,6,7],⟨[.d aL,.d aL,.d aL,.d aL],[]⟩,[]⟩)),(38,(.j ⟨[0,8],[4,5,6,7,9],⟨[.d aL,.d aL,.d aL,.d aL,.ptr 0 0],Zk⟩,[]⟩)),(39,(.j ⟨[0,4,5,6,7,8,36],[9,39],⟨hP,Zk⟩,[]⟩)),(47,(.j ⟨[0,4,5,6,7,8,36],[9,47],⟨hP,Zk⟩,[]⟩)),(61,(.j ⟨[0,4,5,6,7,8],[9,69],⟨hP,Zk⟩,[]⟩))]⟩
def Vq:cA:=cn J5 rA
def DC:FT:=⟨⟨[.d ND],[]⟩,⟨vP,[]⟩,dT [(6,(.j ⟨[],[1,4],⟨uT,Te⟩,[]⟩)),(17,(.j ⟨[4],[1,5,37],⟨qc,agr⟩,[]⟩)),(29,(.j ⟨[],[1,6],⟨uT,Te⟩,[]⟩)),(51,(.j ⟨[6],[1,7,8],⟨xX,agr⟩,[]⟩)),(62,(.j ⟨[6,8],[1,7,90],⟨qc,agr⟩,[]⟩))]⟩
def O_:cA:=cn DC nV
def DF:FT:=⟨⟨[.d ND],[]⟩,⟨vP,[]⟩,dT [(44,(.j ⟨[],[1,8,9],⟨NC,Te⟩,[]⟩)),(67,(.a [.cel 10 3 220 .sm,.cel 10 4 9 .str,.cel 10 5 9 .str])),(69,(.j ⟨[],[1,10,11],⟨xX,[.cells 159 [.d ND],.cells 245 [.d (.sl G2),.d (.sl s7),.d aL,.row 2,.row 3,.row 4],.rowsP 220 .sm,.rows 9 J .str,.rows 9 J .str]⟩,[]⟩))]⟩
def Pb:cA:=cn DF fw
def xM:FT:=⟨⟨[.row 0,.d aL,.d aL,.d (.sl .sm)],[.rows 139 J pI]⟩,⟨[.row 1,.d aL],[.gone,.rows 139 J pI]⟩,dT [(1,(.a [.ren 0 0])),(6,(.j ⟨[1,3],[0,2,10],⟨[.row 1,.d aL,.d aL],[.gone,.rows 139 J pI]⟩,[]⟩)),(25,(.a [.nil 8 139 pI]))]⟩
def Vg:cA:=cn xM IJ
def Ut (n:Nat):cA:=cn xM (pG n)
def Gw:FT:=⟨⟨[.d (.sl rT),.d .str],[]⟩,⟨[.d aL],[]⟩,dT [(6,(.j ⟨[0,1],[5],⟨[.d aL],[]⟩,[]⟩))]⟩
def Sj:cA:=cn Gw ku
def Gy:FT:=⟨⟨[.d oG,.d .str],[]⟩,⟨[.d aL],[]⟩,dT [(6,(.j ⟨[1],[2,5],⟨uT,qb⟩,[]⟩))]⟩
def Sl:cA:=cn Gy lI
def J0:FT:=⟨⟨[.d ND],[]⟩,⟨[.d oG],[]⟩,dT [(18,(.j ⟨[],[1,2,3,6],⟨FA,ao4⟩,[.cel 3 0 60 kO,.cel 3 1 137 rT,.cel 3 2 130 mn,.cel 3 3 9 .str]⟩)),(31,(.j ⟨[6],[1,2,3],⟨[.ptr 0 0,.ptr 1 0,.ptr 2 0],ao4⟩,[]⟩)),(32,(.j ⟨[6,31],[1,2,3,7,39],⟨Aa,akx⟩,[]⟩)),(42,(.j ⟨[6],[1,2,3,7,8],⟨[.ptr 0 0,.ptr 1 0,.ptr 2 0,.ptr 3 0,.d aL],akx⟩,[]⟩)),(53,(.j ⟨[6,31],[1,2,3,7,65],⟨Aa,akx⟩,[]⟩)),(69,(.a [.cel 3 5 139 pI])),(71,(.j ⟨[],[1,2,3,9],⟨FA,[.cells 159 [.d ND],.cells 31 agn,.cells 31 [.row 3,.row 4,.row 5,.row 6,.row 7,.row 8],.rows 60 J kO,.rows 137 J rT,.rows 130 J mn,.rows 9 J .str,.rows 9 J .str,.rows 139 J pI]⟩,[.cel 3 4 9 .str]⟩))]⟩
def Vk:cA:=cn J0 uk
def JX:FT:=⟨⟨[.d oG],[]⟩,⟨[.d (.sl .str),.d .bool],[]⟩,dT [(8,(.j ⟨[],[1,4,5],⟨PI,Zl⟩,[.nil 4 9 .str]⟩)),(15,(.j ⟨[],[1,4,5],⟨PI,Zl⟩,[]⟩)),(37,(.j ⟨[5],[1,4,6,51],⟨[.ptr 0 0,.row 1,.ptr 2 0,.d .bool],akk⟩,[]⟩)),(48,(.j ⟨[5],[1,4,6,7],⟨[.ptr 0 0,.row 1,.ptr 2 0,.d aL],akk⟩,[]⟩)),(59,(.j ⟨[5,7],[1,4,6,93],⟨[.ptr 0 0,.row 1,.ptr 2 0,.d .bool],akk⟩,[]⟩)),(72,(.j ⟨[],[1,4,9],⟨PI,Zl⟩,[]⟩)),(87,(.j ⟨[],[1,4,10],⟨PI,Zl⟩,[]⟩))]⟩
def Vh:cA:=cn JX pt
def yp:FT:=⟨⟨[.d oG],[]⟩,⟨[.d .bool],[]⟩,dT [(3,(.j ⟨[],[1,49],⟨hP,qb⟩,[]⟩)),(24,(.j ⟨[3],[1,5],⟨uT,qb⟩,[]⟩)),(33,(.j ⟨[3,5],[1,79],⟨hP,qb⟩,[]⟩)),(45,(.j ⟨[],[1,6],⟨uT,qb⟩,[]⟩)),(56,(.j ⟨[6],[1,109],⟨hP,qb⟩,[]⟩)),(68,(.j ⟨[],[1,8],⟨uT,qb⟩,[]⟩)),(76,(.j ⟨[8],[1],⟨[.ptr 0 0],qb⟩,[]⟩)),(80,(.j ⟨[8],[1,9,132],⟨qc,[.cells 31 [.d oG],.cells 139 [.d pI]]⟩,[]⟩)),(87,(.j ⟨[8],[1,9,146],⟨qc,[.cells 31 [.d oG],.cells 139 [.d pI]]⟩,[]⟩)),(90,(.j ⟨[8],[1,165],⟨hP,qb⟩,[]⟩))]⟩
def Hj:cA:=cn yp ig
def zI:FT:=⟨⟨[.d qW],[]⟩,⟨rf,[]⟩,dT [(6,(.j ⟨[4],[1,5],⟨hP,[.cells 210 [.d qW]]⟩,[]⟩)),(24,(.j ⟨[4],[1,13],⟨hP,[.cells 210 [.d qW]]⟩,[]⟩)),(46,(.j ⟨[4],[1,37],⟨hP,[.cells 210 [.d qW]]⟩,[]⟩))]⟩
def Kr:cA:=cn zI jM
def Gx:FT:=⟨⟨[.d aL],[]⟩,⟨[.d .bool],[]⟩,dT [(2,(.j ⟨[],[2],⟨[.d .bool],[]⟩,[]⟩))]⟩
def Sk:cA:=cn Gx pO
def JY:FT:=⟨⟨[.d (.sl qW),.d aL],[]⟩,⟨[.d .bool],[]⟩,dT [(6,(.j ⟨[0],[1,5],⟨vP,[]⟩,[]⟩)),(14,(.j ⟨[0,5],[1],⟨[.d aL],[]⟩,[]⟩)),(16,(.j ⟨[0,1,5],[19],⟨[.d .bool],[]⟩,[]⟩))]⟩
def Vi:cA:=cn JY pu
def Xn:FT:=⟨⟨vP,[]⟩,⟨[.d .bool],[]⟩,dT [(2,(.j ⟨[],[4],⟨[.d .bool],[]⟩,[]⟩))]⟩
def afp:cA:=cn Xn jv
def JZ:FT:=⟨⟨[.d oG,.d aL,.d aL],[]⟩,⟨[.d .bool],[]⟩,dT [(2,(.j ⟨[],[6],⟨[.d .bool],[]⟩,[]⟩))]⟩
def Vj:cA:=cn JZ nC
def Dz:FT:=⟨⟨[.d oG,.d qW],[]⟩,⟨[.d .bool],[]⟩,dT [(9,(.j ⟨[],[4],⟨[.d .bool],[]⟩,[]⟩)),(15,(.j ⟨[],[4],⟨[.d .bool],[]⟩,[]⟩)),(30,(.j ⟨[6],[2,3,59],⟨qc,agp⟩,[]⟩)),(37,(.j ⟨[],[4],⟨[.d .bool],[]⟩,[]⟩)),(40,(.j ⟨[6],[2,3,78],⟨qc,agp⟩,[]⟩)),(55,(.j ⟨[],[4],⟨[.d .bool],[]⟩,[]⟩)),(58,(.j ⟨[6],[2,3,98],⟨qc,agp⟩,[]⟩)),(72,(.j ⟨[6],[2,3,108],⟨qc,agp⟩,[]⟩)),(97,(.j ⟨[],[4],⟨[.d .bool],[]⟩,[]⟩)),(103,(.j ⟨[],[4],⟨[.d .bool],[]⟩,[]⟩))]⟩
def O7:cA:=cn Dz l8
def wT:FT:=⟨⟨[.d oG,.d aL,.d xd],[]⟩,⟨[.d .bool],[]⟩,dT [(5,(.j ⟨[1,7],[3,5,26],⟨qc,ad6⟩,[]⟩)),(16,(.j ⟨[1,7],[3,5,8],⟨xX,ad6⟩,[]⟩)),(28,(.j ⟨[1,7,8],[3,5,9,67],⟨Cm,akm⟩,[]⟩)),(36,(.j ⟨[1,7,8],[3,5,9,100],⟨Cm,akm⟩,[]⟩)),(44,(.j ⟨[1,7,8],[3,5,9,122],⟨Cm,akm⟩,[]⟩)),(56,(.j ⟨[1,7,8,10],[3,5,11],⟨xX,ad6⟩,[]⟩))]⟩
def Fj:cA:=cn wT iz
def J1:FT:=⟨⟨[.d uL],[]⟩,⟨[.d .bool],[]⟩,dT [(3,(.j ⟨[],[1,17],⟨hP,[.cells 112 [.d uL]]⟩,[]⟩)),(14,(.j ⟨[],[1,3],⟨uT,[.cells 112 [.d uL]]⟩,[]⟩))]⟩
def Vl:cA:=cn J1 jL
def DA:FT:=⟨⟨[.ptr 0 0,.d qW],La5⟩,⟨[],La4⟩,.leaf⟩
def O8:cA:=cn DA cF
def qM:FT:=⟨⟨[.ptr 0 0,.d .ex,.d aL],La5⟩,⟨[],La4⟩,dT [(2,(.j ⟨[],[],⟨[],La4⟩,[]⟩))]⟩
def Kp:cA:=cn qM iP
def IX (n:Nat):cA:=cn qM (iQ n)
def yo:FT:=⟨⟨[.ptr 0 0,.d .sm],La5⟩,⟨[],La4⟩,.leaf⟩
def Hi:cA:=cn yo mg
def Be:FT:=⟨⟨[.ptr 0 0,.d .str],La5⟩,⟨[.d aL],La5⟩,dT [(6,(.j ⟨[1],[0,5],⟨uT,La5⟩,[]⟩))]⟩
def L4:cA:=cn Be jz
def qN:FT:=⟨⟨[.ptr 0 0,.d (.sl .sm)],La5⟩,⟨[],La4⟩,dT [(1,(.a [.ren 0 7])),(3,(.j ⟨[1],[0,4],⟨uT,La4⟩,[]⟩))]⟩
def Kq:cA:=cn qN uj
def IY (n:Nat):cA:=cn qN (dM n)
def vN:FT:=⟨⟨[.ptr 0 0,.d .sm],La5⟩,⟨[],La4⟩,dT [(1,(.a [.ren 0 7])),(10,(.j ⟨[],[],⟨[],La4⟩,[]⟩)),(15,(.j ⟨[4,25],[0,3,31],⟨[.ptr 0 0,.ptr 2 0,.d .bool],[.cells 206 [.d (.sl kO),.d (.sl rT),.d (.sl mn),.d (.sl .str),.d (.sl .str),.d (.sl pI),.d (.sl .str),.row 3,.d aL,.d aL],.gone,.cells 220 [.d .sm],.rows 210 J qW]⟩,[]⟩))]⟩
def LB (n:Nat):cA:=cn vN (eR n)
def qO:FT:=⟨⟨[.ptr 0 0,.d .sm],La5⟩,⟨[],La4⟩,.leaf⟩
def CY (n:Nat):cA:=cn qO (c9 n)
def s5:FT:=⟨⟨[.ptr 0 0,.d .sm,.d aL,.d aL,.d aL],La5⟩,⟨[],La4⟩,.leaf⟩
def G8 (n:Nat):cA:=cn s5 (dH n)
def DB:FT:=⟨⟨[.d ND],[]⟩,⟨[.d uL,.d aL,.d aL],[]⟩,dT [(20,(.j ⟨[],[1,2,7,8,9],⟨[.ptr 0 0,.ptr 1 0,.ptr 2 0,.d aL,.d aL],[.cells 159 [.d ND],.cells 112 ad0,.cells 112 [.d (.sl kO),.d (.sl rT),.d (.sl mn),.d (.sl .str),.d (.sl .str),.d (.sl pI),.row 3],.rows 193 J xd]⟩,[.cel 7 6 193 xd]⟩)),(32,(.a [.cel 10 7 210 qW])),(45,(.j ⟨[8,9],[1,2,7,10,11,12],⟨akj,aob⟩,[]⟩)),(59,(.j ⟨[8,9,12,13],[1,2,7,10,11,14],⟨akj,aob⟩,[]⟩))]⟩
def O9:cA:=cn DB qy
def RH:FT:=⟨⟨Hw,[]⟩,⟨[.d .bool],[]⟩,dT [(6,(.j ⟨[0,1],[5],⟨[.d aL],[]⟩,[]⟩))]⟩
def abu:cA:=cn RH qx
def RG:FT:=⟨⟨Hw,[]⟩,⟨rf,[]⟩,dT [(6,(.j ⟨[0,1],[5],⟨[.d aL],[]⟩,[]⟩)),(8,(.j ⟨[0,1,5],[18],⟨[.d .bool],[]⟩,[]⟩)),(16,(.j ⟨[0,1,5],[32],⟨[.d .bool],[]⟩,[]⟩))]⟩
def abt:cA:=cn RG wv
def JW:FT:=⟨⟨[.d (.sl aL),.d (.sl aL)],[]⟩,⟨rf,[]⟩,dT [(8,(.j ⟨[0,1],[5,6],⟨Hw,[]⟩,[]⟩)),(23,(.j ⟨[1],[5,7],⟨Hw,[]⟩,[]⟩))]⟩
def Vf:cA:=cn JW ry
def Bd:FT:=⟨⟨[.d aL],[]⟩,⟨[.d aL],[]⟩,dT [(3,(.j ⟨[0],[8],⟨[.d .bool],[]⟩,[]⟩))]⟩
def L3:cA:=cn Bd mw
def Ng:FT:=⟨⟨[.d eX],[]⟩,⟨[.agg agm],ad8⟩,dT [(8,(.j ⟨[],[1,2,3,4],⟨FA,[.cells 197 [.d eX],.cells 197 XO,.cells 197 [.d aL,.row 3,.row 4,.d aL],.rows 2 J aL,.rows 36 J (.sl aL)]⟩,[.cel 3 2 36 (.sl aL)]⟩))]⟩
def YK:cA:=cn Ng cq
def Nf:FT:=⟨⟨[.d qW,.agg agm],ad8⟩,⟨[.agg agm,.d .bool],ad8⟩,dT [(8,(.j ⟨[6],[2,3,4,7],⟨[.ptr 2 0,.ptr 3 0,.ptr 4 0,.d aL],aku⟩,[]⟩)),(17,(.j ⟨[6,7],[2,3,4,33],⟨[.ptr 2 0,.ptr 3 0,.ptr 4 0,.d .bool],aku⟩,[]⟩)),(32,(.j ⟨[],[2,3,4,8,9,10],⟨[.ptr 2 0,.ptr 3 0,.ptr 4 0,.d aL,.d .bool,.d (.sl aL)],aku⟩,[]⟩))]⟩
def YJ:cA:=cn Nf wu
def Gv:FT:=⟨⟨[.d xd,.d eX],[]⟩,⟨[.d eX,.d .bool],[]⟩,dT [(3,(.j ⟨[],[2,3,4,23],⟨Cm,[.cells 193 [.d xd],.cells 197 [.d eX],.cells 197 XO]⟩,[]⟩)),(16,(.j ⟨[],[2,3,4,6],⟨FA,ao2⟩,[]⟩)),(26,(.j ⟨[6],[2,3,4,44],⟨Cm,ao2⟩,[]⟩))]⟩
def Si:cA:=cn Gv nB
def JU:FT:=⟨⟨[.d oG],[]⟩,⟨[.d Hy],[]⟩,dT [(8,(.j ⟨[],[1,2,3,4],⟨FA,[.cells 31 [.d oG],.cells 96 Cl,.cells 96 [.row 3,.d aL,.nil,.nil],.rows 176 J eh]⟩,[.cel 3 0 176 eh]⟩)),(23,(.j ⟨[],[1,2,3,5],⟨FA,[.cells 31 [.d oG],.cells 96 Cl,.cells 96 [.row 3,.d aL,.row 4,.nil],.rows 176 J eh,.rows 4 J .bool]⟩,[.cel 3 2 4 .bool]⟩)),(38,(.j ⟨[],[1,2,3,6],⟨FA,[.cells 31 [.d oG],.cells 96 Cl,.cells 96 ad3,.rows 176 J eh,.rows 4 J .bool,.rows 178 J ik]⟩,[.cel 3 3 178 ik]⟩)),(49,(.j ⟨[6],[1,2,3,7],⟨ad5,[.cells 31 [.d oG],.cells 96 Cl,.cells 96 [.row 4,.d aL,.row 5,.row 6],.cells 178 [.d ik],.rows 176 J eh,.rows 4 J .bool,.rows 178 J ik]⟩,[]⟩))]⟩
def Vd:cA:=cn JU ru
def Nc:FT:=⟨⟨[.d oG,.d Hy],[]⟩,⟨[.d .bool],[]⟩,dT [(6,(.j ⟨[],[2,3,5],⟨xX,Wg⟩,[]⟩)),(15,(.j ⟨[5],[2,3,31],⟨qc,Wg⟩,[]⟩)),(23,(.j ⟨[],[4],⟨[.d .bool],[]⟩,[]⟩))]⟩
def YH:cA:=cn Nc rx
def Xm:FT:=⟨⟨vP,[]⟩,⟨[.d .bool],[]⟩,dT [(2,(.j ⟨[],[4],⟨[.d .bool],[]⟩,[]⟩))]⟩
def afo:cA:=cn Xm qw
def JS:FT:=⟨⟨[.d oG,.d aL,.d aL],[]⟩,⟨[.d .bool],[]⟩,dT [(6,(.j ⟨[2,7],[3,8],⟨hP,qb⟩,[]⟩)),(36,(.j ⟨[2,7],[3,18],⟨hP,qb⟩,[]⟩)),(46,(.j ⟨[2,7],[3,26],⟨hP,qb⟩,[]⟩)),(53,(.j ⟨[],[6],⟨[.d .bool],[]⟩,[]⟩)),(56,(.j ⟨[2,7],[3,43],⟨hP,qb⟩,[]⟩)),(71,(.j ⟨[],[6],⟨[.d .bool],[]⟩,[]⟩)),(74,(.j ⟨[2,7],[3,61],⟨hP,qb⟩,[]⟩)),(92,(.j ⟨[2,7],[3,71],⟨hP,qb⟩,[]⟩)),(102,(.j ⟨[2],[3,79],⟨hP,qb⟩,[]⟩))]⟩
def Vc:cA:=cn JS ui
def Dy:FT:=⟨⟨[.d oG,.d Hy,.d aL,.d aL,.d aL],[]⟩,⟨[.d .bool],[]⟩,dT [(3,(.j ⟨[2,3,4],[5,6,30],⟨qc,Wg⟩,[]⟩)),(25,(.j ⟨[],[10],⟨[.d .bool],[]⟩,[]⟩)),(50,(.j ⟨[],[10],⟨[.d .bool],[]⟩,[]⟩)),(56,(.j ⟨[],[10],⟨[.d .bool],[]⟩,[]⟩)),(59,(.j ⟨[2,4,70],[5,6,11,119],⟨Cm,[.cells 31 [.d oG],.cells 96 [.d Hy],.cells 178 [.d ik]]⟩,[]⟩)),(99,(.j ⟨[2,4,70],[5,6,160],⟨qc,Wg⟩,[]⟩)),(116,(.j ⟨[],[10],⟨[.d .bool],[]⟩,[]⟩)),(122,(.j ⟨[],[10],⟨[.d .bool],[]⟩,[]⟩))]⟩
def O6:cA:=cn Dy kr
def Dx:FT:=⟨⟨[.d Hy,.d aL],[]⟩,⟨rf,[]⟩,dT [(8,(.j ⟨[1],[2,5,6],⟨PI,ad4⟩,[.nil 5 3 aL]⟩)),(16,(.j ⟨[1,6],[2,5],⟨[.ptr 0 0,.row 1],ad4⟩,[]⟩)),(17,(.j ⟨[1,6],[2,5,30],⟨[.ptr 0 0,.row 1,.d .bool],ad4⟩,[]⟩))]⟩
def O5:cA:=cn Dx nU
def Dw:FT:=⟨⟨Hw,[]⟩,⟨rf,[]⟩,dT [(8,(.j ⟨[0,1],[5,6],⟨[.row 0,.d aL],[.rows 3 J aL]⟩,[.nil 5 3 aL]⟩)),(16,(.j ⟨[0,1,6],[5],⟨[.row 0],[.rows 3 J aL]⟩,[]⟩))]⟩
def O4:cA:=cn Dw qu
def Nd:FT:=⟨⟨[.d Hy],[]⟩,⟨[.agg Hx],akl⟩,dT [(8,(.j ⟨[],[1,2,3,4],⟨FA,[.cells 96 [.d Hy],.cells 96 Cl,.cells 96 ad3,.rows 176 J eh,.rows 4 J .bool,.rows 178 J ik]⟩,[.cel 3 0 176 eh]⟩))]⟩
def YI:cA:=cn Nd iy
def mE:FT:=⟨⟨[.agg Hx,.d aL],akl⟩,⟨rf,akl⟩,dT [(8,(.j ⟨[1],[2,5,6],⟨[.ptr 3 0,.row 4,.d aL],akq⟩,[.nil 5 3 aL]⟩)),(16,(.j ⟨[1,6],[2,5],⟨[.ptr 3 0,.row 4],akq⟩,[]⟩)),(17,(.j ⟨[1,6],[2,5,30],⟨[.ptr 3 0,.row 4,.d .bool],akq⟩,[]⟩))]⟩
def L2:cA:=cn mE mr
def Ko:cA:=⟨mE.pre,⟨mE.post.vs,[]⟩,jK⟩
def JV:FT:=⟨⟨[.d oG,.d Hy,.d aL,.d aL,.d aL,.d aL],[]⟩,⟨[.d Hy,.d aL,.d .bool],[]⟩,dT [(17,(.j ⟨[],[7,12,15],⟨xX,aks⟩,[]⟩)),(26,(.j ⟨[2,4,5,15,30],[6,7,12,45],⟨Cm,ao3⟩,[]⟩)),(34,(.j ⟨[2,4,5,15,30],[6,7,12,54],⟨Cm,ao3⟩,[]⟩)),(90,(.j ⟨[],[7,12,17],⟨xX,aks⟩,[]⟩)),(109,(.j ⟨[18],[7,12,19],⟨xX,aks⟩,[]⟩))]⟩
def Ve:cA:=cn JV pq
def JR:FT:=⟨⟨[.d uL],[]⟩,⟨[.d vS],[]⟩,dT [(16,(.j ⟨[],[1,2,3,4],⟨FA,[.cells 112 [.d uL],.cells 107 vQ,.cells 107 [.d (.sl eh),.d aL,.d qd,.d (.sl ik),.row 3,.nil,.nil],.rows 2 J aL]⟩,[.cel 3 4 2 aL]⟩)),(31,(.j ⟨[],[1,2,3,5],⟨FA,[.cells 112 [.d uL],.cells 107 vQ,.cells 107 [.d (.sl eh),.d aL,.d qd,.d (.sl ik),.row 3,.row 4,.nil],.rows 2 J aL,.rows 2 J aL]⟩,[.cel 3 5 2 aL]⟩)),(46,(.j ⟨[],[1,2,3,6],⟨FA,[.cells 112 [.d uL],.cells 107 vQ,.cells 107 akr,.rows 2 J aL,.rows 2 J aL,.rows 197 J eX]⟩,[.cel 3 6 197 eX]⟩))]⟩
def Vb:cA:=cn JR uh
def Nb:FT:=⟨⟨[.d uL,.d vS],[]⟩,⟨[.d .bool],[]⟩,dT [(3,(.j ⟨[],[2,3,46],⟨qc,ad7⟩,[]⟩)),(14,(.j ⟨[],[2,3,5],⟨xX,ad7⟩,[]⟩)),(25,(.j ⟨[5],[2,3,97],⟨qc,ad7⟩,[]⟩))]⟩
def YF:cA:=cn Nb wq
def M':FT:=⟨⟨[.d aL],[]⟩,⟨[.d aL],[]⟩,dT [(5,(.j ⟨[0],[3,10],⟨[.row 0,.d .bool],[.rows 3 af aL]⟩,[]⟩))]⟩
def YD:cA:=cn M' wj
def F_:FT:=⟨⟨[.d qW,.d eX],[]⟩,⟨[.d aL],[]⟩,dT [(6,(.j ⟨[6],[2,3,7],⟨qc,[.cells 210 [.d qW],.cells 197 [.d eX]]⟩,[]⟩)),(28,(.j ⟨[],[2,40],⟨hP,[.cells 210 [.d qW]]⟩,[]⟩))]⟩
def RW:cA:=cn F_ sA
def Dv:FT:=⟨⟨[.d uL,.d vS,.d aL],[]⟩,⟨[.d jE,.d .bool],[]⟩,dT [(3,(.j ⟨[2],[3,4,6,25],⟨Cm,[.cells 112 [.d uL],.cells 107 [.d vS],.cells 57 uU]⟩,[]⟩)),(54,(.j ⟨[],[6,8,9,10],⟨ad5,ao0⟩,[.cel 10 5 3 aL]⟩)),(59,(.j ⟨[],[6,8,9,10,98],⟨Aa,[.cells 57 uU,.cells 197 [.d eX],.cells 210 [.d qW],.cells 57 uU]⟩,[]⟩)),(68,(.j ⟨[],[6,10],⟨[.ptr 0 0,.ptr 1 0],[.cells 57 uU,.cells 57 [.d aL,.d aL,.d aL,.d aL,.d aL,.row 2,.row 3],.rows 3 J aL,.rows 3 J aL]⟩,[.cel 10 6 3 aL]⟩)),(69,(.j ⟨[],[6,8,9,10,123],⟨Aa,ao0⟩,[]⟩))]⟩
def O3:cA:=cn Dv nS
def JP:FT:=⟨⟨[.d oG],[]⟩,⟨[.d iY],[]⟩,dT [(8,(.j ⟨[],[1,2,3,4],⟨FA,[.cells 31 [.d oG],.cells 99 vQ,.cells 99 akr,.rows 2 J aL,.rows 2 af aL,.rows 3 af aL]⟩,[.cel 3 4 2 aL]⟩))]⟩
def U':cA:=cn JP m6
def M_:FT:=⟨⟨[.d oG,.d iY],[]⟩,⟨[.d .bool],[]⟩,dT [(2,(.j ⟨[],[4],⟨[.d .bool],[]⟩,[]⟩))]⟩
def YC:cA:=cn M_ wh
def Xl:FT:=⟨⟨vP,[]⟩,⟨[.d .bool],[]⟩,dT [(2,(.j ⟨[],[4],⟨[.d .bool],[]⟩,[]⟩))]⟩
def afn:cA:=cn Xl CU
def Du:FT:=⟨⟨Hw,[]⟩,⟨[.d .bool],[]⟩,dT [(6,(.j ⟨[0,1],[5],⟨[.d aL],[]⟩,[]⟩)),(15,(.j ⟨[0,1,5],[40],⟨[.d .bool],[]⟩,[]⟩))]⟩
def O2:cA:=cn Du nR
def JN:FT:=⟨⟨[.d iY,.d jE],[]⟩,⟨[.d .bool],[]⟩,dT [(21,(.j ⟨[],[4],⟨[.d .bool],[]⟩,[]⟩)),(24,(.j ⟨[7],[2,3,40],⟨qc,[.cells 99 [.d iY],.cells 57 [.d jE]]⟩,[]⟩)),(47,(.j ⟨[],[4],⟨[.d .bool],[]⟩,[]⟩))]⟩
def U9:cA:=cn JN uf
def M9:FT:=⟨⟨[.d oG,.d iY,.d jE],[]⟩,⟨[.d iY,.d .bool],[]⟩,dT [(3,(.j ⟨[],[3,4,5,6,46],⟨Aa,K5⟩,[]⟩)),(10,(.j ⟨[],[3,4,5,6],⟨ad5,K5⟩,[]⟩)),(11,(.j ⟨[],[3,4,5,6,55],⟨Aa,K5⟩,[]⟩)),(21,(.j ⟨[],[3,4,5,6,78],⟨Aa,K5⟩,[]⟩)),(28,(.j ⟨[],[3,4,5,6,8],⟨Aa,K5⟩,[]⟩)),(31,(.j ⟨[],[3,4,5,6,110],⟨Aa,K5⟩,[]⟩)),(39,(.j ⟨[],[3,4,5,6,125],⟨Aa,K5⟩,[]⟩)),(47,(.j ⟨[],[3,4,5,6,154],⟨Aa,K5⟩,[]⟩)),(58,(.j ⟨[],[3,4,5,6,9,10],⟨akj,[.cells 31 [.d oG],.cells 99 [.d iY],.cells 57 [.d jE],.cells 99 vQ,.cells 99 [.nil,.d aL,.nil,.nil,.row 5,.row 6,.row 7],.rows 2 J aL,.rows 2 J aL,.rows 3 J aL]⟩,[]⟩)),(66,(.j ⟨[],[5,6,9],⟨[.ptr 0 0,.ptr 1 0,.ptr 2 0],akh⟩,[]⟩)),(72,(.j ⟨[],[5,6,9],⟨[.ptr 0 0,.ptr 1 0,.ptr 2 0],akh⟩,[]⟩))]⟩
def YB:cA:=cn M9 rq
def JO:FT:=⟨⟨[.d (.sl jE),.d aL,.d aL,.d (.sl aL)],[]⟩,⟨[.d .bool],[]⟩,dT [(6,(.j ⟨[0,1,2,3],[9],⟨[.d aL],[]⟩,[]⟩)),(23,(.j ⟨[0,1,2,3,9],[10,11,12],⟨[.d aL,.d .bool,.d aL],[]⟩,[]⟩)),(31,(.j ⟨[0,1,2,3,9,12],[10,11],⟨[.d aL,.d .bool],[]⟩,[]⟩)),(38,(.j ⟨[0,1,2,3,9,10,12],[11],⟨[.d .bool],[]⟩,[]⟩))]⟩
def U_:cA:=cn JO rn
def JQ:FT:=⟨⟨[.d mH],[]⟩,⟨vP,[]⟩,dT [(24,(.j ⟨[],[1,4,5],⟨xX,[.cells 34 [.d mH],.cells 99 [.d iY]]⟩,[]⟩)),(38,(.j ⟨[5],[1,4,7,63],⟨Cm,[.cells 34 [.d mH],.cells 99 [.d iY],.cells 99 [.d iY]]⟩,[]⟩))]⟩
def Va:cA:=cn JQ ug
def Gu:FT:=⟨⟨[.d vS],[]⟩,⟨[.agg [.agg Hx,.row 3,.row 4,.csl 5 4 1]],[.rows 176 J eh,.rows 4 J .bool,.rows 178 J ik,.rows 2 J aL,.rows 2 J aL,.cells 197 [.d aL,.row 6,.row 7,.d aL],.rows 2 J aL,.rows 36 J (.sl aL)]⟩,dT [(8,(.u 2))]⟩
def Sg:cA:=cn Gu nA
def Gj:FT:=⟨⟨Mn,[]⟩,⟨Mo,[]⟩,dT [(27,(.s 5 0 0 1)),(37,(.j ⟨[],[3,4,5,6,7,9,14,15,16],⟨Ms,al3⟩,[]⟩)),(38,(.j ⟨[16,77],[3,4,5,6,7,9,14,15,78],⟨NA,al3⟩,[]⟩)),(83,(.j ⟨[16],[3,4,5,6,7,9,14],⟨Mq,[.cells 112 [.d uL],.cells 107 aig,.cells 162 [.d il],.cells 107 vQ,.cells 57 uU,.cells 57 [.d jE],.cells 197 K3,.rows 2 J aL,.rows 2 J aL,.cells 197 K3,.rows 2 J aL,.rows 36 J (.sl aL)]⟩,[]⟩)),(84,(.j ⟨[16],[3,4,5,6,7,9,14,15,154],⟨NA,al3⟩,[]⟩)),(95,(.j ⟨[],[4,5,6,7,9,14],⟨Mp,[.cells 107 [.d (.sl eh),.d aL,.d qd,.d (.sl ik),.row 6,.row 7,.csl 8 4 1],.cells 162 [.d il],.cells 107 vQ,.cells 57 uU,.cells 57 [.d jE],.cells 197 [.d eX],.rows 2 J aL,.rows 2 J aL,.cells 197 [.d eX]]⟩,[]⟩)),(96,(.j ⟨[],[3,4,5,6,7,9,14,183],⟨Mr,[.cells 112 [.d uL],.cells 107 aig,.cells 162 [.d il],.cells 107 vQ,.cells 57 uU,.cells 57 [.d jE],.cells 197 K4,.rows 2 J aL,.rows 2 J aL,.cells 197 K4]⟩,[]⟩)),(102,(.s 5 0 0 1)),(104,(.a [.pk 4 6 eX]))]⟩
def R7:cA:=cn Gj gh
def Gt:FT:=⟨⟨[.d vS],[]⟩,⟨[.agg [.agg Hx,.row 3,.row 4,.csl 5 4 2]],[.rows 176 J eh,.rows 4 J .bool,.rows 178 J ik,.rows 2 J aL,.rows 2 J aL,.cells 197 [.d aL,.row 6,.row 7,.d aL,.d eX],.rows 2 J aL,.rows 36 J (.sl aL)]⟩,dT [(8,(.u 3))]⟩
def Sf:cA:=cn Gt nz
def Gi:FT:=⟨⟨Mn,[]⟩,⟨Mo,[]⟩,dT [(27,(.s 5 0 0 1)),(37,(.j ⟨[],[3,4,5,6,7,9,14,15,16],⟨Ms,al5⟩,[]⟩)),(38,(.j ⟨[16,77],[3,4,5,6,7,9,14,15,78],⟨NA,al5⟩,[]⟩)),(83,(.j ⟨[16],[3,4,5,6,7,9,14],⟨Mq,[.cells 112 [.d uL],.cells 107 agt,.cells 162 [.d il],.cells 107 vQ,.cells 57 uU,.cells 57 [.d jE],.cells 197 K3,.rows 2 J aL,.rows 2 J aL,.cells 197 [.d aL,.row 10,.row 11,.d aL,.d eX],.rows 2 J aL,.rows 36 J (.sl aL)]⟩,[]⟩)),(84,(.j ⟨[16],[3,4,5,6,7,9,14,15,154],⟨NA,al5⟩,[]⟩)),(95,(.j ⟨[],[4,5,6,7,9,14],⟨Mp,aoa⟩,[]⟩)),(96,(.j ⟨[],[3,4,5,6,7,9,14,183],⟨Mr,[.cells 112 [.d uL],.cells 107 agt,.cells 162 [.d il],.cells 107 vQ,.cells 57 uU,.cells 57 [.d jE],.cells 197 K4,.rows 2 J aL,.rows 2 J aL,.cells 197 [.d aL,.d (.sl aL),.d vR,.d aL,.d eX]]⟩,[]⟩)),(102,(.s 5 0 0 1)),(104,(.a [.pk 4 6 eX]))]⟩
def R6:cA:=cn Gi gH
def Gs:FT:=⟨⟨[.d vS],[]⟩,⟨[.agg [.agg Hx,.row 3,.row 4,.csl 5 4 2]],[.rows 176 J eh,.rows 4 J .bool,.rows 178 J ik,.rows 2 J aL,.rows 2 J aL,.cells 197 [.d eX,.d aL,.row 6,.row 7,.d aL],.rows 2 J aL,.rows 36 J (.sl aL)]⟩,dT [(8,(.u 3))]⟩
def Se:cA:=cn Gs ny
def Gh:FT:=⟨⟨Mn,[]⟩,⟨Mo,[]⟩,dT [(27,(.s 5 0 1 1)),(37,(.j ⟨[],[3,4,5,6,7,9,14,15,16],⟨Ms,al4⟩,[]⟩)),(38,(.j ⟨[16,77],[3,4,5,6,7,9,14,15,78],⟨NA,al4⟩,[]⟩)),(83,(.j ⟨[16],[3,4,5,6,7,9,14],⟨Mq,[.cells 112 [.d uL],.cells 107 agt,.cells 162 [.d il],.cells 107 vQ,.cells 57 uU,.cells 57 [.d jE],.cells 197 K3,.rows 2 J aL,.rows 2 J aL,.cells 197 [.d eX,.d aL,.row 10,.row 11,.d aL],.rows 2 J aL,.rows 36 J (.sl aL)]⟩,[]⟩)),(84,(.j ⟨[16],[3,4,5,6,7,9,14,15,154],⟨NA,al4⟩,[]⟩)),(95,(.j ⟨[],[4,5,6,7,9,14],⟨Mp,aoa⟩,[]⟩)),(96,(.j ⟨[],[3,4,5,6,7,9,14,183],⟨Mr,[.cells 112 [.d uL],.cells 107 agt,.cells 162 [.d il],.cells 107 vQ,.cells 57 uU,.cells 57 [.d jE],.cells 197 K4,.rows 2 J aL,.rows 2 J aL,.cells 197 [.d eX,.d aL,.d (.sl aL),.d vR,.d aL]]⟩,[]⟩)),(102,(.s 5 0 1 1)),(104,(.a [.pk 4 6 eX]))]⟩
def R5:cA:=cn Gh gg
def Gr:FT:=⟨⟨[.d vS],[]⟩,⟨akg,[.rows 176 J eh,.rows 4 J .bool,.rows 178 J ik,.rows 2 J aL,.rows 2 J aL,.cells 197 [.d aL,.row 6,.row 7,.d aL,.d eX,.d eX],.rows 2 J aL,.rows 36 J (.sl aL)]⟩,dT [(8,(.u 4))]⟩
def Sd:cA:=cn Gr nu
def Gg:FT:=⟨⟨Mn,[]⟩,⟨Mo,[]⟩,dT [(27,(.s 5 0 0 1)),(37,(.j ⟨[],[3,4,5,6,7,9,14,15,16],⟨Ms,al8⟩,[]⟩)),(38,(.j ⟨[16,77],[3,4,5,6,7,9,14,15,78],⟨NA,al8⟩,[]⟩)),(83,(.j ⟨[16],[3,4,5,6,7,9,14],⟨Mq,[.cells 112 [.d uL],.cells 107 Zm,.cells 162 [.d il],.cells 107 vQ,.cells 57 uU,.cells 57 [.d jE],.cells 197 K3,.rows 2 J aL,.rows 2 J aL,.cells 197 [.d aL,.row 10,.row 11,.d aL,.d eX,.d eX],.rows 2 J aL,.rows 36 J (.sl aL)]⟩,[]⟩)),(84,(.j ⟨[16],[3,4,5,6,7,9,14,15,154],⟨NA,al8⟩,[]⟩)),(95,(.j ⟨[],[4,5,6,7,9,14],⟨Mp,aky⟩,[]⟩)),(96,(.j ⟨[],[3,4,5,6,7,9,14,183],⟨Mr,[.cells 112 [.d uL],.cells 107 Zm,.cells 162 [.d il],.cells 107 vQ,.cells 57 uU,.cells 57 [.d jE],.cells 197 K4,.rows 2 J aL,.rows 2 J aL,.cells 197 [.d aL,.d (.sl aL),.d vR,.d aL,.d eX,.d eX]]⟩,[]⟩)),(102,(.s 5 0 0 1)),(104,(.a [.pk 4 6 eX]))]⟩
def R4:cA:=cn Gg jy
def Gq:FT:=⟨⟨[.d vS],[]⟩,⟨akg,[.rows 176 J eh,.rows 4 J .bool,.rows 178 J ik,.rows 2 J aL,.rows 2 J aL,.cells 197 [.d eX,.d aL,.row 6,.row 7,.d aL,.d eX],.rows 2 J aL,.rows 36 J (.sl aL)]⟩,dT [(8,(.u 4))]⟩
def Sc:cA:=cn Gq nl
def Gf:FT:=⟨⟨Mn,[]⟩,⟨Mo,[]⟩,dT [(27,(.s 5 0 1 1)),(37,(.j ⟨[],[3,4,5,6,7,9,14,15,16],⟨Ms,al7⟩,[]⟩)),(38,(.j ⟨[16,77],[3,4,5,6,7,9,14,15,78],⟨NA,al7⟩,[]⟩)),(83,(.j ⟨[16],[3,4,5,6,7,9,14],⟨Mq,[.cells 112 [.d uL],.cells 107 Zm,.cells 162 [.d il],.cells 107 vQ,.cells 57 uU,.cells 57 [.d jE],.cells 197 K3,.rows 2 J aL,.rows 2 J aL,.cells 197 [.d eX,.d aL,.row 10,.row 11,.d aL,.d eX],.rows 2 J aL,.rows 36 J (.sl aL)]⟩,[]⟩)),(84,(.j ⟨[16],[3,4,5,6,7,9,14,15,154],⟨NA,al7⟩,[]⟩)),(95,(.j ⟨[],[4,5,6,7,9,14],⟨Mp,aky⟩,[]⟩)),(96,(.j ⟨[],[3,4,5,6,7,9,14,183],⟨Mr,[.cells 112 [.d uL],.cells 107 Zm,.cells 162 [.d il],.cells 107 vQ,.cells 57 uU,.cells 57 [.d jE],.cells 197 K4,.rows 2 J aL,.rows 2 J aL,.cells 197 [.d eX,.d aL,.d (.sl aL),.d vR,.d aL,.d eX]]⟩,[]⟩)),(102,(.s 5 0 1 1)),(104,(.a [.pk 4 6 eX]))]⟩
def R3:cA:=cn Gf iO
def Gp:FT:=⟨⟨[.d vS],[]⟩,⟨akg,[.rows 176 J eh,.rows 4 J .bool,.rows 178 J ik,.rows 2 J aL,.rows 2 J aL,.cells 197 [.d eX,.d eX,.d aL,.row 6,.row 7,.d aL],.rows 2 J aL,.rows 36 J (.sl aL)]⟩,dT [(8,(.u 4))]⟩
def Sb:cA:=cn Gp nk
def Ge:FT:=⟨⟨Mn,[]⟩,⟨Mo,[]⟩,dT [(27,(.s 5 0 2 1)),(37,(.j ⟨[],[3,4,5,6,7,9,14,15,16],⟨Ms,al6⟩,[]⟩)),(38,(.j ⟨[16,77],[3,4,5,6,7,9,14,15,78],⟨NA,al6⟩,[]⟩)),(83,(.j ⟨[16],[3,4,5,6,7,9,14],⟨Mq,[.cells 112 [.d uL],.cells 107 Zm,.cells 162 [.d il],.cells 107 vQ,.cells 57 uU,.cells 57 [.d jE],.cells 197 K3,.rows 2 J aL,.rows 2 J aL,.cells 197 [.d eX,.d eX,.d aL,.row 10,.row 11,.d aL],.rows 2 J aL,.rows 36 J (.sl aL)]⟩,[]⟩)),(84,(.j ⟨[16],[3,4,5,6,7,9,14,15,154],⟨NA,al6⟩,[]⟩)),(95,(.j ⟨[],[4,5,6,7,9,14],⟨Mp,aky⟩,[]⟩)),(96,(.j ⟨[],[3,4,5,6,7,9,14,183],⟨Mr,[.cells 112 [.d uL],.cells 107 Zm,.cells 162 [.d il],.cells 107 vQ,.cells 57 uU,.cells 57 [.d jE],.cells 197 K4,.rows 2 J aL,.rows 2 J aL,.cells 197 [.d eX,.d eX,.d aL,.d (.sl aL),.d vR,.d aL]]⟩,[]⟩)),(102,(.s 5 0 2 1)),(104,(.a [.pk 4 6 eX]))]⟩
def R2:cA:=cn Ge ie
def Gn:FT:=⟨⟨[.d vS],[]⟩,⟨ags,[.rows 176 J eh,.rows 4 J .bool,.rows 178 J ik,.rows 2 J aL,.rows 2 J aL,.cells 197 [.d aL,.row 6,.row 7,.d aL,.d eX,.d eX,.d eX],.rows 2 J aL,.rows 36 J (.sl aL)]⟩,dT [(8,(.u 5))]⟩
def Sa:cA:=cn Gn nj
def dE:FT:=⟨⟨Mn,[]⟩,⟨Mo,[]⟩,dT [(27,(.s 5 0 0 1)),(37,(.j ⟨[],[3,4,5,6,7,9,14,15,16],⟨Ms,al2⟩,[]⟩)),(38,(.j ⟨[16,77],[3,4,5,6,7,9,14,15,78],⟨NA,al2⟩,[]⟩)),(83,(.j ⟨[16],[3,4,5,6,7,9,14],⟨Mq,[.cells 112 [.d uL],.cells 107 Tf,.cells 162 [.d il],.cells 107 vQ,.cells 57 uU,.cells 57 [.d jE],.cells 197 K3,.rows 2 J aL,.rows 2 J aL,.cells 197 [.d aL,.row 10,.row 11,.d aL,.d eX,.d eX,.d eX],.rows 2 J aL,.rows 36 J (.sl aL)]⟩,[]⟩)),(84,(.j ⟨[16],[3,4,5,6,7,9,14,15,154],⟨NA,al2⟩,[]⟩)),(95,(.j ⟨[],[4,5,6,7,9,14],⟨Mp,agu⟩,[]⟩)),(96,(.j ⟨[],[3,4,5,6,7,9,14,183],⟨Mr,[.cells 112 [.d uL],.cells 107 Tf,.cells 162 [.d il],.cells 107 vQ,.cells 57 uU,.cells 57 [.d jE],.cells 197 K4,.rows 2 J aL,.rows 2 J aL,.cells 197 [.d aL,.d (.sl aL),.d vR,.d aL,.d eX,.d eX,.d eX]]⟩,[]⟩)),(102,(.s 5 0 0 1)),(104,(.a [.pk 4 6 eX]))]⟩
def R1:cA:=cn dE m8
def Gm:FT:=⟨⟨[.d vS],[]⟩,⟨ags,[.rows 176 J eh,.rows 4 J .bool,.rows 178 J ik,.rows 2 J aL,.rows 2 J aL,.cells 197 [.d eX,.d aL,.row 6,.row 7,.d aL,.d eX,.d eX],.rows 2 J aL,.rows 36 J (.sl aL)]⟩,dT [(8,(.u 5))]⟩
def R_:cA:=cn Gm ng
def Gb:FT:=⟨⟨Mn,[]⟩,⟨Mo,[]⟩,dT [(27,(.s 5 0 1 1)),(37,(.j ⟨[],[3,4,5,6,7,9,14,15,16],⟨Ms,al1⟩,[]⟩)),(38,(.j ⟨[16,77],[3,4,5,6,7,9,14,15,78],⟨NA,al1⟩,[]⟩)),(83,(.j ⟨[16],[3,4,5,6,7,9,14],⟨Mq,[.cells 112 [.d uL],.cells 107 Tf,.cells 162 [.d il],.cells 107 vQ,.cells 57 uU,.cells 57 [.d jE],.cells 197 K3,.rows 2 J aL,.rows 2 J aL,.cells 197 [.d eX,.d aL,.row 10,.row 11,.d aL,.d eX,.d eX],.rows 2 J aL,.rows 36 J (.sl aL)]⟩,[]⟩)),(84,(.j ⟨[16],[3,4,5,6,7,9,14,15,154],⟨NA,al1⟩,[]⟩)),(95,(.j ⟨[],[4,5,6,7,9,14],⟨Mp,agu⟩,[]⟩)),(96,(.j ⟨[],[3,4,5,6,7,9,14,183],⟨Mr,[.cells 112 [.d uL],.cells 107 Tf,.cells 162 [.d il],.cells 107 vQ,.cells 57 uU,.cells 57 [.d jE],.cells 197 K4,.rows 2 J aL,.rows 2 J aL,.cells 197 [.d eX,.d aL,.d (.sl aL),.d vR,.d aL,.d eX,.d eX]]⟩,[]⟩)),(102,(.s 5 0 1 1)),(104,(.a [.pk 4 6 eX]))]⟩
def RZ:cA:=cn Gb m7
def Gl:FT:=⟨⟨[.d vS],[]⟩,⟨ags,[.rows 176 J eh,.rows 4 J .bool,.rows 178 J ik,.rows 2 J aL,.rows 2 J aL,.cells 197 [.d eX,.d eX,.d aL,.row 6,.row 7,.d aL,.d eX],.rows 2 J aL,.rows 36 J (.sl aL)]⟩,dT [(8,(.u 5))]⟩
def R9:cA:=cn Gl ne
def Ga:FT:=⟨⟨Mn,[]⟩,⟨Mo,[]⟩,dT [(27,(.s 5 0 2 1)),(37,(.j ⟨[],[3,4,5,6,7,9,14,15,16],⟨Ms,al0⟩,[]⟩)),(38,(.j ⟨[16,77],[3,4,5,6,7,9,14,15,78],⟨NA,al0⟩,[]⟩)),(83,(.j ⟨[16],[3,4,5,6,7,9,14],⟨Mq,[.cells 112 [.d uL],.cells 107 Tf,.cells 162 [.d il],.cells 107 vQ,.cells 57 uU,.cells 57 [.d jE],.cells 197 K3,.rows 2 J aL,.rows 2 J aL,.cells 197 [.d eX,.d eX,.d aL,.row 10,.row 11,.d aL,.d eX],.rows 2 J aL,.rows 36 J (.sl aL)]⟩,[]⟩)),(84,(.j ⟨[16],[3,4,5,6,7,9,14,15,154],⟨NA,al0⟩,[]⟩)),(95,(.j ⟨[],[4,5,6,7,9,14],⟨Mp,agu⟩,[]⟩)),(96,(.j ⟨[],[3,4,5,6,7,9,14,183],⟨Mr,[.cells 112 [.d uL],.cells 107 Tf,.cells 162 [.d il],.cells 107 vQ,.cells 57 uU,.cells 57 [.d jE],.cells 197 K4,.rows 2 J aL,.rows 2 J aL,.cells 197 [.d eX,.d eX,.d aL,.d (.sl aL),.d vR,.d aL,.d eX]]⟩,[]⟩)),(102,(.s 5 0 2 1)),(104,(.a [.pk 4 6 eX]))]⟩
def RY:cA:=cn Ga lH
def Gk:FT:=⟨⟨[.d vS],[]⟩,⟨ags,[.rows 176 J eh,.rows 4 J .bool,.rows 178 J ik,.rows 2 J aL,.rows 2 J aL,.cells 197 [.d eX,.d eX,.d eX,.d aL,.row 6,.row 7,.d aL],.rows 2 J aL,.rows 36 J (.sl aL)]⟩,dT [(8,(.u 5))]⟩
def R8:cA:=cn Gk m_
def F':FT:=⟨⟨Mn,[]⟩,⟨Mo,[]⟩,dT [(27,(.s 5 0 3 1)),(37,(.j ⟨[],[3,4,5,6,7,9,14,15,16],⟨Ms,akz⟩,[]⟩)),(38,(.j ⟨[16,77],[3,4,5,6,7,9,14,15,78],⟨NA,akz⟩,[]⟩)),(83,(.j ⟨[16],[3,4,5,6,7,9,14],⟨Mq,[.cells 112 [.d uL],.cells 107 Tf,.cells 162 [.d il],.cells 107 vQ,.cells 57 uU,.cells 57 [.d jE],.cells 197 K3,.rows 2 J aL,.rows 2 J aL,.cells 197 [.d eX,.d eX,.d eX,.d aL,.row 10,.row 11,.d aL],.rows 2 J aL,.rows 36 J (.sl aL)]⟩,[]⟩)),(84,(.j ⟨[16],[3,4,5,6,7,9,14,15,154],⟨NA,akz⟩,[]⟩)),(95,(.j ⟨[],[4,5,6,7,9,14],⟨Mp,agu⟩,[]⟩)),(96,(.j ⟨[],[3,4,5,6,7,9,14,183],⟨Mr,[.cells 112 [.d uL],.cells 107 Tf,.cells 162 [.d il],.cells 107 vQ,.cells 57 uU,.cells 57 [.d jE],.cells 197 K4,.rows 2 J aL,.rows 2 J aL,.cells 197 [.d eX,.d eX,.d eX,.d aL,.d (.sl aL),.d vR,.d aL]]⟩,[]⟩)),(102,(.s 5 0 3 1)),(104,(.a [.pk 4 6 eX]))]⟩
def RX:cA:=cn F' kq
def YG:cA:=cn dE An
def Na:FT:=⟨⟨[.d uL,.d vS,.nil,.d (.sl il)],[]⟩,⟨[.d (.sl jE),.d vS],[]⟩,dT [(1,(.a [.nil 2 57 jE])),(6,(.j ⟨[3],[2,4,5,9,10],⟨[.row 0,.ptr 1 0,.ptr 2 0,.ptr 3 0,.d aL],akp⟩,[]⟩)),(8,(.j ⟨[3,10],[2,4,5,9,22],⟨[.row 0,.ptr 1 0,.ptr 2 0,.ptr 3 0,.d .bool],akp⟩,[]⟩)),(14,(.j ⟨[3,10],[2,4,5,9],⟨[.row 0,.ptr 1 0,.ptr 2 0,.ptr 3 0],akp⟩,[]⟩))]⟩
def YE:cA:=cn Na wn
def RF:FT:=⟨⟨[.d uL,.d (.sl il)],[]⟩,⟨[.d mH,.d vS],[]⟩,.leaf⟩
def abs:cA:=cn RF zf
def yA:FT:=⟨⟨uT,Td⟩,⟨[.d aL],Td⟩,dT [(3,(.j ⟨[1],[0,18],⟨hP,Zj⟩,[]⟩))]⟩
def Hp:cA:=cn yA bw
def Nj:FT:=⟨⟨[.d aL],[]⟩,⟨[.d .ex],[]⟩,.leaf⟩
def YQ:cA:=cn Nj rD
def J9:FT:=⟨⟨[.d .str],[]⟩,⟨[.d .ex],[]⟩,.leaf⟩
def VB:cA:=cn J9 py
def DH:FT:=⟨⟨[.d aL,.d .ex,.d .ex],[]⟩,⟨[.d .ex],[]⟩,.leaf⟩
def Pf:cA:=cn DH nX
def DI:FT:=⟨⟨[.d .str,.d .ex],[]⟩,⟨[.d .sm],[]⟩,.leaf⟩
def Ph:cA:=cn DI jw
def GM:FT:=⟨⟨[],[]⟩,⟨[.d (.sl G2)],[]⟩,.leaf⟩
def Sy:cA:=cn GM sC
def Bo:FT:=⟨⟨[.d D'],[]⟩,⟨[.d (.sl il)],[]⟩,dT [(8,(.j ⟨[0],[3,4],⟨[.row 0,.d aL],[.rows 162 J il]⟩,[.nil 3 162 il]⟩))]⟩
def Mf:cA:=cn Bo oR
def om:FT:=⟨⟨uT,Wh⟩,⟨[.d .ex],Wh⟩,dT [(8,(.j ⟨[1,6],[0,4,5,14],⟨[.ptr 0 0,.ptr 3 0,.row 4,.d .bool],[.cells 214 aif,.cells 90 [.d yO],.rowsP 9 .str,.cells 218 [.d aL,.d aL,.d .str,.nil],.rows 9 af .str]⟩,[]⟩))]⟩
def Fo:cA:=cn om fe
def EL (n:Nat):cA:=cn om (iC n)
def vw:FT:=⟨⟨[.ptr 0 0,.d .str],Wh⟩,⟨[.d .bool],Wh⟩,.leaf⟩
def DY:cA:=cn vw eP
def mO:FT:=⟨⟨NC,Wh⟩,⟨[.row 4],[.cells 214 akn,.cells 90 PL,.gone,.rowsP 9 .str,.rows 220 J .sm]⟩,dT [(1,(.a [.ren 0 7])),(8,(.j ⟨[1,2],[0,7,8],⟨[.ptr 0 0,.row 3,.d aL],ao1⟩,[.nil 7 220 .sm]⟩)),(10,(.j ⟨[1,2,8],[0,7,22],⟨[.ptr 0 0,.row 3,.d .bool],ao1⟩,[]⟩)),(21,(.a [.nil 6 220 .sm]))]⟩
def DX:cA:=cn mO qz
def CZ (n:Nat):cA:=cn mO (dI n)
def rQ:FT:=⟨⟨uT,Wh⟩,⟨[.d .sm],[.cells 214 akn,.cells 90 PL,.gone,.rowsP 9 .str]⟩,dT [(1,(.a [.ren 0 7])),(6,(.j ⟨[1,5],[0,4,6],⟨K2,La2⟩,[]⟩)),(28,(.j ⟨[1,5,6],[0,4,74],⟨K2,La2⟩,[]⟩)),(33,(.j ⟨[],[4,7],⟨[.ptr 3 0,.ptr 4 0],[.cells 214 [.ptr 1 0,.d aL,.d aL,.d .bool,.d .bool,.d .bool,.d .bool,.row 5],.cells 90 [.d yO],.gone,.cells 220 aii,.cells 220 [.d aL,.d aL,.d .str,.d .str,.nil,.d aL,.d aL,.d .str,.d (.sl .ex),.row 6,.row 7],.rowsP 9 .str,.rows 220 J .sm,.rows 220 J .sm]⟩,[.cel 7 10 220 .sm]⟩)),(42,(.j ⟨[1,5,6],[0,4,100],⟨K2,La2⟩,[]⟩)),(56,(.j ⟨[1,5,6],[0,4,133],⟨K2,La2⟩,[]⟩)),(64,(.j ⟨[1,5,6],[0,4,165],⟨K2,La2⟩,[]⟩)),(70,(.j ⟨[1,5,6],[0,4,188],⟨K2,La2⟩,[]⟩)),(82,(.j ⟨[1,5,6],[0,4,210],⟨K2,La2⟩,[]⟩)),(94,(.j ⟨[5,6],[0,4,235],⟨K2,La2⟩,[]⟩)),(100,(.j ⟨[5],[0,4,258],⟨K2,La2⟩,[]⟩)),(106,(.j ⟨[5],[0,4,278],⟨K2,La2⟩,[]⟩)),(114,(.j ⟨[],[0,4,308],⟨K2,La2⟩,[]⟩))]⟩
def EK (n:Nat):cA:=cn rQ (eJ n)
def qP:FT:=⟨⟨[.ptr 0 0,.d .str,.d aL],Wh⟩,⟨[.d (.sl .sm)],[.cells 214 akn,.cells 90 PL,.gone,.rowsP 9 .str]⟩,.leaf⟩
def C1 (n:Nat):cA:=cn qP (d_ n)
def Bn:FT:=⟨⟨[.d D'],[]⟩,⟨[.d ND],[]⟩,dT [(5,(.a [.cel 3 7 9 .str])),(14,(.j ⟨[5],[2,3,4,6,7],⟨[.ptr 0 0,.ptr 1 0,.ptr 2 0,.row 3,.d aL],[.cells 159 [.nil,.nil],.cells 214 [.ptr 4 0,.d aL,.d aL,.d .bool,.d .bool,.d .bool,.d .bool,.row 5],.cells 159 [.d (.sl G2),.row 6],.rows 9 af .str,.cells 90 [.d yO],.rowsP 9 .str,.rows 204 J s7]⟩,[.cel 4 1 204 s7]⟩)),(27,(.j ⟨[5,7],[2,3,4,6,8],⟨[.ptr 0 0,.ptr 1 0,.ptr 2 0,.row 3,.ptr 4 0],La7⟩,[.cel 8 3 220 .sm]⟩)),(34,(.j ⟨[5,7],[2,3,4,6,8,9],⟨[.ptr 0 0,.ptr 1 0,.ptr 2 0,.row 3,.ptr 4 0,.d aL],La7⟩,[.cel 8 3 220 .sm]⟩)),(48,(.j ⟨[5,7],[2,3,4,6,8],⟨[.ptr 0 0,.ptr 1 0,.ptr 2 0,.row 3,.ptr 4 0],La7⟩,[]⟩)),(49,(.j ⟨[5,7],[2,3,4,6,8,79],⟨[.ptr 0 0,.ptr 1 0,.ptr 2 0,.row 3,.ptr 4 0,.d .bool],La7⟩,[]⟩))]⟩
def Me:cA:=cn Bn oP
def J_:FT:=⟨⟨[.d D'],[]⟩,⟨[.d uL],[]⟩,.leaf⟩
def VD:cA:=cn J_ xw
def GP:FT:=⟨⟨[.d D',.d D'],[]⟩,⟨[.d mH],[]⟩,.leaf⟩
def Sz:cA:=cn GP sD
def Ds:FT:=⟨⟨[],[]⟩,⟨[.d oG],[]⟩,dT [(8,(.j ⟨[21],[0,1,22],⟨xX,ao7⟩,[.cel 1 5 139 pI]⟩)),(22,(.j ⟨[2,21,22],[0,1,3],⟨xX,ao7⟩,[]⟩))]⟩
def O0:cA:=cn Ds nQ
def zH:FT:=⟨⟨[.d iY],[]⟩,⟨rf,[]⟩,dT [(8,(.j ⟨[8,9],[3,10],⟨[.row 0,.d aL],[.rows 3 J aL]⟩,[.nil 3 3 aL]⟩)),(16,(.j ⟨[8,9,10],[3],⟨[.row 0],[.rows 3 J aL]⟩,[]⟩))]⟩
def Kl:cA:=cn zH k_
def Dq:FT:=⟨⟨[],[]⟩,⟨rf,[]⟩,.leaf⟩
def OY:cA:=cn Dq tH
def Bc:FT:=⟨⟨NC,Td⟩,⟨[.d aL],Td⟩,dT [(6,(.j ⟨[2,7],[0,8],⟨hP,Zj⟩,[]⟩)),(16,(.j ⟨[2,7],[0,16],⟨hP,Zj⟩,[]⟩)),(26,(.j ⟨[2,7],[0,21],⟨hP,Zj⟩,[]⟩)),(44,(.j ⟨[2,7],[0,26],⟨hP,Zj⟩,[]⟩)),(70,(.j ⟨[2],[0,33],⟨hP,Zj⟩,[]⟩))]⟩
def L1:cA:=cn Bc oM
def Dp:FT:=⟨⟨[.ptr 0 0,.d iY,.d aL,.d aL],Td⟩,⟨[.d aL],Td⟩,dT [(18,(.j ⟨[10],[0,5,24],⟨qc,[.cells 90 [.d yO],.cells 99 [.d iY]]⟩,[]⟩))]⟩
def OX:cA:=cn Dp qn
def F8:FT:=⟨⟨[.ptr 0 0,.row 1],[.cells 90 PL,.rows 3 J aL]⟩,⟨rf,[.cells 90 PL,.rows 3 J aL]⟩,dT [(8,(.j ⟨[9],[0,1,5,8,10],⟨[.ptr 0 0,.row 1,.row 2,.row 1,.d aL],aki⟩,[.nil 5 3 aL]⟩)),(16,(.j ⟨[9,10],[0,1,5,8],⟨[.ptr 0 0,.row 1,.row 2,.row 1],aki⟩,[]⟩)),(19,(.j ⟨[7,9,10],[0,1,5,8,24],⟨[.ptr 0 0,.row 1,.row 2,.row 1,.d .bool],aki⟩,[]⟩))]⟩
def RQ:cA:=cn F8 gG
def Dr:FT:=⟨⟨[.ptr 0 0,.d iY,.d oG,.csl 1 1 4],anz⟩,⟨[.d jE],anz⟩,dT [(8,(.j ⟨[9],[0,3,5,6,8,11],⟨[.ptr 0 0,.csl 1 1 4,.ptr 6 0,.ptr 7 0,.ptr 8 0,.ptr 9 0],ao5⟩,[]⟩)),(9,(.j ⟨[9],[0,3,5,6,8,11,36],⟨[.ptr 0 0,.csl 1 1 4,.ptr 6 0,.ptr 7 0,.ptr 8 0,.ptr 9 0,.d .bool],ao5⟩,[]⟩)),(18,(.j ⟨[9],[0,3,8,11],⟨[.ptr 0 0,.csl 1 1 4,.ptr 6 0,.ptr 7 0],ao6⟩,[]⟩)),(19,(.j ⟨[9],[0,3,8,11,74],⟨[.ptr 0 0,.csl 1 1 4,.ptr 6 0,.ptr 7 0,.d .bool],[.cells 90 [.d yO],.cells 36 acz,.rows 3 J aL,.rows 3 J aL,.rows 3 J aL,.rows 3 J aL,.cells 57 uU,.cells 57 uU]⟩,[]⟩)),(22,(.s 9 0 0 4)),(24,(.j ⟨[],[8,11],⟨[.ptr 6 0,.ptr 7 0],[.cells 90 [.d yO],.cells 36 acz,.rows 3 J aL,.rows 3 J aL,.rows 3 J aL,.rows 3 J aL,.cells 57 uU,.cells 57 [.d aL,.d aL,.d aL,.d aL,.d aL,.d (.sl aL),.d (.sl aL)]]⟩,[]⟩)),(25,(.j ⟨[9],[0,3,8,11,89],⟨[.ptr 0 0,.csl 1 1 4,.ptr 6 0,.ptr 7 0,.d .bool],ao6⟩,[]⟩)),(28,(.s 9 0 0 4))]⟩
def OZ:cA:=cn Dr qp
def F9:FT:=⟨⟨[.ptr 0 0,.d iY,.d oG,.d aL,.d .bool],Td⟩,⟨[.d (.sl jE)],Td⟩,dT [(8,(.a [.cel 12 0 3 aL,.cel 12 1 3 aL,.cel 12 2 3 aL,.cel 12 3 3 aL])),(9,(.j ⟨[3,11],[0,6,7,12],⟨[.ptr 0 0,.ptr 1 0,.ptr 2 0,.csl 3 1 4],akv⟩,[]⟩)),(10,(.u 5)),(18,(.j ⟨[3,4,11,22,23],[0,6,7,12],⟨[.ptr 0 0,.ptr 1 0,.ptr 2 0,.csl 3 1 4],akv⟩,[]⟩)),(21,(.j ⟨[3,4,11,13,22,23],[0,6,7,12,39],⟨[.ptr 0 0,.ptr 1 0,.ptr 2 0,.csl 3 1 4,.d .bool],akv⟩,[]⟩)),(29,(.j ⟨[3],[0,6,7,11,12],⟨[.ptr 0 0,.ptr 1 0,.ptr 2 0,.row 3,.csl 4 1 4],akw⟩,[.nil 11 57 jE]⟩)),(31,(.j ⟨[3],[0,6,7,11,12,65],⟨[.ptr 0 0,.ptr 1 0,.ptr 2 0,.row 3,.csl 4 1 4,.d .bool],akw⟩,[]⟩)),(36,(.j ⟨[3],[0,6,7,11,12],⟨[.ptr 0 0,.ptr 1 0,.ptr 2 0,.row 3,.csl 4 1 4],akw⟩,[]⟩)),(47,(.j ⟨[3],[0,6,7,11,12,14,15],⟨[.ptr 0 0,.ptr 1 0,.ptr 2 0,.row 3,.csl 4 1 4,.ptr 5 0,.ptr 6 0],ao8⟩,[]⟩)),(48,(.j ⟨[3],[0,6,7,11,12,14,15,87],⟨[.ptr 0 0,.ptr 1 0,.ptr 2 0,.row 3,.csl 4 1 4,.ptr 5 0,.ptr 6 0,.d .bool],ao8⟩,[]⟩)),(51,(.s 14 0 0 4))]⟩
def RU:cA:=cn F9 sx
def Dt:FT:=⟨⟨PL,[]⟩,⟨[.d mH],[]⟩,dT [(2,(.j ⟨[1],[0,4],⟨[.d D',.ptr 0 0],[.cells 34 ad0]⟩,[]⟩)),(22,(.j ⟨[1,9],[4,5,6,7,8,10],⟨[.ptr 0 0,.ptr 1 0,.ptr 2 0,.ptr 3 0,.row 4,.d aL],[.cells 34 ad0,.cells 90 [.d yO],.cells 34 [.d (.sl kO),.d (.sl rT),.d (.sl mn),.d (.sl .str),.d (.sl .str),.d (.sl pI),.nil],.cells 99 [.d iY],.rows 57 af jE]⟩,[]⟩)),(37,(.j ⟨[1,48],[4,5,6,7,47,49],⟨[.ptr 0 0,.ptr 1 0,.ptr 2 0,.ptr 3 0,.row 4,.d aL],ao9⟩,[.cel 6 6 57 jE]⟩)),(45,(.j ⟨[1,48,49],[4,5,6,7,47],⟨[.ptr 0 0,.ptr 1 0,.ptr 2 0,.ptr 3 0,.row 4],ao9⟩,[]⟩))]⟩
def O1:cA:=cn Dt qr
def wS:FT:=⟨⟨[.d (.st (.pr D' (.pr D' D'))),.d aL],[]⟩,⟨[.d mH],[]⟩,.leaf⟩
def Fi:cA:=cn wS lh
theorem LM:aH Pg 174 L9:=mk Bi kG an b9
theorem Jd:aH Pg 149 Ks:=mk zJ jN (ac LM an) b9
theorem FY:aH Pg 148 Sq:=mk GG lJ an b9
theorem UR:aH Pg 175 Vv:=mk J8 rB an b9
theorem UQ:aH Pg 150 Vu:=mk J7 px (ac FY (ac UR an)) b9
theorem sH:aH Pg 119 Sr:=mk GJ fh (ac FY (ac Jd (ac UQ an))) b9
theorem Jc:aH Pg 227 Vm:=mk J2 f_ an b9
theorem UJ:aH Pg 211 Vn:=mk J3 ul (ac Jc an) b9
theorem Rd:aH Pg 213 Sm:=mk Gz sB (ac Jc an) b9
theorem UK:aH Pg 210 Vo:=mk J4 rz an b9
theorem LL:aH Pg 234 L8:=mk Bh mB an b9
theorem wJ:∀n:Nat,aH Pg 228 (G_ n)
 |0=>MO pf
 |n+1=>mk pf (ml (ij n)) (ac sH (ac (wJ n) (ac LL an))) b9
theorem yf:aH Pg 228 Hl:=(wJ fuel)
theorem UP:aH Pg 229 Vt:=mk J6 pw an b9
theorem rK:∀n:Nat,aH Pg 214 (G9 n)/\aH Pg 184 (EJ n)
 |0=>⟨MO s6,MO ol⟩
 |n+1=>⟨mk s6 (km (eE n) (dF n)) (ac sH (ac (rK n).2 (ac yf (ac UP an)))) b9,mk ol (jC (eE n) (dF n)) (ac (rK n).1 an) b9⟩
theorem EY:aH Pg 184 Fl:=(rK fuel).2
theorem Hb:aH Pg 183 Hk:=mk yq ki (ac sH an) b9
theorem Rf:aH Pg 157 Sp:=mk GF pQ (ac sH (ac Hb (ac EY an))) b9
theorem vm:aH Pg 120 afr:=mk Xq jf an b9
theorem vk:aH Pg 185 So:=mk GD ii an b9
theorem vJ:aH Pg 186 L7:=mk Bg gU an b9
theorem Re:aH Pg 230 Sn:=mk GA pP (ac vm (ac vk (ac vJ an))) b9
theorem M0:aH Pg 217 YL:=mk Nh gI (ac Re an) b9
theorem F1:∀n:Nat,aH Pg 231 (Uv n)
 |0=>MO xO
 |n+1=>mk xO (uy (nH n)) (ac (F1 n) an) b9
theorem UN:aH Pg 231 Vr:=(F1 fuel)
theorem F0:∀n:Nat,aH Pg 232 (Uu n)
 |0=>MO xN
 |n+1=>mk xN (ux (nG n)) (ac M0 (ac (F0 n) an)) b9
theorem UL:aH Pg 232 Vp:=(F0 fuel)
theorem Yf:aH Pg 218 YM:=mk Ni mA (ac yf (ac UN (ac UL an))) b9
theorem OE:aH Pg 219 Pa:=mk DE c5 an b9
theorem af4:aH Pg 216 afq:=mk Xo je an b9
theorem EX:aH Pg 215 Fk:=mk wU dW an b9
theorem LJ:aH Pg 187 L5:=mk Bf my (ac vm (ac vk (ac vJ (ac EX (ac af4 (ac M0 (ac Yf (ac OE an)))))))) b9
theorem zu:∀n:Nat,aH Pg 161 (LC n)
 |0=>MO sh
 |n+1=>mk sh (mD (iL n)) (ac (zu n) (ac LJ an)) b9
theorem LK:aH Pg 161 L6:=(zu fuel)
theorem F3:∀n:Nat,aH Pg 160 (Uw n)
 |0=>MO xP
 |n+1=>mk xP (uz (nI n)) (ac (F3 n) an) b9
theorem UO:aH Pg 160 Vs:=(F3 fuel)
theorem UM:aH Pg 158 Vq:=mk J5 rA (ac vk an) b9
theorem OD:aH Pg 159 O_:=mk DC nV (ac vm (ac vk (ac vJ an))) b9
theorem xz:aH Pg 123 Pb:=mk DF fw (ac Rf (ac UM (ac OD (ac UO (ac LK an))))) b9
theorem FZ:∀n:Nat,aH Pg 163 (Ut n)
 |0=>MO xM
 |n+1=>mk xM (xA (pG n)) (ac (FZ n) an) b9
theorem UE:aH Pg 163 Vg:=(FZ fuel)
theorem FU:aH Pg 162 Sj:=mk Gw ku an b9
theorem FX:aH Pg 220 Sl:=mk Gy lI an b9
theorem UI:aH Pg 124 Vk:=mk J0 uk (ac xz (ac FU (ac UE an))) b9
theorem UF:aH Pg 118 Vh:=mk JX pt an b9
theorem ye:aH Pg 79 Hj:=mk yp ig (ac UF (ac sH (ac vm an))) b9
theorem uv:aH Pg 127 Kr:=mk zI jM an b9
theorem FW:aH Pg 177 Sk:=mk Gx pO an b9
theorem UG:aH Pg 152 Vi:=mk JY pu (ac FW an) b9
theorem OA:aH Pg 153 afp:=mk Xn jv an b9
theorem UH:aH Pg 176 Vj:=mk JZ nC (ac OA an) b9
theorem Oz:aH Pg 151 O7:=mk Dz l8 (ac OA (ac UH an)) b9
theorem EW:aH Pg 121 Fj:=mk wT iz (ac uv (ac Oz (ac UG (ac OA an)))) b9
theorem B9:aH Pg 81 Vl:=mk J1 jL (ac ye (ac EW an)) b9
theorem oc:aH Pg 126 O8:=mk DA cF an b9
theorem yh:∀n:Nat,aH Pg 192 (IX n)
 |0=>MO qM
 |n+1=>mk qM (qG (iQ n)) (ac vm (ac oc (ac (yh n) (ac FX an)))) b9
theorem uu:aH Pg 192 Kp:=(yh fuel)
theorem Ha:aH Pg 188 Hi:=mk yo mg (ac vm (ac oc (ac uu (ac FX an)))) b9
theorem LI:aH Pg 191 L4:=mk Be jz an b9
theorem kj:∀n:Nat,aH Pg 125 (IY n)/\aH Pg 164 (LB n)/\aH Pg 189 (CY n)/\aH Pg 190 (G8 n)
 |0=>⟨MO qN,MO vN,MO qO,MO s5⟩
 |n+1=>⟨mk qN (qH (dM n) (eR n) (c9 n) (dH n)) (ac (kj n).2.1 an) b9,mk vN (sa (dM n) (eR n) (c9 n) (dH n)) (ac vm (ac oc (ac FU (ac Ha (ac (kj n).2.2.1 (ac (kj n).2.2.2 (ac LI (ac uu an)))))))) b9,mk qO (mK (dM n) (eR n) (c9 n) (dH n)) (ac (kj n).1 (ac oc (ac uu an))) b9,mk s5 (o_ (dM n) (eR n) (c9 n) (dH n)) (ac (kj n).1 (ac oc an)) b9⟩
theorem Jb:aH Pg 125 Kq:=(kj fuel).1
theorem OC:aH Pg 84 O9:=mk DB qy (ac xz (ac UI (ac Jb (ac oc (ac uv an))))) b9
theorem Ja:aH Pg 109 abu:=mk RH qx an b9
theorem ab2:aH Pg 146 abt:=mk RG wv an b9
theorem I_:aH Pg 112 Vf:=mk JW ry (ac ab2 an) b9
theorem LH:aH Pg 212 L3:=mk Bd mw an b9
theorem ll:aH Pg 181 YK:=mk Ng cq an b9
theorem Ye:aH Pg 182 YJ:=mk Nf wu (ac I_ (ac uv (ac UJ (ac LH (ac Rd an))))) b9
theorem jA:aH Pg 156 Si:=mk Gv nB (ac FW (ac ll (ac Ye an))) b9
theorem I9:aH Pg 71 Vd:=mk JU ru an b9
theorem EU:aH Pg 106 YH:=mk Nc rx an b9
theorem W6:aH Pg 107 afo:=mk Xm qw an b9
theorem UD:aH Pg 108 Vc:=mk JS ui (ac W6 an) b9
theorem C7:aH Pg 74 O6:=mk Dy kr (ac EU (ac W6 (ac UD (ac Ja an)))) b9
theorem Oy:aH Pg 110 O5:=mk Dx nU an b9
theorem Ox:aH Pg 113 O4:=mk Dw qu an b9
theorem lj:aH Pg 111 YI:=mk Nd iy an b9
theorem LG:aH Pg 110 L2:=mk mE mr an b9
theorem I8:aH Pg 110 Ko:= @aH.ro Pg 110 mE.pre mE.post.vs mr jK (LG.holds rfl) rfl (λx _ h=>by rw[show jK x=av (mr x) λy=>same y.2 x.2 (M y.1) from rfl]at h;exact h)
theorem jQ:aH Pg 77 Ve:=mk JV pq (ac C7 (ac Ja (ac I8 (ac lj (ac I_ (ac Ox an)))))) b9
theorem UC:aH Pg 83 Vb:=mk JR uh (ac I9 (ac B9 an)) b9
theorem Yc:aH Pg 178 YF:=mk Nb wq (ac B9 (ac EU an)) b9
theorem Ya:aH Pg 179 YD:=mk M' wj an b9
theorem QQ:aH Pg 180 RW:=mk F_ sA (ac UK an) b9
theorem iK:aH Pg 154 O3:=mk Dv nS (ac Yc (ac Ya (ac QQ an))) b9
theorem I7:aH Pg 39 U':=mk JP m6 (ac I9 an) b9
theorem X':aH Pg 72 YC:=mk M_ wh (ac EU an) b9
theorem af3:aH Pg 73 afn:=mk Xl CU an b9
theorem Ow:aH Pg 75 O2:=mk Du nR an b9
theorem Uz:aH Pg 76 U9:=mk JN uf (ac Ja (ac Oy an)) b9
theorem ES:aH Pg 41 YB:=mk M9 rq (ac X' (ac af3 (ac C7 (ac Ow (ac Uz (ac jQ an)))))) b9
theorem UA:aH Pg 80 U_:=mk JO rn an b9
theorem UB:aH Pg 43 Va:=mk JQ ug (ac I7 (ac ES (ac ye (ac UA an)))) b9
def Mw (t:TypeId):I Ty:=if aA t 197 then M (.pr .un eX) else b9 t
theorem Rc:aH Pg 155 Sg:=mk Gu nA (ac lj (ac ll an)) Mw
theorem Q2:aH Pg 122 R7:=mk Gj gh (ac jQ (ac iK (ac Rc (ac jA an)))) Mw
theorem Rb:aH Pg 155 Sf:=mk Gt nz (ac lj (ac ll an)) Mw
theorem Q1:aH Pg 122 R6:=mk Gi gH (ac jQ (ac iK (ac Rb (ac jA an)))) Mw
theorem Ra:aH Pg 155 Se:=mk Gs ny (ac lj (ac ll an)) Mw
theorem Q0:aH Pg 122 R5:=mk Gh gg (ac jQ (ac iK (ac Ra (ac jA an)))) Mw
theorem Q_:aH Pg 155 Sd:=mk Gr nu (ac lj (ac ll an)) Mw
theorem QZ:aH Pg 122 R4:=mk Gg jy (ac jQ (ac iK (ac Q_ (ac jA an)))) Mw
theorem Q9:aH Pg 155 Sc:=mk Gq nl (ac lj (ac ll an)) Mw
theorem QY:aH Pg 122 R3:=mk Gf iO (ac jQ (ac iK (ac Q9 (ac jA an)))) Mw
theorem Q7:aH Pg 155 Sb:=mk Gp nk (ac lj (ac ll an)) Mw
theorem QX:aH Pg 122 R2:=mk Ge ie (ac jQ (ac iK (ac Q7 (ac jA an)))) Mw
theorem Q6:aH Pg 155 Sa:=mk Gn nj (ac lj (ac ll an)) Mw
theorem QW:aH Pg 122 R1:=mk dE m8 (ac jQ (ac iK (ac Q6 (ac jA an)))) Mw
theorem Q5:aH Pg 155 R_:=mk Gm ng (ac lj (ac ll an)) Mw
theorem QV:aH Pg 122 RZ:=mk Gb m7 (ac jQ (ac iK (ac Q5 (ac jA an)))) Mw
theorem Q4:aH Pg 155 R9:=mk Gl ne (ac lj (ac ll an)) Mw
theorem QU:aH Pg 122 RY:=mk Ga lH (ac jQ (ac iK (ac Q4 (ac jA an)))) Mw
theorem Q3:aH Pg 155 R8:=mk Gk m_ (ac lj (ac ll an)) Mw
theorem QR:aH Pg 122 RX:=mk F' kq (ac jQ (ac iK (ac Q3 (ac jA an)))) Mw
theorem Yd:aH Pg 122 YG:=(aH.orE (pre:=dE.pre) (post:=dE.post) (m:=m8) (m':=(λx=>orE (m7 x) ((λx=>orE (lH x) ((λx=>orE (kq x) ((λx=>orE (jy x) ((λx=>orE (iO x) ((λx=>orE (ie x) ((λx=>orE (gH x) ((λx=>orE (gg x) (gh x)) x)) x)) x)) x)) x)) x)) x))) rfl QW (aH.orE (pre:=dE.pre) (post:=dE.post) (m:=m7) (m':=(λx=>orE (lH x) ((λx=>orE (kq x) ((λx=>orE (jy x) ((λx=>orE (iO x) ((λx=>orE (ie x) ((λx=>orE (gH x) ((λx=>orE (gg x) (gh x)) x)) x)) x)) x)) x)) x))) rfl QV (aH.orE (pre:=dE.pre) (post:=dE.post) (m:=lH) (m':=(λx=>orE (kq x) ((λx=>orE (jy x) ((λx=>orE (iO x) ((λx=>orE (ie x) ((λx=>orE (gH x) ((λx=>orE (gg x) (gh x)) x)) x)) x)) x)) x))) rfl QU (aH.orE (pre:=dE.pre) (post:=dE.post) (m:=kq) (m':=(λx=>orE (jy x) ((λx=>orE (iO x) ((λx=>orE (ie x) ((λx=>orE (gH x) ((λx=>orE (gg x) (gh x)) x)) x)) x)) x))) rfl QR (aH.orE (pre:=dE.pre) (post:=dE.post) (m:=jy) (m':=(λx=>orE (iO x) ((λx=>orE (ie x) ((λx=>orE (gH x) ((λx=>orE (gg x) (gh x)) x)) x)) x))) rfl QZ (aH.orE (pre:=dE.pre) (post:=dE.post) (m:=iO) (m':=(λx=>orE (ie x) ((λx=>orE (gH x) ((λx=>orE (gg x) (gh x)) x)) x))) rfl QY (aH.orE (pre:=dE.pre) (post:=dE.post) (m:=ie) (m':=(λx=>orE (gH x) ((λx=>orE (gg x) (gh x)) x))) rfl QX (aH.orE (pre:=dE.pre) (post:=dE.post) (m:=gH) (m':=(λx=>orE (gg x) (gh x))) rfl Q1 (aH.orE (pre:=dE.pre) (post:=dE.post) (m:=gg) (m':=gh) rfl Q0 Q2)))))))))
theorem Yb:aH Pg 82 YE:=mk Na wn (ac Yd an) b9
theorem ab1:aH Pg 44 abs:=mk RF zf (ac B9 (ac Yb (ac UC an))) b9
theorem fK:aH Pg 40 Hp:=mk yA bw an b9
theorem E0:aH Pg 131 YQ:=mk Nj rD an b9
theorem Jj:aH Pg 195 VB:=mk J9 py an b9
theorem Db:aH Pg 194 Pf:=mk DH nX an b9
theorem Dc:aH Pg 130 Ph:=mk DI jw an b9
theorem Rh:aH Pg 128 Sy:=mk GM sC an b9
theorem LS:aH Pg 46 Mf:=mk Bo oR an b9
theorem vn:∀n:Nat,aH Pg 193 (EL n)
 |0=>MO om
 |n+1=>mk om (oe (iC n)) (ac fK (ac E0 (ac (vn n) (ac Db (ac Jj an))))) b9
theorem E3:aH Pg 193 Fo:=(vn fuel)
theorem Da:aH Pg 196 DY:=mk vw eP (ac vm an) b9
theorem jR:∀n:Nat,aH Pg 129 (CZ n)/\aH Pg 165 (EK n)/\aH Pg 197 (C1 n)
 |0=>⟨MO mO,MO rQ,MO qP⟩
 |n+1=>⟨mk mO (mM (dI n) (eJ n) (d_ n)) (ac (jR n).2.1 an) b9,mk rQ (od (dI n) (eJ n) (d_ n)) (ac fK (ac (jR n).1 (ac Dc (ac E0 (ac E3 (ac Db (ac Jj (ac Da (ac (jR n).2.2 an))))))))) b9,mk qP (mN (dI n) (eJ n) (d_ n)) (ac fK (ac (jR n).1 an)) b9⟩
theorem C':aH Pg 129 DX:=(jR fuel).1
theorem LR:aH Pg 85 Me:=mk Bn oP (ac fK (ac xz (ac Rh (ac C' (ac Dc (ac E0 an)))))) b9
theorem UT:aH Pg 45 VD:=mk J_ xw (ac OC (ac LR an)) b9
theorem Ri:aH Pg 21 Sz:=mk GP sD (ac ab1 (ac UT (ac LS an))) b9
theorem Ot:aH Pg 38 O0:=mk Ds nQ an b9
theorem I4:aH Pg 147 Kl:=mk zH k_ an b9
theorem Oo:aH Pg 114 OY:=mk Dq tH an b9
theorem LF:aH Pg 115 L1:=mk Bc oM (ac fK an) b9
theorem On:aH Pg 116 OX:=mk Dp qn (ac fK (ac I4 an)) b9
theorem QO:aH Pg 117 RQ:=mk F8 gG (ac fK an) b9
theorem Oq:aH Pg 78 OZ:=mk Dr qp (ac fK (ac Oo (ac LF (ac On (ac QO an))))) b9
def tv1 (t:TypeId):I Ty:=if aA t 36 then M (.pr .un (.pr .un (.pr .un (.pr .un (.pr .un (.sl aL)))))) else b9 t
theorem QP:aH Pg 42 RU:=mk F9 sx (ac fK (ac ES (ac Oq an))) tv1
theorem Ou:aH Pg 20 O1:=mk Dt qr (ac Ot (ac I7 (ac fK (ac ES (ac QP (ac UB an)))))) b9
theorem ER:aH Pg 7 Fi:=mk wS lh (ac Ou (ac Ri an)) b9
end
end Go.Proofs.YtloaobgmjdjhhaaGreatDoor.AI
