/-
  Texts of the proof, part 5 of 5: what is used to prove the statement. No condition.
-/
import Derived.Test.YtkagidinekdnoaaGreatDoorHBCountsQ3
import Derived.Deep.Slices
import Derived.OpenShut
import Derived.Below
import Derived.Test.YtkagidinekdnoaaGreatDoorProg
import Derived.KernelRfl
import Derived.Recover
import Derived.Test.YtkagidinekdnoaaGreatDoorRows
import Derived.LaidMore
namespace Go.Proofs.YtkagidinekdnoaaGreatDoor.AI
open Go.RowKit
set_option maxRecDepth 100000
set_option maxHeartbeats 4000000
set_option linter.unusedVariables false
set_option linter.unusedSimpArgs false
open Act renaming put→LY
open _root_.Array renaming replicate→nR
open _root_.Bool renaming true→ah,false→ai
open Call renaming operands→eH
open _root_.Int renaming ofNat_eq_natCast→ar,ofNat→aN,toNat_natCast→fh,tmod→p_
open _root_.List renaming length→ak,replicate→aE,range→eg,cons_append→fZ,length_singleton→gg,length_nil→jF,nil_append→ll,getElem?_cons_zero→pZ,take_succ_cons→uJ
open _root_.Nat renaming beq→aA,testBit→aL,add_zero→db,ble→ep,blt→fV
open Oper renaming wp→F0
open _root_.Option renaming some→aa,none→af,bind_some→aF,map_some→b8,map→lj,getD_some→tO
open _root_.Prod renaming p2→aV,p3→bk,p4→bt,q3→bI,p5→ct,q5→cQ,q4→di,p6→eo,q6→eU,p7→kc,q7→l7,q8→pj,p8→yD,p9→Bf,p10→CV
open Region renaming wanted→ir
open Result renaming andThen_ok→cD
open Sem renaming run_bind→em,run_pure→ol
open _root_.Sum renaming inr→bZ,inl→oh
open Value renaming okWide→FY
open World renaming cell?→LV
noncomputable section
structure pd (P:Program) (f:FuncId) (c:ch):Prop where
 callable:CU P f
 calls:∀ x y,c.m x=aa y->∀ vs hp l1 rs hq l2 la lr,pU c.pre x vs hp l1->pU c.post y rs hq l2->cF hp vs=aa la->cF hq rs=aa lr->
  ∀ (φ:PM) (E:Nat->Prop) (w:World) (us:List Value),qh φ E (bw hp) w->jI φ (tot E φ (bw hp)) w la us->(∀ n k,φ n=aa k->ow n<c.pre.bs.length)->
  Calls P f us.toArray w λen w'=>∃ v φ',en= .returned v/\Js (own φ (bw hp)) w w'/\(∀ k,k<w.heap.size->own φ' (bw hq) k->own φ (bw hp) k)/\(∀ i,i<c.pre.bs.length->φ' (nm i)=φ (nm i))/\qh φ' E (bw hq) w'/\cG φ' (tot E φ' (bw hq)) w' (C2 lr) v
theorem K2 {g:Nat->Nat}:∀ (bs:List PB) (x:(PB.tyL bs).den) (l:List (Option hZ)),Ao bs=ah->nV g bs x=aa l->∀ (i:Nat) (c:Option hZ),l[i]? =aa c->∃ b,c=aa b
 |[],x,l,_,hp,i,c,hc=>by simp only[nV,aj] at hp;subst hp;simp at hc
 |b::r,x,l,hn,hp,i,c,hc=>by
  simp only[nV] at hp;split at hp
  .rename_i a I;split at hp
   .rename_i q hq;simp only[aj] at hp;subst hp;cases i with
    |zero=>
     simp at hc;subst hc;cases b with
     |gone=>simp[Ao] at hn
     |rows ty p T=>simp only[Bz,aj] at I;exact⟨_,I.symm⟩
     |rowsP ty T=>simp only[Bz,aj] at I;exact⟨_,I.symm⟩
     |cells ty ps=>
      simp only[Bz] at I;split at I
      .simp only[aj] at I;exact⟨_,I.symm⟩
      .cases I
     |mp K V=>simp only[Bz,aj] at I;exact⟨_,I.symm⟩
    |succ i=>
     refine K2 r _ q ?_ hq i c (by simpa using hc);cases b<;>first|exact hn|simp[Ao] at hn
   .cases hp
  .cases hp
theorem Eb {h h2:bd} {g:Nat->Nat}:∀ n,sK h h2 g n=ah->∀ i,i<n->∀ r,ec h (g i)=aa r->ec h2 (g i)=aa r
 |0,_,i,hi,_,_=>by omega
 |n+1,hs,i,hi,r,hr=>by
  simp only[sK,au] at hs;by_cases e:i=n
  .subst e;obtain⟨p,s,k⟩:=r;have h1:=hs.1;rw[hr] at h1;cases I:ec h2 (g i) with
   |none=>rw[I] at h1;cases h1
   |some q=>
    obtain⟨J,s',k'⟩:=q;rw[I] at h1;simp only[au,cM] at h1;rw[h1.1.1,av h1.1.2,av h1.2]
  .exact Eb n hs.2 i (by omega) r hr
theorem jI.le {H H':HF} {φ:PM} {E:Nat->Prop} {w:World} (r:qh φ E H w):∀ {l I:List AV} {us:List Value},gW H H' l I->jI φ (tot E φ H) w l us->jI φ (tot E φ H') w I us
 |[],[],[],_,_=>trivial
 |[],[],_::_,_,h=>h.elim
 |_::_,_::_,[],_,h=>h.elim
 |[],_::_,_,h,_=>h.elim
 |_::_,[],_,h,_=>h.elim
 |_::_,_::_,_::_,hl,h=>⟨hl.1 _ _ _ _ r h.1,jI.le r hl.2 h.2⟩
theorem jI.toId {φ φ':PM} {O O':Nat->Prop} {w:World} {γ:Nat->Nat} {p:Nat->Bool} (hv:∀ x v,x.all p=ah->cG φ O w (x.ren γ) v->cG φ' O' w x v):∀ {l:List AV} {us:List Value},AV.allL p l=ah->jI φ O w (AV.renL γ l) us->jI φ' O' w l us
 |[],[],_,_=>trivial
 |[],_::_,_,h=>h.elim
 |_::_,[],_,h=>h.elim
 |_::_,_::_,hp,h=>by
  simp only[AV.allL,au] at hp;exact⟨hv _ _ hp.1 h.1,jI.toId hv hp.2 h.2⟩
theorem Uk {h:bd}:∀ {rs:List TV} {lr:List AV},cF h rs=aa lr->cg h (Oa rs)=aa (C2 lr)
 |[],lr,he=>by simp only[cF,aj] at he;subst he;rfl
 |[x],lr,he=>by
  obtain⟨y,l2,rfl,e1,e2⟩:=cO he;simp only[cF,aj] at e2;subst e2;exact e1
 |x::y::r,lr,he=>by
  obtain⟨J,l2,rfl,e1,e2⟩:=cO he;obtain⟨I,M,rfl,e3,U⟩:=cO e2;simp only[Oa,cg,he,C2]
theorem XF (γ:Nat->Nat):∀ l:List AV,C2 (AV.renL γ l)=(C2 l).ren γ
 |[]=>rfl
 |[x]=>rfl
 |x::y::r=>rfl
theorem XG {p:Nat->Bool}:∀ {l:List AV},AV.allL p l=ah->(C2 l).all p=ah
 |[],_=>rfl
 |[x],h=>by simp only[AV.allL,au] at h;exact h.1
 |x::y::r,h=>h
theorem aa9 {nx I q:Nat}:aL (((1<<<I)-1)<<<nx) q=ah↔nx<=q/\q<nx+I:=by
 rw[Nat.testBit_shiftLeft,Nat.one_shiftLeft,Nat.testBit_two_pow_sub_one];simp only[au,bQ];omega
theorem Y5 {P:Program} {o:Oper} {e:iw} {h:bd} {nx:Nat} {f:FuncId} {c:ch} {l:List TV} (hinv:lJ h nx) (sp:pd P f c) {x:c.pre.ty.den} {m:Nat} {σ:PT Nat} {sm:Nat} (M:Gp 0 c.pre l h x m σ sm) {vs:List TV} {hp:bd} {l1:List (Option hZ)} (I:pU c.pre x vs hp l1) (hng:Ao c.pre.bs=ah) {y:c.post.ty.den} (hm:c.m x=aa y) {rs:List TV} {hq:bd} {l2:List (Option hZ)} (J:pU c.post y rs hq l2) (hle:c.pre.bs.length<=c.post.bs.length)
 {g:Nat->Nat} (glo:∀ i,i<c.pre.bs.length->g i=gV σ i) (ghi:∀ i,c.pre.bs.length<=i->g i=nx+(i-c.pre.bs.length)) {h2:bd} (hh2:h2=zd g 0 (l2.map (lj (lw g))) (eB m h)) (hsr:sK h h2 g c.pre.bs.length=ah) {la:List AV} (hla:cF h l=aa la)
 (hexec:∀ (φ:PM) (E:Nat->Prop) (h':HF) (w:World) (a:Act),(∀ t,.tmp t∈o.op.operands->∀ y,fE e h t=aa y->cG φ (tot E φ h') w y (a.tmps.getD t undef))->qh φ E h' w->∃ us:List Value,(execOp a.eval o).run P w= .ok (.enter f us.toArray) w/\jI φ (tot E φ h') w la us):
 iY P o ai e h nx (Oa (j_ g rs)) (sm|||m) (sm|||m|||(((1<<<(c.post.bs.length-c.pre.bs.length))-1)<<<nx)) h2 (nx+(c.post.bs.length-c.pre.bs.length)):=by
 obtain⟨x1,m1,x2,m2,hx,hmm,gv,gb⟩:=M.ex;have hmr:dO h m:=by rw[hmm];exact (Gb _ _ _ _ gv).or (Gf _ _ _ _ gb)
 generalize hnp:c.pre.bs.length=np at*
 generalize hnq:c.post.bs.length=nq at*
 have pvg:pm (gV σ) c.pre.vs x1=aa (j_ (gV σ) vs):=by
  have U:=sw (gV σ) c.pre.vs x1;have h4:=I.pv;rw[hx,sh] at h4;rw[U,h4];rfl
 have pbg:nV (gV σ) c.pre.bs x2=aa (l1.map (lj (lw (gV σ)))):=by
  have U:=uR (gV σ) c.pre.bs x2;have h4:=I.pb;rw[hx,tU] at h4;rw[U,h4];rfl
 have hl1:∀ i,i<np->∃ b,l1[i]? =aa (aa b):=λi hi=>by
  have hi':i<l1.length:=by rw[I.len,hnp];exact hi
  obtain⟨b,hb⟩:=K2 c.pre.bs _ l1 hng I.pb i l1[i] (ay hi');exact⟨b,by rw[ay hi',hb]⟩
 have hbm:∀ i b,l1[i]? =aa (aa b)->∃ b0,h.get (gV σ i)=aa b0/\BM (gV σ) h m b0 (lw (gV σ) b):=λi b hb=>by
  obtain⟨b0,q1,Y⟩:=HP c.pre.bs 0 x2 m2 _ gb pbg i (lw (gV σ) b) (by rw[aZ,hb];rfl);rw[bJ] at q1;exact⟨b0,q1,Y.mono λj hj=>by rw[hmm,bl,hj];simp⟩
 have inj1:∀ a b,a<np->b<np->gV σ a=gV σ b->a=b:=λa b ha hb=>M.inj a b (by rw[hnp];exact ha) (by rw[hnp];exact hb)
 have sig:∀ q,aL sm q=ah↔∃ k,k<np/\gV σ k=q:=λq=>by rw[M.sig,hnp]
 have gnx:∀ i,i<np->gV σ i<nx:=λi hi=>by
  obtain⟨b,hb⟩:=hl1 i hi;obtain⟨b0,q1,_⟩:=hbm i b hb;exact hinv.low _ _ q1
 have hmS:∀ i,i<np->aL m (gV σ i)=ai:=λi hi=>by
  cases hx:aL m (gV σ i) with
  |false=>rfl
  |true=>have:=M.disj _ hx;rw[(sig _).2 ⟨i,hi,rfl⟩] at this;cases this
 have injg:∀ a b,a<nq->b<nq->g a=g b->a=b:=λa b ha hb hab=>by
  by_cases h1:a<np
  .by_cases h2:b<np
   .rw[glo a h1,glo b h2] at hab;exact inj1 a b h1 h2 hab
   .rw[glo a h1,ghi b (by omega)] at hab;have:=gnx a h1;omega
  .by_cases h2:b<np
   .rw[ghi a (by omega),glo b h2] at hab;have:=gnx b h2;omega
   .rw[ghi a (by omega),ghi b (by omega)] at hab;omega
 let hv:bd:=zd (gV σ) 0 (l1.map (lj (lw (gV σ)))) (eB m h)
 have hv_at:∀ i b,l1[i]? =aa (aa b)->hv.get (gV σ i)=aa (lw (gV σ) b):=λi b hb=>by
  have:=tY (gV σ) (l1.map (lj (lw (gV σ)))) 0 (eB m h) (λa b ha hb=>by
   simp only[bS,I.len,hnp] at ha hb;simp only[bJ];exact inj1 a b ha hb) i (aa (lw (gV σ) b)) (by rw[aZ,hb];rfl)
  rw[bJ] at this;exact this
 have hv_ne:∀ j,(∀ i,i<np->j≠gV σ i)->hv.get j=(eB m h).get j:=λj hj=>
  tX (gV σ) _ 0 _ j λk hk=>by
   simp only[bS,I.len,hnp] at hk;rw[bJ];exact hj k hk
 have rows_in:wO hv h:=λj r hr=>by
  rw[bP] at hr ⊢;by_cases hj:∃ i,i<np/\j=gV σ i
  .obtain⟨i,hi,rfl⟩:=hj;obtain⟨b,hb⟩:=hl1 i hi;obtain⟨b0,q1,Y⟩:=hbm i b hb;rw[hv_at i b hb] at hr;rw[q1];simp only[aF] at hr ⊢;rw[<- Y.row];exact hr
  .rw[hv_ne j (λi hi e=>hj ⟨i,hi,e⟩),iI] at hr;split at hr
   .rename_i ht;obtain⟨ty,p,T,xs,hb⟩:=hmr j ht;rw[hb] at hr ⊢;exact hr
   .exact hr
 have rows_hp:∀ i r,ec hp i=aa r->ec hv (gV σ i)=aa r:=λi r hr=>by
  rw[bP] at hr ⊢;cases hb:hp.get i with
  |none=>rw[hb] at hr;cases hr
  |some b=>
   rw[hb] at hr;rw[hv_at i b ((I.at_ i b).1 hb)];simp only[aF,GF] at hr ⊢;exact hr
 have dead_m:∀ i,aL m i=ah->bw hv (nm i)=af:=λi hi=>by
  rw[bE,hv_ne i (λk hk e=>by rw[e,hmS k hk] at hi;cases hi)];obtain⟨p,sz,n,hd⟩:=sG hmr hi;rw[hd];rfl
 have h2_at:∀ i cc,l2[i]? =aa cc->h2.get (g i)=(match cc with|some b=>aa (lw g b)|none=>((eB m h).get (g i)).map tZ):=λi cc hc=>by
  have:=tY g (l2.map (lj (lw g))) 0 (eB m h) (λa b ha hb=>by
   simp only[bS,J.len,hnq] at ha hb;simp only[bJ];exact injg a b ha hb) i (cc.map (lw g)) (by rw[aZ,hc];rfl)
  rw[bJ] at this;rw[hh2,this];cases cc<;>rfl
 have h2_ne:∀ j,(∀ i,i<nq->j≠g i)->h2.get j=(eB m h).get j:=λj hj=>by
  rw[hh2];refine tX g _ 0 _ j λk hk=>?_
  simp only[bS,J.len,hnq] at hk;rw[bJ];exact hj k hk
 have rows_hq:∀ i r,ec hq i=aa r->ec h2 (g i)=aa r:=λi r hr=>by
  rw[bP] at hr ⊢;cases hb:hq.get i with
  |none=>rw[hb] at hr;cases hr
  |some b=>
   rw[hb] at hr;rw[h2_at i _ ((J.at_ i b).1 hb)];simp only[aF,GF] at hr ⊢;exact hr
 have rows2:cq h h2:=λj r hr=>by
  by_cases hj:∃ i,i<np/\j=gV σ i
  .obtain⟨i,hi,rfl⟩:=hj;rw[<- glo i hi] at hr ⊢;exact Eb np hsr i hi r hr
  .have hjn:j<nx:=by
    rw[bP] at hr;cases hb:h.get j with
    |none=>rw[hb] at hr;cases hr
    |some b=>exact hinv.low j b hb
   have:=cq.kill m h j r hr;rw[bP] at this ⊢;rw[h2_ne j (λi hi e=>?_)]
   .exact this
   .by_cases hip:i<np
    .exact hj ⟨i,hip,by rw[e,glo i hip]⟩
    .rw[ghi i (by omega)] at e;omega
 obtain⟨lr,hlr⟩:=fo hq rs J.ok;obtain⟨lp,hlp⟩:=fo hp vs I.ok;have er2:∀ i b yb,hq.get i=aa b->kq hq b=aa yb->bw h2 (nm (g i))=aa (yb.ren (Gg g)):=λi b yb hb hyb=>by
  rw[bE,h2_at i _ ((J.at_ i b).1 hb)];exact B7 rows_hq hyb
 have er2':∀ i,i<nq->∀ z,bw h2 (nm (g i))=aa z->∃ b yb,hq.get i=aa b/\kq hq b=aa yb/\z=yb.ren (Gg g):=λi hi z Z=>by
  have hi':i<l2.length:=by rw[J.len,hnq];exact hi
  have hcc:=ay hi';cases hcv:l2[i] with
  |none=>
   rw[hcv] at hcc;rw[bE,h2_at i af hcc] at Z;simp only at Z;cases hkg:(eB m h).get (g i) with
   |none=>rw[hkg] at Z;cases Z
   |some b0=>rw[hkg] at Z;cases b0<;>simp[tZ,kq] at Z
  |some b=>
   rw[hcv] at hcc;have hb:=(J.at_ i b).2 hcc;rw[bE,h2_at i (aa b) hcc] at Z;have hyb:∃ yb,kq hq b=aa yb:=by
    cases b with
    |rows ty p T xs=>simp only[aF,lw,kq] at Z ⊢;exact⟨z,Z⟩
    |cells ty q=>
     obtain⟨q',hq'⟩:=fo hq q (J.cells i ty q hb).1;exact⟨_,by simp only[kq,hq'];rfl⟩
    |dead p sz n=>simp[lw,kq] at Z
    |mp K V es=>exact⟨_,rfl⟩
   obtain⟨yb,hyb⟩:=hyb;have:=B7 rows_hq hyb;simp only[aF] at Z;rw[this] at Z;exact⟨b,yb,hb,hyb,by cases Z;rfl⟩
 have dead2:∀ i,aL m i=ah->bw h2 (nm i)=af:=λi hi=>by
  have hlt:=hmr.lt hinv hi;rw[bE,h2_ne i (λk hk e=>?_)]
  .obtain⟨p,sz,n,hd⟩:=sG hmr hi;rw[hd];rfl
  .by_cases hkp:k<np
   .rw[e,glo k hkp,hmS k hkp] at hi;cases hi
   .rw[ghi k (by omega)] at e;omega
 have inv2:lJ h2 (nx+(nq-np)):=by
  refine ⟨λj ty q hj=>?_,λj b hj=>?_⟩
  .by_cases hjg:∃ i,i<nq/\j=g i
   .obtain⟨i,hi,rfl⟩:=hjg;have hi':i<l2.length:=by rw[J.len,hnq];exact hi
    have hcc:=ay hi';cases hcv:l2[i] with
    |none=>
     rw[hcv] at hcc;rw[h2_at i af hcc] at hj;simp only at hj;cases hkg:(eB m h).get (g i) with
     |none=>rw[hkg] at hj;cases hj
     |some b0=>rw[hkg] at hj;cases b0<;>simp[tZ] at hj
    |some b=>
     rw[hcv] at hcc;have hb:=(J.at_ i b).2 hcc;rw[h2_at i (aa b) hcc] at hj;simp only[aj] at hj;cases b with
     |cells ty' q'=>
      simp only[lw,hZ.cells.injEq] at hj;obtain⟨_,rfl⟩:=hj;obtain⟨z,Z⟩:=fo hq q' (J.cells i ty' q' hb).1;exact k9 _ _ _ (pM rows_hq q' z Z)
     |rows _ _ _ _=>simp[lw] at hj
     |dead _ _ _=>simp[lw] at hj
     |mp _ _ _=>simp[lw] at hj
   .rw[h2_ne j (λi hi e=>hjg ⟨i,hi,e⟩)] at hj;refine iE rows2 q ?_;have hkk:=(hinv.kill m).cells j ty q hj;rw[iI] at hj;split at hj
    .rename_i ht;obtain⟨_,_,_,_,hb⟩:=hmr j ht;rw[hb] at hj;cases hj
    .exact hinv.cells j ty q hj
  .by_cases hjg:∃ i,i<nq/\j=g i
   .obtain⟨i,hi,rfl⟩:=hjg;by_cases hip:i<np
    .rw[glo i hip];have:=gnx i hip;omega
    .rw[ghi i (by omega)];omega
   .rw[h2_ne j (λi hi e=>hjg ⟨i,hi,e⟩)] at hj;have:=(hinv.kill m).low j b hj;omega
 let S:List Nat:=(eg np).map λi=>nm (gV σ i)
 have memS:∀ n,n∈S↔∃ i,i<np/\n=nm (gV σ i):=λn=>by
  simp only[S,dc,mS];exact⟨λ⟨i,h1,h2⟩=>⟨i,h1,h2.symm⟩,λ⟨i,h1,h2⟩=>⟨i,h1,h2.symm⟩⟩
 let NN:List Nat:=(eg (nq-np)).map λt=>nm (nx+t)
 have memN:∀ n,n∈NN↔∃ t,t<nq-np/\n=nm (nx+t):=λn=>by
  simp only[NN,dc,mS];exact⟨λ⟨i,h1,h2⟩=>⟨i,h1,h2.symm⟩,λ⟨i,h1,h2⟩=>⟨i,h1,h2.symm⟩⟩
 have memW:∀ n,n∈S++Ei m++NN↔(∃ i,i<nq/\n=nm (g i))\/n∈Ei m:=λn=>by
  rw[bR,bR,memS,memN];constructor
  .rintro ((⟨i,hi,rfl⟩|hn)|⟨t,ht,rfl⟩)
   .exact .inl ⟨i,by omega,by rw[glo i hi]⟩
   .exact .inr hn
   .exact .inl ⟨np+t,by omega,by rw[ghi _ (by omega),show np+t-np=t from by omega]⟩
  .rintro (⟨i,hi,rfl⟩|hn)
   .by_cases hip:i<np
    .exact .inl (.inl ⟨i,hip,by rw[glo i hip]⟩)
    .exact .inr ⟨i-np,by omega,by rw[ghi i (by omega)]⟩
   .exact .inl (.inr hn)
 have hOpT:gz P o (fE e h) (bw h) ⟨C2 (AV.renL (Gg g) lr),S++Ei m,S++Ei m++NN,bw h2,NN⟩:=by
  intro φ E h' w a hrd hwr hops hrep hN;have hS':∀ i,i<np->h' (nm (gV σ i))=bw h (nm (gV σ i)):=λi hi=>hrd _ (kJ _ ((memS _).2 ⟨i,hi,rfl⟩))
  have hM':∀ i,aL m i=ah->h' (nm i)=bw h (nm i):=λi hi=>hrd _ (mW _ (kT.2 hi))
  obtain⟨us,hrun,hrel⟩:=hexec φ E h' w a hops hrep
  let Hv:HF:=λn=>if n∈S++Ei m then bw hv n else h' n
  have Hv_in:∀ n,n∈S++Ei m->Hv n=bw hv n:=λn hn=>by simp only[Hv,hn,bC]
  have Hv_out:∀ n,n∉S++Ei m->Hv n=h' n:=λn hn=>by simp only[Hv,hn,dR]
  have blkS:∀ i,i<np->∀ z,bw hv (nm (gV σ i))=aa z->∃ b0 b y0,h.get (gV σ i)=aa b0/\l1[i]? =aa (aa b)/\BM (gV σ) h m b0 (lw (gV σ) b)/\kq h b0=aa y0/\kq hv (lw (gV σ) b)=aa z:=λi hi z Z=>by
   obtain⟨b,hb⟩:=hl1 i hi;obtain⟨b0,q1,Y⟩:=hbm i b hb;rw[bE,hv_at i b hb] at Z;simp only[aF] at Z;obtain⟨y0,hy0⟩:=BM.erB_some hinv q1 Y Z;exact⟨b0,b,y0,q1,hb,Y,hy0,Z⟩
  have hd:uk h' Hv:=λn b hb=>by
   by_cases hn:n∈S++Ei m
   .rw[Hv_in n hn] at hb;rcases bR.1 hn with hs|hs
    .obtain⟨i,hi,rfl⟩:=(memS n).1 hs;obtain⟨b0,b1,y0,q1,Y,q3,q4,q5⟩:=blkS i hi b hb;exact⟨y0,by rw[hS' i hi,bE,q1];exact q4⟩
    .obtain⟨i,rfl,hi⟩:=nh.1 hs;rw[dead_m i hi] at hb;cases hb
   .rw[Hv_out n hn] at hb;exact⟨b,hb⟩
  have gvv:CZ h h' Hv m:=λi hi=>⟨hM' i hi,by rw[Hv_in _ (mW _ (kT.2 hi)),dead_m i hi]⟩
  have V:Je h' Hv:=⟨hd,λn b b' hb hb'=>by
   by_cases hn:n∈S++Ei m
   .rw[Hv_in n hn] at hb';rcases bR.1 hn with hs|hs
    .obtain⟨i,hi,rfl⟩:=(memS n).1 hs;obtain⟨b0,b1,y0,q1,Y,q3,q4,q5⟩:=blkS i hi b' hb';rw[hS' i hi,bE,q1] at hb;simp only[aF] at hb;exact BM.view hd gvv rows_in q3 hb q5
    .obtain⟨i,rfl,hi⟩:=nh.1 hs;rw[dead_m i hi] at hb';cases hb'
   .rw[Hv_out n hn,hb] at hb';cases hb';exact jV.refl hd b⟩
  have hrepv:=V.rep hrep;have hlpg:cF hv (j_ (gV σ) vs)=aa (AV.renL (Gg (gV σ)) lp):=pM rows_hp vs lp hlp;have hrel1:jI φ (tot E φ Hv) w (AV.renL (Gg (gV σ)) lp) us:=
   jI.le hrep (B2 hd rows_in c.pre.vs l x1 m1 _ la _ gv pvg hla hlpg (λi hi=>gvv i (by rw[hmm,bl,hi];rfl))) hrel
  let E':Nat->Prop:=λk=>E k\/∃ n b,Hv n=aa b/\n∉S/\φ n=aa k
  have T:abt c.pre x vs hp (gV σ) φ E E' Hv w:=by
   refine qh.toId I (λa b ha hb=>inj1 a b (by rw[<- hnp];exact ha) (by rw[<- hnp];exact hb)) hrepv (λi b yb hb hyb=>?_) ?_ ?_ ?_
   .have hi:=I.lt_len hb;rw[hnp] at hi;rw[Hv_in _ (kJ _ ((memS _).2 ⟨i,hi,rfl⟩)),bE,hv_at i b ((I.at_ i b).1 hb)];exact B7 rows_hp hyb
   .rintro k (hE|⟨n,b,h1,_,U⟩)
    .exact .inl hE
    .exact .inr ⟨n,b,h1,U⟩
   .rintro i k b hi h1 U (hE|⟨n,b',h4,h5,h6⟩)
    .obtain⟨k',p1,p2,_⟩:=hrepv.at_ _ _ h1;rw[U] at p1;cases p1;exact p2 hE
    .have:=hrepv.inj _ _ _ _ k h1 h4 U h6;exact h5 (by rw[<- this];exact (memS _).2 ⟨i,by rw[<- hnp];exact hi,rfl⟩)
   .rintro k (hE|⟨n,b,h1,_,U⟩)
    .exact hrepv.el k hE
    .obtain⟨k',q1,_,ob,q3,_⟩:=hrepv.at_ n b h1;rw[U] at q1;cases q1;exact (cu.1 q3).1
  have hcalls:=sp.calls x y hm vs hp l1 rs hq l2 lp lr I J hlp hlr (φ1 c.pre.bs.length (gV σ) φ) E' w us T.rep (jI.toId T.val (sa vs lp I.lt hlp) hrel1) (λn k hk=>by
   obtain⟨i,hi,rfl,_⟩:=vR hk;rw[dW];exact hi)
  unfold F0;rw[hrun];refine Calls.mono hcalls ?_;rintro en w' ⟨v,φc',rfl,hext,hown,hnm,rp,rv'⟩
  let isN:Nat->Prop:=λn=>n∈NN
  let φ':PM:=λn=>if n∈NN then φc' (nm (np+(ow n-nx))) else φ n
  have φ'_new:∀ t,t<nq-np->φ' (nm (nx+t))=φc' (nm (np+t)):=λt ht=>by
   have:nm (nx+t)∈NN:=(memN _).2 ⟨t,ht,rfl⟩;simp only[φ',this,bC,dW];rw[show nx+t-nx=t from by omega]
  have φ'_old:∀ n,n∉NN->φ' n=φ n:=λn hn=>by simp only[φ',hn,dR]
  have loN:∀ i,i<nx->nm i∉NN:=λi hi hn=>by
   obtain⟨t,_,e⟩:=(memN _).1 hn;have:=kw e;omega
  have φ'_g:∀ i,i<nq->φ' (nm (g i))=φc' (nm i):=λi hi=>by
   by_cases hip:i<np
   .rw[glo i hip,φ'_old _ (loN _ (gnx i hip)),hnm i (by rw[hnp];exact hip),Xw (by rw[hnp];exact hip)]
   .rw[ghi i (by omega),φ'_new _ (by omega),show np+(i-np)=i from by omega]
  have hsub:∀ n k,φ n=aa k->φ' n=aa k:=λn k hk=>by
   by_cases hn:n∈NN
   .rw[hN n hn] at hk;cases hk
   .rw[φ'_old n hn];exact hk
  let F:HF:=eJ h' (S++Ei m++NN) (bw h2)
  have F_g:∀ i,i<nq->F (nm (g i))=bw h2 (nm (g i)):=λi hi=>by
   simp only[F,eJ,(memW _).2 (.inl ⟨i,hi,rfl⟩),bC]
  have F_out:∀ n,n∉S++Ei m++NN->F n=h' n:=λn hn=>by simp only[F,eJ,hn,dR]
  have from_:∀ n b,F n=aa b->(∃ i bq yb,i<nq/\n=nm (g i)/\hq.get i=aa bq/\kq hq bq=aa yb/\b=yb.ren (Gg g))\/(h' n=aa b/\Hv n=aa b/\n∉S/\n∉NN/\φ' n=φ n):=λn b hb=>by
   by_cases hn:n∈S++Ei m++NN
   .rcases (memW n).1 hn with ⟨i,hi,rfl⟩|hs
    .rw[F_g i hi] at hb;obtain⟨bq,yb,q1,Y,q3⟩:=er2' i hi b hb;exact .inl ⟨i,bq,yb,hi,rfl,q1,Y,q3⟩
    .obtain⟨i,rfl,hi⟩:=nh.1 hs;have:F (nm i)=bw h2 (nm i):=by simp only[F,eJ,hn,bC]
     rw[this,dead2 i hi] at hb;cases hb
   .rw[F_out n hn] at hb;have h1:n∉S++Ei m:=λhh=>hn (kJ _ hh)
    have U:n∉NN:=λhh=>hn (mW _ hh)
    exact .inr ⟨hb,by rw[Hv_out n h1];exact hb,λhh=>h1 (kJ _ hh),U,φ'_old n U⟩
  have own':∀ k,own φ' F k->own φc' (bw hq) k\/∃ n b,Hv n=aa b/\n∉S/\φ n=aa k:=by
   rintro k ⟨n,b,h1,U⟩;rcases from_ n b h1 with ⟨i,bq,yb,hi,rfl,q1,Y,_⟩|⟨_,Y,q3,_,q5⟩
   .rw[φ'_g i hi] at U;exact .inl ⟨nm i,yb,by rw[bE,q1];exact Y,U⟩
   .exact .inr ⟨n,b,Y,q3,by rw[<- q5];exact U⟩
  have mv:iK φ φ' h' F w w':=by
   refine ⟨hsub,hext.mono λk hk=>hd.own (T.own_ k hk),λk hk ho=>?_⟩;rcases own' k ho with h1|⟨n,b,h1,_,U⟩
   .exact hd.own (T.own_ k (hown k hk h1))
   .exact hd.own ⟨n,b,h1,U⟩
  have tot':∀ k,tot E φ' F k->tot E' φc' (bw hq) k:=by
   rintro k (h1|h1)
   .exact .inl (.inl h1)
   .rcases own' k h1 with U|U
    .exact .inr U
    .exact .inl (.inr U)
  let φr:PM:=λn=>if Un nq n then φc' n else af
  have rel_r:∀ x v,x.all (Un nq)=ah->cG φc' (tot E' φc' (bw hq)) w' x v->cG φr (tot E φ' F) w' x v:=λx v hx hr=>
   hr.restrict (λi k hi hk=>by simp only[φr,hi,bC];exact hk) tot' hx
  have rel_g:∀ x v,cG φr (tot E φ' F) w' x v->cG φ' (tot E φ' F) w' (x.ren (Gg g)) v:=λx v hr=>
   hr.renTo λn k hk=>by
    simp only[φr] at hk;split at hk
    .rename_i hpn;obtain⟨i,hi,rfl⟩:=XZ hpn;rw[wA,φ'_g i hi];exact hk
    .cases hk
  have hnqJ:=hnq;refine ⟨v,φ',rfl,mv,λn k hk=>?_,?_,?_⟩
  .by_cases hn:n∈NN
   .exact .inr hn
   .rw[φ'_old n hn] at hk;exact .inl hk
  .refine ⟨λn n' b b' k h1 U h4 h5=>?_,λn b h1=>?_,λk hk=>dl (hrep.el k hk) mv.ext.size,λg' cells hg=>mv.keepF (hrep.gl g' cells hg)⟩
   .rcases from_ n b h1 with ⟨i,bq,yb,hi,rfl,q1,Y,_⟩|⟨q1,Y,q3,_,q5⟩
    .rw[φ'_g i hi] at h4;have hqi:bw hq (nm i)=aa yb:=by rw[bE,q1];exact Y
     rcases from_ n' b' U with ⟨j,bj,yj,hj,rfl,t1,t2,_⟩|⟨t1,t2,t3,_,t5⟩
     .rw[φ'_g j hj] at h5;have:=rp.inj _ _ _ _ k hqi (by rw[bE,t1];exact t2) h4 h5;rw[kw this]
     .exfalso;obtain⟨k',p1,p2,_⟩:=rp.at_ _ _ hqi;rw[h4] at p1;cases p1;exact p2 (.inr ⟨n',b',t2,t3,by rw[<- t5];exact h5⟩)
    .rcases from_ n' b' U with ⟨j,bj,yj,hj,rfl,t1,t2,_⟩|⟨t1,t2,t3,_,t5⟩
     .exfalso;rw[φ'_g j hj] at h5;have hqj:bw hq (nm j)=aa yj:=by rw[bE,t1];exact t2
      obtain⟨k',p1,p2,_⟩:=rp.at_ _ _ hqj;rw[h5] at p1;cases p1;exact p2 (.inr ⟨n,b,Y,q3,by rw[<- q5];exact h4⟩)
     .exact hrep.inj n n' b b' k q1 t1 (by rw[<- q5];exact h4) (by rw[<- t5];exact h5)
   .rcases from_ n b h1 with ⟨i,bq,yb,hi,rfl,q1,Y,rfl⟩|⟨q1,Y,q3,_,q5⟩
    .have hqi:bw hq (nm i)=aa yb:=by rw[bE,q1];exact Y
     obtain⟨k,p1,p2,ob,p3,p4⟩:=rp.at_ _ _ hqi;have hall:=J.blk_all q1 Y;rw[hnq] at hall;exact⟨k,by rw[φ'_g i hi];exact p1,λhE=>p2 (.inl hE),ob,p3,(p4.restrict rel_r hall).renTo rel_g⟩
    .obtain⟨k,p1,p2,ob,p3,p4⟩:=hrep.at_ n b q1;have hk:k<w.heap.size:=(cu.1 p3).1;refine ⟨k,hsub n k p1,p2,ob,?_,p4.mono λx v hr=>mv.keep hr⟩;rw[hext.blk k hk ?_]
     .exact p3
     .rintro⟨n',y',t1,t2⟩;obtain⟨i,hi,rfl,t3⟩:=vR t2;obtain⟨j,bb,e,t4,t5⟩:=jf t1;have:=kw e;subst this;have hi':i<np:=by rw[<- hnp];exact hi
      have hvi:Hv (nm (gV σ i))=aa (y'.ren (Gg (gV σ))):=by
       rw[Hv_in _ (kJ _ ((memS _).2 ⟨i,hi',rfl⟩)),bE,hv_at i bb ((I.at_ i bb).1 t4)];exact B7 rows_hp t5
      have:=hrepv.inj _ _ _ _ k hvi Y t3 p1;exact q3 (by rw[<- this];exact (memS _).2 ⟨i,hi',rfl⟩)
  .have hall:(C2 lr).all (Un nq)=ah:=XG (by have:=sa rs lr J.lt hlr;rwa [hnq] at this);show cG φ' (tot E φ' F) w' (C2 (AV.renL (Gg g) lr)) v;rw[XF];exact rel_g _ _ (rel_r _ _ hall rv')
 have hrsg:cF h2 (j_ g rs)=aa (AV.renL (Gg g) lr):=pM rows_hq rs lr hlr;refine ⟨⟨_,hOpT,λz Z=>?_,?_,λn hn=>?_,λn hn=>?_,λn hn=>?_⟩,rows2,inv2,by omega,λhs=>by cases hs⟩
 .rw[Uk hrsg] at Z;cases Z;rfl
 .funext n;unfold eJ;split
  .rfl
  .rename_i hn;refine (ko hinv rows2 λi e=>?_).symm;subst e;rw[h2_ne i (λk hk e=>hn ((memW _).2 (.inl ⟨k,hk,by rw[e]⟩))),iI,aC];intro hb;exact hn ((memW _).2 (.inr (kT.2 hb)))
 .rw[bl];rcases bR.1 hn with hs|hs
  .obtain⟨i,hi,rfl⟩:=(memS n).1 hs;rw[dW,(sig _).2 ⟨i,hi,rfl⟩];rfl
  .obtain⟨i,rfl,hi⟩:=nh.1 hs;rw[dW,hi];simp
 .rw[bl,bl];rcases bR.1 hn with hs|hs
  .rcases bR.1 hs with hs|hs
   .obtain⟨i,hi,rfl⟩:=(memS n).1 hs;rw[dW,(sig _).2 ⟨i,hi,rfl⟩];rfl
   .obtain⟨i,rfl,hi⟩:=nh.1 hs;rw[dW,hi];simp
  .obtain⟨t,ht,rfl⟩:=(memN n).1 hs;rw[dW,aa9.2 ⟨by omega,by omega⟩];simp
 .obtain⟨t,ht,rfl⟩:=(memN n).1 hn;rw[dW];omega
mutual
def FV.fl:FV->Bool
 |.raw _=>ah
 |.agg l=>FV.flL l
 |.sl _ _=>ai
 |.ptr _ _=>ai
def FV.flL:List FV->Bool
 |[]=>ah
 |x::r=>x.fl&&FV.flL r
end
theorem UM:∀ {l:List FV},FV.flL l=ah->∀ x∈l,x.fl=ah
 |[],_,x,I=>by cases I
 |y::l,h,x,I=>by
  simp only[FV.flL,au] at h;rcases bh.1 I with rfl|I
  .exact h.1
  .exact UM h.2 x I
theorem YI:∀ {l:List FV},(∀ x∈l,x.fl=ah)->FV.flL l=ah
 |[],_=>rfl
 |y::l,h=>by simp only[FV.flL,au];exact⟨h y (by simp),YI λx I=>h x (by simp[I])⟩
theorem mR.flat {O O':Nat->Prop} {w w':World} {x:FV} {v:Value} (h:mR O w x v):x.fl=ah->mR O' w' x v:=by
 induction h with
 |raw v=>intro _;exact .raw v
 |nil a c hc=>intro h;cases h
 |sl cells n c b off us hn hc hO hb hcl hu hr I=>intro h;cases h
 |ptr cells o b off us hO hb hcl hu hr I=>intro h;cases h
 |agg cells vs hl hcl hr I=>intro h;exact .agg cells vs hl hcl λj x v J hv=>I j x v J hv (UM h x (a8 J))
mutual
def AV.fl:AV->Bool
 |.f x=>x.fl
 |.emp=>ah
 |.anyb=>ah
 |.agg l=>AV.flL l
 |.tup l=>AV.flL l
 |.ptr _ _=>ai
 |.sl _ _ _=>ai
 |.row _ _ _=>ai
 |.mp _=>ai
 |.clo _ _=>ai
def AV.flL:List AV->Bool
 |[]=>ah
 |x::r=>x.fl&&AV.flL r
end
theorem Jd:∀ {l:List AV},AV.flL l=ah->∀ x∈l,x.fl=ah
 |[],_,x,I=>by cases I
 |y::l,h,x,I=>by
  simp only[AV.flL,au] at h;rcases bh.1 I with rfl|I
  .exact h.1
  .exact Jd h.2 x I
theorem U':∀ {l:List AV},(∀ x∈l,x.fl=ah)->AV.flL l=ah
 |[],_=>rfl
 |y::l,h=>by simp only[AV.flL,au];exact⟨h y (by simp),U' λx I=>h x (by simp[I])⟩
theorem cG.flat {φ φ':PM} {O O':Nat->Prop} {w w':World} {x:AV} {v:Value} (h:cG φ O w x v):x.fl=ah->cG φ' O' w' x v:=by
 induction h with
 |f h=>intro hf;exact .f (h.flat hf)
 |ptr h=>intro hf;cases hf
 |sl h hn hc=>intro hf;cases hf
 |row h hn hc hsh=>intro hf;cases hf
 |emp=>intro _;exact .emp
 |anyb=>intro _;exact .anyb
 |mp h=>intro hf;cases hf
 |agg hl hcl hr J=>intro hf;exact .agg hl hcl λj x v I hv=>J j x v I hv (Jd hf x (a8 I))
 |tup hl hr J=>intro hf;exact .tup hl λj x v I hv=>J j x v I hv (Jd hf x (a8 I))
 |clo hl hr J=>intro hf;cases hf
mutual
theorem aed (γ:Nat->Nat):∀ x:AV,x.fl=ah->x.ren γ=x
 |.f x,_=>rfl
 |.emp,_=>rfl
 |.anyb,_=>rfl
 |.agg l,h=>by simp only[AV.ren];rw[Gi γ l h]
 |.tup l,h=>by simp only[AV.ren];rw[Gi γ l h]
 |.ptr _ _,h=>by cases h
 |.sl _ _ _,h=>by cases h
 |.row _ _ _,h=>by cases h
 |.mp _,h=>by cases h
 |.clo _ _,h=>by cases h
theorem Gi (γ:Nat->Nat):∀ l:List AV,AV.flL l=ah->AV.renL γ l=l
 |[],_=>rfl
 |x::r,h=>by
  simp only[AV.flL,au] at h;rw[AV.renL,aed γ x h.1,Gi γ r h.2]
end
theorem yR:∀ (T:Ty),T.flat=ah->∀ x:T.den,∀ y∈bN T x,y.fl=ah
 |.int _,_,x,y,I=>by simp only[bN,aK] at I;subst I;rfl
 |.bool,_,x,y,I=>by simp only[bN,aK] at I;subst I;rfl
 |.str,_,x,y,I=>by simp only[bN,aK] at I;subst I;rfl
 |.sl _,h,x,y,I=>by cases h
 |.st t,h,x,y,I=>yR t h x y I
 |.pr a b,h,x,y,I=>by
  simp only[Ty.flat,au] at h;simp only[bN,bR] at I;exact I.elim (yR a h.1 x.1 y) (yR b h.2 x.2 y)
 |.un,_,x,y,I=>by simp[bN] at I
 |.ex,h,_,_,_=>by cases h
 |.sm,h,_,_,_=>by cases h
theorem aaz (T:Ty) (h:T.flat=ah) (x:T.den):(gy T x).fl=ah:=by
 cases I:T.one with
 |true=>
  have:=yR T h x (gy T x) (by rw[(B_ T x I).1];simp);exact this
 |false=>rw[pN T x I];exact YI (yR T h x)
theorem N0 (a b:Ty):(Z6 a b).flat=(a.flat&&b.flat):=by
 cases a<;>cases b<;>simp[Z6,Fl,Ty.flat]
theorem Hc {n:Nat}:∀ {a b:List TV},qB n (a++b)=ah->qB n a=ah/\qB n b=ah
 |[],b,h=>⟨rfl,h⟩
 |x::r,b,h=>by
  simp only[fZ,qB,au] at h ⊢;obtain⟨h1,h2⟩:=Hc h.2;exact⟨⟨h.1,h1⟩,h2⟩
mutual
theorem aa0 {g:Nat->Nat} {h:bd}:∀ (p:PV) (x:p.ty.den) (cs:List TV) (l:List AV),p.ty.flat=ah->pf g p x=aa cs->qB 0 cs=ah->cF h cs=aa l->∀ y∈l,y.fl=ah
 |.d T,x,cs,l,hf,hp,_,hl,y,hy=>by
  have:=(k_ h 40 T x cs hp).1;rw[hl] at this;cases this;obtain⟨q,hq,rfl⟩:=dc.1 hy;exact yR T hf x q hq
 |.ptr i q,x,cs,l,hf,hp,hlt,hl,y,hy=>by
  simp only[pf,aj] at hp;subst hp;simp[qB,JO] at hlt
 |.csl i q z,x,cs,l,hf,hp,hlt,hl,y,hy=>by
  simp only[pf,aj] at hp;subst hp;simp[qB,JO] at hlt
 |.clo q i z,x,cs,l,hf,hp,hlt,hl,y,hy=>by
  simp only[pf,aj] at hp;subst hp;simp[qB,JO] at hlt
 |.row i,x,cs,l,hf,hp,hlt,hl,y,hy=>by
  simp only[pf,aj] at hp;subst hp;simp[qB,JO] at hlt
 |.mp i,x,cs,l,hf,hp,hlt,hl,y,hy=>by
  simp only[pf,aj] at hp;subst hp;simp[qB,JO] at hlt
 |.nil,x,cs,l,hf,hp,hlt,hl,y,hy=>by
  simp only[pf,aj] at hp;subst hp;simp only[cF,cg,aj] at hl;subst hl;simp only[aK] at hy;subst hy;rfl
 |.emp,x,cs,l,hf,hp,hlt,hl,y,hy=>by
  simp only[pf,aj] at hp;subst hp;simp only[cF,cg,aj] at hl;subst hl;simp only[aK] at hy;subst hy;rfl
 |.agg ps,x,cs,l,hf,hp,hlt,hl,y,hy=>GU ps x cs l hf hp hlt hl y hy
theorem GU {g:Nat->Nat} {h:bd}:∀ (ps:List PV) (x:(PV.tyL ps).den) (cs:List TV) (l:List AV),(PV.tyL ps).flat=ah->qe g ps x=aa cs->qB 0 cs=ah->cF h cs=aa l->∀ y∈l,y.fl=ah
 |[],x,cs,l,hf,hp,hlt,hl,y,hy=>by
  simp only[qe,aj] at hp;subst hp;simp only[cF,aj] at hl;subst hl;cases hy
 |p::ps,x,cs,l,hf,hp,hlt,hl,y,hy=>by
  simp only[PV.tyL] at hf;rw[N0,au] at hf;simp only[qe] at hp;split at hp
  .rename_i a ha;split at hp
   .rename_i b hb;simp only[aj] at hp;subst hp;obtain⟨a',b',rfl,e1,e2⟩:=AJ hl;have hsp:=Hc hlt;rcases bR.1 hy with hy|hy
    .exact aa0 p _ a a' hf.1 ha hsp.1 e1 y hy
    .exact GU ps _ b b' hf.2 hb hsp.2 e2 y hy
   .cases hp
  .cases hp
end
theorem Z_ {g:Nat->Nat} {h:bd} {p:PV} {x:p.ty.den} {u:TV} {y:AV} (hf:p.ty.flat=ah) (hp:r7 g p x=aa u) (hlt:JO 0 u=ah) (I:cg h u=aa y):y.fl=ah:=by
 cases p with
 |d T=>
  simp only[r7,aj] at hp;subst hp;simp only[cg,aj] at I;subst I;exact aaz T hf x
 |agg ps=>
  simp only[r7] at hp;split at hp
  .rename_i l hl;simp only[aj] at hp;subst hp;simp only[cg] at I;split at I
   .rename_i M J;simp only[aj] at I;subst I;exact U' (GU ps _ l M hf hl hlt J)
   .cases I
  .cases hp
 |ptr i q=>simp only[r7,aj] at hp;subst hp;simp[JO] at hlt
 |csl i q z=>simp only[r7,aj] at hp;subst hp;simp[JO] at hlt
 |row i=>simp only[r7,aj] at hp;subst hp;simp[JO] at hlt
 |clo q i z=>simp only[r7,aj] at hp;subst hp;simp[JO,qB] at hlt
 |mp i=>simp only[r7,aj] at hp;subst hp;simp[JO] at hlt
 |nil=>simp only[r7,aj] at hp;subst hp;simp only[cg,aj] at I;subst I;rfl
 |emp=>simp only[r7,aj] at hp;subst hp;simp only[cg,aj] at I;subst I;rfl
theorem Of {g:Nat->Nat} {h:bd}:∀ (ps:List PV) (x:(PV.tyL ps).den) (us:List TV) (l:List AV),(PV.tyL ps).flat=ah->pm g ps x=aa us->qB 0 us=ah->cF h us=aa l->AV.flL l=ah
 |[],x,us,l,hf,hp,hlt,hl=>by
  simp only[pm,aj] at hp;subst hp;simp only[cF,aj] at hl;subst hl;rfl
 |p::ps,x,us,l,hf,hp,hlt,hl=>by
  simp only[PV.tyL] at hf;rw[N0,au] at hf;simp only[pm] at hp;split at hp
  .rename_i a I;split at hp
   .rename_i b hb;simp only[aj] at hp;subst hp;obtain⟨y,l2,rfl,e1,e2⟩:=cO hl;simp only[qB,au] at hlt;simp only[AV.flL,au];exact⟨Z_ hf.1 I hlt.1 e1,Of ps _ b l2 hf.2 hb hlt.2 e2⟩
   .cases hp
  .cases hp
theorem Z3:∀ {l:List AV},AV.flL l=ah->(C2 l).fl=ah
 |[],_=>rfl
 |[x],h=>by simp only[AV.flL,au] at h;exact h.1
 |x::y::r,h=>h
theorem abe {P:Program} {o:Oper} {e:iw} {h:bd} {nx:Nat} {f:FuncId} {c:ch} {l:List TV} (hinv:lJ h nx) (sp:pd P f c) {x:c.pre.ty.den} {m:Nat} {σ:PT Nat} {sm:Nat} (M:Gp 0 c.pre l h x m σ sm) {vs:List TV} {hp:bd} {l1:List (Option hZ)} (I:pU c.pre x vs hp l1) {y:c.post.ty.den} (hm:c.m x=aa y) {rs:List TV} {hq:bd} {l2:List (Option hZ)} (J:pU c.post y rs hq l2) (hp0:c.pre.bs.length=0) (hq0:c.post.bs.length=0) (hfl:(PV.tyL c.post.vs).flat=ah)
 (g:Nat->Nat) {la:List AV} (hla:cF h l=aa la)
 (hexec:∀ (φ:PM) (E:Nat->Prop) (h':HF) (w:World) (a:Act),(∀ t,.tmp t∈o.op.operands->∀ y,fE e h t=aa y->cG φ (tot E φ h') w y (a.tmps.getD t undef))->qh φ E h' w->∃ us:List Value,(execOp a.eval o).run P w= .ok (.enter f us.toArray) w/\jI φ (tot E φ h') w la us):
 iY P o ai e h nx (Oa (j_ g rs)) m 0 h nx:=by
 obtain⟨x1,m1,x2,m2,hx,hmm,gv,gb⟩:=M.ex;have hmr:dO h m:=by rw[hmm];exact (Gb _ _ _ _ gv).or (Gf _ _ _ _ gb)
 have pvg:pm (gV σ) c.pre.vs x1=aa (j_ (gV σ) vs):=by
  have U:=sw (gV σ) c.pre.vs x1;have h4:=I.pv;rw[hx,sh] at h4;rw[U,h4];rfl
 obtain⟨lr,hlr⟩:=fo hq rs J.ok;obtain⟨Z,hlp⟩:=fo hp vs I.ok;have hfl':AV.flL lr=ah:=Of c.post.vs _ rs lr hfl J.pv (by rw[<- hq0];exact J.lt) hlr;have hpe:∀ i,hp.get i=af:=λi=>by
  cases hb:hp.get i with
  |none=>rfl
  |some b=>have:=I.lt_len hb;omega
 have hqe:∀ i,hq.get i=af:=λi=>by
  cases hb:hq.get i with
  |none=>rfl
  |some b=>have:=J.lt_len hb;omega
 have rows_hp:∀ i r,ec hp i=aa r->ec (eB m h) (gV σ i)=aa r:=λi r hr=>by rw[bP,hpe] at hr;cases hr
 have rows_hq:∀ i r,ec hq i=aa r->ec h (g i)=aa r:=λi r hr=>by rw[bP,hqe] at hr;cases hr
 have rows_in:wO (eB m h) h:=λj r hr=>by
  rw[bP] at hr ⊢;rw[iI] at hr;split at hr
  .rename_i ht;obtain⟨ty,p,T,xs,hb⟩:=hmr j ht;rw[hb] at hr ⊢;exact hr
  .exact hr
 have hOpT:gz P o (fE e h) (bw h) ⟨C2 lr,Ei m,[],λ_=>af,[]⟩:=by
  intro φ E h' w a hrd hwr hops hrep hN;obtain⟨us,hrun,hrel⟩:=hexec φ E h' w a hops hrep
  let Hv:HF:=λn=>if n∈Ei m then af else h' n
  have Hv_in:∀ n,n∈Ei m->Hv n=af:=λn hn=>by simp only[Hv,hn,bC]
  have Hv_out:∀ n,n∉Ei m->Hv n=h' n:=λn hn=>by simp only[Hv,hn,dR]
  have hd:uk h' Hv:=λn b hb=>by
   by_cases hn:n∈Ei m
   .rw[Hv_in n hn] at hb;cases hb
   .rw[Hv_out n hn] at hb;exact⟨b,hb⟩
  have gvv:CZ h h' Hv m:=λi hi=>⟨hrd _ (kT.2 hi),Hv_in _ (kT.2 hi)⟩
  have V:Je h' Hv:=⟨hd,λn b b' hb Y=>by
   by_cases hn:n∈Ei m
   .rw[Hv_in n hn] at Y;cases Y
   .rw[Hv_out n hn,hb] at Y;cases Y;exact jV.refl hd b⟩
  have hrepv:=V.rep hrep;have hlpg:cF (eB m h) (j_ (gV σ) vs)=aa (AV.renL (Gg (gV σ)) Z):=pM rows_hp vs Z hlp;have hrel1:jI φ (tot E φ Hv) w (AV.renL (Gg (gV σ)) Z) us:=
   jI.le hrep (B2 hd rows_in c.pre.vs l x1 m1 _ la _ gv pvg hla hlpg (λi hi=>gvv i (by rw[hmm,bl,hi];rfl))) hrel
  let E':Nat->Prop:=λk=>E k\/∃ n b,Hv n=aa b/\φ n=aa k
  have T:abt c.pre x vs hp (gV σ) φ E E' Hv w:=by
   refine qh.toId I (λa b ha=>by omega) hrepv (λi b yb hb=>by rw[hpe] at hb;cases hb) ?_ (λi k b hi=>by omega) ?_
   .rintro k (hE|⟨n,b,h1,U⟩)
    .exact .inl hE
    .exact .inr ⟨n,b,h1,U⟩
   .rintro k (hE|⟨n,b,h1,U⟩)
    .exact hrepv.el k hE
    .obtain⟨k',q1,_,ob,q3,_⟩:=hrepv.at_ n b h1;rw[U] at q1;cases q1;exact (cu.1 q3).1
  have hcalls:=sp.calls x y hm vs hp l1 rs hq l2 Z lr I J hlp hlr (φ1 c.pre.bs.length (gV σ) φ) E' w us T.rep (jI.toId T.val (sa vs Z I.lt hlp) hrel1) (λn k hk=>by
   obtain⟨i,hi,rfl,_⟩:=vR hk;rw[dW];exact hi)
  unfold F0;rw[hrun];refine Calls.mono hcalls ?_;rintro en w' ⟨v,φc',rfl,hext,hown,hnm,rp,rv'⟩;have hno:∀ k,¬own (φ1 c.pre.bs.length (gV σ) φ) (bw hp) k:=by
   rintro k ⟨n,b,h1,_⟩;obtain⟨i,bb,_,U,_⟩:=jf h1;rw[hpe] at U;cases U
  have mv:iK φ φ h' h' w w':=⟨λ_ _ h=>h,hext.mono λk hk=>cW hk (hno k),λ_ _ h=>h⟩
  refine ⟨v,φ,rfl,?_,λ_ _ h=>.inl h,?_,?_⟩
  .rw[sJ];exact mv
  .rw[sJ];refine hrep.moved mv λk hk=>?_
   obtain⟨n,b,h1,U⟩:=hk;obtain⟨k',q1,_,ob,q3,_⟩:=hrep.at_ n b h1;rw[U] at q1;cases q1;exact hext.blk k (cu.1 q3).1 (hno k)
  .exact rv'.flat (Z3 hfl')
 have hrsg:cF h (j_ g rs)=aa (AV.renL (Gg g) lr):=pM rows_hq rs lr hlr;refine ⟨⟨_,hOpT,λz hz=>?_,?_,λn hn=>?_,by simp,by simp⟩,λ_ _ h=>h,hinv,bO _,λhs=>by cases hs⟩
 .rw[Uk hrsg,Gi _ lr hfl'] at hz;cases hz;rfl
 .exact sJ _ _
 .obtain⟨i,rfl,hi⟩:=nh.1 hn;rw[dW];exact hi
def ch.full (c:ch):ch:=⟨c.pre,⟨c.post.vs,c.pre.bs⟩,λx=>obind (c.m x) λy=>aa (RN (PV.tyL c.post.vs) (PB.tyL c.pre.bs) (MM _ _ y) (JF _ _ x))⟩
def aG (P:Program) (f:FuncId) (c:ch):Prop:=if ep c.pre.bs.length c.post.bs.length=ah then pd P f c else pd P f c.full
theorem pd.toC {P:Program} {f:FuncId} {c:ch} (h:pd P f c) (hb:ep c.pre.bs.length c.post.bs.length=ah):aG P f c:=by
 unfold aG;rw[aI hb];exact h
theorem aG.holds {P:Program} {f:FuncId} {c:ch} (h:aG P f c) (hb:ep c.pre.bs.length c.post.bs.length=ah):pd P f c:=by
 unfold aG at h;rw[aI hb] at h;exact h
theorem aac (a b:Ty) (z:(Z6 a b).den):RN a b (MM a b z) (JF a b z)=z:=by cases a<;>cases b<;>rfl
open Classical in
def roM {pre:Tm} {vs:List PV} (m:pre.ty.den->Option (Tm.ty ⟨vs,pre.bs⟩).den) (x:pre.ty.den):Option (Tm.ty ⟨vs,[]⟩).den:=
 obind (m x) λy=>if JF (PV.tyL vs) (PB.tyL pre.bs) y=JF _ _ x then aa (RN (PV.tyL vs) (PB.tyL []) (MM (PV.tyL vs) (PB.tyL pre.bs) y) ()) else af
theorem aG.ro {P:Program} {f:FuncId} {pre:Tm} {vs:List PV} {m:pre.ty.den->Option (Tm.ty ⟨vs,pre.bs⟩).den} {m':pre.ty.den->Option (Tm.ty ⟨vs,[]⟩).den} (h:pd P f ⟨pre,⟨vs,pre.bs⟩,m⟩) (hb:ep pre.bs.length 0=ai) (hs:∀ x y,m' x=aa y->roM m x=aa y):aG P f ⟨pre,⟨vs,[]⟩,m'⟩:=by
 unfold aG;rw[aC (by show ¬ep pre.bs.length 0=ah;rw[hb];exact Bool.false_ne_true)];refine ⟨h.callable,λx y hxy=>?_⟩;refine h.calls x y ?_;have hxy:obind (m' x) (λy=>aa (RN (PV.tyL vs) (PB.tyL pre.bs) (MM (PV.tyL vs) (PB.tyL []) y) (JF _ _ x)))=aa y:=hxy;obtain⟨z,M,hzy⟩:=dA hxy;have h1:=hs x z M;unfold roM at h1;obtain⟨y0,J,h2⟩:=dA h1;split at h2
 .rename_i heq;have h2:=jE h2;have hzy:=jE hzy;subst h2;have I:RN (PV.tyL vs) (PB.tyL pre.bs) (MM (PV.tyL vs) (PB.tyL pre.bs) y0) (JF (PV.tyL pre.vs) (PB.tyL pre.bs) x)=y:=(gx (λq=>RN (PV.tyL vs) (PB.tyL pre.bs) q (JF (PV.tyL pre.vs) (PB.tyL pre.bs) x)) (sh (PV.tyL vs) (PB.tyL []) _ ()).symm).trans hzy;rw[<- heq] at I;have:=(aac (PV.tyL vs) (PB.tyL pre.bs) y0).symm.trans I;exact J.trans (gx aa this)
 .cases h2
theorem iY.drop {P:Program} {o:Oper} {e:iw} {h h':bd} {nx nx':Nat} {v:TV} {rd wr W wr':Nat} (t:iY P o ai e h nx v rd wr h' nx') (hW:∀ i,aL W i=ah->bw h' (nm i)=bw h (nm i)/\aL rd i=ah) (M:∀ i,aL wr i=ah->aL W i=ah\/aL wr' i=ah):iY P o ai e h nx v rd wr' h' nx':=by
 obtain⟨⟨f,h1,h2,J,h4,h5,Z⟩,r,i,g,st⟩:=t;have hs:∀ n,aL W (ow n)=ah->bw h' n=bw h n:=λn hn=>by
  by_cases I:∃ i,n=nm i
  .obtain⟨i,rfl⟩:=I;rw[dW] at hn;exact (hW i hn).1
  .rw[vo h I,vo h' I]
 have hup:∀ H:HF,(∀ n∈f.wr,H n=bw h n)->eJ H (f.wr.filter λn=> !(aL W (ow n))) f.nw=eJ H f.wr f.nw:=λH Y=>by
  funext n;unfold eJ;by_cases hn:n∈f.wr
  .by_cases hb:aL W (ow n)=ah
   .rw[aC (by simp[hb]),aI hn];have:=congrFun J n;unfold eJ at this;rw[aI hn,hs n hb] at this;rw[this,Y n hn]
   .rw[aI (by simp[hn,hb]),aI hn]
  .rw[aC (by simp[hn]),aC hn]
 refine ⟨⟨⟨f.val,f.rd++(f.wr.filter λn=>aL W (ow n)),f.wr.filter λn=> !(aL W (ow n)),f.nw,f.N⟩,?_,h2,?_,λn hn=>?_,λn hn=>?_,Z⟩,r,i,g,λhs=>by cases hs⟩
 .intro φ E H w a hrd hwr hops hrep U;have k1:∀ i∈f.rd,H i=bw h i:=λi hi=>hrd i (kJ _ hi)
  have k2:∀ i∈f.wr,H i=bw h i:=λi hi=>by
   cases hb:aL W (ow i) with
   |true=>exact hrd i (mW _ (by simp[hi,hb]))
   |false=>exact hwr i (by simp[hi,hb])
  have:=h1 φ E H w a k1 k2 hops hrep U;simp only[hup H k2];exact this
 .simp only[hup (bw h) (λ_ _=>rfl)];exact J
 .rcases bR.1 hn with hn|hn
  .exact h4 n hn
  .simp only[D'] at hn;exact (hW _ hn.2).2
 .simp only[D',dZ] at hn;rcases M _ (h5 n hn.1) with hh|hh
  .rw[hn.2] at hh;cases hh
  .exact hh
mutual
theorem Yd {n n':Nat} (hle:n<=n'):∀ (v:TV),JO n v=ah->JO n' v=ah
 |.row id,h=>by simp only[JO,Nat.blt_eq] at h ⊢;omega
 |.rtl id _,h=>by simp only[JO,Nat.blt_eq] at h ⊢;omega
 |.pel id _ _ _,h=>by simp only[JO,Nat.blt_eq] at h ⊢;omega
 |.ptr id _,h=>by simp only[JO,Nat.blt_eq] at h ⊢;omega
 |.csl id _ _,h=>by simp only[JO,Nat.blt_eq] at h ⊢;omega
 |.mp id,h=>by simp only[JO,Nat.blt_eq] at h ⊢;omega
 |.agg l,h=>vg hle l h
 |.tup l,h=>vg hle l h
 |.clo _ l,h=>vg hle l h
 |.f _ _,_=>rfl
 |.fel _ _ _ _ _,_=>rfl
 |.emp,_=>rfl
 |.nil,_=>rfl
 |.undef,_=>rfl
 |.np,_=>rfl
 |.anyb,_=>rfl
theorem vg {n n':Nat} (hle:n<=n'):∀ (l:List TV),qB n l=ah->qB n' l=ah
 |[],_=>rfl
 |x::r,h=>by
  simp only[qB,au] at h ⊢;exact⟨Yd hle x h.1,vg hle r h.2⟩
end
theorem Lc {g g':Nat->Nat} {h:bd}:∀ (bs:List PB) (i:Nat) (x:(PB.tyL bs).den) (m:Nat),Gn bs=ah->zC g h i bs=aa (x,m)->∃ l,nV g' bs x=aa l/\l.length=bs.length/\∀ j,j<bs.length->∃ ty p T xs,l[j]? =aa (aa (.rows ty p T xs))/\h.get (g (i+j))=aa (.rows ty p T xs)
 |[],i,x,m,_,hg=>⟨[],rfl,rfl,λj hj=>by simp at hj⟩
 |.rows ty p T::r,i,x,m,I,hg=>by
  simp only[zC] at hg;split at hg
  .rename_i x1 m1 h1;split at hg
   .rename_i J m2 h2;simp only[aj,aB] at hg;obtain⟨rfl,rfl⟩:=hg;obtain⟨l,q1,U,q3⟩:=Lc (g:=g) (g':=g') (h:=h) r (i+1) J m2 I h2;simp only[DA] at h1;split at h1
    .rename_i ty' p' S xs hb;split at h1
     .rename_i hc;simp only[au,cM] at hc;obtain⟨rfl,rfl⟩:=hc;split at h1
      .rename_i z Y;simp only[aj] at h1;obtain⟨rfl,_⟩:=h1;obtain⟨es,Z⟩:=iR Y;cases es;subst Z;refine ⟨aa (.rows ty p T x1)::l,?_,by simp[U],λj hj=>?_⟩
       .simp only[nV];rw[sh,tU,q1];rfl
       .cases j with
        |zero=>exact⟨ty,p,T,_,rfl,hb⟩
        |succ j=>
         obtain⟨a,b,c,d,w1,M⟩:=q3 j (by simpa using hj);exact⟨a,b,c,d,by simpa using w1,by rw[show i+(j+1)=i+1+j from by omega];exact M⟩
      .cases h1
     .cases h1
    .cases h1
   .cases hg
  .cases hg
 |.rowsP _ _::r,i,x,m,I,hg=>by cases I
 |.cells _ _::r,i,x,m,I,hg=>by cases I
 |.mp _ _::r,i,x,m,I,hg=>by cases I
 |.gone::r,i,x,m,I,hg=>by cases I
theorem Eh:∀ {bs:List PB},Gn bs=ah->Ao bs=ah
 |[],_=>rfl
 |.rows _ _ _::r,h=>Eh (bs:=r) h
 |.rowsP _ _::r,h=>by cases h
 |.cells _ _::r,h=>by cases h
 |.mp _ _::r,h=>by cases h
 |.gone::r,h=>by cases h
theorem Ec {h h2:bd} {g:Nat->Nat}:∀ (n:Nat),(∀ i,i<n->h2.get (g i)=h.get (g i))->sK h h2 g n=ah
 |0,_=>rfl
 |n+1,hs=>by
  simp only[sK,au];refine ⟨?_,Ec n λi hi=>hs i (by omega)⟩;have:ec h2 (g n)=ec h (g n):=by rw[bP,bP,hs n (by omega)]
  rw[this];cases ec h (g n) with
  |none=>rfl
  |some q=>obtain⟨p,s,k⟩:=q;simp
def Ju (P:Program) (con:FuncId->Option ch):Prop:=∀ f c,con f=aa c->aG P f c
theorem U4 {R:Type} {P:Program} {con:FuncId->Option ch} (hcon:Ju P con) {o:Oper} {e:iw} {h:bd} {nx:Nat} {f:FuncId} {l:List TV} {K:KO R} {r:R} (hinv:lJ h nx) (hk:U5 con f l h nx K=aa r) {la:List AV} (hla:cF h l=aa la)
 (hexec:∀ (φ:PM) (E:Nat->Prop) (h':HF) (w:World) (a:Act),CU P f->(∀ t,.tmp t∈o.op.operands->∀ y,fE e h t=aa y->cG φ (tot E φ h') w y (a.tmps.getD t undef))->qh φ E h' w->∃ us:List Value,(execOp a.eval o).run P w= .ok (.enter f us.toArray) w/\jI φ (tot E φ h') w la us):kr P o ai e h nx K r:=by
 unfold U5 at hk;split at hk
 .rename_i c hc;have spc:=hcon f c hc;split at hk
  .rename_i x m σ sm hM;split at hk
   .rename_i q hq;obtain⟨vs,hp⟩:=q;obtain⟨l1,I⟩:=vi hq;obtain⟨y,hy,hk⟩:=dA hk;split at hk
    .rename_i q2 hq2;obtain⟨rs1,Z⟩:=q2;obtain⟨l2,J⟩:=vi hq2;split at hk
     .rename_i hcond;simp only[au] at hcond;have hle:=aY hcond.1;have sp:=spc.holds hcond.1;simp only at hk;split at hk
      .rename_i rs hrs;have hrs':=hrs;rw[sw,J.pv] at hrs';simp only[b8,aj] at hrs';split at hk
       .rename_i hb;simp only[au] at hb;have hq0:=av hb.1.2;refine ⟨_,_,_,_,_,hk,?_⟩;rw[<- hrs'];exact abe hinv sp (u_ hM) I hy J (by omega) hq0 hb.2 _ hla λφ E h' w a=>hexec φ E h' w a sp.callable
       .split at hk
        .rename_i h2 U;obtain⟨hsr,hk⟩:=dX hk;refine ⟨_,_,_,_,_,hk,?_⟩;rw[<- hrs'];unfold KX at U;rw[uR,J.pb] at U;simp only[b8,aj] at U;exact Y5 hinv sp (u_ hM) I hcond.2 hy J hle (λi hi=>by
          have:fV i c.pre.bs.length=ah:=bD hi;simp only[this,bC]) (λi hi=>by
          have:fV i c.pre.bs.length=ai:=by
           cases hb:fV i c.pre.bs.length with
           |false=>rfl
           |true=>have:=aY hb;omega
          simp only[this];rfl) U.symm hsr hla λφ E h' w a=>hexec φ E h' w a sp.callable
        .cases hk
      .cases hk
     .rename_i hcond;split at hk
      .rename_i hro;simp only[au] at hro;have hq0:=av hro.1;have hng:=Eh hro.2;have sp:pd P f c.full:=by
        unfold aG at spc
        rwa [aC (λhb=>hcond (by rw[hb,hng];rfl))] at spc
       simp only at hk;split at hk
       .rename_i rs hrs;split at hk
        .rename_i h2 U;have hrs':=hrs;rw[sw,J.pv] at hrs';simp only[b8,aj] at hrs';refine ⟨_,_,_,_,_,hk,?_⟩;rw[<- hrs'];have M:=u_ hM;unfold KX at U;rw[uR,I.pb] at U;simp only[b8,aj] at U;have hqe:∀ i,Z.get i=af:=λi=>by
          cases hb:Z.get i with
          |none=>rfl
          |some b=>have:=J.lt_len hb;omega
         have J':pU c.full.post (RN (PV.tyL c.post.vs) (PB.tyL c.pre.bs) (MM _ _ y) (JF _ _ x)) rs1 hp l1:=
          ⟨by show pm Ga c.post.vs (MM (PV.tyL c.post.vs) (PB.tyL c.pre.bs) _)=_;rw[sh];exact J.pv,by show nV Ga c.pre.bs (JF (PV.tyL c.post.vs) (PB.tyL c.pre.bs) _)=_;rw[tU];exact I.pb,I.len,I.at_,iE (λi r hr=>by rw[bP,hqe] at hr;cases hr) _ J.ok,vg (by omega) _ J.lt,I.cells⟩
         obtain⟨x1,m1,x2,m2,hx,hmm,gv,gb⟩:=M.ex;obtain⟨l,q1,q2,q3⟩:=Lc (g':=Ga) c.pre.bs 0 x2 m2 hro.2 gb;have hl1:l1=l:=by
          have:=I.pb;rw[hx,tU,q1] at this;cases this;rfl
         subst hl1;have hgi:∀ i,i<c.pre.bs.length->(if fV i c.pre.bs.length then gV σ i else nx+(i-c.pre.bs.length))=gV σ i:=λi hi=>by
          have:fV i c.pre.bs.length=ah:=bD hi;simp only[this,bC]
         have hsame:∀ i,i<c.pre.bs.length->h2.get (gV σ i)=h.get (gV σ i):=λi hi=>by
          obtain⟨ty,p,T,xs,w1,Y⟩:=q3 i hi;rw[bJ] at Y;have:=tY (λi=>if fV i c.pre.bs.length then gV σ i else nx+(i-c.pre.bs.length)) (l1.map (lj (lw (λi=>if fV i c.pre.bs.length then gV σ i else nx+(i-c.pre.bs.length))))) 0 (eB m h) (λa b ha hb e=>by
           simp only[bS,q2] at ha hb;rw[bJ,bJ,hgi a ha,hgi b hb] at e;exact M.inj a b ha hb e) i (aa (.rows ty p T xs)) (by rw[aZ,w1];rfl)
          rw[bJ,hgi i hi] at this;rw[<- U,this,Y]
         have t:=Y5 (o:=o) (e:=e) hinv sp M I hng (y:=RN (PV.tyL c.post.vs) (PB.tyL c.pre.bs) (MM _ _ y) (JF _ _ x)) (by show obind (c.m x) _=_;rw[hy];rfl) J' (bO _) (g:=λi=>if fV i c.pre.bs.length then gV σ i else nx+(i-c.pre.bs.length)) hgi (λi hi=>by
          have:fV i c.pre.bs.length=ai:=by
           cases hb:fV i c.pre.bs.length with
           |false=>rfl
           |true=>have:=aY hb;have hi:c.pre.bs.length<=i:=hi;omega
          simp only[this];rfl) U.symm (Ec _ λi hi=>by rw[hgi i hi];exact hsame i hi) hla λφ E h' w a=>hexec φ E h' w a sp.callable
         have t':iY P o ai e h nx (Oa (j_ (λi=>if fV i c.pre.bs.length then gV σ i else nx+(i-c.pre.bs.length)) rs1)) (sm|||m) (sm|||m|||(((1<<<(c.pre.bs.length-c.pre.bs.length))-1)<<<nx)) h2 (nx+(c.pre.bs.length-c.pre.bs.length)):=t;rw[Nat.sub_self,db] at t';refine t'.drop (W:=sm) (λi hi=>?_) (λi hi=>?_)
         .refine ⟨?_,by rw[bl,hi];rfl⟩;obtain⟨k,hk,rfl⟩:=(M.sig i).1 hi;obtain⟨ty,p,T,xs,_,Y⟩:=q3 k hk;rw[bJ] at Y;rw[bE,bE,hsame k hk,Y];rfl
         .simp only[Nat.shiftLeft_zero,Nat.sub_self,Nat.zero_shiftLeft,Nat.or_zero,bl,iD] at hi;exact hi
        .cases hk
       .cases hk
      .cases hk
    .cases hk
   .cases hk
  .cases hk
 .cases hk
theorem adz {R:Type} {P:Program} {con:FuncId->Option ch} (hcon:Ju P con) {bX:TypeId->Option Ty} {o:Oper} {e:iw} {h:bd} {nx:Nat} {i:SI} {K:KO R} {r:R} (hinv:lJ h nx) (hi:sr e h) (hc:xn P o.op=i) (hk:dM con bX i e h nx K=aa r):kr P o i.still e h nx K r:=by
 have callOps:∀ (c:Call),o.op= .call c->∀ x,x∈c.operands->x∈o.op.operands:=λc I x J=>by rw[I];exact J
 cases i with
 |call f args=>
  simp only[dM] at hk;split at hk
  .rename_i l hl;have I:∃ c:Call,o.op= .call c/\c.callee= .value (.func f)/\c.args.toList=args:=by
    unfold xn at hc;split at hc
    .rename_i i hi;subst hc;unfold Nl at hi;split at hi
     .rename_i c I;split at hi
      .rename_i g hg;simp only[aj,SI.call.injEq] at hi;exact⟨c,I,by rw[hg,hi.1],hi.2⟩
      .simp at hi
      .cases hi
     .cases hi
    .split at hc<;>cases hc
   obtain⟨c,I,h1,h2⟩:=I;obtain⟨la,Z,Y⟩:=xF hi hl;refine U4 hcon hinv hk Y λφ E h' w a hcb hops hrep=>?_
   have hp:TZ φ E h' w a (JB e h) o:=λx y J U=>sj hrep (by rw[ud];exact hops) J U
   refine ⟨args.map a.eval,?_,MS hp args la (λx J=>callOps c I x (by simp[eH,h1,<-h2] at J ⊢;exact .inr J)) Z⟩;unfold execOp;rw[I];have hm:c.args.map a.eval=(args.map a.eval).toArray:=by rw[<- h2];apply Jx;simp
   simp[resolve,h1,Act.eval,Deferred.ofValue,invoke,hm,vT hcb]
  .cases hk
 |callv x args=>
  simp only[dM] at hk;split at hk
  .rename_i f cap l J hl;have I:∃ c:Call,o.op= .call c/\c.callee= .value x/\c.args.toList=args:=by
    unfold xn at hc;split at hc
    .rename_i i hi;subst hc;unfold Nl at hi;split at hi
     .rename_i c I;split at hi
      .simp at hi
      .rename_i g hg;simp only[aj,SI.callv.injEq] at hi;exact⟨c,I,by rw[hg,hi.1],hi.2⟩
      .cases hi
     .cases hi
    .split at hc<;>cases hc
   obtain⟨c,I,h1,h2⟩:=I;obtain⟨la,Z,Y⟩:=xF hi hl;obtain⟨yx,g3,M⟩:=bG hi J;simp only[cg] at M;split at M
   .rename_i lc hlc;simp only[aj] at M;subst M;refine U4 hcon hinv hk (mO Y hlc) λφ E h' w a hcb hops hrep=>?_
    have hp:TZ φ E h' w a (JB e h) o:=λx y J U=>sj hrep (by rw[ud];exact hops) J U
    have hxv:=hp x _ (callOps c I x (by simp[eH,h1])) g3;have hlv:=MS hp args la (λx J=>callOps c I x (by simp[eH,h1,<-h2] at J ⊢;exact .inr J)) Z;generalize hz:a.eval x=z at hxv;cases hxv with
    |@clo _ _ vs hvl hvr=>
     refine ⟨args.map a.eval++vs,?_,hlv.append (jI.of hvl hvr)⟩;unfold execOp;rw[I];have hm:c.args.map a.eval=(args.map a.eval).toArray:=by rw[<- h2];apply Jx;simp
     simp[resolve,h1,hz,Deferred.ofValue,invoke,hm,vT hcb]
   .cases M
  .cases hk
 |op s=>
  have hc:s= .bad\/c9 P o.op=aa s:=by
   unfold xn at hc;split at hc
   .rename_i i hi;subst hc;unfold Nl at hi;split at hi
    .split at hi<;>simp at hi
    .cases hi
   .split at hc
    .rename_i q hq;simp only[SI.op.injEq] at hc;subst hc;exact .inr hq
    .simp only[SI.op.injEq] at hc;exact .inl hc.symm
  rcases hc with rfl|hc
  .simp[dM] at hk
  .exact K_op hinv hi hc hk
def gd (am:Nat) (e e':iw):Prop:=∀ k,aL am k=ai->∀ I,e'.get k=aa I->∃ v,e.get k=aa v/\(s5 v=ah->I=v)
theorem gd.refl (am:Nat) (e:iw):gd am e e:=λ_ _ I h=>⟨I,h,λ_=>rfl⟩
theorem gd.trans {am:Nat} {a b c:iw} (h1:gd am a b) (h2:gd am b c):gd am a c:=λk hk I hv=>by
 obtain⟨v1,Y,U⟩:=h2 k hk I hv;obtain⟨v,M,J⟩:=h1 k hk v1 Y;refine ⟨v,M,λhf=>?_⟩;have:=J hf;subst this;exact U hf
theorem gd.mono {am am':Nat} {a b:iw} (h:gd am a b) (hm:∀ k,aL am k=ah->aL am' k=ah):gd am' a b:=λk hk=>h k (by
 cases I:aL am k with
 |false=>rfl
 |true=>rw[hm k I] at hk;cases hk)
structure Zp (P:Program) (ops:Array Oper) (rest:List Oper) (sl:List rA) (am:Nat) (s s':TS) (fs:List ZJ) (l:List (Oper×z_)):Prop where
 ops_:l.map (·.1)=rest
 chain:yB P ops l (fE s.e s.h) (bw s.h) (fE s'.e s'.h) (bw s'.h)
 fsl:fs.length=l.length
 sll:sl.length=l.length
 fp:∀ (j:Nat) o f q,l[j]? =aa (o,f)->fs[j]? =aa q->(∀ n∈f.rd,aL q.rd (ow n)=ah)/\∀ n∈f.wr,aL q.wr (ow n)=ah
 still:∀ (j:Nat) o f so,l[j]? =aa (o,f)->sl[j]? =aa so->so.op.still=ah->f.rd=[]/\f.wr=[]
 names:∀ (j:Nat) o f,l[j]? =aa (o,f)->∀ n∈f.N,s.nx<=ow n/\ow n<s'.nx
 apart_:∀ (i j:Nat) oi fi oj fj,i<j->l[i]? =aa (oi,fi)->l[j]? =aa (oj,fj)->∀ n∈fi.N,n∉fj.N
 grows:s.nx<=s'.nx
 invH:lJ s'.h s'.nx
 invE:sr s'.e s'.h
 keeps:gd am s.e s'.e
theorem Z' {e:iw} {h h':bd} (hi:sr e h) (hr:cq h h') (d:Option Nat) {v:TV} {y:AV} (hv:cg h' v=aa y):Bx (fE e h) d y=fE (C8 e d v) h':=by
 funext t;have old:(e.get t).bind (cg h)=(e.get t).bind (cg h'):=by
  cases ht:e.get t with
  |none=>rfl
  |some x=>
   obtain⟨z,I⟩:=po h x (hi t x ht);simp only[aF,I,gm hr x z I]
 cases d with
 |none=>simp only[Bx,C8,fE];rw[aC (by simp)];exact old
 |some d=>
  simp only[Bx,C8,fE,PT.get_set,aj];by_cases hd:d=t
  .subst hd;simp[hv]
  .rw[aC hd,aC (λe=>hd e.symm)];exact old
theorem sr.put {e:iw} {h h':bd} (hi:sr e h) (hr:cq h h') (d:Option Nat) {v:TV} (hv:JM h' v=ah):sr (C8 e d v) h':=λt x I=>by
 cases d with
 |none=>exact nW hr x (hi t x I)
 |some d=>
  simp only[C8,PT.get_set] at I;split at I
  .cases I;exact hv
  .exact nW hr x (hi t x I)
theorem Po {e:iw} {h:bd} {t:Nat} {v:TV} (ht:e.get t=aa v):fE (e.set t (aa v)) h=fE e h:=by
 funext k;simp only[fE,PT.get_set];by_cases hk:k=t
 .subst hk;simp[ht]
 .rw[aC hk]
theorem sr.set {e:iw} {h:bd} {t:Nat} {v:TV} (hi:sr e h) (ht:e.get t=aa v):sr (e.set t (aa v)) h:=λk x I=>by
 rw[PT.get_set] at I;split at I
 .rename_i hk;subst hk;cases I;exact hi _ _ ht
 .exact hi k x I
theorem Ro {R:Type} {e:iw} {g:Option (Nat×Bool)} {K:Bool->iw->Option R} {r:R} (h:Xz e g K=aa r):
 (g=af/\K ah e=aa r)\/(∃ t want b,g=aa (t,want)/\e.get t=aa (.f .bool b)/\K (b==want) (e.set t (aa (.f .bool b)))=aa r)\/∃ t want,g=aa (t,want)/\e.get t=aa .undef/\K ai e=aa r:=by
 unfold Xz at h;split at h
 .exact .inl ⟨rfl,h⟩
 .rename_i t want;split at h
  .rename_i b hb;refine .inr (.inl ⟨t,want,b,rfl,hb,?_⟩);cases want with
   |true=>rcases oU h with ⟨rfl,h⟩|⟨rfl,h⟩<;>exact h
   |false=>rcases oU h with ⟨rfl,h⟩|⟨rfl,h⟩<;>exact h
  .rename_i hb;exact .inr (.inr ⟨t,want,rfl,hb,h⟩)
  .cases h
theorem GY {R:Type} {P:Program} {con:FuncId->Option ch} (hcon:Ju P con) {bX:TypeId->Option Ty} {ops:Array Oper} {am:Nat} (ham:∀ (j:Nat) (o:Oper) (d:Nat),ops[j]? =aa o->o.dst=aa d->aL am d=ah):
 ∀ (rest:List Oper) (sl:List rA) (s:TS) (fs:List ZJ) (K:TS->List ZJ->Option R) (r:R),(∀ o∈rest,∃ j:Nat,ops[j]? =aa o)->qW P ops rest=aa sl->JJ con bX sl s fs K=aa r->lJ s.h s.nx->sr s.e s.h->∃ s' fs' l,K s' (fs.reverse++fs')=aa r/\Zp P ops rest sl am s s' fs' l
 |[],sl,s,fs,K,r,hin,hc,hk,hH,M=>by
  simp only[qW,aj] at hc;subst hc;simp only[JJ] at hk;exact⟨s,[],[],by simpa using hk,rfl,.nil _ _,rfl,rfl,by simp,by simp,by simp,by simp,bO _,hH,M,gd.refl _ _⟩
 |o::rest,sl,s,fs,K,r,hin,hc,hk,hH,M=>by
  simp only[qW] at hc;split at hc
  .rename_i sl' hsl';have hso:∃ g,sl=⟨o.dst,xn P o.op,g⟩::sl'/\((g=af/\o.guard=af)\/∃ j want t,g=aa (t,want)/\o.guard=aa (j,want)/\(ops[j]?).bind (·.dst)=aa t):=by
    split at hc
    .rename_i hg;simp only[aj] at hc;exact⟨af,hc.symm,.inl ⟨rfl,hg⟩⟩
    .rename_i j want hg;split at hc
     .rename_i t ht;simp only[aj] at hc;exact⟨aa (t,want),hc.symm,.inr ⟨j,want,t,rfl,hg,ht⟩⟩
     .cases hc
   obtain⟨g,rfl,hg⟩:=hso;simp only[JJ] at hk;have hdst:∀ d,o.dst=aa d->aL am d=ah:=λd hd=>by
    obtain⟨j,hj⟩:=hin o (dH ..);exact ham j o d hj hd
   have hgs:∀ t want,g=aa (t,want)->aL am t=ah:=λt want hgt=>by
    rcases hg with ⟨h1,_⟩|⟨j,want',t',h1,_,I⟩
    .rw[h1] at hgt;cases hgt
    .rw[h1] at hgt;cases hgt;cases hj:ops[j]? with
     |none=>rw[hj] at I;cases I
     |some oj=>rw[hj] at I;exact ham j oj t hj I
   have kput:∀ (e:iw) (v:TV),gd am s.e e->gd am s.e (C8 e o.dst v):=λe v hke k hk v' hv=>by
    cases hd:o.dst with
    |none=>rw[hd] at hv;exact hke k hk v' hv
    |some d=>
     rw[hd] at hv;simp only[C8,PT.get_set] at hv;split at hv
     .rename_i e2;rw[e2,hdst d hd] at hk;cases hk
     .exact hke k hk v' hv
   have done:∀ (f:z_) (v:TV) (h':bd) (nx' rd wr:Nat) (e:iw),fE e s.h=fE s.e s.h->sr e s.h->gd am s.e e->Jf P ops o f (fE s.e s.h) (bw s.h)->(∃ y,cg h' v=aa y/\f.val=y)->eJ (bw s.h) f.wr f.nw=bw h'->(∀ n∈f.rd,aL rd (ow n)=ah)->(∀ n∈f.wr,aL wr (ow n)=ah)->(∀ n∈f.N,s.nx<=ow n/\ow n<nx')->cq s.h h'->lJ h' nx'->s.nx<=nx'->((xn P o.op).still=ah->f.rd=[]/\f.wr=[])->
    JJ con bX sl' ⟨C8 e o.dst v,h',nx'⟩ (⟨rd,wr⟩::fs) K=aa r->∃ s' fs' l,K s' (fs.reverse++fs')=aa r/\Zp P ops (o::rest) (⟨o.dst,xn P o.op,g⟩::sl') am s s' fs' l:=by
    intro f v h' nx' rd wr e hee hiE hke hst hval hheap hrd hwr hN hrows hinv' hgr hstill hrun;obtain⟨y,U,hy2⟩:=hval;obtain⟨s',fs',l,J,L⟩:=GY hcon ham rest sl' _ _ K r (λo' ho'=>hin o' (cN _ ho')) hsl' hrun hinv' (hiE.put hrows o.dst (DG _ _ _ U));have hg2:nx'<=s'.nx:=L.grows;refine ⟨s',⟨rd,wr⟩::fs',(o,f)::l,by simpa using J,by simp[L.ops_],.cons hst ?_,by simp[L.fsl],by simp[L.sll],?_,?_,?_,?_,c_ hgr hg2,L.invH,L.invE,(kput e v hke).trans L.keeps⟩
    .have e1:Bx (fE s.e s.h) o.dst f.val=fE (C8 e o.dst v) h':=by rw[<- hee,hy2];exact Z' hiE hrows o.dst U
     rw[e1,hheap];exact L.chain
    .intro j o' f' q' h1 h2;cases j with
     |zero=>simp at h1 h2;obtain⟨rfl,rfl⟩:=h1;subst h2;exact⟨hrd,hwr⟩
     |succ j=>exact L.fp j o' f' q' (by simpa using h1) (by simpa using h2)
    .intro j o' f' so h1 h2 I;cases j with
     |zero=>simp at h1 h2;obtain⟨rfl,rfl⟩:=h1;subst h2;exact hstill I
     |succ j=>exact L.still j o' f' so (by simpa using h1) (by simpa using h2) I
    .intro j o' f' h1 n hn;cases j with
     |zero=>
      simp at h1;obtain⟨rfl,rfl⟩:=h1;have:=hN n hn;exact⟨this.1,by omega⟩
     |succ j=>
      have:=L.names j o' f' (by simpa using h1) n hn;exact⟨c_ hgr this.1,this.2⟩
    .intro i j oi fi oj fj hij h1 h2 n hn Y;cases j with
     |zero=>omega
     |succ j=>
      have hj:=L.names j oj fj (by simpa using h2) n Y;cases i with
      |zero=>
       simp at h1;obtain⟨rfl,rfl⟩:=h1;have I:=(hN n hn).2;have Z:nx'<=ow n:=hj.1;omega
      |succ i=>exact L.apart_ i j oi fi oj fj (by omega) (by simpa using h1) (by simpa using h2) n hn Y
   have runs:∀ (e:iw),fE e s.h=fE s.e s.h->sr e s.h->gd am s.e e->(∀ f,gz P o (fE s.e s.h) (bw s.h) f->Jf P ops o f (fE s.e s.h) (bw s.h))->dM con bX (xn P o.op) e s.h s.nx (λv rd wr h nx=>if JM h v then JJ con bX sl' ⟨C8 e o.dst v,h,nx⟩ (⟨rd,wr⟩::fs) K else af)=aa r->∃ s' fs' l,K s' (fs.reverse++fs')=aa r/\Zp P ops (o::rest) (⟨o.dst,xn P o.op,g⟩::sl') am s s' fs' l:=by
    intro e hee hiE hke hstep hk;obtain⟨v,rd,wr,h',nx',J,T⟩:=adz hcon hH hiE rfl hk;simp only[] at J;split at J
    .rename_i hok;obtain⟨f,t1,t2,t3,t4,t5,t6⟩:=T.ex;rw[hee] at t1;obtain⟨y,hy⟩:=po h' v hok;refine done f v h' nx' rd wr e hee hiE hke (hstep f t1) ⟨y,hy,t2 y hy⟩ t3 t4 t5 t6 T.rows T.inv T.grows (λhs=>?_) J;obtain⟨r0,w0⟩:=T.st hs;subst r0;subst w0;constructor
     .cases hl:f.rd with
      |nil=>rfl
      |cons n q=>have:=t4 n (by rw[hl];simp);simp at this
     .cases hl:f.wr with
      |nil=>rfl
      |cons n q=>have:=t5 n (by rw[hl];simp);simp at this
    .cases J
   have skips:∀ (e:iw),fE e s.h=fE s.e s.h->sr e s.h->gd am s.e e->Jf P ops o qO (fE s.e s.h) (bw s.h)->JJ con bX sl' ⟨C8 e o.dst .undef,s.h,s.nx⟩ (⟨0,0⟩::fs) K=aa r->∃ s' fs' l,K s' (fs.reverse++fs')=aa r/\Zp P ops (o::rest) (⟨o.dst,xn P o.op,g⟩::sl') am s s' fs' l:=by
    intro e hee hiE hke hstep hk;exact done qO .undef s.h s.nx 0 0 e hee hiE hke hstep ⟨_,rfl,rfl⟩ (by funext i;simp[eJ,qO]) (by simp[qO]) (by simp[qO]) (by simp[qO]) (cq.refl _) hH (bO _) (λ_=>⟨rfl,rfl⟩) hk
   rcases Ro hk with ⟨h1,hk⟩|⟨t,want,b,h1,hb,hk⟩|⟨t,want,h1,hb,hk⟩
   .refine runs s.e rfl M (gd.refl _ _) (λf hf=>?_) hk;rcases hg with ⟨_,hg⟩|⟨j,want,t,h2,_,_⟩
    .exact .run hg hf
    .rw[h1] at h2;cases h2
   .rcases hg with ⟨h2,_⟩|⟨j,want',t',h2,I,Z⟩
    .rw[h1] at h2;cases h2
    .rw[h1] at h2;cases h2;have hgt:=hgs t want h1;have heb:fE s.e s.h t=aa (.f (.raw (.bool b))):=by simp only[fE,hb,aF,cg];rfl
     have hke:gd am s.e (s.e.set t (aa (.f .bool b))):=λk hk v' hv=>by
      rw[PT.get_set] at hv;split at hv
      .rename_i ek;rw[ek,hgt] at hk;cases hk
      .exact⟨v',hv,λ_=>rfl⟩
     cases hbw:(b==want) with
     |true=>
      rw[hbw] at hk;have:b=want:=by simpa using hbw
      subst this;exact runs _ (Po hb) (M.set hb) hke (λf hf=>.runG j t b I Z heb hf) hk
     |false=>
      rw[hbw] at hk;refine skips _ (Po hb) (M.set hb) hke (.skip j t want I Z (.bool b) heb ?_ rfl) hk;intro hv;cases hv;simp at hbw
   .rcases hg with ⟨h2,_⟩|⟨j,want',t',h2,I,Z⟩
    .rw[h1] at h2;cases h2
    .rw[h1] at h2;cases h2;exact skips _ rfl M (gd.refl _ _) (.skip j t want I Z undef (by simp only[fE,hb,aF,cg]) (by unfold undef;simp) rfl) hk
  .cases hc
theorem aa8 {P:Program} {ops:Array Oper} {sl:List rA} {am:Nat} {s s':TS} {fs:List ZJ} {l:List (Oper×z_)} {prs:List (Nat×Nat)} (hl:Zp P ops ops.toList sl am s s' fs l) (hp:KY ops sl=aa prs) (hok:Ee fs prs=ah):NIP ops l:=by
 unfold KY at hp;simp only[] at hp;split at hp
 .rename_i hall;simp only[f_,mS,au] at hall;simp only[aj] at hp;have hop:∀ (j:Nat) o f,l[j]? =aa (o,f)->ops[j]? =aa o:=λj o f hj=>by
   have h1:(l.map (·.1))[j]? =aa o:=by rw[aZ,hj];rfl
   rw[hl.ops_] at h1;simpa using h1
  have hsize:∀ (j:Nat) o,ops[j]? =aa o->j<ops.size:=λj o h=>(cu.1 h).1
  have hprs:∀ i j,(i,j)∈prs->∃ a b,fs[i]? =aa a/\fs[j]? =aa b/\Cu a.wr b.rd=ah/\Cu a.wr b.wr=ah/\Cu b.wr a.rd=ah:=by
   clear hp hall;induction prs with
   |nil=>intro i j h;cases h
   |cons p prs ih=>
    obtain⟨i0,j0⟩:=p;simp only[Ee,au,UK] at hok;intro i j hm;rcases bh.1 hm with h|h
    .cases h;have h1:=hok.1;split at h1
     .rename_i a b Y hb;simp only[au] at h1;exact⟨a,b,Y,hb,h1.1.1,h1.1.2,h1.2⟩
     .cases h1
    .exact ih hok.2 i j h
  refine ⟨λj o Z e he hb=>?_,λi j oi fi oj fj hij hi hj=>?_,hl.apart_⟩
  .have:=(hall j (hsize j o Z)).1;rw[Z] at this;simp only[Option.all_some,f_] at this;have:=this e (by simpa using he);simp[hb] at this;exact this
  .have h1:=hop i oi fi hi;have h2:=hop j oj fj hj;have hcase:=(hall j (hsize j oj h2)).2 i hij;rw[h1,h2] at hcase;simp only[iD] at hcase;by_cases M:aL ((I5 ops.toList []).getD j 0) i=ah
   .left;rw[ax] at M;cases I:(I5 ops.toList [])[j]? with
    |none=>rw[I] at M;simp at M
    |some B=>
     rw[I] at M;exact LJ (ops:=ops) ops.toList [] (λj o hj=>by simpa using hj) (λj B hj=>by simp at hj) j B I i (by simpa using M)
   .right;have hap:=hcase.resolve_left M;refine ⟨hap,?_⟩;have hil:i<l.length:=(bf.1 hi).1;have hjl:j<l.length:=(bf.1 hj).1;have hsi:=ay (show i<sl.length by rw[hl.sll];exact hil);have hsj:=ay (show j<sl.length by rw[hl.sll];exact hjl);by_cases hst:(sl[i]'(by rw[hl.sll];exact hil)).op.still=ah
    .obtain⟨q1,U⟩:=hl.still i oi fi _ hi hsi hst;rw[q1,U];exact⟨(λx I=>by cases I),(λx _ I=>by cases I)⟩
    .by_cases hst2:(sl[j]'(by rw[hl.sll];exact hjl)).op.still=ah
     .obtain⟨q1,U⟩:=hl.still j oj fj _ hj hsj hst2;rw[q1,U];exact⟨(λx I=>⟨(by simp),(by simp)⟩),(λx I=>by cases I)⟩
     .have hmem:(i,j)∈prs:=by
       rw[<- hp,tQ];refine ⟨j,mS.2 (hsize j oj h2),?_⟩;rw[List.mem_filterMap];refine ⟨i,mS.2 hij,?_⟩;rw[aC];rw[hsi,hsj];simp only[iD,not_or];exact⟨M,hst,hst2⟩
      obtain⟨a,b,Y,hb,d1,d2,d3⟩:=hprs i j hmem;obtain⟨f1,f2⟩:=hl.fp i oi fi a hi Y;obtain⟨g1,g2⟩:=hl.fp j oj fj b hj hb;refine ⟨λx I=>⟨λJ=>?_,λJ=>?_⟩,λx I J=>?_⟩
      .have:=wJ d1 (ow x) (f2 x I);rw[g1 x J] at this;cases this
      .have:=wJ d2 (ow x) (f2 x I);rw[g2 x J] at this;cases this
      .have:=wJ d3 (ow x) (g2 x I);rw[f1 x J] at this;cases this
 .cases hp
structure oe (P:Program) (E:Nat->Prop) (nt np:Nat) (φ:PM) (s:TS) (a:Act) (w:World):Prop where
 rep:qh φ E (bw s.h) w
 env:LP φ (tot E φ (bw s.h)) w (fE s.e s.h) a
 dom:∀ n k,φ n=aa k->ow n<s.nx
 low:np<=s.nx
 invH:lJ s.h s.nx
 invE:sr s.e s.h
 inert:∀ d∈a.defers,ZH P d
 size:a.tmps.size=nt
structure Be (np:Nat) (φ φ':PM) (H H':HF) (w w':World):Prop where
 ext:Js (own φ H) w w'
 own_:∀ k,k<w.heap.size->own φ' H' k->own φ H k
 par:∀ i,i<np->φ' (nm i)=φ (nm i)
theorem Be.refl (np:Nat) (φ:PM) (H:HF) (w:World):Be np φ φ H H w w:=⟨Js.refl _ _,λ_ _ h=>h,λ_ _=>rfl⟩
theorem Be.trans {np:Nat} {φ φ' φ'':PM} {H H' H'':HF} {w w' w'':World} (a:Be np φ φ' H H' w w') (b:Be np φ' φ'' H' H'' w' w''):Be np φ φ'' H H'' w w'' where
 ext:=⟨b.ext.os.trans a.ext.os,b.ext.tape.trans a.ext.tape,b.ext.output.trans a.ext.output,c_ a.ext.size b.ext.size,
  λk hk I=>(b.ext.blk k (dl hk a.ext.size) (λh=>I (a.own_ k hk h))).trans (a.ext.blk k hk I),
  λk hk=>(b.ext.shp k (dl hk a.ext.size)).trans (a.ext.shp k hk)⟩
 own_:=λk hk h=>a.own_ k hk (b.own_ k (dl hk a.ext.size) h)
 par:=λi hi=>(b.par i hi).trans (a.par i hi)
theorem XU {R:Type} {P:Program} {E:Nat->Prop} {nt np:Nat} {φ:PM} {s:TS} {a:Act} {w:World} {con:FuncId->Option ch} {bX:TypeId->Option Ty} (hm:P.follows .mixedOrders=ah) (hcon:Ju P con) (c:oe P E nt np φ s a w) {id:Nat} {ops:Array Oper} {draw:Bool} {sl:List rA} {prs:List (Nat×Nat)} {am:Nat} (ham:∀ (j:Nat) (o:Oper) (d:Nat),ops[j]? =aa o->o.dst=aa d->aL am d=ah)
 (hd:(ops.toList.all λo=>match o.dst with|some d=>decide (d<nt)|none=>ah)=ah) (hc:qW P ops ops.toList=aa sl) (hp:KY ops sl=aa prs) {K:TS->Option R} {r:R} (hr:JJ con bX sl s [] (λs' fs=>if Ee fs prs then K s' else af)=aa r) {Q:Exit->Act->World->Prop}
 (hQ:∀ a' w' s' φ',K s'=aa r->oe P E nt np φ' s' a' w'->Be np φ φ' (bw s.h) (bw s'.h) w w'->gd am s.e s'.e->Q .normal a' w'):(Code.region id ops draw).wp P Q a w:=by
 obtain⟨s',fs',l,J,L⟩:=GY hcon ham ops.toList sl s [] _ r (λo U=>by
  obtain⟨j,hj⟩:=eQ U;exact⟨j,by simpa using hj⟩) hc hr c.invH c.invE
 have J:(if Ee fs' prs then K s' else af)=aa r:=J;by_cases hok:Ee fs' prs=ah
 .rw[aI hok] at J;refine Oc (φ0:=φ) (E:=E) hm L.ops_ L.chain (aa8 L hp hok) ?_ ?_ c.rep c.env ?_
  .intro n hn;obtain⟨p,I,hn⟩:=tQ.1 hn;obtain⟨j,hj⟩:=eQ I;have:=L.names j p.1 p.2 hj n hn;cases M:φ n with
   |none=>rfl
   |some k=>have:=c.dom n k M;omega
  .intro j o U d Y;have:=f_.1 hd o (by have:=Array.mem_of_getElem? U;simpa using this);rw[Y] at this;rw[c.size];simpa using this
  .rintro a' w' ⟨φ',m',d',Z,en',df',sz'⟩;have hnm:∀ n k,φ' n=aa k->φ n=aa k\/(s.nx<=ow n/\ow n<s'.nx):=λn k hik=>by
    rcases d' n k hik with h|h
    .exact .inl h
    .obtain⟨p,I,hn⟩:=tQ.1 h;obtain⟨j,hj⟩:=eQ I;exact .inr (L.names j p.1 p.2 hj n hn)
   have hg:=L.grows;have hlow:=c.low;refine hQ a' w' s' φ' J ⟨Z,en',λn k hik=>?_,by omega,L.invH,L.invE,by rw[df'];exact c.inert,by rw[sz'];exact c.size⟩ ⟨m'.ext,m'.own_,λi hi=>?_⟩ L.keeps
   .rcases hnm n k hik with h|h
    .have:=c.dom n k h;omega
    .exact h.2
   .cases M:φ (nm i) with
    |some k=>exact m'.sub _ _ M
    |none=>
     cases hy:φ' (nm i) with
     |none=>rfl
     |some k=>
      rcases hnm (nm i) k hy with h|h
      .rw[M] at h;cases h
      .rw[dW] at h;omega
 .rw[aC hok] at J;cases J
theorem yr:∀ (l:List rA) (acc:Nat),Nr l acc=acc|||Nr l 0
 |[],acc=>by simp[Nr]
 |o::r,acc=>by
  simp only[Nr];cases o.dst with
  |none=>exact yr r acc
  |some d=>simp only[];rw[yr r (acc|||kL d),yr r (0|||kL d),CW,kf]
theorem yL:∀ (l:List Nat) (acc:Nat),JP l acc=acc|||JP l 0
 |[],acc=>by simp[JP]
 |k::r,acc=>by simp only[JP];rw[yL r (acc|||kL k),yL r (0|||kL k),CW,kf]
theorem lI:∀ (l:List ZQ) (acc:Nat),nO l acc=acc|||nO l 0
 |[],acc=>by simp[nO]
 |.nil k _ _::r,acc=>by simp only[nO];rw[lI r (acc|||kL k),lI r (0|||kL k),CW,kf]
 |.cel _ _ _ _::r,acc=>by simp only[nO];exact lI r acc
 |.mpt _ _ _::r,acc=>by simp only[nO];exact lI r acc
 |.ren k _::r,acc=>by simp only[nO];rw[lI r (acc|||kL k),lI r (0|||kL k),CW,kf]
 |.pk _ _ _::r,acc=>by simp only[nO];exact lI r acc
theorem ij:∀ (c:TC) (acc:Nat),c.asg acc=acc|||c.asg 0
 |.reg ops _,acc=>yr ops acc
 |.seq a b,acc=>by simp only[TC.asg];rw[ij b (a.asg acc),ij b (a.asg 0),ij a acc,kf]
 |.jseq A a b,acc=>by simp only[TC.asg];rw[ij b (a.asg _),ij b (a.asg (JP A.ks 0)),ij a (JP A.ks acc),ij a (JP A.ks 0),yL A.ks acc,kf,kf,kf]
 |.cond _ a b,acc=>by simp only[TC.asg];rw[ij b (a.asg acc),ij b (a.asg 0),ij a acc,kf]
 |.block _ b,acc=>ij b acc
 |.jblock A _ b,acc=>by simp only[TC.asg];rw[ij b (JP A.ks acc),ij b (JP A.ks 0),yL A.ks acc,kf]
 |.loop A b,acc=>by simp only[TC.asg];rw[ij b (JP A.ks acc),ij b (JP A.ks 0),yL A.ks acc,kf]
 |.defer _ _ t,acc=>by simp[TC.asg]
 |.adj l c,acc=>by simp only[TC.asg];rw[ij c (nO l acc),ij c (nO l 0),lI l acc,kf]
 |.split _ _ _ _ c,acc=>ij c acc
 |.unl _ b,acc=>ij b acc
 |.skip,acc=>by simp[TC.asg]
 |.exit _,acc=>by simp[TC.asg]
 |.ret,acc=>by simp[TC.asg]
 |.bad,acc=>by simp[TC.asg]
theorem uj {c:TC} {acc k:Nat} (h:aL (c.asg 0) k=ah):aL (c.asg acc) k=ah:=by rw[ij,bl,h];simp
theorem jU {c:TC} {acc k:Nat} (h:aL acc k=ah):aL (c.asg acc) k=ah:=by rw[ij,bl,h];rfl
theorem Uz:∀ {l:List Nat} {acc k:Nat},k∈l->aL (JP l acc) k=ah
 |[],_,_,h=>by cases h
 |x::r,acc,k,h=>by
  simp only[JP];rcases bh.1 h with rfl|h
  .rw[yL,bl,bl,bY.2 rfl];simp
  .exact Uz h
theorem QF:∀ {l:List rA} {acc:Nat} {o:rA} {d:Nat},o∈l->o.dst=aa d->aL (Nr l acc) d=ah
 |[],_,_,_,h,_=>by cases h
 |x::r,acc,o,d,h,hd=>by
  simp only[Nr];rcases bh.1 h with rfl|h
  .rw[hd];simp only[];rw[yr,bl,bl,bY.2 rfl];simp
  .exact QF h hd
theorem UH:∀ {e:iw} {ks:List Nat} {vs:List TV},nv e ks=aa vs->vs.length=ks.length/\∀ (j k:Nat),ks[j]? =aa k->∃ v,vs[j]? =aa v/\e.get k=aa v
 |e,[],vs,h=>by simp only[nv,aj] at h;subst h;exact⟨rfl,by simp⟩
 |e,k::r,vs,h=>by
  simp only[nv] at h;split at h
  .rename_i v hv;split at h
   .rename_i l hl;simp only[aj] at h;subst h;obtain⟨h1,h2⟩:=UH hl;refine ⟨by simp[h1],λj k' hj=>?_⟩;cases j with
    |zero=>simp at hj;subst hj;exact⟨v,rfl,hv⟩
    |succ j=>simpa using h2 j k' (by simpa using hj)
   .cases h
  .cases h
theorem G1 {e:iw} {h:bd} (hi:sr e h):∀ {ks:List Nat} {vs:List TV},nv e ks=aa vs->ku h vs=ah
 |[],vs,hg=>by simp only[nv,aj] at hg;subst hg;rfl
 |k::r,vs,hg=>by
  simp only[nv] at hg;split at hg
  .rename_i v hv;split at hg
   .rename_i l hl;simp only[aj] at hg;subst hg;simp only[ku,au];exact⟨hi k v hv,G1 hi hl⟩
   .cases hg
  .cases hg
theorem Bo:∀ {e:iw} {ks:List Nat} {vs:List TV},vs.length=ks.length->∀ t v,(Vp e ks vs).get t=aa v->(∃ j:Nat,ks[j]? =aa t/\vs[j]? =aa v)\/(t∉ks/\e.get t=aa v)
 |e,[],[],_,t,v,h=>.inr ⟨by simp,h⟩
 |e,[],_::_,hl,t,v,h=>by simp at hl
 |e,_::_,[],hl,t,v,h=>by simp at hl
 |e,k::r,u::l,hl,t,v,h=>by
  simp only[Vp,PT.get_set] at h;split at h
  .rename_i I;subst I;cases h;exact .inl ⟨0,rfl,rfl⟩
  .rename_i I;rcases Bo (by simpa using hl) t v h with ⟨j,h1,h2⟩|⟨h1,h2⟩
   .exact .inl ⟨j+1,by simpa using h1,by simpa using h2⟩
   .exact .inr ⟨by simp[I,h1],h2⟩
theorem sC {am:Nat} {e:iw}:∀ {ks:List Nat} {k:Nat} {v:TV},(BO am e ks).get k=aa v->k∈ks/\e.get k=aa v/\s5 v=ah/\aL am k=ai
 |[],k,v,h=>by simp[BO,PT.get] at h
 |x::r,k,v,h=>by
  simp only[BO] at h;split at h
  .rename_i u hu;split at h
   .rename_i hc;simp only[au,dZ] at hc;rw[PT.get_set] at h;split at h
    .rename_i I;subst I;cases h;exact⟨by simp,hu,hc.1,hc.2⟩
    .obtain⟨h1,h2⟩:=sC h;exact⟨by simp[h1],h2⟩
   .obtain⟨h1,h2⟩:=sC h;exact⟨by simp[h1],h2⟩
  .obtain⟨h1,h2⟩:=sC h;exact⟨by simp[h1],h2⟩
theorem Hh {am:Nat} {e0 e:iw}:∀ {ks:List Nat},F_ am e0 e ks=ah->∀ k v,k∈ks->e0.get k=aa v->s5 v=ah->aL am k=ai->∃ J,e.get k=aa J
 |[],_,k,v,h,_,_,_=>by cases h
 |x::r,hc,k,v,h,hv,hf,I=>by
  simp only[F_,au] at hc;rcases bh.1 h with rfl|h
  .have h1:=hc.1;rw[hv] at h1;simp only[hf,I,Bool.not_true,Bool.false_or] at h1;cases M:e.get k with
   |none=>rw[M] at h1;cases h1
   |some u=>exact⟨u,rfl⟩
  .exact Hh hc.2 k v h hv hf I
section walk
variable {P:Program} {E:Nat->Prop} {nt np:Nat}
theorem Pm {h:bd} {v:TV} {y:AV} (hn:aaf v=ah) (I:cg h v=aa y):Le y .emp:=by
 cases v with
 |nil=>simp only[cg,aj] at I;subst I;exact Le.nilEmp
 |emp=>simp only[cg,aj] at I;subst I;exact Le.refl _
 |_=>cases hn
theorem Va {φ:PM} {s:TS} {a:Act} {w:World} (c:oe P E nt np φ s a w) (ty:TypeId) (T:Ty):oe P E nt np φ ⟨s.e,s.h.set s.nx (aa (.rows ty ah T [])),s.nx+1⟩ a w/\bw (s.h.set s.nx (aa (.rows ty ah T [])))=bw s.h/\cq s.h (s.h.set s.nx (aa (.rows ty ah T []))):=by
 have hfr:=c.invH.fresh;have hr:cq s.h (s.h.set s.nx (aa (.rows ty ah T []))):=cq.set λr hr=>by rw[bP,hfr] at hr;cases hr
 have J:bw (s.h.set s.nx (aa (.rows ty ah T [])))=bw s.h:=by
  funext n;by_cases hn:n=nm s.nx
  .subst hn;rw[bE,bE,PT.get_set,aI rfl,hfr];rfl
  .refine ko c.invH hr λi e=>?_
   subst e;rw[PT.get_set,aC (λe=>hn (by rw[e]))]
 refine ⟨⟨by rw[J];exact c.rep,?_,λn k hk=>yE (c.dom n k hk),ib c.low,c.invH.set hr (Ba _) (Nat.le_succ _) (λ_ _ he=>by cases he),?_,c.inert,c.size⟩,J,hr⟩
 .intro t x I;rw[J];simp only[fE] at I;cases he:s.e.get t with
  |none=>rw[he] at I;cases I
  |some q=>
   rw[he] at I;obtain⟨z,M⟩:=po s.h q (c.invE t q he);simp only[aF,gm hr q z M,aj] at I;subst I;exact c.env t _ (by simp only[fE,he,aF,M])
 .intro t x I;exact nW hr x (c.invE t x I)
theorem xG {h:bd}:∀ {a b:List TV},ku h a=ah->ku h b=ah->ku h (a++b)=ah
 |[],_,_,hb=>hb
 |x::r,b,I,hb=>by
  simp only[ku,au] at I;simp only[fZ,ku,au];exact⟨I.1,xG I.2 hb⟩
theorem KZ {h:bd}:∀ {a:List TV} (n:Nat),ku h a=ah->ku h (a.take n)=ah
 |[],n,_=>by simp[ku]
 |x::r,0,_=>rfl
 |x::r,n+1,I=>by
  simp only[ku,au] at I;simp only[uJ,ku,au];exact⟨I.1,KZ n I.2⟩
theorem K0 {h:bd}:∀ {a:List TV} (n:Nat),ku h a=ah->ku h (a.drop n)=ah
 |[],n,_=>by simp[ku]
 |x::r,0,I=>I
 |x::r,n+1,I=>by
  simp only[ku,au] at I;simp only[uL];exact K0 n I.2
theorem xB {α:Type} {l:List α} {j:Nat} {x:α} (h:l[j]? =aa x):splice l j [x]=l:=by
 have hl:j<l.length:=by
  rcases bV j l.length with h'|h'
  .exact h'
  .rw[bK h'] at h;cases h
 rw[ay hl,aj] at h;unfold splice;subst h;simp
theorem Zg {φ:PM} {s:TS} {a:Act} {w:World} (c:oe P E nt np φ s a w) {id cty j:Nat} {l:List TV} {v u:TV} (hb:s.h.get id=aa (.cells cty l)) (hv:l[j]? =aa v) (hn:aaf v=ah) (hu:cg s.h u=aa .emp) (huo:JM s.h u=ah):
 oe P E nt np φ ⟨s.e,s.h.set id (aa (.cells cty (splice l j [u]))),s.nx⟩ a w/\Be np φ φ (bw s.h) (bw (s.h.set id (aa (.cells cty (splice l j [u]))))) w w:=by
 have hr:cq s.h (s.h.set id (aa (.cells cty (splice l j [u])))):=cq.set λr hr=>by rw[bP,hb] at hr;cases hr
 have hlo:=c.invH.cells id cty l hb;obtain⟨J,M⟩:=fo s.h l hlo;have hsp:cF s.h (splice l j [u])=aa (splice J j [.emp]):=uc j M (by simp only[cF,hu]);have hsp':cF (s.h.set id (aa (.cells cty (splice l j [u])))) (splice l j [u])=aa (splice J j [.emp]):=iJ hr _ _ hsp;obtain⟨y,hy,hey⟩:=lG M j v hv;have hold:bw s.h (nm id)=aa ⟨cty,.mx J⟩:=by rw[bE,hb];simp only[aF,kq,M]
 have hnew:bw (s.h.set id (aa (.cells cty (splice l j [u])))) (nm id)=aa ⟨cty,.mx (splice J j [.emp])⟩:=by
  rw[bE,PT.get_set,aI rfl];simp only[aF,kq,hsp']
 have hoth:∀ n,n≠nm id->bw (s.h.set id (aa (.cells cty (splice l j [u])))) n=bw s.h n:=λn Y=>by
  refine ko c.invH hr λi e=>?_
  subst e;rw[PT.get_set,aC (λe=>Y (by rw[e]))]
 have hdom:uk (bw s.h) (bw (s.h.set id (aa (.cells cty (splice l j [u]))))):=λn b U=>by
  by_cases e:n=nm id
  .subst e;exact⟨_,hold⟩
  .rw[hoth n e] at U;exact⟨b,U⟩
 have hcell:∀ x∈J,x.isCell=ah:=λx I=>by
  obtain⟨k,hk⟩:=eQ I;obtain⟨q,_,_,hat⟩:=c.rep.at_ _ _ hold;unfold Vk at hat;obtain⟨ob,_,hob⟩:=hat;rw[oY rfl] at hob;obtain⟨arr,_,hca⟩:=hob;exact (hca.2 k x hk).1
 have hV:Je (bw s.h) (bw (s.h.set id (aa (.cells cty (splice l j [u]))))):=⟨hdom,λn b b' h1 h2=>by
  by_cases e:n=nm id
  .subst e;rw[hold] at h1;cases h1;rw[hnew] at h2;cases h2;refine jV.cells rfl rfl ?_ λx I=>?_
   .show gW _ _ J (splice J j [.emp]);have:=gW.splice j (gW.refl hdom J) (b:=[y]) (b':=[.emp]) ⟨(Pm hn hey).toH hdom,trivial⟩;rw[xB hy] at this;exact this
   .have I:x∈splice J j [.emp]:=I;unfold splice at I;rw[bR,bR,aK] at I;rcases I with (I|I)|I
    .exact hcell x (iT I)
    .subst I;rfl
    .exact hcell x (List.mem_of_mem_drop I)
  .rw[hoth n e,h1] at h2;cases h2;exact jV.refl hdom b⟩
 refine ⟨⟨hV.rep c.rep,?_,c.dom,c.low,c.invH.set hr (c.invH.low id _ hb) (bO _) (λty l2 he=>?_),?_,c.inert,c.size⟩,⟨Js.refl _ _,λk _ ho=>hdom.own ho,λ_ _=>rfl⟩⟩
 .intro t x I;simp only[fE] at I;cases he:s.e.get t with
  |none=>rw[he] at I;cases I
  |some q=>
   rw[he] at I;obtain⟨z,Z⟩:=po s.h q (c.invE t q he);simp only[aF,gm hr q z Z,aj] at I;subst I;exact (c.env t _ (by simp only[fE,he,aF,Z])).dom hdom
 .simp only[hZ.cells.injEq] at he;obtain⟨_,rfl⟩:=he;refine iE hr _ ?_;unfold splice;exact xG (xG (KZ _ hlo) (by simp only[ku,huo,ki])) (K0 _ hlo)
 .intro t x I;exact nW hr x (c.invE t x I)
theorem oe.congr {φ:PM} {s s':TS} {a:Act} {w:World} (c:oe P E nt np φ s a w) (he:∀ t,s'.e.get t=s.e.get t) (hh:∀ i,s'.h.get i=s.h.get i) (hn:s'.nx=s.nx):oe P E nt np φ s' a w/\bw s'.h=bw s.h:=by
 have hr:cq s.h s'.h:=λi r hi=>by rw[bP] at hi ⊢;rw[hh];exact hi
 have J:bw s'.h=bw s.h:=by funext n;exact ko c.invH hr λi _=>hh i
 refine ⟨⟨by rw[J];exact c.rep,?_,by rw[hn];exact c.dom,by rw[hn];exact c.low,⟨λi ty l hg=>?_,λi b hg=>?_⟩,λt v hv=>?_,c.inert,c.size⟩,J⟩
 .intro t x I;rw[J];simp only[fE,he] at I;cases hg:s.e.get t with
  |none=>rw[hg] at I;cases I
  |some v=>
   rw[hg] at I;obtain⟨z,M⟩:=po s.h v (c.invE t v hg);simp only[aF,gm hr v z M,aj] at I;subst I;exact c.env t _ (by simp only[fE,hg,aF,M])
 .rw[hh] at hg;exact iE hr l (c.invH.cells i ty l hg)
 .rw[hh] at hg;rw[hn];exact c.invH.low i b hg
 .rw[he] at hv;exact nW hr v (c.invE t v hv)
theorem N3 {R:Type} {v:Int} {f:Nat->Option R} {r:R}:∀ {m i:Nat},spl v f i m=aa r->∃ j,v=aN j/\f j=aa r
 |0,i,h=>by cases h
 |m+1,i,h=>by
  simp only[spl] at h;rcases oU h with ⟨h1,h2⟩|⟨_,h2⟩
  .exact⟨i,bm h1,h2⟩
  .exact N3 h2
theorem XR {φ:PM} {s s':TS} {a:Act} {w:World} (c:oe P E nt np φ s a w) {k off:Nat} {kd:IntKind} {v:Int} (h1:Yk s k off=aa (kd,v)) (h2:Ry s k off kd v=aa s'):oe P E nt np φ s' a w/\bw s'.h=bw s.h/\∀ t,s'.e.get t=s.e.get t:=by
 unfold Yk at h1;unfold Ry at h2;cases hk:s.e.get k with
 |none=>rw[hk] at h1;cases h1
 |some x=>
  rw[hk] at h1 h2;cases x with
  |f T q=>
   cases T with
   |int kd'=>
    simp only[aj,aB] at h1;obtain⟨rfl,rfl⟩:=h1;simp only[aj] at h2;subst h2;have he:∀ t,(s.e.set k (aa (.f (.int kd') q))).get t=s.e.get t:=λt=>by
     rw[PT.get_set];split
     .rename_i e;subst e;exact hk.symm
     .rfl
    obtain⟨J,I⟩:=c.congr (s':=⟨s.e.set k (aa (.f (.int kd') q)),s.h,s.nx⟩) he (λ_=>rfl) rfl;exact⟨J,I,he⟩
   |_=>cases h1
  |ptr a0 o0=>
   simp only[] at h1 h2;cases hb:s.h.get a0 with
   |none=>rw[hb] at h1;cases h1
   |some b=>
    rw[hb] at h1 h2;cases b with
    |cells ty l=>
     simp only[] at h1 h2;cases hl:l[o0+off]? with
     |none=>rw[hl] at h1;cases h1
     |some y=>
      rw[hl] at h1;cases y with
      |f T q=>
       cases T with
       |int kd'=>
        simp only[aj,aB] at h1;obtain⟨rfl,rfl⟩:=h1;simp only[aj] at h2;subst h2;have hh:∀ i,(s.h.set a0 (aa (.cells ty (splice l (o0+off) [.f (.int kd') q])))).get i=s.h.get i:=λi=>by
         rw[PT.get_set];split
         .rename_i e;subst e;rw[hb,xB hl]
         .rfl
        obtain⟨J,I⟩:=c.congr (s':=⟨s.e,s.h.set a0 (aa (.cells ty (splice l (o0+off) [.f (.int kd') q]))),s.nx⟩) (λ_=>rfl) hh rfl;exact⟨J,I,λ_=>rfl⟩
       |_=>cases h1
      |_=>cases h1
    |_=>cases h1
  |_=>cases h1
mutual
theorem KM (id sz n:Nat):∀ v:TV,s5 v=ah->JE id sz n v=v
 |.f _ _,_=>rfl
 |.fel _ _ _ _ _,_=>rfl
 |.emp,_=>rfl
 |.nil,_=>rfl
 |.undef,_=>rfl
 |.np,_=>rfl
 |.anyb,_=>rfl
 |.agg l,h=>by simp only[JE];rw[Ae id sz n l h]
 |.tup l,h=>by simp only[JE];rw[Ae id sz n l h]
 |.pel _ _ _ _,h=>by cases h
 |.ptr _ _,h=>by cases h
 |.csl _ _ _,h=>by cases h
 |.row _,h=>by cases h
 |.rtl _ _,h=>by cases h
 |.mp _,h=>by cases h
 |.clo _ _,h=>by cases h
theorem Ae (id sz n:Nat):∀ l:List TV,pH l=ah->Bl id sz n l=l
 |[],_=>rfl
 |x::r,h=>by
  simp only[pH,au] at h;simp only[Bl];rw[KM id sz n x h.1,Ae id sz n r h.2]
end
section subs
variable {id sz n:Nat} {h h':bd}
mutual
theorem L7 (hr:cq h h') (hid:ec h' id=aa (ai,sz,n)):∀ (v:TV) (y:AV),cg h v=aa y->cg h' (JE id sz n v)=aa y
 |.csl i s m,y,he=>by
  simp only[cg,aj] at he;subst he;simp only[JE];split
  .rename_i hq;simp only[au] at hq;have e1:=av hq.1.1;have e2:=av hq.1.2;have e3:=av hq.2;subst e1;subst e2;subst e3;simp only[cg,hid,eY,mT,co,dR]
  .rfl
 |.agg l,y,he=>by
  simp only[cg] at he;cases hl:cF h l with
  |none=>rw[hl] at he;cases he
  |some l'=>rw[hl] at he;simp only[JE,cg,uP hr hid l l' hl];exact he
 |.tup l,y,he=>by
  simp only[cg] at he;cases hl:cF h l with
  |none=>rw[hl] at he;cases he
  |some l'=>rw[hl] at he;simp only[JE,cg,uP hr hid l l' hl];exact he
 |.clo g l,y,he=>by
  simp only[cg] at he;cases hl:cF h l with
  |none=>rw[hl] at he;cases he
  |some l'=>rw[hl] at he;simp only[JE,cg,uP hr hid l l' hl];exact he
 |.f T v,y,he=>gm hr _ _ he
 |.fel T xs j hj off,y,he=>gm hr _ _ he
 |.pel _ _ _ _,y,he=>gm hr _ _ he
 |.ptr _ _,y,he=>gm hr _ _ he
 |.row _,y,he=>gm hr _ _ he
 |.rtl _ _,y,he=>gm hr _ _ he
 |.emp,y,he=>gm hr _ _ he
 |.nil,y,he=>gm hr _ _ he
 |.mp _,y,he=>gm hr _ _ he
 |.undef,y,he=>gm hr _ _ he
 |.np,y,he=>gm hr _ _ he
 |.anyb,y,he=>gm hr _ _ he
theorem uP (hr:cq h h') (hid:ec h' id=aa (ai,sz,n)):∀ (l:List TV) (l':List AV),cF h l=aa l'->cF h' (Bl id sz n l)=aa l'
 |[],l',he=>by simp only[cF,aj] at he;subst he;rfl
 |x::r,l',he=>by
  obtain⟨y,l2,rfl,h1,h2⟩:=cO he;simp only[Bl];exact oy (L7 hr hid x y h1) (uP hr hid r l2 h2)
end
end subs
theorem ah3 {φ:PM} {s:TS} {a:Act} {w:World} (c:oe P E nt np φ s a w) {T:Ty} {id sz n:Nat} {s':TS} (hp:pkS s T id sz n=aa s'):oe P E nt np φ s' a w/\Be np φ φ (bw s.h) (bw s'.h) w w/\gd 0 s.e s'.e:=by
 unfold pkS at hp;split at hp
 .rename_i ty l hb;split at hp
  .rename_i hs;have hs:=av hs;subst hs;split at hp
   .rename_i xs m hpk;split at hp
    .cases hp
    .rename_i hmid;simp only[aj] at hp;subst hp;have hm:dO s.h m:=Mc n l xs m hpk;obtain⟨l',hl⟩:=fo s.h l (c.invH.cells id ty l hb);have hidlt:=c.invH.low id _ hb;have nv:∀ i,((PT.updI (λ_ b=>Vn id T.size n b) 1 0 (eB m s.h)).set id (aa (.rows ty ai T xs))).get i=if i=id then aa (.rows ty ai T xs) else if aL m i then (s.h.get i).map tZ else (s.h.get i).map (Vn id T.size n):=λi=>by
      rw[PT.get_set];by_cases e:i=id
      .rw[aI e,aI e]
      .rw[aC e,aC e,PT.get_updI,iI];split
       .cases hg:s.h.get i with
        |none=>rfl
        |some b=>cases b<;>rfl
       .rfl
     generalize hH2:((PT.updI (λ_ b=>Vn id T.size n b) 1 0 (eB m s.h)).set id (aa (.rows ty ai T xs)))=h2 at nv ⊢;have hr:cq s.h h2:=λi r hi=>by
      rw[bP] at hi ⊢;rw[nv];by_cases e:i=id
      .subst e;rw[hb] at hi;cases hi
      .rw[aC e];cases hg:s.h.get i with
       |none=>rw[hg] at hi;cases hi
       |some b=>
        rw[hg] at hi;split
        .exact KV hi
        .cases b<;>first|exact hi|cases hi
     have hnone:∀ i,aL m i=ah->bw h2 (nm i)=af:=λi hi=>by
      have e:i≠id:=λe=>by subst e;exact hmid hi
      obtain⟨ty',p',T',xs',J⟩:=hm i hi;rw[bE,nv,aC e,aI hi,J];rfl
     have hdom:uk (bw s.h) (bw h2):=λq b hq=>by
      obtain⟨i,cc,rfl,I,h4⟩:=jf hq;rw[bE];rw[nv] at I;by_cases e:i=id
      .subst e;rw[hb];simp only[aF,kq,hl];exact⟨_,rfl⟩
      .rw[aC e] at I;cases hg:s.h.get i with
       |none=>rw[hg] at I;split at I<;>cases I
       |some b0=>
        rw[hg] at I;split at I
        .simp only[b8,aj] at I;subst I;cases b0<;>simp[tZ,kq] at h4
        .simp only[b8,aj] at I;subst I;simp only[aF];cases b0 with
         |cells ty0 l0=>
          obtain⟨l0',U⟩:=fo s.h l0 (c.invH.cells i ty0 l0 hg);exact⟨⟨ty0,.mx l0'⟩,by simp only[kq,U]⟩
         |rows=>exact⟨_,h4⟩
         |dead=>exact⟨_,h4⟩
         |mp=>exact⟨_,h4⟩
     have giv:CZ s.h (bw s.h) (bw h2) m:=λi hi=>⟨rfl,hnone i hi⟩
     obtain⟨hle,hlen⟩:=BA hdom n l xs m l' hpk hl giv;have hrow:ec h2 id=aa (ai,T.size,n):=by rw[bP,nv,aI rfl,<-hlen];rfl
     have hV:Je (bw s.h) (bw h2):=⟨hdom,λq b b' I h4=>by
      obtain⟨i,cc,rfl,Z,h6⟩:=jf h4;rw[bE] at I;rw[nv] at Z;by_cases e:i=id
      .subst e;rw[aI rfl] at Z;cases Z;rw[hb] at I;simp only[aF,kq,hl,aj] at I;subst I;simp only[kq,mT,co,dR,aj] at h6;subst h6;refine jV.cells rfl rfl hle λx J=>?_
       simp only[BC.toMx] at J;obtain⟨q,hq,rfl⟩:=dc.1 J;exact qG T _ q hq
      .rw[aC e] at Z;cases hg:s.h.get i with
       |none=>rw[hg] at Z;split at Z<;>cases Z
       |some b0=>
        rw[hg] at Z I;split at Z
        .simp only[b8,aj] at Z;subst Z;cases b0<;>simp[tZ,kq] at h6
        .simp only[b8,aj] at Z;subst Z;have:b=b':=by
          simp only[aF] at I;cases b0 with
          |cells ty0 l0=>
           obtain⟨l0',U⟩:=fo s.h l0 (c.invH.cells i ty0 l0 hg);simp only[kq,U,aj] at I;simp only[Vn,kq,uP hr hrow l0 l0' U,aj] at h6;rw[<- I,<-h6]
          |rows ty1 p1 T1 xs1=>
           have h3':kq h2 (.rows ty1 p1 T1 xs1)=aa b:=I;exact jE (h3'.symm.trans h6)
          |dead p1 s1 n1=>
           have h3':kq h2 (.dead p1 s1 n1)=aa b:=I;exact jE (h3'.symm.trans h6)
          |mp K1 V1 es1=>
           have h3':kq h2 (.mp K1 V1 es1)=aa b:=I;exact jE (h3'.symm.trans h6)
         subst this;exact jV.refl hdom b⟩
     refine ⟨⟨hV.rep c.rep,?_,c.dom,c.low,⟨λi ty' l2 hg=>?_,λi b hg=>?_⟩,?_,c.inert,c.size⟩,⟨Js.refl _ _,λk _ hk=>hdom.own hk,λ_ _=>rfl⟩,?_⟩
     .intro t x J;simp only[fE,PT.get_updI] at J;cases he:s.e.get t with
      |none=>rw[he] at J;cases J
      |some v=>
       rw[he] at J;obtain⟨z,hz⟩:=po s.h v (c.invE t v he);simp only[b8,aF,L7 hr hrow v z hz,aj] at J;subst J;exact (c.env t _ (by simp only[fE,he,aF,hz])).dom hdom
     .rw[nv] at hg;by_cases e:i=id
      .rw[aI e] at hg;cases hg
      .rw[aC e] at hg;cases Y:s.h.get i with
       |none=>rw[Y] at hg;split at hg<;>cases hg
       |some b0=>
        rw[Y] at hg;split at hg
        .simp only[b8,aj] at hg;cases b0<;>simp[tZ] at hg
        .simp only[b8,aj] at hg;cases b0 with
         |cells ty0 l0=>
          simp only[Vn,hZ.cells.injEq] at hg;obtain⟨_,rfl⟩:=hg;obtain⟨l0',U⟩:=fo s.h l0 (c.invH.cells i ty0 l0 Y);exact k9 _ _ _ (uP hr hrow l0 l0' U)
         |_=>cases hg
     .rw[nv] at hg;by_cases e:i=id
      .subst e;exact hidlt
      .rw[aC e] at hg;cases Y:s.h.get i with
       |none=>rw[Y] at hg;split at hg<;>cases hg
       |some b0=>exact c.invH.low i b0 Y
     .intro t x J;simp only[PT.get_updI] at J;cases he:s.e.get t with
      |none=>rw[he] at J;cases J
      |some v=>
       rw[he] at J;simp only[b8,aj] at J;subst J;obtain⟨z,hz⟩:=po s.h v (c.invE t v he);exact DG _ _ _ (L7 hr hrow v z hz)
     .intro k _ v' M;simp only[PT.get_updI] at M;cases he:s.e.get k with
      |none=>rw[he] at M;cases M
      |some v=>
       rw[he] at M;simp only[b8,aj] at M;subst M;exact⟨v,rfl,λhf=>KM _ _ _ v hf⟩
   .cases hp
  .cases hp
 .cases hp
theorem agy {φ:PM} {s:TS} {a:Act} {w:World} (c:oe P E nt np φ s a w) {k off:Nat} {s':TS} (h:Nv s (.ren k off)=aa s'):∃ φ',oe P E nt np φ' s' a w/\Be np φ φ' (bw s.h) (bw s'.h) w w/\gd (nO [.ren k off] 0) s.e s'.e:=by
 simp only[Nv] at h;split at h
 .rename_i b o hk;split at h
  .rename_i cty l hb;split at h
   .rename_i id hv;split at h
    .rename_i ty p T xs J;simp only[aj] at h;subst h;have hfr:=c.invH.fresh;have hidlt:=c.invH.low id _ J;have hblt:=c.invH.low b _ hb;have hbid:b≠id:=λe=>by rw[e,J] at hb;cases hb
     have hbn:b≠s.nx:=by omega
     have hin:id≠s.nx:=by omega
     generalize hh2:(((s.h.set id (aa (.dead p T.size xs.length))).set s.nx (aa (.rows ty p T xs))).set b (aa (.cells cty (splice l (o+off) [.row s.nx]))))=h2;have nv:∀ i,h2.get i=if i=b then aa (.cells cty (splice l (o+off) [.row s.nx])) else if i=s.nx then aa (.rows ty p T xs) else if i=id then aa (.dead p T.size xs.length) else s.h.get i:=λi=>by
      rw[<- hh2,PT.get_set,PT.get_set,PT.get_set]
     have hr:cq s.h h2:=λi r hi=>by
      rw[bP] at hi ⊢;rw[nv];by_cases e1:i=b
      .subst e1;rw[hb] at hi;cases hi
      .rw[aC e1];by_cases e2:i=s.nx
       .subst e2;rw[hfr] at hi;cases hi
       .rw[aC e2];by_cases e3:i=id
        .subst e3;rw[aI rfl];rw[J] at hi;exact hi
        .rw[aC e3];exact hi
     have hlo:=c.invH.cells b cty l hb;obtain⟨Z,hl'⟩:=fo s.h l hlo;have hrow:cg h2 (.row s.nx)=aa (eY p s.nx T.size xs.length):=by
      simp only[cg,bP,nv];rw[aC hbn.symm];simp only[bC,aF,mj]
     have hsp:cF h2 (splice l (o+off) [.row s.nx])=aa (splice Z (o+off) [eY p s.nx T.size xs.length]):=uc _ (iJ hr _ _ hl') (by simp only[cF,hrow]);obtain⟨y,hy,hey⟩:=lG hl' _ _ hv;have hy0:y=eY p id T.size xs.length:=by
      simp only[cg,bP,J,aF,mj,aj] at hey;exact hey.symm
     subst hy0;have hold:bw s.h (nm b)=aa ⟨cty,.mx Z⟩:=by rw[bE,hb];simp only[aF,kq,hl']
     have hnew:bw h2 (nm b)=aa ⟨cty,.mx (splice Z (o+off) [eY p s.nx T.size xs.length])⟩:=by
      rw[bE,nv,aI rfl];simp only[aF,kq,hsp]
     have hdead:bw h2 (nm id)=af:=by rw[bE,nv,aC hbid.symm,aC hin,aI rfl];rfl
     have hnx2:bw h2 (nm s.nx)=if p&&xs.length==0 then af else aa ⟨ty,.fz (xs.flatMap (bN T))⟩:=by rw[bE,nv,aC hbn.symm,aI rfl];rfl
     have hid0:bw s.h (nm id)=if p&&xs.length==0 then af else aa ⟨ty,.fz (xs.flatMap (bN T))⟩:=by rw[bE,J];rfl
     have hoth:∀ n,n≠nm b->n≠nm s.nx->n≠nm id->bw h2 n=bw s.h n:=λn e1 e2 e3=>ko c.invH hr λi e=>by
      subst e;rw[nv,aC (λe=>e1 (by rw[e])),aC (λe=>e2 (by rw[e])),aC (λe=>e3 (by rw[e]))]
     have hnb:nm b≠nm s.nx:=λe=>hbn (kw e)
     have hbi:nm b≠nm id:=λe=>hbid (kw e)
     have hni:nm s.nx≠nm id:=λe=>hin (kw e).symm
     have hinv:lJ h2 (s.nx+1):=by
      refine ⟨λi ty2 l2 hil=>?_,λi q hiq=>?_⟩
      .rw[nv] at hil;split at hil
       .simp only[aj,hZ.cells.injEq] at hil;obtain⟨_,rfl⟩:=hil;exact k9 _ _ _ hsp
       .split at hil
        .cases hil
        .split at hil
         .cases hil
         .exact iE hr l2 (c.invH.cells i ty2 l2 hil)
      .rw[nv] at hiq;split at hiq
       .omega
       .split at hiq
        .omega
        .split at hiq
         .omega
         .have:=c.invH.low i q hiq;omega
     have hE:∀ t x,fE s.e h2 t=aa x->fE s.e s.h t=aa x:=λt x I=>by
      simp only[fE] at I ⊢;cases he:s.e.get t with
      |none=>rw[he] at I;cases I
      |some q=>
       rw[he] at I;obtain⟨z,hz⟩:=po s.h q (c.invE t q he);simp only[aF,gm hr q z hz,aj] at I;subst I;simp only[aF,hz]
     by_cases hp:(p&&xs.length==0)=ah
     ·
      have Y:bw h2=bw s.h:=by
       funext n;by_cases e1:n=nm b
       .subst e1;rw[hold,hnew];have:eY p s.nx T.size xs.length=eY p id T.size xs.length:=by unfold eY;rw[aI hp,aI hp]
        rw[this,xB hy]
       .by_cases e2:n=nm s.nx
        .subst e2;rw[hnx2,aI hp,bE,hfr];rfl
        .by_cases e3:n=nm id
         .subst e3;rw[hdead,hid0,aI hp]
         .exact hoth n e1 e2 e3
      refine ⟨φ,⟨by rw[Y];exact c.rep,λt x I=>by rw[Y];exact c.env t x (hE t x I),λn q hq=>yE (c.dom n q hq),ib c.low,hinv,λt x I=>nW hr x (c.invE t x I),c.inert,c.size⟩,by rw[Y];exact Be.refl _ _ _ _,gd.refl _ _⟩
     .have hid1:bw s.h (nm id)=aa ⟨ty,.fz (xs.flatMap (bN T))⟩:=by rw[hid0,aC hp]
      obtain⟨kk,k1,k2,ob,k3,k4⟩:=c.rep.at_ _ _ hid1;have hφn:φ (nm s.nx)=af:=by
       cases hq:φ (nm s.nx) with
       |none=>rfl
       |some q=>have:=c.dom _ q hq;rw[dW] at this;omega
      let nw:HF:=λn=>if n=nm s.nx then aa ⟨ty,.fz (xs.flatMap (bN T))⟩ else af
      have hsh:D3 w w kk ob:=⟨rfl,rfl,rfl,rfl,k3,λ_ _=>rfl,λ_=>rfl⟩
      obtain⟨φ',p1,p2,p3,p4⟩:=c.rep.wren hid1 k1 hφn hsh k4 nw (by simp[nw]) (by simp only[nw];rw[aC hni.symm]);have hb1:eJ (bw s.h) [nm s.nx,nm id] nw (nm b)=aa ⟨cty,.mx Z⟩:=by
       unfold eJ;rw[aC (by simp[hnb,hbi]),hold]
      obtain⟨kb,b1,b2,ob2,b3,b4⟩:=p4.at_ _ _ hb1;have hlt:o+off<Z.length:=by
       rcases bV (o+off) Z.length with h'|h'
       .exact h'
       .rw[bK h'] at hy;cases hy
      have hob:jd φ' (tot E φ' (eJ (bw s.h) [nm s.nx,nm id] nw)) w ⟨cty,.mx (splice Z (o+off) [eY p s.nx T.size xs.length])⟩ ob2:=by
       rw[oY rfl] at b4 ⊢;obtain⟨arr,a1,a2⟩:=b4;refine ⟨arr,a1,?_⟩;unfold ul at a2 ⊢;refine ⟨by simp only[BC.len] at a2 ⊢;rw[nS (by simp;omega)];exact a2.1,λj x I=>?_⟩;simp only[BC.get] at I a2;rw[mi (by simp;omega)] at I;split at I
       .exact a2.2 j x I
       .split at I
        .rename_i h3 M;simp only[gg] at M;have hj:j=o+off:=by omega
         subst hj;simp only[Nat.sub_self,pZ,aj] at I;subst I;obtain⟨_,v,a3,a4⟩:=a2.2 _ _ hy;unfold eY at a4 ⊢;rw[aC hp] at a4 ⊢;refine ⟨rfl,v,a3,?_⟩;cases a4 with
         |@row _ _ _ cc q hφq hn hc hs2=>
          have:=p2.sub _ _ k1;rw[this,aj] at hφq;subst hφq;exact .row p1 hn hc hs2
        .exact a2.2 j x I
      obtain⟨q1,q2⟩:=p4.wset hb1 b1 (⟨rfl,rfl,rfl,rfl,b3,λ_ _=>rfl,λ_=>rfl⟩:D3 w w kb ob2) hob (λn=>if n=nm b then aa ⟨cty,.mx (splice Z (o+off) [eY p s.nx T.size xs.length])⟩ else af) (by simp);have Y:eJ (eJ (bw s.h) [nm s.nx,nm id] nw) [nm b] (λn=>if n=nm b then aa ⟨cty,.mx (splice Z (o+off) [eY p s.nx T.size xs.length])⟩ else af)=bw h2:=by
       funext n;by_cases e1:n=nm b
       .subst e1;rw[hnew];simp[eJ]
       .by_cases e2:n=nm s.nx
        .subst e2;rw[hnx2,aC hp];simp[eJ,nw,hnb.symm]
        .by_cases e3:n=nm id
         .subst e3;rw[hdead];simp[eJ,nw,hbi.symm,hni.symm]
         .rw[hoth n e1 e2 e3];simp[eJ,e1,e2,e3]
      rw[Y] at q1 q2;have m:=p2.trans q1;refine ⟨φ',⟨q2,λt x I=>m.keep (c.env t x (hE t x I)),λn q hq=>?_,ib c.low,hinv,λt x I=>nW hr x (c.invE t x I),c.inert,c.size⟩,⟨Js.refl _ _,m.own_,λi hi=>?_⟩,gd.refl _ _⟩
      .rcases p3 n q hq with M|M
       .exact yE (c.dom n q M)
       .simp only[aK] at M;subst M;rw[dW];exact Ba _
      .cases hq:φ' (nm i) with
       |none=>
        cases hq2:φ (nm i) with
        |none=>rfl
        |some z=>rw[p2.sub _ _ hq2] at hq;cases hq
       |some z=>
        rcases p3 _ _ hq with M|M
        .exact M.symm
        .simp only[aK] at M;have:=kw M;have:=c.low;omega
    .cases h
   .cases h
  .cases h
 .rename_i id hk;split at h
  .rename_i ty p T xs J;simp only[aj] at h;subst h;have hfr:=c.invH.fresh;have hidlt:=c.invH.low id _ J;have hin:id≠s.nx:=by omega
   generalize hh2:((s.h.set id (aa (.dead p T.size xs.length))).set s.nx (aa (.rows ty p T xs)))=h2;have nv:∀ i,h2.get i=if i=s.nx then aa (.rows ty p T xs) else if i=id then aa (.dead p T.size xs.length) else s.h.get i:=λi=>by
    rw[<- hh2,PT.get_set,PT.get_set]
   have hr:cq s.h h2:=λi r hi=>by
    rw[bP] at hi ⊢;rw[nv];by_cases e2:i=s.nx
    .subst e2;rw[hfr] at hi;cases hi
    .rw[aC e2];by_cases e3:i=id
     .subst e3;rw[aI rfl];rw[J] at hi;exact hi
     .rw[aC e3];exact hi
   have hrow:cg h2 (.row s.nx)=aa (eY p s.nx T.size xs.length):=by
    simp only[cg,bP,nv,bC,aF,mj]
   have hrow0:cg s.h (.row id)=aa (eY p id T.size xs.length):=by
    simp only[cg,bP,J,aF,mj]
   have hdead:bw h2 (nm id)=af:=by rw[bE,nv,aC hin,aI rfl];rfl
   have hnx2:bw h2 (nm s.nx)=if p&&xs.length==0 then af else aa ⟨ty,.fz (xs.flatMap (bN T))⟩:=by rw[bE,nv,aI rfl];rfl
   have hid0:bw s.h (nm id)=if p&&xs.length==0 then af else aa ⟨ty,.fz (xs.flatMap (bN T))⟩:=by rw[bE,J];rfl
   have hoth:∀ n,n≠nm s.nx->n≠nm id->bw h2 n=bw s.h n:=λn e2 e3=>ko c.invH hr λi e=>by
    subst e;rw[nv,aC (λe=>e2 (by rw[e])),aC (λe=>e3 (by rw[e]))]
   have hni:nm s.nx≠nm id:=λe=>hin (kw e).symm
   have hinv:lJ h2 (s.nx+1):=by
    refine ⟨λi ty2 l2 hil=>?_,λi q hiq=>?_⟩
    .rw[nv] at hil;split at hil
     .cases hil
     .split at hil
      .cases hil
      .exact iE hr l2 (c.invH.cells i ty2 l2 hil)
    .rw[nv] at hiq;split at hiq
     .omega
     .split at hiq
      .omega
      .have:=c.invH.low i q hiq;omega
   have hE:∀ t x,t≠k->fE (s.e.set k (aa (.row s.nx))) h2 t=aa x->fE s.e s.h t=aa x:=λt x ht I=>by
    simp only[fE,PT.get_set] at I ⊢;rw[aC ht] at I;cases he:s.e.get t with
    |none=>rw[he] at I;cases I
    |some q=>
     rw[he] at I;obtain⟨z,hz⟩:=po s.h q (c.invE t q he);simp only[aF,gm hr q z hz,aj] at I;subst I;simp only[aF,hz]
   have hIE:sr (s.e.set k (aa (.row s.nx))) h2:=λt x I=>by
    simp only[PT.get_set] at I;split at I
    .cases I;exact DG _ _ _ hrow
    .exact nW hr x (c.invE t x I)
   have hKp:gd (nO [.ren k off] 0) s.e (s.e.set k (aa (.row s.nx))):=λt ht v' hv'=>by
    simp only[PT.get_set] at hv';split at hv'
    .rename_i et;subst et;simp only[nO] at ht;rw[bl,bY.2 rfl] at ht;simp at ht
    .exact⟨v',hv',λ_=>rfl⟩
   have U:=c.env k (eY p id T.size xs.length) (by simp only[fE,hk,aF,hrow0]);by_cases hp:(p&&xs.length==0)=ah
   .have Y:bw h2=bw s.h:=by
     funext n;by_cases e2:n=nm s.nx
     .subst e2;rw[hnx2,aI hp,bE,hfr];rfl
     .by_cases e3:n=nm id
      .subst e3;rw[hdead,hid0,aI hp]
      .exact hoth n e2 e3
    have hsame:eY p s.nx T.size xs.length=eY p id T.size xs.length:=by unfold eY;rw[aI hp,aI hp]
    refine ⟨φ,⟨by rw[Y];exact c.rep,λt x I=>?_,λn q hq=>yE (c.dom n q hq),ib c.low,hinv,hIE,c.inert,c.size⟩,by rw[Y];exact Be.refl _ _ _ _,hKp⟩;rw[Y];by_cases ht:t=k
    .subst ht;simp only[fE,PT.get_set,bC,aF,hrow,aj] at I;subst I;rw[hsame];exact U
    .exact c.env t x (hE t x ht I)
   .have hid1:bw s.h (nm id)=aa ⟨ty,.fz (xs.flatMap (bN T))⟩:=by rw[hid0,aC hp]
    obtain⟨kk,k1,k2,ob,k3,k4⟩:=c.rep.at_ _ _ hid1;have hφn:φ (nm s.nx)=af:=by
     cases hq:φ (nm s.nx) with
     |none=>rfl
     |some q=>have:=c.dom _ q hq;rw[dW] at this;omega
    let nw:HF:=λn=>if n=nm s.nx then aa ⟨ty,.fz (xs.flatMap (bN T))⟩ else af
    have hsh:D3 w w kk ob:=⟨rfl,rfl,rfl,rfl,k3,λ_ _=>rfl,λ_=>rfl⟩
    obtain⟨φ',p1,p2,p3,p4⟩:=c.rep.wren hid1 k1 hφn hsh k4 nw (by simp[nw]) (by simp only[nw];rw[aC hni.symm]);have Y:eJ (bw s.h) [nm s.nx,nm id] nw=bw h2:=by
     funext n;by_cases e2:n=nm s.nx
     .subst e2;rw[hnx2,aC hp];simp[eJ,nw]
     .by_cases e3:n=nm id
      .subst e3;rw[hdead];simp[eJ,nw,hni.symm]
      .rw[hoth n e2 e3];simp[eJ,e2,e3]
    rw[Y] at p2 p4;refine ⟨φ',⟨p4,λt x I=>?_,λn q hq=>?_,ib c.low,hinv,hIE,c.inert,c.size⟩,⟨Js.refl _ _,p2.own_,λi hi=>?_⟩,hKp⟩
    .by_cases ht:t=k
     .subst ht;simp only[fE,PT.get_set,bC,aF,hrow,aj] at I;subst I;unfold eY at U ⊢;rw[aC hp] at U ⊢;generalize a.tmps.getD t undef=z at U;cases U with
      |@row _ _ _ cc q hφq hn hc hs2=>
       rw[k1,aj] at hφq;subst hφq;exact .row p1 hn hc hs2
     .exact p2.keep (c.env t x (hE t x ht I))
    .rcases p3 n q hq with M|M
     .exact yE (c.dom n q M)
     .simp only[aK] at M;subst M;rw[dW];exact Ba _
    .cases hq:φ' (nm i) with
     |none=>
      cases hq2:φ (nm i) with
      |none=>rfl
      |some z=>rw[p2.sub _ _ hq2] at hq;cases hq
     |some z=>
      rcases p3 _ _ hq with M|M
      .exact M.symm
      .simp only[aK] at M;have:=kw M;have:=c.low;omega
  .cases h
 .cases h
theorem aes {φ:PM} {s:TS} {a:Act} {w:World} (c:oe P E nt np φ s a w) {Z:ZQ} {s':TS} (h:Nv s Z=aa s') (hnr:∀ k off,Z≠ .ren k off):oe P E nt np φ s' a w/\Be np φ φ (bw s.h) (bw s'.h) w w/\gd (nO [Z] 0) s.e s'.e:=by
 cases Z with
 |ren k off=>exact cW rfl (hnr k off)
 |nil k ty T=>
  simp only[Nv] at h;split at h
  .rename_i v hv;split at h
   .rename_i hn;simp only[aj] at h;subst h;obtain⟨J,M,hr⟩:=Va c ty T;refine ⟨⟨J.rep,?_,J.dom,J.low,J.invH,?_,J.inert,J.size⟩,by rw[M];exact Be.refl _ _ _ _,?_⟩
    .intro t x I;simp only[fE,PT.get_set] at I;split at I
     .rename_i et;subst et;simp only[aF,cg,bP,PT.get_set,bC,mj,eY,jF,cP,ki,aj] at I;subst I;obtain⟨z,Y⟩:=po s.h v (c.invE _ v hv);rw[M];exact Pm hn Y _ _ _ _ (c.env _ _ (by simp only[fE,hv,aF,Y]))
     .exact J.env t x I
    .intro t x I;simp only[PT.get_set] at I;split at I
     .cases I;simp only[JM,bP,PT.get_set,bC];rfl
     .exact J.invE t x I
    .intro t ht v' U;simp only[PT.get_set] at U;split at U
     .rename_i et;subst et;simp only[nO] at ht;rw[bl,bY.2 rfl] at ht;simp at ht
     .exact⟨v',U,λ_=>rfl⟩
   .simp only[aj] at h;subst h;exact⟨c,Be.refl _ _ _ _,gd.refl _ _⟩
  .cases h
 |cel k off ty T=>
  simp only[Nv] at h;split at h
  .rename_i id o hk;split at h
   .rename_i cty l hb;split at h
    .rename_i v hv;split at h
     .rename_i hn;simp only[aj] at h;subst h;obtain⟨J,M,hr⟩:=Va c ty T;have hid:id≠s.nx:=λe=>by have:=c.invH.low id _ hb;omega
      obtain⟨c2,t2⟩:=Zg J (id:=id) (cty:=cty) (l:=l) (v:=v) (u:=.row s.nx) (by show (s.h.set s.nx _).get id=_;rw[PT.get_set,aC hid];exact hb) hv hn (by simp only[cg,bP,PT.get_set,bC,aF,mj,eY,jF,cP,ki]) (by simp only[JM,bP,PT.get_set,bC];rfl);exact⟨c2,by rw[<- M];exact t2,gd.refl _ _⟩
     .simp only[aj] at h;subst h;exact⟨c,Be.refl _ _ _ _,gd.refl _ _⟩
    .cases h
   .cases h
  .cases h
 |mpt k K V=>
  simp only[Nv] at h;split at h
  .rename_i id hk;split at h
   .rename_i K' V' es hb;split at h
    .rename_i hE;simp only[aj] at h;subst h;have hr:cq s.h (s.h.set id (aa (.mp K V []))):=cq.set λr hr=>by rw[bP,hb] at hr;cases hr
     have M:bw (s.h.set id (aa (.mp K V [])))=bw s.h:=by
      funext n;by_cases hn:n=nm id
      .subst hn;rw[bE,bE,PT.get_set,aI rfl,hb];simp only[aF,kq,Aw (ae5 (tF.1 hE).1),Aw (tF.1 hE).2,RM (tF.1 hE).1,List.map_nil]
      .refine ko c.invH hr λi e=>?_
       subst e;rw[PT.get_set,aC (λe=>hn (by rw[e]))]
     refine ⟨⟨by rw[M];exact c.rep,?_,c.dom,c.low,c.invH.set hr (c.invH.low id _ hb) (bO _) (λ_ _ he=>by cases he),λt x I=>nW hr x (c.invE t x I),c.inert,c.size⟩,by rw[M];exact Be.refl _ _ _ _,gd.refl _ _⟩;intro t x I;rw[M];simp only[fE] at I;cases he:s.e.get t with
     |none=>rw[he] at I;cases I
     |some q=>
      rw[he] at I;obtain⟨z,Y⟩:=po s.h q (c.invE t q he);simp only[aF,gm hr q z Y,aj] at I;subst I;exact c.env t _ (by simp only[fE,he,aF,Y])
    .simp only[aj] at h;subst h;exact⟨c,Be.refl _ _ _ _,gd.refl _ _⟩
   .cases h
  .cases h
 |pk k off T=>
  simp only[Nv] at h;split at h
  .obtain⟨h1,h2,h3⟩:=ah3 c h;exact⟨h1,h2,h3.mono λk hk=>by simp at hk⟩
  .cases h
theorem aer {φ:PM} {s:TS} {a:Act} {w:World} (c:oe P E nt np φ s a w) {I:ZQ} {s':TS} (h:Nv s I=aa s'):∃ φ',oe P E nt np φ' s' a w/\Be np φ φ' (bw s.h) (bw s'.h) w w/\gd (nO [I] 0) s.e s'.e:=by
 by_cases hn:∃ k off,I= .ren k off
 .obtain⟨k,off,rfl⟩:=hn;exact agy c h
 .exact⟨φ,aes c h λk off e=>hn ⟨k,off,e⟩⟩
theorem TN {φ:PM} {a:Act} {w:World}:∀ {l:List ZQ} {s s':TS},oe P E nt np φ s a w->WE s l=aa s'->∃ φ',oe P E nt np φ' s' a w/\Be np φ φ' (bw s.h) (bw s'.h) w w/\gd (nO l 0) s.e s'.e
 |[],s,s',c,h=>by simp only[WE,aj] at h;subst h;exact⟨φ,c,Be.refl _ _ _ _,gd.refl _ _⟩
 |I::r,s,s',c,h=>by
  simp only[WE] at h;split at h
  .rename_i s1 h1;obtain⟨φ1,U,t1,k1⟩:=aer c h1;obtain⟨φ2,M,J,k2⟩:=TN U h;refine ⟨φ2,M,t1.trans J,(k1.mono ?_).trans (k2.mono ?_)⟩
   .intro k hk;cases I with
    |nil q ty T=>simp only[nO] at hk ⊢;rw[lI,bl,hk];rfl
    |cel q off ty T=>simp[nO] at hk
    |mpt q K V=>simp[nO] at hk
    |pk q off T=>simp[nO] at hk
    |ren q off=>simp only[nO] at hk ⊢;rw[lI,bl,hk];rfl
   .intro k hk;cases I with
    |nil q ty T=>simp only[nO];rw[lI,bl,hk];simp
    |cel q off ty T=>simp only[nO];exact hk
    |mpt q K V=>simp only[nO];exact hk
    |pk q off T=>simp only[nO];exact hk
    |ren q off=>simp only[nO];rw[lI,bl,hk];simp
  .cases h
mutual
theorem Pb {h:bd}:∀ (v:TV) (y:AV),s5 v=ah->cg h v=aa y->y.all (λ_=>ai)=ah
 |.f _ _,y,_,he=>by simp only[cg,aj] at he;subst he;rfl
 |.fel _ _ _ _ _,y,_,he=>by simp only[cg,aj] at he;subst he;rfl
 |.emp,y,_,he=>by simp only[cg,aj] at he;subst he;rfl
 |.nil,y,_,he=>by simp only[cg,aj] at he;subst he;rfl
 |.undef,y,_,he=>by simp only[cg,aj] at he;subst he;rfl
 |.np,y,_,he=>by simp only[cg,aj] at he;subst he;rfl
 |.anyb,y,_,he=>by simp only[cg,aj] at he;subst he;rfl
 |.agg l,y,hl,he=>by
  simp only[cg] at he;split at he
  .rename_i l' hl';simp only[aj] at he;subst he;exact DC l l' hl hl'
  .cases he
 |.tup l,y,hl,he=>by
  simp only[cg] at he;split at he
  .rename_i l' hl';simp only[aj] at he;subst he;exact DC l l' hl hl'
  .cases he
 |.pel _ _ _ _,_,h,_=>by cases h
 |.ptr _ _,_,h,_=>by cases h
 |.csl _ _ _,_,h,_=>by cases h
 |.row _,_,h,_=>by cases h
 |.rtl _ _,_,h,_=>by cases h
 |.mp _,_,h,_=>by cases h
 |.clo _ _,_,h,_=>by cases h
theorem DC {h:bd}:∀ (l:List TV) (l':List AV),pH l=ah->cF h l=aa l'->AV.allL (λ_=>ai) l'=ah
 |[],l',_,he=>by simp only[cF,aj] at he;subst he;rfl
 |x::r,l',hl,he=>by
  obtain⟨y,l2,rfl,e1,e2⟩:=cO he;simp only[pH,au] at hl;simp only[AV.allL,au];exact⟨Pb x y hl.1 e1,DC r l2 hl.2 e2⟩
end
mutual
theorem UJ (h:bd):∀ (v:TV),s5 v=ah->JM h v=ah
 |.f _ _,_=>rfl
 |.fel _ _ _ _ _,_=>rfl
 |.emp,_=>rfl
 |.nil,_=>rfl
 |.undef,_=>rfl
 |.np,_=>rfl
 |.anyb,_=>rfl
 |.agg l,hl=>HR h l hl
 |.tup l,hl=>HR h l hl
 |.pel _ _ _ _,h=>by cases h
 |.ptr _ _,h=>by cases h
 |.csl _ _ _,h=>by cases h
 |.row _,h=>by cases h
 |.rtl _ _,h=>by cases h
 |.mp _,h=>by cases h
 |.clo _ _,h=>by cases h
theorem HR (h:bd):∀ (l:List TV),pH l=ah->ku h l=ah
 |[],_=>rfl
 |x::r,hl=>by
  simp only[pH,au] at hl;simp only[ku,au];exact⟨UJ h x hl.1,HR h r hl.2⟩
end
structure Seen (np:Nat) (t:Tm) (x:t.ty.den) (us:List TV) (h1:bd) (φ φ':PM) (H:HF) (E:Nat->Prop) (w:World) (la lu:List AV):Prop where
 rep:qh φ' E (bw h1) w
 val:∀ (j:Nat) y v,lu[j]? =aa y->∃ z,la[j]? =aa z/\(cG φ (tot E φ H) w z v->cG φ' (tot E φ' (bw h1)) w y v)
 len:lu.length=la.length
 tot_:∀ k,tot E φ' (bw h1) k->tot E φ H k
 own_:∀ k,own φ' (bw h1) k->own φ H k
 dom:∀ n k,φ' n=aa k->ow n<t.bs.length
 par:∀ i,i<np->i<t.bs.length->φ' (nm i)=φ (nm i)
theorem JH {t:Tm} {x:t.ty.den} {us:List TV} {h1:bd} {l1:List (Option hZ)} (I:pU t x us h1 l1) {h:bd} {nx:Nat} (hinv:lJ h nx) {vs:List TV} {m:Nat} {σ:PT Nat} {sm:Nat} (M:Gp np t vs h x m σ sm) {la:List AV} (hla:cF h vs=aa la) {φ:PM} {w:World} (r:qh φ E (bw h) w):∃ φ' lu,cF h1 us=aa lu/\Seen np t x us h1 φ φ' (bw h) E w la lu:=by
 obtain⟨x1,m1,x2,m2,hx,hmm,gv,gb⟩:=M.ex;have hmr:dO h m:=by rw[hmm];exact (Gb _ _ _ _ gv).or (Gf _ _ _ _ gb)
 have pvg:pm (gV σ) t.vs x1=aa (j_ (gV σ) us):=by
  have U:=sw (gV σ) t.vs x1;have J:=I.pv;rw[hx,sh] at J;rw[U,J];rfl
 have pbg:nV (gV σ) t.bs x2=aa (l1.map (lj (lw (gV σ)))):=by
  have U:=uR (gV σ) t.bs x2;have J:=I.pb;rw[hx,tU] at J;rw[U,J];rfl
 have hbm:∀ i b,l1[i]? =aa (aa b)->∃ b0,h.get (gV σ i)=aa b0/\BM (gV σ) h m b0 (lw (gV σ) b):=λi b hb=>by
  obtain⟨b0,q1,Y⟩:=HP t.bs 0 x2 m2 _ gb pbg i (lw (gV σ) b) (by rw[aZ,hb];rfl);rw[bJ] at q1;exact⟨b0,q1,Y.mono λj hj=>by rw[hmm,bl,hj];simp⟩
 let hv:bd:=zd (gV σ) 0 (l1.map (lj (lw (gV σ)))) PT.leaf
 have hv_at:∀ i b,l1[i]? =aa (aa b)->hv.get (gV σ i)=aa (lw (gV σ) b):=λi b hb=>by
  have:=tY (gV σ) (l1.map (lj (lw (gV σ)))) 0 PT.leaf (λa b ha hb=>by
   simp only[bS,I.len] at ha hb;simp only[bJ];exact M.inj a b ha hb) i (aa (lw (gV σ) b)) (by rw[aZ,hb];rfl)
  rw[bJ] at this;exact this
 have hv_ex:∀ j c,hv.get j=aa c->∃ i b,l1[i]? =aa (aa b)/\j=gV σ i/\c=lw (gV σ) b:=λj c hj=>by
  by_cases hex:∃ i,i<l1.length/\j=gV σ i
  .obtain⟨i,hi,rfl⟩:=hex;have hcc:=ay hi;cases hcv:l1[i] with
   |some b=>rw[hcv] at hcc;rw[hv_at i b hcc] at hj;cases hj;exact⟨i,b,hcc,rfl,rfl⟩
   |none=>
    rw[hcv] at hcc;have:=tY (gV σ) (l1.map (lj (lw (gV σ)))) 0 PT.leaf (λa b ha hb=>by
     simp only[bS,I.len] at ha hb;simp only[bJ];exact M.inj a b ha hb) i af (by rw[aZ,hcc];rfl)
    rw[bJ] at this;have Z:(zd (gV σ) 0 (l1.map (lj (lw (gV σ)))) PT.leaf).get (gV σ i)=aa c:=hj;rw[this] at Z;simp[PT.get] at Z
  .have:hv.get j=(PT.leaf:bd).get j:=tX (gV σ) _ 0 _ j λk hk=>by
    simp only[bS] at hk;rw[bJ];exact λe=>hex ⟨k,hk,e⟩
   rw[this] at hj;simp[PT.get] at hj
 have rows_in:wO hv h:=λj q hq=>by
  rw[bP] at hq ⊢;cases hc:hv.get j with
  |none=>rw[hc] at hq;cases hq
  |some c=>
   rw[hc] at hq;obtain⟨i,b,q1,rfl,rfl⟩:=hv_ex j c hc;obtain⟨b0,Y,q3⟩:=hbm i b q1;rw[Y];simp only[aF] at hq ⊢;rw[<- q3.row];exact hq
 have rows_h1:∀ i q,ec h1 i=aa q->ec hv (gV σ i)=aa q:=λi q hq=>by
  rw[bP] at hq ⊢;cases hb:h1.get i with
  |none=>rw[hb] at hq;cases hq
  |some b=>
   rw[hb] at hq;rw[hv_at i b ((I.at_ i b).1 hb)];simp only[aF,GF] at hq ⊢;exact hq
 have hd:uk (bw h) (bw hv):=λn y hy=>by
  obtain⟨j,c,rfl,U,J⟩:=jf hy;obtain⟨i,b,q1,rfl,rfl⟩:=hv_ex j c U;obtain⟨b0,Y,q3⟩:=hbm i b q1;obtain⟨y0,hy0⟩:=BM.erB_some hinv Y q3 J;exact⟨y0,by rw[bE,Y];exact hy0⟩
 have gvv:CZ h (bw h) (bw hv) m:=λi hi=>⟨rfl,by
  cases hc:bw hv (nm i) with
  |none=>rfl
  |some y=>
   obtain⟨j,c,e,U,J⟩:=jf hc;have:=kw e;subst this;obtain⟨k,b,q1,rfl,rfl⟩:=hv_ex i c U;have hk:k<t.bs.length:=by rw[<- I.len];exact (bf.1 q1).1
   have h5:=M.disj _ hi;rw[(M.sig _).2 ⟨k,hk,rfl⟩] at h5;cases h5⟩
 have V:Je (bw h) (bw hv):=⟨hd,λn b b' hb hb'=>by
  obtain⟨j,c,rfl,U,J⟩:=jf hb';obtain⟨i,bb,q1,rfl,rfl⟩:=hv_ex j c U;obtain⟨b0,Y,q3⟩:=hbm i bb q1;rw[bE,Y] at hb;exact BM.view hd gvv rows_in q3 hb J⟩
 have rv:=V.rep r;have T:abt t x us h1 (gV σ) φ E E (bw hv) w:=by
  refine qh.toId I M.inj rv (λi b yb hb hyb=>?_) (λk hk=>.inl hk) (λi k b hi U J hE=>?_) rv.el
  .rw[bE,hv_at i b ((I.at_ i b).1 hb)];exact B7 rows_h1 hyb
  .obtain⟨k',p1,p2,_⟩:=rv.at_ _ _ U;rw[J] at p1;cases p1;exact p2 hE
 obtain⟨lu,hlu⟩:=fo h1 us I.ok;have hlug:cF hv (j_ (gV σ) us)=aa (AV.renL (Gg (gV σ)) lu):=pM rows_h1 us lu hlu;have hle:=B2 hd rows_in t.vs vs x1 m1 _ la _ gv pvg hla hlug (λi hi=>gvv i (by rw[hmm,bl,hi];rfl));have hall:=sa us lu I.lt hlu;refine ⟨_,lu,hlu,T.rep,λj y v hy=>?_,?_,λk hk=>hd.tot (T.tot_ k hk),λk hk=>hd.own (T.own_ k hk),λn k hk=>?_,λi hi hb=>?_⟩
 .rw[nU] at hle;obtain⟨z,hz,hlz⟩:=hle.get j (y.ren (Gg (gV σ))) (by rw[aZ,hy];rfl);exact⟨z,hz,λhr=>T.val y v (lH hall y (a8 hy)) (hlz _ _ _ _ r hr)⟩
 .have:=hle.length;rw[nU,bS] at this;exact this
 .obtain⟨i,hi,rfl,_⟩:=vR hk;rw[dW];exact hi
 .rw[Xw hb,M.fix i hi]
theorem Mo {φ:PM} {s':TS} {a:Act} {w:World} (c:oe P E nt np φ s' a w) {A:Xu} {am:Nat} {s0 s1:TS} {x:A.D} (J:Kb np A am s0 s'=aa x) (hs:Fm A am s0 x=aa s1)
 (hk:∀ k,k∈A.keep->k∉A.ks->∀ v,s0.e.get k=aa v->s5 v=ah->aL am k=ai->∀ Z,s'.e.get k=aa Z->Z=v):∃ φ',oe P E nt np φ' s1 a w/\Be np φ φ' (bw s'.h) (bw s1.h) w w:=by
 unfold Kb at J;split at J
 .rename_i hc;simp only[au] at hc;have hnp:=aY hc.1;split at J
  .rename_i s2 h2;obtain⟨φ2,c2,t2,_⟩:=TN c h2;split at J
   .rename_i vs hvs;split at J
    .rename_i z m σ sm hM;simp only[aj] at J;subst J;have M:=u_ hM;unfold Fm at hs;split at hs
     .rename_i us h1 hi;obtain⟨l1,I⟩:=vi hi;split at hs
      .rename_i hlen;have hlen:=av hlen;simp only[aj] at hs;subst hs;obtain⟨g1,g2⟩:=UH hvs;have hvok:ku s2.h vs=ah:=G1 c2.invE hvs;obtain⟨la,hla⟩:=fo s2.h vs hvok;obtain⟨φ',lu,hlu,S⟩:=JH (E:=E) I c2.invH M hla c2.rep;refine ⟨φ',⟨S.rep,?_,S.dom,hnp,⟨λi ty l hl=>(I.cells i ty l hl).1,λi b hb=>I.lt_len hb⟩,?_,c.inert,c.size⟩,t2.trans ⟨Js.refl _ _,λk _ h=>S.own_ k h,λi hi=>S.par i hi (by omega)⟩⟩
       .intro t y U;simp only[fE] at U;cases ht:(Vp (BO am s0.e A.keep) A.ks us).get t with
        |none=>rw[ht] at U;cases U
        |some v=>
         rw[ht] at U;simp only[aF] at U;rcases Bo hlen t v ht with ⟨j,q1,Y⟩|⟨q1,Y⟩
         .obtain⟨y',p1,p2⟩:=lG hlu j v Y;rw[U] at p2;cases p2;obtain⟨z,p3,p4⟩:=S.val j y (a.tmps.getD t undef) p1;refine p4 ?_;obtain⟨v0,p5,p6⟩:=g2 j t q1;obtain⟨z',p7,p8⟩:=lG hla j v0 p5;rw[p3] at p7;cases p7;exact c2.env t _ (by simp only[fE,p6,aF,p8])
         .obtain⟨k1,k2,k3,k4⟩:=sC Y;obtain⟨Z,k5⟩:=Hh hc.2 t v k1 k2 k3 k4;have:=hk t k1 q1 v k2 k3 k4 Z k5;subst this;have h3:=c.env t y (by simp only[fE,k5,aF];rw[Pn s'.h h1 Z k3];exact U);exact h3.restrict (p:=λ_=>ai) (λi k hi _=>by cases hi) (λk hk=>by
           have h4:=S.tot_ k hk;rcases h4 with h4|h4
           .exact .inl h4
           .exact .inr (by
             have hkl:k<w.heap.size:=by
              obtain⟨n,b,e1,e2⟩:=h4;obtain⟨k',p1,_,ob,p3,_⟩:=c2.rep.at_ n b e1;rw[e2] at p1;cases p1;exact (cu.1 p3).1
             exact t2.own_ k hkl h4)) (Pb Z y k3 U)
       .intro t v hv;rcases Bo hlen t v hv with ⟨j,q1,Y⟩|⟨q1,Y⟩
        .obtain⟨y',_,p2⟩:=lG hlu j v Y;exact DG _ _ _ p2
        .exact UJ _ v (sC Y).2.2.1
      .cases hs
     .cases hs
    .cases J
   .cases J
  .cases J
 .cases J
theorem C6 {A:Xu} {am:Nat} {I s1:TS} {x:A.D} (hs:Fm A am I x=aa s1):gd (JP A.ks 0) I.e s1.e/\∀ k,k∉A.ks->∀ v,s1.e.get k=aa v->I.e.get k=aa v:=by
 unfold Fm at hs;split at hs
 .rename_i us h1 hi;split at hs
  .rename_i hlen;have hlen:=av hlen;simp only[aj] at hs;subst hs;have key:∀ k,k∉A.ks->∀ v,(Vp (BO am I.e A.keep) A.ks us).get k=aa v->I.e.get k=aa v:=λk hk v hv=>by
    rcases Bo hlen k v hv with ⟨j,q1,_⟩|⟨_,M⟩
    .exact cW (a8 q1) hk
    .exact (sC M).2.1
   refine ⟨λk hk J hv=>?_,key⟩;have hnk:k∉A.ks:=λhm=>by rw[Uz hm] at hk;cases hk
   exact⟨J,key k hnk J hv,λ_=>rfl⟩
  .cases hs
 .cases hs
end walk
inductive Er:TC->SC->Prop
 |skip:Er .skip .skip
 |reg (ops:List rA) (prs:List (Nat×Nat)):Er (.reg ops prs) (.reg ops prs)
 |seq {a b:TC} {a' b':SC}:Er a a'->Er b b'->Er (.seq a b) (.seq a' b')
 |jseq (A:Xu) {a b:TC} {a' b':SC}:Er a a'->Er b b'->Er (.jseq A a b) (.seq a' b')
 |cond (c:Nat) {a b:TC} {a' b':SC}:Er a a'->Er b b'->Er (.cond c a b) (.cond c a' b')
 |block (id:Nat) {b:TC} {b':SC}:Er b b'->Er (.block id b) (.block id b')
 |jblock (A:Xu) (id:Nat) {b:TC} {b':SC}:Er b b'->Er (.jblock A id b) (.block id b')
 |loop (A:Xu) {b:TC} {b':SC}:Er b b'->Er (.loop A b) (.loop b')
 |exit (id:Nat):Er (.exit id) (.exit id)
 |ret:Er .ret .ret
 |defer (f:FuncId) (c:List Operand) (t:Nat):Er (.defer f c t) (.defer f c t)
 |adj (l:List ZQ) {c:TC} {c':SC}:Er c c'->Er (.adj l c) c'
 |split (k off lo n:Nat) {c:TC} {c':SC}:Er c c'->Er (.split k off lo n c) c'
 |unl (n:Nat) {b:TC} {b':SC}:Er b b'->Er (.unl n b) (.loop b')
 |bad (c:SC):Er .bad c
theorem Bh {H:PT ZI} {n:Nat} {c:TC} {c':SC} (h:Er c c'):Er (Gs H n c) c':=by
 unfold Gs;split
 .exact .adj _ h
 .exact .split _ _ _ _ h
 .exact h
theorem wK (H:PT ZI):∀ (c:SC) (n:Nat),Er (Cx H c n).1 c
 |.skip,n=>Bh .skip
 |.reg o p,n=>Bh (.reg o p)
 |.seq a b,n=>by
  have h1:=wK H a (n+1);have h2:=wK H b (Cx H a (n+1)).2;simp only[Cx];split
  .exact .jseq _ h1 h2
  .exact .seq h1 h2
 |.cond c a b,n=>by
  have h1:=wK H a (n+1);have h2:=wK H b (Cx H a (n+1)).2;simp only[Cx];exact Bh (.cond c h1 h2)
 |.block id b,n=>by
  have h1:=wK H b (n+1);simp only[Cx];split
  .exact .jblock _ id h1
  .exact .block id h1
 |.loop b,n=>by
  have h1:=wK H b (n+1);simp only[Cx];split
  .exact .loop _ h1
  .exact .unl _ h1
  .exact .bad _
 |.exit id,n=>Bh (.exit id)
 |.ret,n=>Bh .ret
 |.defer f c t,n=>.defer f c t
 |.bad,n=>.bad _
theorem VF {σ R:Type} {step:σ->Option (σ⊕R)} {x:σ} {r:R} (h:iter step x=aa r):∃ n,iterN step n x=aa r:=by
 unfold iter at h;split at h
 .exact⟨_,h⟩
 .cases h
theorem UC {α R:Type} {o:Option (R⊕α)} {k:α->Option R} {r:R} (h:jn o k=aa r):(∃ x,o=aa (.inr x)/\k x=aa r)\/o=aa (.inl r):=by
 unfold jn at h;split at h
 .exact .inl ⟨_,rfl,h⟩
 .cases h;exact .inr rfl
 .cases h
section inv
variable {P:Program} {nt:Nat}
theorem yl (id:Nat) (ops:Array Oper) (I:Bool):cf P nt (.region id ops I)= .bad\/
 ((ops.toList.all λo=>match o.dst with|some d=>decide (d<nt)|none=>ah)=ah/\
   ((∃ f caps t,Cw ops I=aa (f,caps,t)/\cf P nt (.region id ops I)= .defer f caps t)\/
    ∃ l prs,qW P ops ops.toList=aa l/\KY ops l=aa prs/\cf P nt (.region id ops I)= .reg l prs)):=by
 simp only[cf];split
 .rename_i hd;split
  .rename_i f caps t h;exact .inr ⟨hd,.inl ⟨f,caps,t,h,rfl⟩⟩
  .split
   .rename_i l hl;split
    .rename_i prs hp;exact .inr ⟨hd,.inr ⟨l,prs,hl,hp,rfl⟩⟩
    .exact .inl rfl
   .exact .inl rfl
 .exact .inl rfl
def Da:Code->Bool
 |.cond (.const (.bool _)) _ _=>ai
 |_=>ah
theorem jM (P:Program) (nt:Nat) (c:Code):∃ c',Da c'=ah/\cf P nt c'=cf P nt c/\∀ Q a w,c'.wp P Q a w->c.wp P Q a w:=by
 have self:∀ c:Code,Da c=ah->∃ c',Da c'=ah/\cf P nt c'=cf P nt c/\∀ Q a w,c'.wp P Q a w->c.wp P Q a w:=λc h=>⟨c,h,rfl,λ_ _ _ h=>h⟩
 induction c with
 |cond o x y ihx ihy=>
  cases o with
  |const v=>
   cases v with
   |bool b=>
    cases b with
    |true=>
     obtain⟨c',h1,h2,I⟩:=ihx;exact⟨c',h1,h2,λQ a w h=>wp_cond_true rfl (I Q a w h)⟩
    |false=>
     obtain⟨c',h1,h2,I⟩:=ihy;exact⟨c',h1,h2,λQ a w h=>wp_cond_false rfl (I Q a w h)⟩
   |_=>exact self _ rfl
  |_=>exact self _ rfl
 |_=>exact self _ rfl
theorem Ej {α:Prop} {o:Operand} {x y:Code} {sc:SC} (hn:Da (.cond o x y)=ah) (h:cf P nt (.cond o x y)=sc) (h1:sc≠ .bad) (h2:∀ t a b,sc≠ .cond t a b):α:=by
 cases o with
 |tmp q=>exact (h2 _ _ _ h.symm).elim
 |const v=>cases v<;>first|exact (h1 h.symm).elim|cases hn
 |global g=>exact (h1 h.symm).elim
 |func f=>exact (h1 h.symm).elim
theorem aah {c:Code} {sl:List rA} {prs:List (Nat×Nat)} (hn:Da c=ah) (h:cf P nt c= .reg sl prs):∃ id ops I,c= .region id ops I/\(ops.toList.all λo=>match o.dst with|some d=>decide (d<nt)|none=>ah)=ah/\qW P ops ops.toList=aa sl/\KY ops sl=aa prs:=by
 cases c with
 |region id ops I=>
  rcases yl (P:=P) (nt:=nt) id ops I with h1|⟨hd,⟨f,caps,t,_,h1⟩|⟨l,p,h2,J,h1⟩⟩
  .rw[h1] at h;cases h
  .rw[h1] at h;cases h
  .rw[h1] at h;cases h;exact⟨id,ops,I,rfl,hd,h2,J⟩
 |cond o x y=>exact Ej hn h (by simp) (by simp)
 |_=>simp[cf] at h
theorem VG {c:Code} {f:FuncId} {caps:List Operand} {t:Nat} (hn:Da c=ah) (h:cf P nt c= .defer f caps t):∃ id ops I,c= .region id ops I/\(ops.toList.all λo=>match o.dst with|some d=>decide (d<nt)|none=>ah)=ah/\Cw ops I=aa (f,caps,t):=by
 cases c with
 |region id ops I=>
  rcases yl (P:=P) (nt:=nt) id ops I with h1|⟨hd,⟨f',caps',t',h2,h1⟩|⟨l,p,h2,J,h1⟩⟩
  .rw[h1] at h;cases h
  .rw[h1] at h;cases h;exact⟨id,ops,I,rfl,hd,h2⟩
  .rw[h1] at h;cases h
 |cond o x y=>exact Ej hn h (by simp) (by simp)
 |_=>simp[cf] at h
theorem oI {c:Code} {sc:SC} (h:cf P nt c=sc) (h1:sc≠ .bad) (h2:∀ a b,sc≠ .reg a b) (M:∀ a b t,sc≠ .defer a b t):∀ id ops J,c≠ .region id ops J:=by
 rintro id ops J rfl;rcases yl (P:=P) (nt:=nt) id ops J with I|⟨_,⟨f,caps,t,_,I⟩|⟨l,p,_,_,I⟩⟩<;>rw[I] at h
 .exact h1 h.symm
 .exact M _ _ _ h.symm
 .exact h2 _ _ h.symm
theorem Yh {c:Code} (hn:Da c=ah) (h:cf P nt c= .skip):c= .skip:=by
 have I:=oI h (by simp) (by simp) (by simp);cases c with
 |skip=>rfl
 |region id ops J=>exact cW rfl (I id ops J)
 |cond o x y=>exact Ej hn h (by simp) (by simp)
 |_=>simp[cf] at h
theorem aag {c:Code} (hn:Da c=ah) (h:cf P nt c= .ret):c= .ret:=by
 have I:=oI h (by simp) (by simp) (by simp);cases c with
 |ret=>rfl
 |region id ops J=>exact cW rfl (I id ops J)
 |cond o x y=>exact Ej hn h (by simp) (by simp)
 |_=>simp[cf] at h
theorem Yi {c:Code} {i:Nat} (hn:Da c=ah) (h:cf P nt c= .exit i):c= .exit i:=by
 have I:=oI h (by simp) (by simp) (by simp);cases c with
 |exit id=>simp[cf] at h;rw[h]
 |region id ops J=>exact cW rfl (I id ops J)
 |cond o x y=>exact Ej hn h (by simp) (by simp)
 |_=>simp[cf] at h
theorem UD {c:Code} {a b:SC} (hn:Da c=ah) (h:cf P nt c= .seq a b):∃ x y,c= .seq x y/\cf P nt x=a/\cf P nt y=b:=by
 have I:=oI h (by simp) (by simp) (by simp);cases c with
 |seq x y=>simp[cf] at h;exact⟨x,y,rfl,h.1,h.2⟩
 |region id ops J=>exact cW rfl (I id ops J)
 |cond o x y=>exact Ej hn h (by simp) (by simp)
 |_=>simp[cf] at h
theorem Yj {c:Code} {t:Nat} {a b:SC} (hn:Da c=ah) (h:cf P nt c= .cond t a b):∃ x y,c= .cond (.tmp t) x y/\cf P nt x=a/\cf P nt y=b:=by
 have I:=oI h (by simp) (by simp) (by simp);cases c with
 |cond o x y=>
  cases o with
  |tmp q=>simp[cf] at h;obtain⟨rfl,h1,h2⟩:=h;exact⟨x,y,rfl,h1,h2⟩
  |const v=>cases v<;>first|(simp [cf] at h;done)|cases hn
  |_=>simp[cf] at h
 |region id ops J=>exact cW rfl (I id ops J)
 |_=>simp[cf] at h
theorem La {c:Code} {id:Nat} {b:SC} (hn:Da c=ah) (h:cf P nt c= .block id b):∃ y,c= .block id y/\cf P nt y=b:=by
 have I:=oI h (by simp) (by simp) (by simp);cases c with
 |block i y=>simp[cf] at h;obtain⟨rfl,h1⟩:=h;exact⟨y,rfl,h1⟩
 |region id ops J=>exact cW rfl (I id ops J)
 |cond o x y=>exact Ej hn h (by simp) (by simp)
 |_=>simp[cf] at h
theorem Ox {c:Code} {b:SC} (hn:Da c=ah) (h:cf P nt c= .loop b):∃ y,c= .loop y/\cf P nt y=b:=by
 have I:=oI h (by simp) (by simp) (by simp);cases c with
 |loop y=>simp[cf] at h;exact⟨y,rfl,h⟩
 |region id ops J=>exact cW rfl (I id ops J)
 |cond o x y=>exact Ej hn h (by simp) (by simp)
 |_=>simp[cf] at h
end inv
def adk {R:Type} (P:Program) (E:Nat->Prop) (nt np:Nat) (φ:PM) (s:TS) (w:World) (am:Nat) (K:Ex->TS->Option R) (r:R):Exit->Act->World->Prop:=
 λe a' w'=>∃ ex s' φ',e=ex.to/\K ex s'=aa r/\oe P E nt np φ' s' a' w'/\Be np φ φ' (bw s.h) (bw s'.h) w w'/\gd am s.e s'.e
theorem oe.bool {P:Program} {E:Nat->Prop} {nt np:Nat} {φ:PM} {s:TS} {a:Act} {w:World} (c:oe P E nt np φ s a w) {t:Nat} {b:Bool} (ht:s.e.get t=aa (.f .bool b)):a.eval (.tmp t)= .bool b:=
 eZ (c.env t _ (by simp only[fE,ht,aF,cg];rfl))
theorem oe.anyb {P:Program} {E:Nat->Prop} {nt np:Nat} {φ:PM} {s:TS} {a:Act} {w:World} (c:oe P E nt np φ s a w) {t:Nat} (ht:s.e.get t=aa .anyb):∃ b,a.eval (.tmp t)= .bool b:=by
 have:=c.env t .anyb (by simp only[fE,ht,aF,cg]);show ∃ b,a.tmps.getD t undef= .bool b;generalize a.tmps.getD t undef=z at this;cases this with
 |anyb=>exact⟨_,rfl⟩
theorem WC {R:Type} {a b:Option R} {r:R} (h:DX a b=aa r):a=aa r/\b=aa r:=by
 unfold DX at h;split at h
 .rename_i e;exact⟨h,by rw[<- e];exact h⟩
 .cases h
theorem ady {P:Program} {E:Nat->Prop} {nt np:Nat} {con:FuncId->Option ch} {bX:TypeId->Option Ty} {inert:FuncId->Bool} (hm:P.follows .mixedOrders=ah) (hcon:Ju P con) (hin:Jp P inert):
 ∀ {tc:TC} {sc:SC},Er tc sc->∀ (c:Code),cf P nt c=sc->∀ (R:Type) (s:TS) (K:Ex->TS->Option R) (r:R),oC np con bX inert tc s K=aa r->∀ (φ:PM) (a:Act) (w:World),oe P E nt np φ s a w->c.wp P (adk P E nt np φ s w (tc.asg 0) K r) a w:=by
 intro tc sc hE;induction hE with
 |skip=>
  intro c hc R s K r h φ a w g;obtain⟨c',hn,I,hsim⟩:=jM P nt c;refine hsim _ _ _ ?_;rw[<- I] at hc;rw[Yh hn hc];exact wp_skip ⟨.normal,s,φ,rfl,h,g,Be.refl _ _ _ _,gd.refl _ _⟩
 |reg ops prs=>
  intro c hc R s K r h φ a w g;obtain⟨c',hn,I,hsim⟩:=jM P nt c;refine hsim _ _ _ ?_;rw[<- I] at hc;obtain⟨id,os,dr,rfl,h1,h2,Z⟩:=aah hn hc;simp only[oC] at h;refine XU (K:=λs'=>K .normal s') hm hcon g (am:=Nr ops 0) (λj o d ho hd=>?_) h1 h2 Z h λa' w' s' φ' q1 J q3 q4=>⟨.normal,s',φ',rfl,q1,J,q3,q4⟩
  have hmem:o∈os.toList:=by have:=Array.mem_of_getElem? ho;simpa using this
  have key:∀ (rest:List Oper) (sl:List rA),qW P os rest=aa sl->∀ o∈rest,∃ so∈sl,so.dst=o.dst:=by
   intro rest;induction rest with
   |nil=>intro sl _ o ho;cases ho
   |cons x rest ih=>
    intro sl hsl o ho;simp only[qW] at hsl;split at hsl
    .rename_i l hl;have:∃ so,sl=so::l/\so.dst=x.dst:=by
      split at hsl
      .simp only[aj] at hsl;exact⟨_,hsl.symm,rfl⟩
      .split at hsl
       .simp only[aj] at hsl;exact⟨_,hsl.symm,rfl⟩
       .cases hsl
     obtain⟨so,rfl,hso⟩:=this;rcases bh.1 ho with rfl|ho
     .exact⟨so,by simp,hso⟩
     .obtain⟨q,hq,hq2⟩:=ih l hl o ho;exact⟨q,by simp[hq],hq2⟩
    .cases hsl
  obtain⟨so,hso,hd2⟩:=key os.toList ops h2 o hmem;exact QF hso (by rw[hd2];exact hd)
 |@seq x y x' y' _ _ ihx ihy=>
  intro c hc R s K r h φ a w g;obtain⟨c',hn,I,hsim⟩:=jM P nt c;refine hsim _ _ _ ?_;rw[<- I] at hc;obtain⟨cx,cy,rfl,h1,h2⟩:=UD hn hc;simp only[oC] at h;refine wp_seq (wp_mono (ihx cx h1 R s _ r h φ a w g) ?_);rintro e a' w' ⟨ex,s',φ',rfl,hk,g',st,M⟩;have kp':gd ((TC.seq x y).asg 0) s.e s'.e:=M.mono λk hk=>by simp only[TC.asg];exact jU hk
  cases ex with
  |normal=>
   refine wp_mono (ihy cy h2 R s' K r hk φ' a' w' g') ?_;rintro e2 a2 w2 ⟨ex2,s2,φ2,rfl,hk2,g2,XO,kp2⟩;exact⟨ex2,s2,φ2,rfl,hk2,g2,st.trans XO,kp'.trans (kp2.mono λk hk=>by simp only[TC.asg];exact uj hk)⟩
  |exit id=>exact⟨.exit id,s',φ',rfl,hk,g',st,kp'⟩
  |ret=>exact⟨.ret,s',φ',rfl,hk,g',st,kp'⟩
 |@jseq A x y x' y' _ _ ihx ihy=>
  intro c hc R s K r h φ a w g;obtain⟨c',hn,I,hsim⟩:=jM P nt c;refine hsim _ _ _ ?_;rw[<- I] at hc;obtain⟨cx,cy,rfl,h1,h2⟩:=UD hn hc;simp only[oC] at h;have sub1:∀ k,aL (x.asg 0) k=ah->aL ((TC.jseq A x y).asg 0) k=ah:=λk hk=>by simp only[TC.asg];exact jU (uj hk)
  have sub2:∀ k,aL (y.asg 0) k=ah->aL ((TC.jseq A x y).asg 0) k=ah:=λk hk=>by simp only[TC.asg];exact uj hk
  have sub3:∀ k,aL (JP A.ks 0) k=ah->aL ((TC.jseq A x y).asg 0) k=ah:=λk hk=>by simp only[TC.asg];exact jU (jU hk)
  rcases UC h with ⟨d,Z,h4⟩|Z
  .refine wp_seq (wp_mono (ihx cx h1 _ s _ _ Z φ a w g) ?_);rintro e a' w' ⟨ex,s',φ',rfl,hk,g',st,M⟩;cases ex with
   |normal=>
    simp only[] at hk;obtain⟨d',q1,J⟩:=dA hk;simp only[aj,Sum.inr.injEq] at J;subst J;split at h4
    .rename_i s1 Y;obtain⟨φ1,g1,Gz⟩:=Mo g' q1 Y λk _ _ v hv hf ha v' U=>by
      obtain⟨v0,e1,e2⟩:=M k ha v' U;rw[hv] at e1;cases e1;exact e2 hf
     refine wp_mono (ihy cy h2 R s1 K r h4 φ1 a' w' g1) ?_;rintro e2 a2 w2 ⟨ex2,s2,φ2,rfl,hk2,g2,XO,kp2⟩;exact⟨ex2,s2,φ2,rfl,hk2,g2,(st.trans Gz).trans XO,((C6 Y).1.mono sub3).trans (kp2.mono sub2)⟩
    .cases h4
   |exit id=>simp only[] at hk;obtain⟨_,_,J⟩:=dA hk;simp at J
   |ret=>simp only[] at hk;obtain⟨_,_,J⟩:=dA hk;simp at J
  .refine wp_seq (wp_mono (ihx cx h1 _ s _ _ Z φ a w g) ?_);rintro e a' w' ⟨ex,s',φ',rfl,hk,g',st,M⟩;cases ex with
   |normal=>simp only[] at hk;obtain⟨_,_,J⟩:=dA hk;simp at J
   |exit id=>
    simp only[] at hk;obtain⟨r',q1,J⟩:=dA hk;simp only[aj,Sum.inl.injEq] at J;subst J;exact⟨.exit id,s',φ',rfl,q1,g',st,M.mono sub1⟩
   |ret=>
    simp only[] at hk;obtain⟨r',q1,J⟩:=dA hk;simp only[aj,Sum.inl.injEq] at J;subst J;exact⟨.ret,s',φ',rfl,q1,g',st,M.mono sub1⟩
 |@cond t x y x' y' _ _ ihx ihy=>
  intro c hc R s K r h φ a w g;obtain⟨c',hn,I,hsim⟩:=jM P nt c;refine hsim _ _ _ ?_;rw[<- I] at hc;obtain⟨cx,cy,rfl,h1,h2⟩:=Yj hn hc;simp only[oC] at h;split at h
  .rename_i b hb;rcases oU h with ⟨rfl,h⟩|⟨rfl,h⟩
   .refine wp_cond_true (g.bool hb) (wp_mono (ihx cx h1 R s K r h φ a w g) ?_);rintro e a' w' ⟨ex,s',φ',rfl,hk,g',st,M⟩;exact⟨ex,s',φ',rfl,hk,g',st,M.mono λk hk=>by simp only[TC.asg];exact jU hk⟩
   .refine wp_cond_false (g.bool hb) (wp_mono (ihy cy h2 R s K r h φ a w g) ?_);rintro e a' w' ⟨ex,s',φ',rfl,hk,g',st,M⟩;exact⟨ex,s',φ',rfl,hk,g',st,M.mono λk hk=>by simp only[TC.asg];exact uj hk⟩
  .rename_i hb;obtain⟨ha,hbb⟩:=WC h;obtain⟨bv,hbv⟩:=g.anyb hb;cases bv with
   |true=>
    refine wp_cond_true hbv (wp_mono (ihx cx h1 R s K r ha φ a w g) ?_);rintro e a' w' ⟨ex,s',φ',rfl,hk,g',st,M⟩;exact⟨ex,s',φ',rfl,hk,g',st,M.mono λk hk=>by simp only[TC.asg];exact jU hk⟩
   |false=>
    refine wp_cond_false hbv (wp_mono (ihy cy h2 R s K r hbb φ a w g) ?_);rintro e a' w' ⟨ex,s',φ',rfl,hk,g',st,M⟩;exact⟨ex,s',φ',rfl,hk,g',st,M.mono λk hk=>by simp only[TC.asg];exact uj hk⟩
  .cases h
 |@block id b b' _ ih=>
  intro c hc R s K r h φ a w g;obtain⟨c',hn,I,hsim⟩:=jM P nt c;refine hsim _ _ _ ?_;rw[<- I] at hc;obtain⟨cb,rfl,h1⟩:=La hn hc;simp only[oC] at h;refine wp_block (wp_mono (ih cb h1 R s _ r h φ a w g) ?_);rintro e a' w' ⟨ex,s',φ',rfl,hk,g',st,M⟩;cases ex with
  |normal=>exact⟨.normal,s',φ',rfl,hk,g',st,M⟩
  |ret=>exact⟨.ret,s',φ',rfl,hk,g',st,M⟩
  |exit i=>
   simp only[Ex.to,Exit.inBlock];simp only[] at hk;split at hk
   .rename_i hb;rw[aI (av hb)];exact⟨.normal,s',φ',rfl,hk,g',st,M⟩
   .rename_i hb;rw[aC (λe=>hb (by rw[e];exact tP id))];exact⟨.exit i,s',φ',rfl,hk,g',st,M⟩
 |@jblock A id b b' _ ih=>
  intro c hc R s K r h φ a w g;obtain⟨c',hn,I,hsim⟩:=jM P nt c;refine hsim _ _ _ ?_;rw[<- I] at hc;obtain⟨cb,rfl,h1⟩:=La hn hc;simp only[oC] at h;have sub1:∀ k,aL (b.asg 0) k=ah->aL ((TC.jblock A id b).asg 0) k=ah:=λk hk=>by simp only[TC.asg];exact uj hk
  have sub3:∀ k,aL (JP A.ks 0) k=ah->aL ((TC.jblock A id b).asg 0) k=ah:=λk hk=>by simp only[TC.asg];exact jU hk
  rcases UC h with ⟨d,Z,h4⟩|Z
  .refine wp_block (wp_mono (ih cb h1 _ s _ _ Z φ a w g) ?_);rintro e a' w' ⟨ex,s',φ',rfl,hk,g',st,M⟩;have fin:obind (Kb np A (b.asg 0) s s') (λx=>aa (bZ (α:=R) x))=aa (bZ d)->adk P E nt np φ s w ((TC.jblock A id b).asg 0) K r .normal a' w':=by
    intro hk;obtain⟨d',q1,J⟩:=dA hk;simp only[aj,Sum.inr.injEq] at J;subst J;split at h4
    .rename_i s1 Y;obtain⟨φ1,g1,Gz⟩:=Mo g' q1 Y λk _ _ v hv hf ha v' U=>by
      obtain⟨v0,e1,e2⟩:=M k ha v' U;rw[hv] at e1;cases e1;exact e2 hf
     exact⟨.normal,s1,φ1,rfl,h4,g1,st.trans Gz,(C6 Y).1.mono sub3⟩
    .cases h4
   cases ex with
   |normal=>exact fin hk
   |ret=>simp only[] at hk;obtain⟨_,_,J⟩:=dA hk;simp at J
   |exit i=>
    simp only[Ex.to,Exit.inBlock];simp only[] at hk;split at hk
    .rename_i hb;rw[aI (av hb)];exact fin hk
    .obtain⟨_,_,J⟩:=dA hk;simp at J
  .refine wp_block (wp_mono (ih cb h1 _ s _ _ Z φ a w g) ?_);rintro e a' w' ⟨ex,s',φ',rfl,hk,g',st,M⟩;cases ex with
   |normal=>simp only[] at hk;obtain⟨_,_,J⟩:=dA hk;simp at J
   |ret=>
    simp only[] at hk;obtain⟨r',q1,J⟩:=dA hk;simp only[aj,Sum.inl.injEq] at J;subst J;exact⟨.ret,s',φ',rfl,q1,g',st,M.mono sub1⟩
   |exit i=>
    simp only[Ex.to,Exit.inBlock];simp only[] at hk;split at hk
    .obtain⟨_,_,J⟩:=dA hk;simp at J
    .rename_i hb;rw[aC (λe=>hb (by rw[e];exact tP id))];obtain⟨r',q1,J⟩:=dA hk;simp only[aj,Sum.inl.injEq] at J;subst J;exact⟨.exit i,s',φ',rfl,q1,g',st,M.mono sub1⟩
 |@loop A b b' _ ih=>
  intro c hc R s K r h φ a w g;obtain⟨c',hn,I,hsim⟩:=jM P nt c;refine hsim _ _ _ ?_;rw[<- I] at hc;obtain⟨cb,rfl,h1⟩:=Ox hn hc;simp only[oC] at h;obtain⟨x0,hx0,h⟩:=dA h;obtain⟨n,hn⟩:=VF h;have sub1:∀ k,aL (b.asg 0) k=ah->aL ((TC.loop A b).asg 0) k=ah:=λk hk=>by simp only[TC.asg];exact uj hk
  have sub3:∀ k,aL (JP A.ks 0) k=ah->aL ((TC.loop A b).asg 0) k=ah:=λk hk=>by simp only[TC.asg];exact jU hk
  obtain⟨step,hstep⟩:∃ step:A.D->Option (A.D⊕R),step=λx=>(match Fm A (b.asg 0) s x with
   |some s'=>oC np con bX inert b s' λex s'=>(match ex with
    |.normal=>obind (Kb np A (b.asg 0) s s') λy=>aa (oh y)
    |ex=>obind (K ex s') λr=>aa (bZ r))
   |none=>af):=⟨_,rfl⟩
  have hn:iterN step n x0=aa r:=by rw[hstep];exact hn
  have stepEq:∀ x,step x=(match Fm A (b.asg 0) s x with
   |some s'=>oC np con bX inert b s' λex s'=>(match ex with
    |.normal=>obind (Kb np A (b.asg 0) s s') λy=>aa (oh y)
    |ex=>obind (K ex s') λr=>aa (bZ r))
   |none=>af):=λx=>by rw[hstep]
  let Inv:Nat->Act->World->Prop:=λn a w'=>∃ x s1 φ1,iterN step n x=aa r/\Fm A (b.asg 0) s x=aa s1/\oe P E nt np φ1 s1 a w'/\Be np φ φ1 (bw s.h) (bw s1.h) w w'
  have head:∀ (n:Nat) (x:A.D),iterN step n x=aa r->∃ s1,Fm A (b.asg 0) s x=aa s1:=by
   intro n x hn;cases n with
   |zero=>cases hn
   |succ n=>
    simp only[iterN] at hn;cases hr:Fm A (b.asg 0) s x with
    |some s1=>exact⟨s1,rfl⟩
    |none=>rw[stepEq,hr] at hn;cases hn
  refine Bi Inv ?_ (n:=n) ?_
  .rintro n a1 w1 ⟨x,s1,φ1,hi,hr,g1,Gz⟩;cases n with
   |zero=>cases hi
   |succ n=>
    simp only[iterN] at hi;have hse:=stepEq x;rw[hr] at hse;simp only[] at hse;obtain⟨kp1,kp1'⟩:=C6 hr;split at hi
    .rename_i y hy;rw[hy] at hse;refine wp_mono (ih cb h1 _ s1 _ _ hse.symm φ1 a1 w1 g1) ?_;rintro e a' w' ⟨ex,s',φ',rfl,hk,g',st,M⟩;cases ex with
     |normal=>
      simp only[] at hk;obtain⟨d',q1,J⟩:=dA hk;simp only[aj,Sum.inl.injEq] at J;subst J;obtain⟨s2,hs2⟩:=head n d' hi;obtain⟨φ2,g2,XO⟩:=Mo g' q1 hs2 λk hkk hks v hv hf ha v' U=>by
       obtain⟨v0,e1,e2⟩:=M k ha v' U;have:=kp1' k hks v0 e1;rw[hv] at this;cases this;exact e2 hf
      exact⟨n,by omega,d',s2,φ2,hi,hs2,g2,(Gz.trans st).trans XO⟩
     |exit id=>simp only[] at hk;obtain⟨_,_,J⟩:=dA hk;simp at J
     |ret=>simp only[] at hk;obtain⟨_,_,J⟩:=dA hk;simp at J
    .rename_i r' hy;cases hi;rw[hy] at hse;refine wp_mono (ih cb h1 _ s1 _ _ hse.symm φ1 a1 w1 g1) ?_;rintro e a' w' ⟨ex,s',φ',rfl,hk,g',st,M⟩;cases ex with
     |normal=>simp only[] at hk;obtain⟨_,_,J⟩:=dA hk;simp at J
     |exit id=>
      simp only[] at hk;obtain⟨r',q1,J⟩:=dA hk;simp only[aj,Sum.inr.injEq] at J;subst J;exact⟨.exit id,s',φ',rfl,q1,g',Gz.trans st,(kp1.mono sub3).trans (M.mono sub1)⟩
     |ret=>
      simp only[] at hk;obtain⟨r',q1,J⟩:=dA hk;simp only[aj,Sum.inr.injEq] at J;subst J;exact⟨.ret,s',φ',rfl,q1,g',Gz.trans st,(kp1.mono sub3).trans (M.mono sub1)⟩
    .cases hi
  .obtain⟨s1,Y⟩:=head n x0 hn;obtain⟨φ1,g1,Gz⟩:=Mo g hx0 Y λk _ _ v hv _ _ v' U=>by rw[hv] at U;cases U;rfl
   exact⟨x0,s1,φ1,hn,Y,g1,Gz⟩
 |exit id=>
  intro c hc R s K r h φ a w g;obtain⟨c',hn,I,hsim⟩:=jM P nt c;refine hsim _ _ _ ?_;rw[<- I] at hc;rw[Yi hn hc];exact wp_exit ⟨.exit id,s,φ,rfl,h,g,Be.refl _ _ _ _,gd.refl _ _⟩
 |ret=>
  intro c hc R s K r h φ a w g;obtain⟨c',hn,I,hsim⟩:=jM P nt c;refine hsim _ _ _ ?_;rw[<- I] at hc;rw[aag hn hc];exact wp_ret ⟨.ret,s,φ,rfl,h,g,Be.refl _ _ _ _,gd.refl _ _⟩
 |defer f caps t=>
  intro c hc R s K r h φ a w g;obtain⟨c',hn,I,hsim⟩:=jM P nt c;refine hsim _ _ _ ?_;rw[<- I] at hc;obtain⟨id,ops,dr,rfl,h1,h2⟩:=VG hn hc;simp only[oC] at h;split at h
  .rename_i l hl;split at h
   .rename_i hi;obtain⟨l',e1,e2⟩:=xF g.invE hl;obtain⟨H,hH⟩:=jw s.h;have lowN:∀ n k,φ n=aa k->n<2*s.nx+2:=λn k hk=>by have:=g.dom n k hk;unfold ow at this;omega
    have cfg:Cfg P ⟨2*s.nx+2,φ,E,bw s.h,w⟩ nt ⟨JB s.e s.h,H,2*s.nx+2,0⟩ a w:=by
     refine ⟨⟨φ,?_,?_,?_,lowN,λi k hk=>.inl hk⟩,bO _,g.inert,g.size⟩
     .rw[hH];exact iK.refl _ _ _
     .rw[hH];exact g.rep
     .rw[hH,ud];exact g.env
    refine PC hin cfg h1 h2 e1 hi λa' w' c'=>?_
    obtain⟨φ',m',r',en',dm',d0'⟩:=c'.ex;have hφ:φ'=φ:=by
     funext n;cases hx:φ n with
     |some k=>exact m'.sub n k hx
     |none=>
      cases hy:φ' n with
      |none=>rfl
      |some k=>
       rcases d0' n k hy with Z|Z
       .have Z:φ n=aa k:=Z;rw[hx] at Z;cases Z
       .have h4:n<2*s.nx+2:=dm' n k hy;have h5:2*s.nx+2<=n:=Z;omega
    subst hφ;simp only[hH] at m' r' en';refine ⟨.normal,_,φ',rfl,h,⟨r',?_,g.dom,g.low,g.invH,?_,c'.inert,c'.size⟩,⟨m'.ext,m'.own_,λ_ _=>rfl⟩,?_⟩
    .intro u x hx;refine en' u x ?_;simp only[fE,PT.get_set] at hx;simp only[yA.put,PT.get_set];split at hx
     .rename_i eu;rw[aI eu];simp only[aF,cg,e2,aj] at hx;rw[hx]
     .rename_i eu;rw[aC eu,ud];exact hx
    .intro u x hx;simp only[PT.get_set] at hx;split at hx
     .cases hx;simp only[JM];exact k9 _ _ _ e2
     .exact g.invE u x hx
    .intro k hk v' U;simp only[PT.get_set] at U;split at U
     .rename_i ek;subst ek;simp only[TC.asg] at hk;rw[bl,bY.2 rfl] at hk;simp at hk
     .exact⟨v',U,λ_=>rfl⟩
   .cases h
  .cases h
 |@adj l tc' sc' _ ih=>
  intro c hc R s K r h φ a w g;obtain⟨c',hn,I,hsim⟩:=jM P nt c;refine hsim _ _ _ ?_;rw[<- I] at hc;simp only[oC] at h;split at h
  .rename_i s1 Y;obtain⟨φ1,g1,Gz,kp1⟩:=TN g Y;refine wp_mono (ih c' hc R s1 K r h φ1 a w g1) ?_;rintro e a' w' ⟨ex,s',φ',rfl,hk,g',st,M⟩;exact⟨ex,s',φ',rfl,hk,g',Gz.trans st,(kp1.mono λk hk=>by simp only[TC.asg];exact jU hk).trans (M.mono λk hk=>by simp only[TC.asg];exact uj hk)⟩
  .cases h
 |@split k off lo n tc' sc' _ ih=>
  intro c hc R s K r h φ a w g;obtain⟨c',hn,I,hsim⟩:=jM P nt c;refine hsim _ _ _ ?_;rw[<- I] at hc;simp only[oC] at h;split at h
  .rename_i kd v hv;obtain⟨j,hj,h2⟩:=N3 h;subst hj;split at h2
   .rename_i s1 Y;obtain⟨g1,hH,he⟩:=XR g hv Y;refine wp_mono (ih c' hc R s1 K r h2 φ a w g1) ?_;rintro e a' w' ⟨ex,s',φ',rfl,hk,g',st,M⟩;exact⟨ex,s',φ',rfl,hk,g',by rw[<- hH];exact st,λk hk v' U=>by
     obtain⟨v,q1,J⟩:=M k hk v' U;exact⟨v,by rw[<- he];exact q1,J⟩⟩
   .cases h2
  .cases h
 |@unl n b b' _ ih=>
  intro c hc R s K r h φ a w g;obtain⟨c',hn,I,hsim⟩:=jM P nt c;refine hsim _ _ _ ?_;rw[<- I] at hc;obtain⟨cb,rfl,h1⟩:=Ox hn hc;simp only[oC] at h
  let Inv:Nat->Act->World->Prop:=λm a w'=>∃ s1 φ1,Z2 (λs K=>oC np con bX inert b s K) m s1 K=aa r/\oe P E nt np φ1 s1 a w'/\Be np φ φ1 (bw s.h) (bw s1.h) w w'/\gd (b.asg 0) s.e s1.e
  refine Bi Inv ?_ (n:=n) ⟨s,φ,h,g,Be.refl _ _ _ _,gd.refl _ _⟩;rintro m a1 w1 ⟨s1,φ1,hi,g1,Gz,kp1⟩;cases m with
  |zero=>cases hi
  |succ m=>
   simp only[Z2] at hi;refine wp_mono (ih cb h1 R s1 _ r hi φ1 a1 w1 g1) ?_;rintro e a' w' ⟨ex,s',φ',rfl,hk,g',st,M⟩;cases ex with
   |normal=>exact⟨m,Ba m,s',φ',hk,g',Gz.trans st,kp1.trans M⟩
   |exit id=>exact⟨.exit id,s',φ',rfl,hk,g',Gz.trans st,kp1.trans M⟩
   |ret=>exact⟨.ret,s',φ',rfl,hk,g',Gz.trans st,kp1.trans M⟩
 |bad sc'=>
  intro c hc R s K r h;simp[oC] at h
theorem Ma {P:Program} {φ:PM} {E:Nat->Prop} {s:TS} {a:Act} {w:World} (hinv:lJ s.h s.nx) (hiE:sr s.e s.h) (r:qh φ E (bw s.h) w) (en:LP φ (tot E φ (bw s.h)) w (fE s.e s.h) a):∀ (rs:List ResultVar) (rvs:List RV) (l:List TV),ui P rs=aa rvs->RA s rvs=aa l->
 ∃ la vs,cF s.h l=aa la/\(rs.mapM (Vr a.tmps)).run P w= .ok vs w/\jI φ (tot E φ (bw s.h)) w la vs
 |[],rvs,l,hc,hr=>by
  simp only[ui,aj] at hc;subst hc;simp only[RA,aj] at hr;subst hr;exact⟨[],[],rfl,by simp,trivial⟩
 |.tmp t::rs,rvs,l,hc,hr=>by
  simp only[ui] at hc;split at hc
  .rename_i rvs' hrs;simp only[aj] at hc;subst hc;simp only[RA] at hr;split at hr
   .rename_i v hv;split at hr
    .rename_i M I;simp only[aj] at hr;subst hr;obtain⟨la,vs,h0,h1,h2⟩:=Ma hinv hiE r en rs rvs' M hrs I;simp only[rvT] at hv;obtain⟨y,Y⟩:=po s.h v (hiE t v hv);refine ⟨y::la,a.tmps.getD t undef::vs,oy Y h0,?_,en t y (by simp only[fE,hv,aF,Y]),h2⟩;simp only[List.mapM_cons,em,Vr,ol,cD];show ((rs.mapM (Vr a.tmps)).run P w).andThen _=_;rw[h1];rfl
    .cases hr
   .cases hr
  .cases hc
 |.cell ad t::rs,rvs,l,hc,hr=>by
  simp only[ui] at hc;split at hc
  .rename_i rvs' sz ag hrs hsz hag;simp only[aj] at hc;subst hc;simp only[RA] at hr;split at hr
   .rename_i v hv;split at hr
    .rename_i M I;simp only[aj] at hr;subst hr;obtain⟨la,vs,h0,h1,h2⟩:=Ma hinv hiE r en rs rvs' M hrs I;simp only[rvT] at hv;split at hv
     .rename_i id off hp;split at hv
      .rename_i ty q hb;obtain⟨q',J⟩:=fo s.h q (hinv.cells id ty q hb);obtain⟨y,e1,e2⟩:=Ud J hv;obtain⟨H,Z⟩:=jw s.h;have hR:CL H sz ag (.ptr (nm id) off)=aa ⟨y,[nm id],[],[],[]⟩:=by
        have hg:H.get (nm id)=aa ⟨ty,.mx q'⟩:=by rw[Z,bE,hb];simp only[aF,kq,J]
        simp only[CL,hg,e2]
       obtain⟨_,_,_,h3⟩:=QK (P:=P) hsz hag hR;obtain⟨qq,U,h4,h5,h6⟩:=h3 φ E (bw s.h) w _ (λi _=>by rw[Z]) r (en ad _ (by simp only[fE,hp,aF,cg]));refine ⟨y::la,U::vs,oy e1 h0,?_,h6,h2⟩;have hone:(Vr a.tmps (.cell ad t)).run P w= .ok U w:=by
        simp only[Vr,em,h4,asAddr,ol,cD,h5]
       rw[List.mapM_cons];simp only[em,hone,cD,h1,ol]
      .cases hv
     .cases hv
    .cases hr
   .cases hr
  .cases hc
theorem DZ:∀ (args:List TV) (k t:Nat) (x:TV),(I_ k args).get t=aa x->k<=t/\args[t-k]? =aa x
 |[],k,t,x,h=>by simp[I_,PT.get] at h
 |y::args,k,t,x,h=>by
  rw[I_,PT.get_set] at h;split at h
  .rename_i hk;subst hk;cases h;exact⟨bO _,by simp⟩
  .obtain⟨h1,h2⟩:=DZ args (k+1) t x h;refine ⟨by omega,?_⟩;rw[show t-k=t-(k+1)+1 from by omega];simpa using h2
theorem X5 {h:bd} {l:List TV} (J:ku h l=ah) {j:Nat} {v:TV} (hj:l[j]? =aa v):JM h v=ah:=by
 obtain⟨M,hl⟩:=fo h l J;obtain⟨y,_,I⟩:=lG hl j v hj;exact DG _ _ _ I
theorem Rs {P:Program} {con:FuncId->Option ch} {bX:TypeId->Option Ty} {inert:FuncId->Bool} (hm:P.follows .mixedOrders=ah) (hcon:Ju P con) (hin:Jp P inert) {f:FuncId} {sf:SF} (hf:ym P f=aa sf) (D:FT) (m:D.pre.ty.den->Option D.post.ty.den) (hmod:∀ x y,m x=aa y->XJ con bX inert (aa sf) D x=aa y):pd P f ⟨D.pre,D.post,m⟩:=by
 obtain⟨fn,c,hfn,hb,hnm,hcode,hres,hnt⟩:=Qp hf;refine ⟨⟨fn,hfn,by rw[hb];rfl,hnm⟩,λx y hxy vs hp l1 rs hq l2 la lr I J hla hlr φ E w us hrep hrel hdom=>?_⟩;have ht:=hmod x y hxy;unfold XJ at ht;simp only[] at ht;split at ht
 .rename_i args h hins;obtain⟨l1',I'⟩:=vi hins;have e1:args=vs:=by have h1:=I.pv;have h2:=I'.pv;rw[h1] at h2;cases h2;rfl
  have e2:l1'=l1:=by have h1:=I.pb;have h2:=I'.pb;rw[h1] at h2;cases h2;rfl
  subst e1;subst e2;have hget:∀ i,h.get i=hp.get i:=λi=>by
   cases h3:hp.get i with
   |some b=>exact (I'.at_ i b).2 ((I.at_ i b).1 h3)
   |none=>
    cases h4:h.get i with
    |none=>rfl
    |some b=>have:=(I.at_ i b).2 ((I'.at_ i b).1 h4);rw[h3] at this;cases this
  have hrow:∀ i,ec h i=ec hp i:=λi=>by rw[bP,bP,hget]
  have herH:bw h=bw hp:=by
   funext n;by_cases hn:∃ i,n=nm i
   .obtain⟨i,rfl⟩:=hn;rw[bE,bE,hget];cases h3:hp.get i with
    |none=>rfl
    |some b=>
     simp only[aF];refine H0 (λi r hr=>by rw[hrow];exact hr) λty l e=>?_
     exact (I.cells i ty l (by rw[h3,e])).1
   .rw[vo _ hn,vo _ hn]
  have hla':cF h args=aa la:=iJ (λi r hr=>by rw[hrow];exact hr) args la hla;split at ht
  .rename_i hle;simp only[au] at hle;have hle2:=aY hle.2;have hle:=aY hle.1;have hlen:=hrel.length;have hargl:args.length=la.length:=(jb hla).symm;refine calls_of_wp_defers hfn hb ?_;have hcfg:oe P E fn.ntmps D.pre.bs.length φ ⟨I_ 0 args,h,D.pre.bs.length⟩ {tmps:=us.toArray++nR (fn.ntmps-us.toArray.size) undef,defers:=[]} w:=by
    refine ⟨by rw[herH];exact hrep,?_,hdom,bO _,⟨λi ty l hl=>(I'.cells i ty l hl).1,λi b hbb=>I'.lt_len hbb⟩,?_,by simp,by simp;omega⟩
    .intro t z U;simp only[fE] at U;cases Z:(I_ 0 args).get t with
     |none=>rw[Z] at U;cases U
     |some v0=>
      rw[Z] at U;obtain⟨_,h2⟩:=DZ args 0 t v0 Z;rw[Nat.sub_zero] at h2;obtain⟨y0,q1,Y⟩:=lG hla' t v0 h2;simp only[aF] at U;rw[U] at Y;cases Y;obtain⟨v,h3,h4⟩:=hrel.get t z q1;have hlt:t<us.length:=(bf.1 h3).1;have:(us.toArray++nR (fn.ntmps-us.toArray.size) undef).getD t undef=v:=by
       rw[gr,Array.getElem?_append];simp only[rX,hlt,bC,jW,h3,tO]
      show cG φ _ w z ((us.toArray++nR (fn.ntmps-us.toArray.size) undef).getD t undef);rw[this,herH];exact h4
    .intro t v0 hv0;obtain⟨_,h2⟩:=DZ args 0 t v0 hv0;exact X5 I'.ok h2
   refine wp_mono (ady (E:=E) hm hcon hin (wK D.hints sf.code 0) c hcode.symm _ _ _ _ ht φ _ w hcfg) ?_;rintro e a' w' ⟨ex,s',φ',rfl,hk,g',st,_⟩;have fin:(match RA s' sf.res with
    |some l=>(match Df D.pre.bs.length D.post l s'.h with
     |some ⟨y,_,_,_⟩=>(match BP D.post y with|some _=>aa y|none=>af)
     |none=>af)
    |none=>af)=aa y->Leaves P fn a'.tmps (λen w'=>∃ v φ',en= .returned v/\Js (own φ (bw hp)) w w'/\(∀ k,k<w.heap.size->own φ' (bw hq) k->own φ (bw hp) k)/\(∀ i,i<D.pre.bs.length->φ' (nm i)=φ (nm i))/\qh φ' E (bw hq) w'/\cG φ' (tot E φ' (bw hq)) w' (C2 lr) v) a'.defers .returning w':=by
    intro hk;split at hk
    .rename_i l hl;split at hk
     .rename_i y' m' σ sm hM;split at hk
      .simp only[aj] at hk;subst hk;obtain⟨lo,rvs,q0,q1,Y⟩:=Ma g'.invH g'.invE g'.rep g'.env fn.results.toList sf.res l hres hl;have M:=u_ hM;obtain⟨φ2,lu,hlu,S⟩:=JH (np:=D.pre.bs.length) (E:=E) J g'.invH M q0 g'.rep;rw[hlr] at hlu;cases hlu;have hresults:(results fn a'.tmps).run P w'= .ok (if h:rvs.toArray.size=1 then rvs.toArray[0] else .tuple rvs.toArray) w':=by
        rw[RC,Array.mapM_eq_mapM_toList];simp only[em,Sem.run_map,q1,cD,ol]
       have hrl:jI φ2 (tot E φ2 (bw hq)) w' lr rvs:=by
        refine jI.of (by rw[Y.length,S.len]) λj z v U hv=>?_
        obtain⟨z0,p1,p2⟩:=S.val j z v U;obtain⟨v',p3,p4⟩:=Y.get j z0 p1;rw[hv] at p3;cases p3;exact p2 p4
       have hval:cG φ2 (tot E φ2 (bw hq)) w' (C2 lr) (if h:rvs.toArray.size=1 then rvs.toArray[0] else .tuple rvs.toArray):=by
        have hll:=hrl.length;clear hlr S;cases lr with
        |nil=>
         cases rvs with
         |nil=>exact cG.tup (vs:=[]) rfl (by intro j x v Z;simp at Z)
         |cons _ _=>exact hrl.elim
        |cons z lr=>
         cases rvs with
         |nil=>exact hrl.elim
         |cons v rvs=>
          cases lr with
          |nil=>
           cases rvs with
           |nil=>exact hrl.1
           |cons _ _=>exact hrl.2.elim
          |cons y l=>
           cases rvs with
           |nil=>exact hrl.2.elim
           |cons u rvs=>
            rw[dif_neg (by simp)];refine cG.tup (vs:=v::u::rvs) (by simpa using hll) λj x' v' Z hv=>?_
            obtain⟨v'',q1,Y⟩:=hrl.get j x' Z;rw[hv] at q1;cases q1;exact Y
       have st':Be D.pre.bs.length φ φ' (bw hp) (bw s'.h) w w':=by rw[<- herH];exact st
       refine BI hresults ⟨_,φ2,rfl,st'.ext,λk hk ho=>st'.own_ k hk (S.own_ k ho),λi hi=>?_,S.rep,hval⟩ a'.defers g'.inert;rw[S.par i hi (dl hi hle2),st'.par i hi]
      .cases hk
     .cases hk
    .cases hk
   cases ex with
   |normal=>exact fin hk
   |ret=>exact fin hk
   |exit id=>cases hk
  .cases ht
 .cases ht
def Tg:List (FuncId×ch)->FuncId->Option ch
 |[],_=>af
 |(g,c)::r,f=>if aA g f then aa c else Tg r f
def Ri (P:Program):List (FuncId×ch)->Prop
 |[]=>True
 |p::r=>aG P p.1 p.2/\Ri P r
theorem UZ {P:Program}:∀ {l:List (FuncId×ch)},Ri P l->Ju P (Tg l)
 |[],_,f,c,h=>by simp[Tg] at h
 |(g,d)::r,I,f,c,h=>by
  simp only[Tg] at h;split at h
  .rename_i hb;have:=av hb;subst this;cases h;exact I.1
  .exact UZ I.2 f c h
theorem O4 {P:Program} {inert:FuncId->Bool} (hm:P.follows .mixedOrders=ah) (hin:Jp P inert) {l:List (FuncId×ch)} (I:Ri P l) {bX:TypeId->Option Ty} {f:FuncId} {D:FT} {m:D.pre.ty.den->Option D.post.ty.den} (hs:(ym P f).isSome=ah) (he:∀ x,XJ (Tg l) bX inert (ym P f) D x=m x):pd P f ⟨D.pre,D.post,m⟩:=by
 obtain⟨J,hf⟩:=iu.1 hs;exact Rs hm (UZ I) hin hf D m λx y hxy=>by rw[<- hf,he];exact hxy
theorem pd.sub {P:Program} {f:FuncId} {pre post:Tm} {m m':pre.ty.den->Option post.ty.den} (h:pd P f ⟨pre,post,m⟩) (hs:∀ x y,m' x=aa y->m x=aa y):pd P f ⟨pre,post,m'⟩:=
 ⟨h.callable,λx y hxy=>h.calls x y (hs x y hxy)⟩
theorem aG.sub {P:Program} {f:FuncId} {pre post:Tm} {m m':pre.ty.den->Option post.ty.den} (h:aG P f ⟨pre,post,m⟩) (hb:ep pre.bs.length post.bs.length=ah) (hs:∀ x y,m' x=aa y->m x=aa y):aG P f ⟨pre,post,m'⟩:=
 ((h.holds hb).sub hs).toC hb
theorem qJ {α:Type} {b:Nat}:∀ (x y:List α),chk (a_ (ak x) b) (λ_=>aa x)=aa y->bcase (aA (ak x) 0) (DX (aa ([]:List α)) (chk (a_ (ak ([]:List α)+ak x) b) λ_=>(aa (([]:List α)++x)))) (chk (a_ (ak ([]:List α)+ak x) b) λ_=>(aa (([]:List α)++x)))=aa y:=by
 intro x y h;rw[ll,jF,bJ,h];cases x with
 |nil=>
  obtain⟨_,h⟩:=dX h;cases h;show DX (aa []) (aa [])=_;unfold DX;rw[aI rfl]
 |cons a r=>rfl
theorem Si {P:Program} {f:FuncId} {pre post:Tm} (hs:(ym P f).isSome=ah):pd P f ⟨pre,post,λ_=>af⟩:=by
 obtain⟨I,hf⟩:=iu.1 hs;obtain⟨fn,c,hfn,hb,hnm,_⟩:=Qp hf;exact⟨⟨fn,hfn,by rw[hb];rfl,hnm⟩,λx y h=>by cases h⟩
theorem pd.orElse {P:Program} {f:FuncId} {pre post:Tm} {m m':pre.ty.den->Option post.ty.den} (h:pd P f ⟨pre,post,m⟩) (h':pd P f ⟨pre,post,m'⟩):pd P f ⟨pre,post,λx=>match m x with|some y=>aa y|none=>m' x⟩:=
 ⟨h.callable,λx y hxy=>by
   cases hm:m x with
   |some z=>rw[show (ch.m ⟨pre,post,λx=>match m x with|some y=>aa y|none=>m' x⟩ x)=aa z by show (match m x with|some y=>aa y|none=>m' x)=aa z;rw[hm]] at hxy;cases hxy;exact h.calls x _ hm
   |none=>rw[show (ch.m ⟨pre,post,λx=>match m x with|some y=>aa y|none=>m' x⟩ x)=m' x by show (match m x with|some y=>aa y|none=>m' x)=m' x;rw[hm]] at hxy;exact h'.calls x y hxy⟩
theorem aG.orE {P:Program} {f:FuncId} {pre post:Tm} {m m':pre.ty.den->Option post.ty.den} (hb:ep pre.bs.length post.bs.length=ah) (h:aG P f ⟨pre,post,m⟩) (h':aG P f ⟨pre,post,m'⟩):aG P f ⟨pre,post,λx=>AI.orE (m x) (m' x)⟩:=by
 have e:(λx=>AI.orE (m x) (m' x))=λx=>match m x with|some y=>aa y|none=>m' x:=by funext x;cases m x<;>rfl
 rw[e];exact ((h.holds hb).orElse (h'.holds hb)).toC hb
def XE (P:Program) (f:Ty->TypeId->Bool):List Field->Nat->Ty->Bool
 |[],_,.un=>ah
 |[x],off,T=>aA x.offset off&&f T x.type&&aA (P.cellsOf x.type) T.size
 |x::y::r,off,.pr a b=>aA x.offset off&&f a x.type&&aA (P.cellsOf x.type) a.size&&XE P f (y::r) (off+a.size) b
 |_,_,_=>ai
def Rr (P:Program) (f:Ty->TypeId->Bool) (e:TypeId):Nat->Ty->Bool
 |1,T=>f T e&&aA (P.cellsOf e) T.size
 |m+2,.pr a b=>f a e&&aA (P.cellsOf e) a.size&&Rr P f e (m+1) b
 |_,_=>ai
def Ac (P:Program):Nat->Ty->TypeId->Bool
 |0,_,_=>ai
 |n+1,T,t=>match T,P.underlying t with
  |.int k,aa (.int k')=>k==k'
  |.bool,aa .bool=>ah
  |.str,aa .string=>ah
  |.sl U,aa (.slice e)=>Ac P n U e&&aA (P.cellsOf e) U.size&&fV 0 U.size
  |.st U,aa (.struct fs)=>XE P (Ac P n) fs.toList 0 U&&aA (P.cellsOf t) U.size
  |.st U,aa (.array m e)=>Rr P (Ac P n) e m U&&aA (P.cellsOf t) U.size
  |_,_=>ai
def T9:(T:Ty)->T.den->Prop
 |.int k,n=>(Lit.int k n).wf=ah
 |.str,s=>ak s<=maxLen
 |.sl U,xs=>ak xs<=maxLen/\∀ x∈(xs:List U.den),T9 U x
 |.st t,v=>T9 t v
 |.pr a b,v=>T9 a v.1/\T9 b v.2
 |_,_=>True
def Jj (W:World) (T:Ty) (x:T.den) (cs:List Value):Prop:=cs.length=T.size/\∀ (j:Nat) y v,(bN T x)[j]? =aa y->cs[j]? =aa v->mR (λ_=>False) W y v
theorem IZ {α:Type} (z:α) (P:Nat->α->Prop):∀ n:Nat,(∀ i,i<n->∃ a,P i a)->∃ l:List α,l.length=n/\∀ i x,l[i]? =aa x->P i x
 |0,_=>⟨[],rfl,λi x h=>by simp at h⟩
 |n+1,h=>by
  obtain⟨l,hl,hp⟩:=IZ z P n (λi hi=>h i (by omega));obtain⟨a,J⟩:=h n (by omega);refine ⟨l++[a],by simp[hl],λi x I=>?_⟩;by_cases hi:i<l.length
  .rw[bL hi] at I;exact hp i x I
  .rw[bW (by omega)] at I;by_cases h0:i-l.length=0
   .rw[h0] at I;simp at I;subst I;rw[show i=n from by omega];exact J
   .rw[bK (by simp;omega)] at I;cases I
theorem Addr.add_plain {a:Addr} (h:a.spot=af) (n:Nat):a.add n=⟨a.block,a.off+n,af⟩:=by
 unfold Addr.add;split
 .rename_i h0;subst h0;cases a;simp at h;subst h;rfl
 .rfl
theorem Wx {w:World} {a:Addr} {v:Value} (h:w.cell? a=aa v):a.spot=af:=by
 unfold LV at h;split at h
 .split at h
  .cases h
  .rename_i hs;cases hh:a.spot with
   |none=>rfl
   |some _=>simp[hh] at hs
 .cases h
theorem Jj.sub {W:World} {T:Ty} {x:T.den} {cs:List Value} {off n:Nat} (h:Jj W T x ((cs.drop off).take n)) (hn:n=T.size) (hl:off+n<=cs.length):∀ (j:Nat) y v,(bN T x)[j]? =aa y->cs[off+j]? =aa v->mR (λ_=>False) W y v:=λj y v I hv=>by
 refine h.2 j y v I ?_;have hj:j<T.size:=by have:=(bf.1 I).1;rwa [bx] at this
 rw[cH,aI (by omega),gJ];exact hv
section
variable {H:Type} {enc:TypeId×Value->H} {P:Program} {W:World} {base:Nat} {sp:Nat->Bool} {hd:Bool}
theorem Up {f:Ty->TypeId->Bool} {m:Nat} (M:∀ (T:Ty) (t:TypeId) (cs:List Value) x,f T t=ah->DataW.trod enc P W base sp hd m t cs=aa x->∃ v,Jj W T v cs/\T9 T v) (cs:List Value) (ts:List (DataW H×List MemPlace)):
 ∀ (fs:List Field) (off k:Nat) (T:Ty),XE P f fs off T=ah->off+T.size<=cs.length->(∀ (i:Nat) (fl:Field),fs[i]? =aa fl->∃ z,DataW.trod enc P W base sp hd m fl.type ((cs.drop fl.offset).take (P.cellsOf fl.type))=aa z)->
 ∃ v,(∀ (j:Nat) y u,(bN T v)[j]? =aa y->cs[off+j]? =aa u->mR (λ_=>False) W y u)/\T9 T v
 |[],off,k,.un,_,_,_=>⟨(),λj y u I=>by simp[bN] at I,trivial⟩
 |[x],off,k,T,h,hl,hg=>by
  simp only[XE,au] at h;obtain⟨⟨h1,h2⟩,J⟩:=h;have h1:=av h1;have J:=av J;obtain⟨z,U⟩:=hg 0 x rfl;obtain⟨v,hv,Z⟩:=M T _ _ _ h2 U;rw[h1] at hv;exact⟨v,hv.sub J (by omega),Z⟩
 |x::x'::r,off,k,.pr a b,h,hl,hg=>by
  simp only[XE,au] at h;obtain⟨⟨⟨h1,h2⟩,J⟩,h4⟩:=h;have h1:=av h1;have J:=av J;simp only[Ty.size] at hl;obtain⟨z,U⟩:=hg 0 x rfl;obtain⟨v,hv,Z⟩:=M a _ _ _ h2 U;rw[h1] at hv;have hv:=hv.sub J (by omega);obtain⟨v',hv',Y⟩:=Up M cs ts (x'::r) (off+a.size) (k+1) b h4 (by omega) (λi fl hi=>hg (i+1) fl (by simpa using hi));refine ⟨(v,v'),λj y u I hu=>?_,Z,Y⟩;simp only[bN] at I;by_cases hj:j<a.size
  .rw[bL (by rw[bx];exact hj)] at I;exact hv j y u I hu
  .rw[bW (by rw[bx];omega),bx] at I;exact hv' _ y u I (by rw[show off+a.size+(j-a.size)=off+j from by omega];exact hu)
theorem Uq {f:Ty->TypeId->Bool} {m:Nat} {e:TypeId} (J:∀ (T:Ty) (t:TypeId) (cs:List Value) x,f T t=ah->DataW.trod enc P W base sp hd m t cs=aa x->∃ v,Jj W T v cs/\T9 T v) (cs:List Value):
 ∀ (n i:Nat) (T:Ty),Rr P f e n T=ah->i*P.cellsOf e+T.size<=cs.length->(∀ j,j<n->∃ z,DataW.trod enc P W base sp hd m e ((cs.drop ((i+j)*P.cellsOf e)).take (P.cellsOf e))=aa z)->
 ∃ v,(∀ (j:Nat) y u,(bN T v)[j]? =aa y->cs[i*P.cellsOf e+j]? =aa u->mR (λ_=>False) W y u)/\T9 T v
 |0,i,T,h,_,_=>by unfold Rr at h;cases h
 |1,i,T,h,hl,hg=>by
  simp only[Rr,au] at h;have h3:=av h.2;obtain⟨z,M⟩:=hg 0 (by omega);obtain⟨v,hv,Y⟩:=J T _ _ _ h.1 M;rw[db] at hv;exact⟨v,hv.sub h3 (by omega),Y⟩
 |n+2,i,T,h,hl,hg=>by
  cases T with
  |pr a b=>
   simp only[Rr,au] at h;obtain⟨⟨h1,h2⟩,h4⟩:=h;have h3:=av h2;simp only[Ty.size] at hl;obtain⟨z,M⟩:=hg 0 (by omega);obtain⟨v,hv,Y⟩:=J a _ _ _ h1 M;rw[db] at hv;have hv:=hv.sub h3 (by omega);obtain⟨v',Z,U⟩:=Uq J cs (n+1) (i+1) b h4 (by rw[LX,Nat.one_mul];omega) (λj hj=>by have:=hg (j+1) (by omega);rwa [show i+(j+1)=i+1+j from by omega] at this);refine ⟨(v,v'),λj y u I hu=>?_,Y,U⟩;simp only[bN] at I;by_cases hj:j<a.size
   .rw[bL (by rw[bx];exact hj)] at I;exact hv j y u I hu
   .rw[bW (by rw[bx];omega),bx] at I;exact Z _ y u I (by rw[LX,Nat.one_mul,show i*P.cellsOf e+P.cellsOf e+(j-a.size)=i*P.cellsOf e+j from by omega];exact hu)
  |_=>unfold Rr at h;cases h
theorem F7:∀ (n:Nat) (T:Ty) (t:TypeId) (fuel:Nat) (cs:List Value) x,Ac P n T t=ah->(∀ b,sp b=ah)->DataW.trod enc P W base sp hd fuel t cs=aa x->∃ v,Jj W T v cs/\T9 T v
 |0,_,_,_,_,_,h,_,_=>by unfold Ac at h;cases h
 |n+1,T,t,fuel,cs,x,h,hsp,ht=>by
  unfold Ac at h;split at h
  .rename_i k k' hu;have hk:=eq_of_beq h;subst hk;obtain⟨m,rfl,_,J⟩:=DataW.trod_int hu ht;refine ⟨m,⟨rfl,λj y v I hv=>?_⟩,J⟩;cases j with
   |zero=>simp[bN] at I hv;subst I hv;exact .raw _
   |succ j=>simp[bN] at I
  .rename_i hu;obtain⟨b,rfl,_⟩:=DataW.trod_bool hu ht;refine ⟨b,⟨rfl,λj y v I hv=>?_⟩,trivial⟩;cases j with
   |zero=>simp[bN] at I hv;subst I hv;exact .raw _
   |succ j=>simp[bN] at I
  .rename_i hu;obtain⟨s,rfl,_,hs⟩:=DataW.trod_string hu ht;refine ⟨s.data.toList,⟨rfl,λj y v I hv=>?_⟩,by simpa[T9] using hs⟩;cases j with
   |zero=>simp[bN] at I hv;subst I hv;exact .raw _
   |succ j=>simp[bN] at I
  .rename_i U e hu;simp only[au] at h;obtain⟨⟨h1,h2⟩,h3⟩:=h;have h2:=av h2;have h3:0<U.size:=aY h3;rcases Go.Deep.open_slice hu ht with ⟨rfl,_⟩|⟨a,len,cap,m,k,D,Pl,rfl,hb,hl,hm,hmm,_,hi⟩
   .refine ⟨[],⟨rfl,λj y v I hv=>?_⟩,by simp[T9]⟩;cases j with
    |zero=>simp[bN] at I hv;subst I hv;exact .nil _ _ (by unfold maxLen;omega)
    |succ j=>simp[bN] at I
   .rw[hsp,aI rfl] at hmm;rw[h2] at hi;obtain⟨xs,hx1,Y⟩:=IZ U.zero (λi (v:U.den)=>∃ cs',W.cells? base (a.add (i*U.size)) U.size=aa cs'/\Jj W U v cs'/\T9 U v) len (λi hil=>by
     obtain⟨cs',hc,htt⟩:=hi i (by omega);obtain⟨v,hv,J⟩:=F7 n U e k cs' _ h1 hsp htt;exact⟨v,cs',hc,hv,J⟩)
    refine ⟨xs,⟨rfl,λj y v I hv=>?_⟩,by show ak xs<=maxLen;omega,λy I=>?_⟩
    .cases j with
     |succ j=>simp[bN] at I
     |zero=>
      simp[bN] at I hv;subst I hv;by_cases h0:len=0
      .have:xs=[]:=gw.1 (by omega);subst this;subst h0;exact .nil _ _ hm
      .obtain⟨x0,hx0⟩:∃ x0,xs[0]? =aa x0:=⟨xs[0]'(by omega),ay (by omega)⟩
       obtain⟨cs0,hc0,_⟩:=Y 0 x0 hx0;obtain⟨_,hcl0,hat0⟩:=World.cells?_some hc0;have hca:=hat0 0 h3;rw[ay (by omega)] at hca;have hspot:a.spot=af:=by
        have:=Wx hca;simpa[Addr.add] using this
       have hblk:=World.block_lt_of_cell? W _ hca;rw[Nat.zero_mul,Addr.add_plain hspot,Addr.add_plain rfl] at hca hblk;have hcell:∀ (i j:Nat) x,xs[i]? =aa x->j<U.size->∃ cs',W.cell? ⟨a.block,a.off+(i*U.size+j),af⟩=cs'[j]? /\j<cs'.length/\Jj W U x cs':=λi j x Z hj=>by
        obtain⟨cs',hc,hr,_⟩:=Y i x Z;obtain⟨_,hcl,hat⟩:=World.cells?_some hc;have:=hat j hj;rw[Addr.add_plain hspot,Addr.add_plain rfl,rD] at this;exact⟨cs',this,by omega,hr⟩
       have hflat:∀ j,j<xs.length*U.size->∃ x,xs[j/U.size]? =aa x/\j%U.size<U.size/\j=j/U.size*U.size+j%U.size:=λj hj=>by
        have h5:j/U.size<xs.length:=Nat.div_lt_of_lt_mul (by rw[F1];exact hj);exact⟨xs[j/U.size],ay h5,Nat.mod_lt _ h3,by rw[F1];exact (Nat.div_add_mod j U.size).symm⟩
       have hlen:(List.flatMap (bN U) xs).length=xs.length*U.size:=e_ (bx U) xs;obtain⟨ab,ao,az⟩:=a;cases hspot;rw[<- hx1];refine .sl (List.flatMap (bN U) xs) xs.length cap ab ao (λj=>(W.cell? ⟨ab,ao+j,af⟩).getD undef) (by omega) hm (λh=>h) hblk (qG U xs) (λj hj=>?_) (λj y I=>?_)
       .obtain⟨x,Z,hjs,hje⟩:=hflat j (by omega);obtain⟨cs',g1,g2,_⟩:=hcell _ _ x Z hjs;rw[<- hje] at g1;simp only[g1,ay g2,tO]
       .have hj:j<xs.length*U.size:=by rw[<- hlen];exact (bf.1 I).1
        obtain⟨x,Z,hjs,hje⟩:=hflat j hj;obtain⟨cs',g1,g2,g3⟩:=hcell _ _ x Z hjs;rw[<- hje] at g1;simp only[g1];rw[ay g2];refine g3.2 (j%U.size) y _ ?_ (ay g2);obtain⟨r,hr⟩:=DE (bx U) xs (j/U.size) x Z;have:((List.flatMap (bN U) xs).drop (j/U.size*U.size))[j%U.size]? =aa y:=by rw[gJ,<-hje];exact I
        rw[hr,bL (by rw[bx];exact hjs)] at this;exact this
    .obtain⟨i,M⟩:=eQ I;obtain⟨_,_,_,J⟩:=Y i y M;exact J
  .rename_i U fs hu;simp only[au] at h;have h2:=av h.2;obtain⟨xs,m,rfl,_,hl,hxl,hg⟩:=DataW.trod_struct hu ht;obtain⟨v,hv,J⟩:=Up (f:=Ac P n) (m:=m) (λT t cs x h1 h2=>F7 n T t m cs x h1 hsp h2) cs xs fs.toList 0 0 U h.1 (by omega) (λi fl hi=>by
    have M:fs[i]? =aa fl:=by simpa using hi
    have:=hg i fl M;have hlt:i<xs.length:=by rw[hxl];exact (cu.1 M).1
    rw[ay hlt] at this;exact⟨_,this⟩)
   exact⟨v,⟨by rw[hl,h2];rfl,λj y u I hu=>hv j y u I (by rw[bJ];exact hu)⟩,J⟩
  .rename_i U m e hu;simp only[au] at h;have h2:=av h.2;obtain⟨xs,q,rfl,_,hl,hxl,hg⟩:=DataW.trod_array hu ht;obtain⟨v,hv,J⟩:=Uq (f:=Ac P n) (m:=q) (λT t cs x h1 h2=>F7 n T t q cs x h1 hsp h2) cs m 0 U h.1 (by omega) (λj hj=>by
    have:=hg j hj;rw[ay (by omega)] at this;rw[bJ];exact⟨_,this⟩)
   exact⟨v,⟨by rw[hl,h2];rfl,λj y u I hu=>hv j y u I (by rw[Nat.zero_mul,bJ];exact hu)⟩,J⟩
  .cases h
theorem On {n:Nat} {T:Ty} {t:TypeId} {v:Value} {r:Reach} {bs:Nat} (I:Ac P n T t=ah) (h1:T.one=ah) (h:FY P W r bs t v):v.cells.toList=[v]:=by
 cases n with
 |zero=>unfold Ac at I;cases I
 |succ n=>
  unfold Ac at I;unfold FY at h;cases v with
  |agg cs=>
   exfalso;split at I<;>rename_i hu<;>first|(rw [hu] at h;simp only[] at h;unfold Cell.okWide at h;rw[hu] at h;unfold Cell.ok at h;rw[hu] at h;simp at h)|cases h1|cases I
  |_=>rfl
theorem RE {n:Nat} {T:Ty} {t:TypeId} {v:Value} {r:Reach} {bs:Nat} (I:Ac P n T t=ah) (h1:T.one=ai) (h:FY P W r bs t v):∃ cs,v= .agg cs:=by
 cases n with
 |zero=>unfold Ac at I;cases I
 |succ n=>
  unfold Ac at I;unfold FY at h;split at I<;>rename_i hu<;>first|(rw [hu] at h;obtain⟨cs,h,_⟩:=h;exact⟨cs,h⟩)|cases h1|cases I
theorem open_arg {n:Nat} {T:Ty} {t:TypeId} {v:Value} {d:DataW H} {ps:List MemPlace} {r:Reach} {bs:Nat} (J:Ac P n T t=ah) (hsp:∀ b,sp b=ah) (hok:FY P W r bs t v) (h:DataW.Trod enc P W base sp hd t v d ps):∃ x,mR (λ_=>False) W (gy T x) v/\T9 T x:=by
 obtain⟨fuel,hf⟩:=h;obtain⟨x,I,U⟩:=F7 n T t fuel _ _ J hsp hf;refine ⟨x,?_,U⟩;by_cases h1:T.one=ah
 .obtain⟨e1,e2⟩:=B_ T x h1;exact I.2 0 _ v (by rw[e1];rfl) (by rw[On J h1 hok];rfl)
 .obtain⟨cs,rfl⟩:=RE J (by simpa using h1) hok;rw[pN T x (by simpa using h1)];have hl:cs.toList.length=(bN T x).length:=by rw[bx];exact I.1
  have:=mR.agg (O:=λ_=>False) (w:=W) (bN T x) cs.toList hl (ny T x) (λj y u M hu=>I.2 j y u M hu);simpa using this
end
theorem No {z:Int} (h:(Lit.int .u8 z).wf=ah):0<=z/\z<=255:=⟨bm (tF.1 h).1,bm (tF.1 h).2⟩
def Nh (w:WT) (l:List ET) (j u:Nat):Nat->Nat
 |0=>0
 |i+1=>if (pg l i).th=u/\(i=j\/ZV w l i j=ah) then Nh w l j u i+1 else Nh w l j u i
theorem Y0 (w:WT) (l:List ET) (j u:Nat):∀ i,Nh w l j u i<=i
 |0=>bO _
 |i+1=>by have:=Y0 w l j u i;rw[Nh];split<;>omega
theorem YZ {w:WT} {l:List ET} (I:TR (w,l)) {j:Nat} (hj:j<l.length) (u:Nat):∀ i,i<=j->(Nh w l j u i:Int)=min (zl l u i:Int) ((FL w l j).getD u 0)
 |0,_=>by have:=((YY I hj).2 u).1;show (0:Int)=min 0 _;omega
 |i+1,h=>by
  have J:=YZ I hj u i (by omega);have hb:ZV w l i j=ah↔(zl l (pg l i).th i:Int)+1<=(FL w l j).getD (pg l i).th 0:=by
   rw[Np];exact⟨λq=>q.2.2,λq=>⟨by omega,hj,q⟩⟩
  rw[Nh,zl];by_cases q:(pg l i).th=u
  .subst q;rw[aI rfl];by_cases b:ZV w l i j=ah
   .rw[aI ⟨rfl,.inr b⟩];have:=hb.1 b;omega
   .rw[aC λx=>x.2.elim (λx=>by omega) b];have:¬_:=λx=>b (hb.2 x)
    omega
  .rw[aC λx=>q x.1,aC q];exact J
theorem U1 {w:WT} {l:List ET} (I:TR (w,l)) {j:Nat} (hj:j<l.length) (u:Nat):∀ i,j<i->(Nh w l j u i:Int)=(FL w l j).getD u 0
 |0,h=>by omega
 |i+1,h=>by
  rw[Nh];by_cases e:i=j
  .subst e;have h1:=YZ I hj u i (bO _);by_cases q:(pg l i).th=u
   .have own:=Ng I hj;subst q;rw[aI ⟨rfl,.inl rfl⟩];omega
   .have h2:=(Qv I hj).le u;rw[zl,aC q] at h2;rw[aC λx=>q x.1];omega
  .rw[aC λx=>x.2.elim e λb=>by have:=(Np.1 b).1;omega];exact U1 I hj u i (by omega)
theorem Qw {w:WT} {l:List ET} {j u:Nat}:∀ i,(∀ k,k<i->¬(pg l k).th=u)->Nh w l j u i=0
 |0,_=>rfl
 |i+1,h=>by rw[Nh,aC λx=>h i (by omega) x.1];exact Qw i λk hk=>h k (by omega)
abbrev Y1 (w:WT) (l:List ET) (j T i:Nat):List Int:=(eg T).map λu=>(Nh w l j u i:Int)
theorem U2 {w:WT} {l:List ET} {j T i u:Nat} (h:u<T):(Y1 w l j T i).getD u 0=(Nh w l j u i:Int):=by
 rw[ax,aZ,uK h];rfl
theorem abc {w:WT} {l:List ET} {j T i:Nat} (h:i=j\/ZV w l i j=ah):(Y1 w l j T i).set (pg l i).th ((Nh w l j (pg l i).th i:Int)+1)=Y1 w l j T (i+1):=by
 apply c6
 .simp
 intro k h1 h2;rw[pX];simp only[mg,j8];by_cases e:(pg l i).th=k
 .subst e;rw[aI rfl,Nh,aI ⟨rfl,h⟩];rfl
 .rw[aC e,Nh,aC λx=>e x.1]
theorem abd {w:WT} {l:List ET} {j T i:Nat} (h:¬(i=j\/ZV w l i j=ah)):Y1 w l j T (i+1)=Y1 w l j T i:=lK λu _=>by rw[Nh,aC λx=>h x.2]
theorem Jq (a b c:List Int) (n:Int) (Y:a.length<=9223372036854775807) (J:∀ z∈a,0<=z/\z<=255) (hc:c.length<=9223372036854775807) (U:∀ z∈c,0<=z/\z<=255) (n0:0<=n) (n1:n<=255):Ok (lA ((a,b,c),n)) λy=>y=ah:=by
 unfold lA bt ck bc bu iL bA bF kj aU cK aD cw;refine aw (P:=TR) (Nx a b c 20 (by omega) (by omega) Y J hc U) ?_;rintro⟨w,l⟩ I;have hl:=I.len;have ht:=I.wb.t;dsimp only at hl ht;refine aT (LS I) (aX (λx=>x=(ai,w,l)) (fK (al ?_)) ?_)
 .dsimp only;rw[bS,ic,aP rfl];rfl
 rintro x rfl;refine fK (aJ (λ_=>aT (x:=ah) I7 (al rfl)) λg=>?_);have g:¬(aN l.length)=0:=g;rw[ar] at g;refine uS g (cZ (cZ (dV (dt _) (dV (eD _) (bg (by dsimp only[ar];omega) (by omega) ?_)))));obtain⟨j,Z,hj⟩:∃ j:Nat,p_ (be .i64 n) (aN l.length)=(j:Int)/\j<l.length:=by
  rw[gU (by omega) (by omega),ar,Int.tmod_eq_emod_of_nonneg n0];have h1:=Int.emod_nonneg n (b:=(l.length:Int)) (by omega);have h2:=Int.emod_lt_of_pos n (b:=(l.length:Int)) (by omega);exact⟨(n%(l.length:Int)).toNat,by omega,by omega⟩
 dsimp only;rw[Z];have eth:∀ {i:Nat},i<l.length->(pg l i).th<w.2.2.2.2.1.length:=λ{i} h=>by rw[<- (Ho I i (by omega)).2.T];exact (MT I h).th
 refine ci l.length (λi x=>x=((i:Int),(w,l),Y1 w l j w.2.2.2.2.1.length i)) ?_ ?_ ?_
 .rintro i x hi rfl;refine dz ?_;refine aX (λx=>x=((w,l),Y1 w l j w.2.2.2.2.1.length (i+1))) ?_ ?_
  .refine aX (λx=>x.2=((w,l),Y1 w l j w.2.2.2.2.1.length i)/\(x.1=ah↔i=j\/ZV w l i j=ah)) ?_ ?_
   .refine aJ (λe=>al ⟨rfl,λ_=>.inl (by have e:(i:Int)=j:=e;omega),λ_=>rfl⟩) λe=>?_
    have e:¬(i:Int)=j:=e;refine aT (Xt I _ _) (al ?_);exact⟨rfl,.inr,λh=>h.elim (λh=>by omega) id⟩
   rintro⟨x,y⟩ ⟨e,h⟩;dsimp only at e h;subst e;refine aO (λhb=>?_) λhb=>al ?_
   .have et:=(YL I hi).th;have lt:=eth hi;have hle:=Y0 w l j (pg l i).th i;refine cC (aS ?_);have q1:(0:Int)<=(aH (T:=tE) l (i:Int)).1:=by rw[et];exact dt _
    have M:(aH (T:=tE) l (i:Int)).1<(Y1 w l j w.2.2.2.2.1.length i).length:=by rw[et,bS,ic];exact Int.ofNat_lt.2 lt
    refine aQ q1 M (aQ q1 M (aS (aQ q1 M (aQ q1 M (al ?_)))));dsimp only;have e1:aH (T:=.int .i64) (Y1 w l j w.2.2.2.2.1.length i) (aH (T:=tE) l (i:Int)).1=(Nh w l j (pg l i).th i:Int):=by rw[et,J_,U2 lt]
    rw[e1,et,gU (by omega) (by omega),fy,abc (h.1 hb)]
   .rw[abd λq=>cW (h.2 q) (by rw[show x=ai from hb];decide)]
  rintro x rfl;refine al ?_;dsimp only;rw[gL (by omega)]
 .rintro x rfl;refine du ?_;refine aw (P:=λy=>y=ah) (aX (λx=>x=ah) ?_ λx J=>al J) λx J=>al J
  refine aQ (by omega) (by simp;omega) (aS ?_);dsimp only;rw[PN hj];refine aT (aby _ _ (by simp[uB];omega) (YY I hj).lb λu=>?_) (Om (aT (x:=ah) I7 (al rfl)));rw[<- U1 I hj u l.length hj];by_cases q:u<w.2.2.2.2.1.length
  .exact U2 q
  .rw[Qw l.length λk hk e=>q (by rw[<- e];exact eth hk),ax,bK (by simp;omega)];rfl
 .unfold Y1;dsimp only[ar];rw[fh];have:((eg w.2.2.2.2.1.length).map λu=>(Nh w l j u 0:Int))=aE w.2.2.2.2.1.length 0:=by simp[Nh,List.map_const']
  rw[this];rfl
theorem HBCounts_law (x:(List Int×List Int×List Int)×Int) (w:T9 (.pr (.st (.pr (.sl (.int .u8)) (.pr (.sl (.int .u8)) (.sl (.int .u8))))) (.int .u8)) x):lA x=aa ah:=by
 obtain⟨⟨a,b,c⟩,n⟩:=x;obtain⟨⟨⟨l0,w0⟩,_,⟨l2,M⟩⟩,J⟩:=w;obtain⟨n0,n1⟩:=No J;obtain⟨y,h,rfl⟩:=Jq a b c n l0 (λz I=>No (w0 z I)) l2 (λz I=>No (M z I)) n0 n1;exact h
def inert (f:FuncId):Bool:=aA f 42
theorem Oz:∃ I,Tryz.prog.underlying 20=aa (.interface I):=⟨#[],by kernel_rfl⟩
theorem Ym (w:World):(Op.equal 20 .nilIface .nilIface).run Tryz.prog w= .ok ah w:=by
 obtain⟨I,hu⟩:=Oz;have key:∀ d,(Op.equalIn (d+1) 20 .nilIface .nilIface).run Tryz.prog w= .ok ah w:=λd=>by simp[Op.equalIn,run_underlying hu]
 exact key 9999
theorem X3 {P:Program} {ops:Array Oper} {Q:Exit->Act->List Frame->World->Prop} {i:Nat} {rest:List Nat} {a:Act} {cs:List Frame} {w w':World} {o:Oper} (J:ops[i]? =aa o) (I:o.guard=af) (hr:(execOp a.eval o).run P w= .ok .recover w') (hn:recoverD cs=af) (h:wpOpsS P ops Q rest (a.put o.dst .nilIface) cs w'):wpOpsS P ops Q (i::rest) a cs w:=by
 have I:ir o (yielded ops a.tmps)=ah:=by unfold ir;rw[I]
 simp only[wpOpsS,J,I,bC,hr,hn];exact h
theorem X2 {P:Program} {ops:Array Oper} {Q:Exit->Act->List Frame->World->Prop} {i:Nat} {rest:List Nat} {a:Act} {cs:List Frame} {w w':World} {o:Oper} {v:Value} (J:ops[i]? =aa o) (I:o.guard=af) (hr:(execOp a.eval o).run P w= .ok (.value v) w') (h:wpOpsS P ops Q rest (a.put o.dst v) cs w'):wpOpsS P ops Q (i::rest) a cs w:=by
 have I:ir o (yielded ops a.tmps)=ah:=by unfold ir;rw[I]
 simp only[wpOpsS,J,I,bC,hr];exact h
theorem Oy:Jp Tryz.prog inert:=by
 intro f hf;have hf:f=42:=av hf;subst hf;refine ⟨⟨Tryz.f42,Tryz.func42,by kernel_rfl,by kernel_rfl⟩,λargs w=>?_⟩;refine callsD_of_wpS Tryz.func42 rfl λc₀ cs hu=>?_
 refine wpS_seq (wpS_region ?_);generalize ht:(args++nR (Tryz.f42.ntmps-args.size) undef)=T;have hs:5<=T.size:=by
  rw[<- ht];simp only[Array.size_append,Array.size_replicate];have:Tryz.f42.ntmps=5:=rfl;omega
 have hr:recoverD (c₀::cs)=af:=by simp[recoverD,hu]
 refine X3 (i:=0) (rest:=[1]) rfl rfl (w':=w) ?_ hr ?_
 .simp[execOp,resolve,invoke,builtin]
 refine X2 (v:=.bool ai) rfl rfl (w':=w) ?_ ?_
 .have hv:Act.eval (LY {tmps:=T,defers:=[]} (aa 2) .nilIface) (.tmp 2)= .nilIface:=by
   simp[Act.eval,LY,show 2<T.size by omega]
  have h2:=Ym w;have hcst:Act.eval (LY {tmps:=T,defers:=[]} (aa 2) .nilIface) (.const .nilIface)= .nilIface:=rfl;show (execOp (Act.eval (LY {tmps:=T,defers:=[]} (aa 2) .nilIface)) _).run _ w=_;simp[execOp,hv,hcst,eqGuard,binOp,h2]
 show Exit.thenS _ _ .normal _ _ _;refine wpS_cond (t:=ai) ?_ ?_
 .simp[Act.eval,LY,show 3<T.size by omega]
 refine wpS_of_wp (wp_skip ?_);have hres:Tryz.f42.results=#[]:=rfl;exact⟨rfl,c₀.mode,rfl,.tuple #[],by simp[results,hres],⟨_,rfl⟩,hu,rfl⟩
def dI {α:Type}:List (Nat×α)->PT α
 |[]=>.leaf
 |p::r=>(dI r).set p.1 (aa p.2)
noncomputable abbrev Pg:Program:=Tryz.prog
def cn (D:FT) (m:D.pre.ty.den->Option D.post.ty.den):ch:=⟨D.pre,D.post,m⟩
theorem ahc:Pg.follows .mixedOrders=ah:=by kernel_rfl
theorem ac {f:FuncId} {c:ch} {l:List (FuncId×ch)} (h:aG Pg f c) (t:Ri Pg l):Ri Pg ((f,c)::l):=⟨h,t⟩
theorem an:Ri Pg []:=trivial
inductive OI {R:Type}:Option R->Option R->Prop where
 |rfl {a:Option R}:OI a a
 |chk {b:Bool} {k k':Option R} (h:kK k k'):OI (chk b λ_=>k) (chk b λ_=>k')
 |bcase {b:Bool} {t f t' f':Option R} (h1:kK t t') (h2:kK f f'):OI (bcase b t f) (bcase b t' f')
 |lt {α:Type} {x:α} {k k':α->Option R} (h:∀ y,kK (k y) (k' y)):OI (lt x k) (lt x k')
 |jn {α:Type} {o o':Option (R⊕α)} {k k':α->Option R} (h:kK o o') (hk:∀ x,kK (k x) (k' x)):OI (jn o k) (jn o' k')
 |obind {α:Type} {o o':Option α} {k k':α->Option R} (h:kK o o') (hk:∀ x,kK (k x) (k' x)):OI (obind o k) (obind o' k')
 |iter {σ:Type} {f g:σ->Option (σ⊕R)} {x:σ} (h:∀ x,kK (f x) (g x)):OI (fQ f x) (iter g x)
theorem OI.o {R:Type} {a b:Option R} (h:OI a b):kK a b:=by
 cases h with
 |rfl=>exact kK.rfl
 |chk h=>exact kK.chk h
 |bcase h g=>exact kK.bcase h g
 |lt h=>exact kK.lt h
 |jn h g=>exact kK.jn h g
 |obind h g=>exact kK.obind h g
 |iter h=>exact kK.iter h
theorem mk {f:FuncId} (D:FT) (m:D.pre.ty.den->Option D.post.ty.den) {l:List (FuncId×ch)} (J:Ri Pg l) (I:TypeId->Option Ty) (he:∀ x,XJ (Tg l) I inert (ym Pg f) D x=m x:=by intro x;kernel_rfl) (hs:(ym Pg f).isSome=ah:=by kernel_rfl) (hb:ep D.pre.bs.length D.post.bs.length=ah:=by kernel_rfl):aG Pg f (cn D m):=(O4 ahc Oy J hs he).toC hb
theorem xw {f:FuncId} (D:FT) (m n:D.pre.ty.den->Option D.post.ty.den) (J:∀ x,kK (m x) (n x)) {l:List (FuncId×ch)} (M:Ri Pg l) (I:TypeId->Option Ty) (he:∀ x,XJ (Tg l) I inert (ym Pg f) D x=n x:=by intro x;kernel_rfl) (hs:(ym Pg f).isSome=ah:=by kernel_rfl) (hb:ep D.pre.bs.length D.post.bs.length=ah:=by kernel_rfl):aG Pg f (cn D m):=((O4 ahc Oy M hs he).sub J).toC hb
theorem Ou {f:FuncId} (D:FT) (hs:(ym Pg f).isSome=ah:=by kernel_rfl) (hb:ep D.pre.bs.length D.post.bs.length=ah:=by kernel_rfl):aG Pg f (cn D λ_=>af):=(Si hs).toC hb
abbrev tN:List PV:=[.d aM,.d aM,.d aM,.d aM,.d aM,.nil,.nil]
abbrev uG:List PV:=[.nil,.d aM,.nil,.nil,.nil,.nil,.nil]
abbrev ado:List PV:=[.ptr 1 0,.d aM,.d aM,.d .bool,.d .bool,.d .bool,.d .bool,.row 4]
abbrev ads:List PV:=[.d aM,.d aM,.d .str,.d .str,.nil,.d aM,.d aM,.d .str,.nil,.nil,.nil]
abbrev Zz:List PB:=[.cells 210 ado,.cells 101 [.d xv],.gone,.cells 216 ads,.rowsP 9 .str]
abbrev LN:List PV:=[.ptr 0 0,.ptr 1 0,.ptr 2 0,.ptr 3 0,.ptr 4 0,.ptr 5 0,.ptr 6 0,.ptr 7 0,.d .bool]
abbrev ZZ:List PB:=[.cells 202 [.d (.sl ka),.d (.sl qc),.d (.sl li),.d (.sl .str),.d (.sl .str),.d (.sl nQ),.d (.sl .str),.row 2,.d aM,.d aM],.gone,.rows 206 ah qa]
abbrev ZY:List PB:=[.cells 202 [.d (.sl ka),.d (.sl qc),.d (.sl li),.d (.sl .str),.d (.sl .str),.d (.sl nQ),.d (.sl .str),.row 1,.d aM,.d aM],.rows 206 ah qa]
abbrev Zy:List PV:=[.d aM,.row 11,.row 12,.d aM]
abbrev La7:List PB:=[.cells 160 [.nil,.nil],.cells 210 [.ptr 5 0,.d aM,.d aM,.d .bool,.d .bool,.d .bool,.d .bool,.row 6],.cells 160 [.d (.sl Fj),.row 7],.rows 9 ai .str,.cells 200 [.d .str,.d aM,.row 8,.row 9],.cells 101 [.d xv],.rowsP 9 .str,.rows 200 ah rN,.rows 9 ai .str,.rows 216 ah .sm]
abbrev La8:List PB:=[.cells 241 [.d (.sl Fj),.d (.sl rN),.d aM,.row 1,.row 6,.row 7],.rowsP 216 .sm,.gone,.gone,.cells 216 [.d .sm],.cells 160 [.d LO],.rows 9 ah .str,.rows 9 ah .str]
abbrev La9:List PV:=[.d (.sl dP),.d aM,.d pi,.d (.sl gR),.row 8,.row 9,.csl 10 4 4]
abbrev aca:List PB:=[.cells 118 [.d (.sl dP),.d aM,.d pi,.d (.sl gR),.row 6,.row 7,.csl 8 4 4],.cells 163 [.d ip],.cells 118 uG,.cells 54 tN,.cells 54 [.d iS],.cells 193 [.d eK],.rows 2 ah aM,.rows 2 ah aM,.cells 193 [.d eK,.d eK,.d eK,.d eK]]
abbrev adp:List PV:=[.ptr 1 0,.d aM,.d aM,.d .bool,.d .bool,.d .bool,.d .bool,.row 2]
abbrev NC:List PV:=[.d CR,.d aM]
abbrev T4:List PB:=[.cells 210 adp,.cells 101 NC,.rowsP 9 .str]
abbrev KE:List PV:=[.ptr 0 0,.ptr 1 0,.ptr 2 0,.ptr 3 0,.ptr 4 0,.ptr 5 0,.ptr 6 0,.ptr 7 0,.d aM]
abbrev afm:List PV:=[.d (.sl dP),.d aM,.d pi,.d (.sl gR),.row 8,.row 9,.csl 10 4 3]
abbrev ag6:List PB:=[.cells 123 [.d tC],.cells 118 afm,.cells 163 [.d ip],.cells 118 uG,.cells 54 tN,.cells 54 [.d iS],.cells 193 Zy,.cells 206 [.d qa],.rows 2 ah aM,.rows 2 ah aM,.cells 193 [.d aM,.row 11,.row 12,.d aM,.d eK,.d eK],.rows 2 ah aM,.rows 49 ah (.sl aM)]
abbrev ag5:List PB:=[.cells 123 [.d tC],.cells 118 afm,.cells 163 [.d ip],.cells 118 uG,.cells 54 tN,.cells 54 [.d iS],.cells 193 Zy,.cells 206 [.d qa],.rows 2 ah aM,.rows 2 ah aM,.cells 193 [.d eK,.d aM,.row 11,.row 12,.d aM,.d eK],.rows 2 ah aM,.rows 49 ah (.sl aM)]
abbrev ag4:List PB:=[.cells 123 [.d tC],.cells 118 afm,.cells 163 [.d ip],.cells 118 uG,.cells 54 tN,.cells 54 [.d iS],.cells 193 Zy,.cells 206 [.d qa],.rows 2 ah aM,.rows 2 ah aM,.cells 193 [.d eK,.d eK,.d aM,.row 11,.row 12,.d aM],.rows 2 ah aM,.rows 49 ah (.sl aM)]
abbrev adr:List PV:=[.d (.sl dP),.d aM,.d pi,.d (.sl gR),.row 8,.row 9,.csl 10 4 2]
abbrev ag3:List PB:=[.cells 123 [.d tC],.cells 118 adr,.cells 163 [.d ip],.cells 118 uG,.cells 54 tN,.cells 54 [.d iS],.cells 193 Zy,.cells 206 [.d qa],.rows 2 ah aM,.rows 2 ah aM,.cells 193 [.d aM,.row 11,.row 12,.d aM,.d eK],.rows 2 ah aM,.rows 49 ah (.sl aM)]
abbrev ag2:List PB:=[.cells 123 [.d tC],.cells 118 adr,.cells 163 [.d ip],.cells 118 uG,.cells 54 tN,.cells 54 [.d iS],.cells 193 Zy,.cells 206 [.d qa],.rows 2 ah aM,.rows 2 ah aM,.cells 193 [.d eK,.d aM,.row 11,.row 12,.d aM],.rows 2 ah aM,.rows 49 ah (.sl aM)]
abbrev Xa:List PB:=[.cells 241 [.d (.sl Fj),.d (.sl rN),.d aM,.row 1,.row 4,.row 5],.rowsP 216 .sm,.gone,.gone,.rows 9 ah .str,.rows 9 ah .str]
abbrev KC:List PV:=[.ptr 0 0,.ptr 1 0,.ptr 2 0,.ptr 3 0,.ptr 4 0,.ptr 5 0,.ptr 6 0,.d .bool]
abbrev gI:List PV:=[.ptr 0 0,.d .bool]
abbrev W_:List PB:=[.cells 241 [.d (.sl Fj),.d (.sl rN),.d aM,.row 1,.row 2,.row 3],.rowsP 216 .sm,.rows 9 ah .str,.rows 9 ah .str]
abbrev ag1:List PB:=[.cells 123 [.d tC],.cells 118 [.d (.sl dP),.d aM,.d pi,.d (.sl gR),.row 8,.row 9,.csl 10 4 1],.cells 163 [.d ip],.cells 118 uG,.cells 54 tN,.cells 54 [.d iS],.cells 193 Zy,.cells 206 [.d qa],.rows 2 ah aM,.rows 2 ah aM,.cells 193 Zy,.rows 2 ah aM,.rows 49 ah (.sl aM)]
abbrev KB:List PV:=[.ptr 0 0,.ptr 1 0,.ptr 2 0,.ptr 3 0,.ptr 4 0,.ptr 5 0,.ptr 6 0]
abbrev ag0:List PB:=[.cells 123 [.d tC],.cells 118 La9,.cells 163 [.d ip],.cells 118 uG,.cells 54 tN,.cells 54 [.d iS],.cells 193 Zy,.cells 206 [.d qa],.rows 2 ah aM,.rows 2 ah aM,.cells 193 [.d aM,.row 11,.row 12,.d aM,.d eK,.d eK,.d eK],.rows 2 ah aM,.rows 49 ah (.sl aM)]
abbrev afz:List PB:=[.cells 123 [.d tC],.cells 118 La9,.cells 163 [.d ip],.cells 118 uG,.cells 54 tN,.cells 54 [.d iS],.cells 193 Zy,.cells 206 [.d qa],.rows 2 ah aM,.rows 2 ah aM,.cells 193 [.d eK,.d aM,.row 11,.row 12,.d aM,.d eK,.d eK],.rows 2 ah aM,.rows 49 ah (.sl aM)]
abbrev afy:List PB:=[.cells 123 [.d tC],.cells 118 La9,.cells 163 [.d ip],.cells 118 uG,.cells 54 tN,.cells 54 [.d iS],.cells 193 Zy,.cells 206 [.d qa],.rows 2 ah aM,.rows 2 ah aM,.cells 193 [.d eK,.d eK,.d aM,.row 11,.row 12,.d aM,.d eK],.rows 2 ah aM,.rows 49 ah (.sl aM)]
abbrev afx:List PB:=[.cells 123 [.d tC],.cells 118 La9,.cells 163 [.d ip],.cells 118 uG,.cells 54 tN,.cells 54 [.d iS],.cells 193 Zy,.cells 206 [.d qa],.rows 2 ah aM,.rows 2 ah aM,.cells 193 [.d eK,.d eK,.d eK,.d aM,.row 11,.row 12,.d aM],.rows 2 ah aM,.rows 49 ah (.sl aM)]
abbrev Jo:List PB:=[.cells 31 [.d nF],.cells 110 [.d iy],.cells 54 [.d iS],.cells 110 uG]
abbrev KA:List PV:=[.ptr 0 0,.ptr 1 0,.ptr 2 0,.ptr 3 0,.ptr 4 0,.ptr 5 0]
abbrev afw:List PB:=[.cells 118 [.d (.sl dP),.d aM,.d pi,.d (.sl gR),.row 6,.row 7,.csl 8 4 3],.cells 163 [.d ip],.cells 118 uG,.cells 54 tN,.cells 54 [.d iS],.cells 193 [.d eK],.rows 2 ah aM,.rows 2 ah aM,.cells 193 [.d eK,.d eK,.d eK]]
abbrev QY:List PV:=[.d (.sl dP),.d aM,.d pi,.d (.sl gR),.row 7,.row 8,.csl 9 4 4]
abbrev qL:List PV:=[.ptr 0 0,.ptr 1 0,.d .bool]
abbrev yz:List PV:=[.ptr 0 0,.ptr 1 0,.ptr 2 0,.ptr 3 0,.d .bool]
abbrev ac2:List PV:=[.nil,.nil,.nil,.nil,.nil,.nil]
abbrev afv:List PB:=[.cells 160 [.d LO],.cells 31 ac2,.cells 31 [.row 4,.row 5,.row 6,.row 7,.nil,.nil],.cells 244 [.d Fj],.rows 134 ah ka,.rows 61 ah qc,.rows 90 ah li,.rows 9 ah .str]
abbrev W7:List PV:=[.nil,.nil,.nil,.nil,.nil,.nil,.nil]
abbrev aih:List PV:=[.d (.sl ka),.d (.sl qc),.d (.sl li),.d (.sl .str),.d (.sl .str),.d (.sl nQ),.row 5]
abbrev ait:List PB:=[.cells 160 [.d LO],.cells 123 W7,.cells 123 aih,.cells 202 [.d (.sl ka),.d (.sl qc),.d (.sl li),.d (.sl .str),.d (.sl .str),.d (.sl nQ),.d (.sl .str),.row 6,.d aM,.d aM],.cells 189 [.d aM,.row 6],.rows 189 ah vK,.rows 206 ah qa]
abbrev FU:List PV:=[.row 0,.d aM,.row 1,.row 2]
abbrev afu:List PB:=[.cells 101 [.d xv],.cells 110 [.d iy],.cells 31 [.d nF],.rows 54 ah iS,.cells 49 [.row 5,.row 6,.row 7,.row 8],.rows 3 ah aM,.rows 3 ah aM,.rows 3 ah aM,.rows 3 ah aM]
abbrev D7:List PV:=[.ptr 0 0,.ptr 1 0,.ptr 2 0,.d aM]
abbrev aft:List PB:=[.cells 101 [.d xv],.cells 110 [.d iy],.cells 31 [.d nF],.cells 49 [.row 4,.row 5,.row 6,.row 7],.rows 3 ah aM,.rows 3 ah aM,.rows 3 ah aM,.rows 3 ah aM]
abbrev Jn:List PV:=[.d aM,.d (.sl aM),.d uH,.d aM]
abbrev W9:List PV:=[.d (.sl dP),.d aM,.d pi,.d (.sl gR),.row 7,.row 8,.csl 9 4 3]
abbrev CQ:List PV:=[.ptr 0 0,.ptr 1 0,.ptr 2 0,.d .bool]
abbrev uF:List PV:=[.ptr 0 0,.ptr 1 0,.d aM]
abbrev Jm:List PV:=[.d aM,.row 10,.row 11,.d aM]
abbrev ac1:List PV:=[.d aM,.row 0,.row 1,.d aM]
abbrev Vh:List PV:=[.d aM,.nil,.nil,.d aM]
abbrev afs:List PB:=[.rows 2 ah aM,.rows 49 ah (.sl aM),.cells 206 [.d qa],.cells 193 ac1,.cells 193 Vh]
abbrev afr:List PB:=[.cells 241 [.d (.sl Fj),.d (.sl rN),.d aM,.row 4,.row 5,.row 6],.gone,.gone,.gone,.rowsP 216 .sm,.rows 9 ah .str,.rows 9 ah .str]
abbrev AY:List PV:=[.nil,.d aM,.nil,.nil]
abbrev afq:List PB:=[.cells 107 [.row 2,.d aM,.row 3,.row 4],.cells 107 AY,.rows 175 ah dP,.rows 4 ah .bool,.rows 177 ah gR]
abbrev Jl:List PV:=[.ptr 0 0,.ptr 3 0,.d .bool]
abbrev ais:List PB:=[.cells 34 W7,.cells 101 [.d xv],.cells 34 aih,.cells 110 [.d iy],.rows 54 ai iS,.rows 54 ah iS]
abbrev air:List PB:=[.cells 118 [.d (.sl dP),.d aM,.d pi,.d (.sl gR),.row 6,.row 7,.csl 8 4 2],.cells 163 [.d ip],.cells 118 uG,.cells 54 tN,.cells 54 [.d iS],.cells 193 [.d eK],.rows 2 ah aM,.rows 2 ah aM,.cells 193 [.d eK,.d eK]]
abbrev ph:List PB:=[.cells 31 [.d nF]]
abbrev aiq:List PB:=[.cells 101 [.d xv],.cells 110 [.d iy],.cells 31 [.d nF],.rows 54 ah iS,.cells 49 [.row 7,.row 8,.row 9,.row 10],.cells 54 [.d iS],.cells 110 [.d iy],.rows 3 ah aM,.rows 3 ah aM,.rows 3 ah aM,.rows 3 ah aM]
abbrev ac9:List PB:=[.cells 31 ac2,.cells 31 [.row 2,.row 3,.row 4,.row 5,.row 6,.row 7],.rows 134 ai ka,.rows 61 ai qc,.rows 90 ai li,.rows 9 ai .str,.rows 9 ai .str,.rows 141 ah nQ]
abbrev vJ:List PV:=[.ptr 0 0,.d aM]
abbrev Zx:List PV:=[.row 2,.row 3,.row 4,.row 5]
abbrev aip:List PB:=[.cells 101 [.d xv],.cells 49 Zx,.rows 3 ah aM,.rows 3 ah aM,.rows 3 ah aM,.rows 3 ah aM,.cells 54 tN,.cells 54 [.d aM,.d aM,.d aM,.d aM,.d aM,.d (.sl aM),.nil]]
abbrev ac8:List PV:=[.d (.sl dP),.d aM,.d pi,.d (.sl gR),.row 7,.row 8,.csl 9 4 2]
abbrev Kz:List PV:=[.d uI,.d iS,.d .bool]
abbrev aio:List PB:=[.cells 101 [.d xv],.cells 49 Zx,.rows 3 ah aM,.rows 3 ah aM,.rows 3 ah aM,.rows 3 ah aM,.cells 110 [.d iy],.cells 31 [.d nF],.cells 54 tN,.cells 54 tN]
abbrev ain:List PB:=[.cells 160 [.d LO],.cells 31 ac2,.cells 31 [.row 3,.row 4,.row 5,.row 6,.nil,.nil],.rows 134 ah ka,.rows 61 ah qc,.rows 90 ah li,.rows 9 ah .str]
abbrev afp:List PV:=[.d (.sl dP),.d aM,.d pi,.d (.sl gR),.row 3,.row 4,.row 5]
abbrev Ky:List PV:=[.d tC,.d uI,.d ip]
abbrev afo:List PB:=[.rows 175 ah dP,.rows 4 ah .bool,.rows 177 ah gR,.cells 107 FU,.rows 3 ah aM]
abbrev ZA:List PV:=[.row 3,.d aM,.row 4,.row 5]
abbrev aim:List PB:=[.cells 31 [.d nF],.cells 107 ZA,.cells 107 AY,.rows 175 ah dP,.rows 4 ah .bool,.rows 177 ah gR]
abbrev uE:List PV:=[.d aM,.d aM]
abbrev afn:List PB:=[.rows 54 ah iS,.cells 123 [.d tC],.cells 118 [.d uI],.cells 118 uG]
abbrev ail:List PB:=[.cells 189 [.d vK],.cells 193 [.d aM,.row 3,.row 4,.d aM],.cells 193 Vh,.rows 2 ah aM,.rows 49 ah (.sl aM)]
abbrev aik:List PB:=[.cells 210 ado,.cells 101 [.d xv],.gone,.rows 216 ah .sm,.rowsP 9 .str]
abbrev afl:List PV:=[.ptr 1 0,.d aM,.d aM,.d .bool,.d .bool,.d .bool,.d .bool,.row 3]
abbrev aij:List PB:=[.cells 54 tN,.cells 193 [.d eK],.cells 206 [.d qa],.cells 54 [.d aM,.d aM,.d aM,.d aM,.d aM,.row 4,.nil],.rows 3 ah aM]
abbrev NA:List PB:=[.cells 216 [.d .sm]]
abbrev ac7:List PV:=[.agg [.agg FU,.row 3,.row 4,.csl 5 4 4]]
abbrev QX:List PB:=[.cells 160 [.d LO]]
abbrev afk:List PB:=[.cells 31 [.d nF],.cells 189 [.d vK],.cells 206 [.d qa]]
abbrev ac6:List PB:=[.cells 160 [.d LO],.cells 200 [.d rN]]
abbrev ac5:List PB:=[.cells 160 [.d LO],.cells 214 [.d .ex]]
abbrev afj:List PB:=[.cells 31 [.d nF],.rows 9 ah .str,.cells 134 [.d ka]]
abbrev afi:List PB:=[.rows 175 ah dP,.rows 4 ah .bool,.rows 177 ah gR]
abbrev ac4:List PB:=[.cells 31 [.d nF],.cells 206 [.d qa]]
abbrev T3:List PB:=[.cells 31 [.d nF],.cells 107 [.d FW]]
abbrev ac3:List PV:=[.ptr 0 0,.ptr 4 0,.ptr 5 0,.d .bool]
abbrev afh:List PV:=[.ptr 0 0,.ptr 1 0,.ptr 2 0,.ptr 3 0,.ptr 4 0,.d aM]
abbrev afg:List PB:=[.cells 101 [.d xv],.rows 3 ah aM,.rows 3 ah aM]
abbrev W6:List PB:=[.cells 31 [.d nF],.rows 9 ah .str]
abbrev aff:List PB:=[.cells 54 [.d iS],.cells 110 uG,.cells 110 afp,.rows 2 ah aM,.rows 2 ah aM,.rows 3 ah aM]
abbrev aii:List PB:=[.cells 101 NC,.cells 49 Zx,.rows 3 ah aM,.rows 3 ah aM,.rows 3 ah aM,.rows 3 ah aM]
abbrev QW:List PB:=[.cells 101 NC]
abbrev Jk:List PV:=[.d (.sl aM),.d aM]
abbrev W5:List PB:=[.cells 101 [.d xv]]
abbrev Kx:List PV:=[.ptr 0 0,.row 1,.d aM]
abbrev W3:List PB:=[.cells 244 [.d Fj]]
abbrev afe:List PV:=[.agg [.agg FU,.row 3,.row 4,.csl 5 4 3]]
abbrev ZG:List PB:=[.rows 2 ah aM,.rows 49 ah (.sl aM)]
abbrev ZF:List PB:=[.cells 123 [.d tC],.cells 118 [.d uI]]
abbrev ZD:List PB:=[.cells 31 [.d nF],.cells 189 [.d vK]]
abbrev qi:List PV:=[.d (.sl aM)]
abbrev ZC:List PV:=[.ptr 0 0,.ptr 1 0,.ptr 2 0,.ptr 3 0]
abbrev adq:List PV:=[.d (.sl dP),.d aM,.d pi,.d (.sl gR),.row 7,.row 8,.csl 9 4 1]
abbrev ZB:List PB:=[.cells 107 [.d FW],.rows 3 ah aM]
abbrev QZ:List PV:=[.ptr 0 0,.d aM,.d aM]
def tyT:PT Ty:=dI [(2,aM),(3,aM),(4,.bool),(9,.str),(49,(.sl aM)),(54,iS),(59,ip),(61,qc),(66,ip),(90,li),(104,pi),(134,ka),(141,nQ),(163,ip),(175,dP),(177,gR),(189,vK),(193,eK),(200,rN),(206,qa),(214,.ex),(216,.sm),(244,Fj)]
def bX (t:TypeId):Option Ty:=tyT.get t
def zL:FT:=⟨⟨[],[]⟩,⟨[.d (.sl .str)],[]⟩,.leaf⟩
def Kl:ch:=cn zL jY
def ya:FT:=⟨⟨[.d .str],[]⟩,⟨[.d .bool],[]⟩,dI [(8,(.j ⟨[0,3],[4],⟨[.d aM],[]⟩,[]⟩))]⟩
def IQ:ch:=cn ya jp
def E8:FT:=⟨⟨[.d (.int .u8)],[]⟩,⟨[.d .bool],[]⟩,dI [(2,(.j ⟨[],[2],⟨[.d .bool],[]⟩,[]⟩))]⟩
def Qn:ch:=cn E8 kO
def Iu:FT:=⟨⟨[.d (.int .u8)],[]⟩,⟨[.d .bool],[]⟩,dI [(2,(.j ⟨[],[2],⟨[.d .bool],[]⟩,[]⟩))]⟩
def Te:ch:=cn Iu qw
def It:FT:=⟨⟨[.d (.int .u8)],[]⟩,⟨[.d .bool],[]⟩,dI [(2,(.j ⟨[],[2],⟨[.d .bool],[]⟩,[]⟩))]⟩
def Td:ch:=cn It oN
def E9:FT:=⟨⟨[.d .str],[]⟩,⟨[.d .bool],[]⟩,dI [(3,(.j ⟨[0],[21],⟨[.d .bool],[]⟩,[]⟩)),(14,(.j ⟨[0],[3],⟨[.d aM],[]⟩,[]⟩))]⟩
def Qo:ch:=cn E9 eS
def Io:FT:=⟨⟨[.d .bool],[]⟩,⟨[.d aM],[]⟩,.leaf⟩
def S6:ch:=cn Io fH
def Ip:FT:=⟨⟨uE,[]⟩,⟨[.d aM,.d .bool],[]⟩,.leaf⟩
def S7:ch:=cn Ip sU
def E4:FT:=⟨⟨[.d aM,.d aM,.d aM],[]⟩,⟨[.d aM,.d .bool],[]⟩,dI [(91,(.j ⟨[],[6,7],⟨[.d aM,.d .bool],[]⟩,[]⟩)),(97,(.j ⟨[],[6,7],⟨[.d aM,.d .bool],[]⟩,[]⟩))]⟩
def Qj:ch:=cn E4 rh
def Iq:FT:=⟨⟨uE,[]⟩,⟨[.d aM],[]⟩,dI [(12,(.j ⟨[],[5],⟨[.d aM],[]⟩,[]⟩))]⟩
def S8:ch:=cn Iq qu
def zK:FT:=⟨⟨[.d aM],[]⟩,⟨[.d aM],[]⟩,dI [(4,(.j ⟨[0],[3],⟨[.d .bool],[]⟩,[]⟩)),(10,(.j ⟨[0],[10],⟨[.d .bool],[]⟩,[]⟩)),(16,(.j ⟨[],[17],⟨[.d .bool],[]⟩,[]⟩))]⟩
def Kk:ch:=cn zK lU
def oA:FT:=⟨⟨[.d .ex],[]⟩,⟨[.d .bool],[]⟩,dI [(2,(.j ⟨[],[1,3],⟨gI,[.cells 214 [.d .ex]]⟩,[]⟩)),(5,(.j ⟨[],[1,50],⟨gI,[.cells 214 [.d .ex]]⟩,[]⟩)),(16,(.j ⟨[],[1,4],⟨vJ,[.cells 214 [.d .ex]]⟩,[]⟩))]⟩
def FF:ch:=cn oA iM
def Fs (n:Nat):ch:=cn oA (gQ n)
def Is:FT:=⟨⟨[.d .ex],[]⟩,⟨[.d .bool],[]⟩,dI [(2,(.j ⟨[],[2],⟨[.d .bool],[]⟩,[]⟩))]⟩
def Tc:ch:=cn Is oM
def rM:FT:=⟨⟨[.d .sm],[]⟩,⟨[.d .bool],[]⟩,dI [(3,(.j ⟨[],[1,13],⟨gI,NA⟩,[]⟩)),(10,(.j ⟨[],[1,3],⟨gI,NA⟩,[]⟩)),(13,(.j ⟨[],[1,47],⟨gI,NA⟩,[]⟩)),(21,(.j ⟨[],[1,66],⟨gI,NA⟩,[]⟩)),(29,(.j ⟨[],[1,95],⟨gI,NA⟩,[]⟩)),(36,(.j ⟨[],[1,4],⟨gI,NA⟩,[]⟩)),(39,(.j ⟨[],[1,130],⟨gI,NA⟩,[]⟩)),(46,(.j ⟨[],[1,5],⟨gI,NA⟩,[]⟩)),(49,(.j ⟨[],[1,157],⟨gI,NA⟩,[]⟩)),(56,(.j ⟨[],[2],⟨[.d .bool],[]⟩,[]⟩))]⟩
def Fr (n:Nat):ch:=cn rM (d_ n)
def nz:FT:=⟨⟨[.d (.sl .sm)],[]⟩,⟨[.d .bool],[]⟩,dI [(6,(.j ⟨[0],[3],⟨[.d aM],[]⟩,[]⟩))]⟩
def DQ:ch:=cn nz m8
def Dj (n:Nat):ch:=cn nz (dw n)
def xd:FT:=⟨⟨[.d Fj],[]⟩,⟨[.d .bool],[]⟩,dI [(3,(.j ⟨[],[1,31],⟨gI,W3⟩,[]⟩)),(11,(.j ⟨[],[1,50],⟨gI,W3⟩,[]⟩)),(18,(.j ⟨[],[2],⟨[.d .bool],[]⟩,[]⟩))]⟩
def FE:ch:=cn xd jJ
def E7:FT:=⟨⟨[.d LO],[]⟩,⟨[.d .bool],[]⟩,dI [(6,(.j ⟨[],[1,3],⟨vJ,QX⟩,[]⟩)),(27,(.j ⟨[],[1,4],⟨vJ,QX⟩,[]⟩)),(42,(.j ⟨[4],[1,5,6],⟨uF,ac6⟩,[]⟩)),(59,(.j ⟨[4],[1,56],⟨gI,QX⟩,[]⟩))]⟩
def Qm:ch:=cn E7 o7
def UW:FT:=⟨⟨[.d (.sl .str),.d .str],[]⟩,⟨[.d aM],[]⟩,dI [(6,(.j ⟨[0,1],[5],⟨[.d aM],[]⟩,[]⟩))]⟩
def ab9:ch:=cn UW iG
def E6:FT:=⟨⟨[.d (.sl Fj),.d .str],[]⟩,⟨[.d aM],[]⟩,dI [(6,(.j ⟨[0,1],[5],⟨[.d aM],[]⟩,[]⟩))]⟩
def Ql:ch:=cn E6 gP
def zJ:FT:=⟨⟨[.d (.sl rN),.d .str],[]⟩,⟨[.d aM],[]⟩,dI [(6,(.j ⟨[0,1],[5],⟨[.d aM],[]⟩,[]⟩))]⟩
def Kj:ch:=cn zJ gA
def E5:FT:=⟨⟨[.d LO,.d aM,.d .str],[]⟩,⟨[.d aM],[]⟩,dI [(3,(.j ⟨[2],[3,27],⟨gI,QX⟩,[]⟩)),(52,(.j ⟨[7],[3,56],⟨gI,QX⟩,[]⟩))]⟩
def Qk:ch:=cn E5 o6
def Lu:FT:=⟨⟨[.d LO,.d aM,.d .str,.d aM,.d aM],[]⟩,⟨[.d aM],[]⟩,dI [(13,(.j ⟨[],[25],⟨[.d .bool],[]⟩,[]⟩))]⟩
def Wn:ch:=cn Lu gk
def wH:FT:=⟨⟨[.d .ex],[]⟩,⟨uE,[]⟩,dI [(8,(.j ⟨[],[1,4,5,6],⟨[.ptr 0 0,.d aM,.d aM,.d aM],[.cells 214 [.d .ex]]⟩,[]⟩))]⟩
def Ta:ch:=cn wH Au
def RU (n:Nat):ch:=cn wH (mM n)
def wG:FT:=⟨⟨[.d LO,.d aM,.d .ex],[]⟩,⟨[.d aM],[]⟩,dI [(7,(.j ⟨[1],[3,5,7],⟨uF,ac5⟩,[]⟩)),(21,(.j ⟨[1],[3,5,7,8],⟨[.ptr 0 0,.ptr 1 0,.d aM,.d aM],ac5⟩,[]⟩)),(23,(.j ⟨[1,7,8],[3,5,33],⟨qL,ac5⟩,[]⟩))]⟩
def S9:ch:=cn wG At
def RQ (n:Nat):ch:=cn wG (mL n)
def Lv:FT:=⟨⟨[.d LO,.d aM,.d .ex],[]⟩,⟨[.d aM],[]⟩,dI [(13,(.j ⟨[1],[3,5,22],⟨qL,ac5⟩,[]⟩))]⟩
def Wo:ch:=cn Lv lQ
def Cn:FT:=⟨⟨[.d .bool],[]⟩,⟨[.d aM],[]⟩,.leaf⟩
def M8:ch:=cn Cn cS
def UV:FT:=⟨⟨uE,[]⟩,⟨[.d aM],[]⟩,.leaf⟩
def ab8:ch:=cn UV iF
def vA:FT:=⟨⟨[.ptr 0 0,.d aM,.d aM,.d .str],W_⟩,⟨[.d .bool],W_⟩,dI [(6,(.j ⟨[1,2,3],[0,9],⟨vJ,W_⟩,[]⟩)),(17,(.j ⟨[1,2,3,9],[0,46],⟨gI,W_⟩,[]⟩))]⟩
def DP:ch:=cn vA dK
def zI:FT:=⟨⟨[.ptr 0 0,.d .sm],W_⟩,⟨[.d aM],Xa⟩,dI [(1,(.a [.ren 0 4,.ren 0 5])),(28,(.j ⟨[6,7,8,9,30],[0,3,5,67],⟨ac3,La8⟩,[]⟩)),(41,(.j ⟨[],[4],⟨[.d aM],Xa⟩,[]⟩)),(44,(.j ⟨[6,7,8,9,30],[0,3,5,91],⟨ac3,La8⟩,[]⟩)),(51,(.j ⟨[],[4],⟨[.d aM],Xa⟩,[]⟩)),(63,(.j ⟨[],[4],⟨[.d aM],Xa⟩,[]⟩)),(66,(.j ⟨[6,7,8,9,30],[0,3,5,119],⟨ac3,La8⟩,[]⟩)),(89,(.j ⟨[],[4],⟨[.d aM],Xa⟩,[]⟩)),(108,(.j ⟨[],[0,3,187],⟨[.ptr 0 0,.ptr 4 0,.d .bool],[.cells 241 [.d (.sl Fj),.d (.sl rN),.d aM,.row 1,.row 5,.row 6],.rowsP 216 .sm,.gone,.gone,.cells 216 [.d .sm],.rows 9 ah .str,.rows 9 ah .str]⟩,[]⟩)),(131,(.j ⟨[],[4],⟨[.d aM],Xa⟩,[]⟩)),(137,(.j ⟨[6],[0,3,5,14],⟨[.ptr 0 0,.ptr 4 0,.ptr 5 0,.d aM],La8⟩,[]⟩)),(139,(.j ⟨[6],[0,3,5,14],⟨[.ptr 0 0,.ptr 4 0,.ptr 5 0,.d aM],La8⟩,[]⟩)),(140,(.j ⟨[6,14],[0,3,5,253],⟨ac3,La8⟩,[]⟩))]⟩
def Kh:ch:=cn zI lP
def qV:FT:=⟨⟨[.ptr 0 0,.d (.sl .sm)],W_⟩,⟨uE,afr⟩,dI [(1,(.a [.ren 0 3,.ren 0 4,.ren 0 5])),(6,(.j ⟨[1],[0,6],⟨vJ,afr⟩,[]⟩)),(19,(.j ⟨[1,6],[0,7,8],⟨[.ptr 0 0,.ptr 4 0,.d aM],[.cells 241 [.d (.sl Fj),.d (.sl rN),.d aM,.row 5,.row 6,.row 7],.gone,.gone,.gone,.cells 216 [.d .sm],.rowsP 216 .sm,.rows 9 ah .str,.rows 9 ah .str]⟩,[]⟩)),(37,(.j ⟨[1,6],[0,8,9],⟨QZ,afr⟩,[]⟩))]⟩
def Ki:ch:=cn qV uv
def JR (n:Nat):ch:=cn qV (ii n)
def wI:FT:=⟨⟨[.d (.sl .sm)],[]⟩,⟨[.d aM],[]⟩,dI [(8,(.j ⟨[0],[3,4],⟨uE,[]⟩,[]⟩))]⟩
def Tb:ch:=cn wI Av
def RW (n:Nat):ch:=cn wI (mN n)
def Ir:FT:=⟨⟨[.d (.sl Fj)],[]⟩,⟨uE,[]⟩,dI [(8,(.j ⟨[0],[4,5,6,7,8],⟨[.d aM,.d aM,.d aM,.d aM,.d aM],[]⟩,[]⟩)),(16,(.j ⟨[0,8],[4,5,6,7],⟨[.d aM,.d aM,.d aM,.d aM],[]⟩,[]⟩)),(38,(.j ⟨[0,8],[4,5,6,7,9],⟨[.d aM,.d aM,.d aM,.d aM,.ptr 0 0],W3⟩,[]⟩)),(39,(.j ⟨[0,4,5,6,7,8,36],[9,39],⟨gI,W3⟩,[]⟩)),(47,(.j ⟨[0,4,5,6,7,8,36],[9,47],⟨gI,W3⟩,[]⟩)),(61,(.j ⟨[0,4,5,6,7,8],[9,69],⟨gI,W3⟩,[]⟩))]⟩
def S_:ch:=cn Ir qv
def Cm:FT:=⟨⟨[.d LO],[]⟩,⟨uE,[]⟩,dI [(6,(.j ⟨[],[1,4],⟨vJ,QX⟩,[]⟩)),(17,(.j ⟨[4],[1,5,37],⟨qL,ac6⟩,[]⟩)),(29,(.j ⟨[],[1,6],⟨vJ,QX⟩,[]⟩)),(51,(.j ⟨[6],[1,7,8],⟨uF,ac6⟩,[]⟩)),(62,(.j ⟨[6,8],[1,7,90],⟨qL,ac6⟩,[]⟩))]⟩
def M7:ch:=cn Cm m7
def Co:FT:=⟨⟨[.d LO],[]⟩,⟨uE,[]⟩,dI [(44,(.j ⟨[],[1,8,9],⟨QZ,QX⟩,[]⟩)),(67,(.a [.cel 10 3 216 .sm,.cel 10 4 9 .str,.cel 10 5 9 .str])),(69,(.j ⟨[],[1,10,11],⟨uF,[.cells 160 [.d LO],.cells 241 [.d (.sl Fj),.d (.sl rN),.d aM,.row 2,.row 3,.row 4],.rowsP 216 .sm,.rows 9 ah .str,.rows 9 ah .str]⟩,[]⟩))]⟩
def M9:ch:=cn Co eV
def wF:FT:=⟨⟨[.row 0,.d aM,.d aM,.d (.sl .sm)],[.rows 141 ah nQ]⟩,⟨[.row 1,.d aM],[.gone,.rows 141 ah nQ]⟩,dI [(1,(.a [.ren 0 0])),(6,(.j ⟨[1,3],[0,2,10],⟨[.row 1,.d aM,.d aM],[.gone,.rows 141 ah nQ]⟩,[]⟩)),(25,(.a [.nil 8 141 nQ]))]⟩
def SU:ch:=cn wF G7
def RP (n:Nat):ch:=cn wF (oS n)
def EZ:FT:=⟨⟨[.d (.sl qc),.d .str],[]⟩,⟨[.d aM],[]⟩,dI [(6,(.j ⟨[0,1],[5],⟨[.d aM],[]⟩,[]⟩))]⟩
def Qg:ch:=cn EZ jP
def E3:FT:=⟨⟨[.d nF,.d .str],[]⟩,⟨[.d aM],[]⟩,dI [(6,(.j ⟨[1],[2,5],⟨vJ,ph⟩,[]⟩))]⟩
def Qi:ch:=cn E3 kN
def Im:FT:=⟨⟨[.d LO],[]⟩,⟨[.d nF],[]⟩,dI [(18,(.j ⟨[],[1,2,3,6],⟨D7,ain⟩,[.cel 3 0 134 ka,.cel 3 1 61 qc,.cel 3 2 90 li,.cel 3 3 9 .str]⟩)),(31,(.j ⟨[6],[1,2,3],⟨[.ptr 0 0,.ptr 1 0,.ptr 2 0],ain⟩,[]⟩)),(32,(.j ⟨[6,31],[1,2,3,7,39],⟨yz,afv⟩,[]⟩)),(42,(.j ⟨[6],[1,2,3,7,8],⟨[.ptr 0 0,.ptr 1 0,.ptr 2 0,.ptr 3 0,.d aM],afv⟩,[]⟩)),(53,(.j ⟨[6,31],[1,2,3,7,65],⟨yz,afv⟩,[]⟩)),(69,(.a [.cel 3 5 141 nQ])),(71,(.j ⟨[],[1,2,3,9],⟨D7,[.cells 160 [.d LO],.cells 31 ac2,.cells 31 [.row 3,.row 4,.row 5,.row 6,.row 7,.row 8],.rows 134 ah ka,.rows 61 ah qc,.rows 90 ah li,.rows 9 ah .str,.rows 9 ah .str,.rows 141 ah nQ]⟩,[.cel 3 4 9 .str]⟩))]⟩
def S4:ch:=cn Im sT
def Ij:FT:=⟨⟨[.d nF],[]⟩,⟨[.d (.sl .str),.d .bool],[]⟩,dI [(8,(.j ⟨[],[1,4,5],⟨Kx,W6⟩,[.nil 4 9 .str]⟩)),(15,(.j ⟨[],[1,4,5],⟨Kx,W6⟩,[]⟩)),(37,(.j ⟨[5],[1,4,6,51],⟨[.ptr 0 0,.row 1,.ptr 2 0,.d .bool],afj⟩,[]⟩)),(48,(.j ⟨[5],[1,4,6,7],⟨[.ptr 0 0,.row 1,.ptr 2 0,.d aM],afj⟩,[]⟩)),(59,(.j ⟨[5,7],[1,4,6,93],⟨[.ptr 0 0,.row 1,.ptr 2 0,.d .bool],afj⟩,[]⟩)),(72,(.j ⟨[],[1,4,9],⟨Kx,W6⟩,[]⟩)),(87,(.j ⟨[],[1,4,10],⟨Kx,W6⟩,[]⟩))]⟩
def SX:ch:=cn Ij oK
def xc:FT:=⟨⟨[.d nF],[]⟩,⟨[.d .bool],[]⟩,dI [(3,(.j ⟨[],[1,49],⟨gI,ph⟩,[]⟩)),(24,(.j ⟨[3],[1,5],⟨vJ,ph⟩,[]⟩)),(33,(.j ⟨[3,5],[1,79],⟨gI,ph⟩,[]⟩)),(45,(.j ⟨[],[1,6],⟨vJ,ph⟩,[]⟩)),(56,(.j ⟨[6],[1,109],⟨gI,ph⟩,[]⟩)),(68,(.j ⟨[],[1,8],⟨vJ,ph⟩,[]⟩)),(76,(.j ⟨[8],[1],⟨[.ptr 0 0],ph⟩,[]⟩)),(80,(.j ⟨[8],[1,9,132],⟨qL,[.cells 31 [.d nF],.cells 141 [.d nQ]]⟩,[]⟩)),(87,(.j ⟨[8],[1,9,146],⟨qL,[.cells 31 [.d nF],.cells 141 [.d nQ]]⟩,[]⟩)),(90,(.j ⟨[8],[1,165],⟨gI,ph⟩,[]⟩))]⟩
def FD:ch:=cn xc gO
def x_:FT:=⟨⟨[.d qa],[]⟩,⟨qi,[]⟩,dI [(6,(.j ⟨[4],[1,5],⟨gI,[.cells 206 [.d qa]]⟩,[]⟩)),(24,(.j ⟨[4],[1,13],⟨gI,[.cells 206 [.d qa]]⟩,[]⟩)),(46,(.j ⟨[4],[1,37],⟨gI,[.cells 206 [.d qa]]⟩,[]⟩))]⟩
def IP:ch:=cn x_ jm
def E0:FT:=⟨⟨[.d aM],[]⟩,⟨[.d .bool],[]⟩,dI [(2,(.j ⟨[],[2],⟨[.d .bool],[]⟩,[]⟩))]⟩
def Qh:ch:=cn E0 oZ
def Ik:FT:=⟨⟨[.d (.sl qa),.d aM],[]⟩,⟨[.d .bool],[]⟩,dI [(6,(.j ⟨[0],[1,5],⟨uE,[]⟩,[]⟩)),(14,(.j ⟨[0,5],[1],⟨[.d aM],[]⟩,[]⟩)),(16,(.j ⟨[0,1,5],[19],⟨[.d .bool],[]⟩,[]⟩))]⟩
def S0:ch:=cn Ik oL
def UU:FT:=⟨⟨uE,[]⟩,⟨[.d .bool],[]⟩,dI [(2,(.j ⟨[],[4],⟨[.d .bool],[]⟩,[]⟩))]⟩
def ab7:ch:=cn UU iV
def Il:FT:=⟨⟨[.d nF,.d aM,.d aM],[]⟩,⟨[.d .bool],[]⟩,dI [(2,(.j ⟨[],[6],⟨[.d .bool],[]⟩,[]⟩))]⟩
def S1:ch:=cn Il mH
def Cj:FT:=⟨⟨[.d nF,.d qa],[]⟩,⟨[.d .bool],[]⟩,dI [(9,(.j ⟨[],[4],⟨[.d .bool],[]⟩,[]⟩)),(15,(.j ⟨[],[4],⟨[.d .bool],[]⟩,[]⟩)),(30,(.j ⟨[6],[2,3,59],⟨qL,ac4⟩,[]⟩)),(37,(.j ⟨[],[4],⟨[.d .bool],[]⟩,[]⟩)),(40,(.j ⟨[6],[2,3,78],⟨qL,ac4⟩,[]⟩)),(55,(.j ⟨[],[4],⟨[.d .bool],[]⟩,[]⟩)),(58,(.j ⟨[6],[2,3,98],⟨qL,ac4⟩,[]⟩)),(72,(.j ⟨[6],[2,3,108],⟨qL,ac4⟩,[]⟩)),(97,(.j ⟨[],[4],⟨[.d .bool],[]⟩,[]⟩)),(103,(.j ⟨[],[4],⟨[.d .bool],[]⟩,[]⟩))]⟩
def M4:ch:=cn Cj kU
def vz:FT:=⟨⟨[.d nF,.d aM,.d vK],[]⟩,⟨[.d .bool],[]⟩,dI [(5,(.j ⟨[1,7],[3,5,26],⟨qL,ZD⟩,[]⟩)),(16,(.j ⟨[1,7],[3,5,8],⟨uF,ZD⟩,[]⟩)),(28,(.j ⟨[1,7,8],[3,5,9,67],⟨CQ,afk⟩,[]⟩)),(36,(.j ⟨[1,7,8],[3,5,9,100],⟨CQ,afk⟩,[]⟩)),(44,(.j ⟨[1,7,8],[3,5,9,122],⟨CQ,afk⟩,[]⟩)),(56,(.j ⟨[1,7,8,10],[3,5,11],⟨uF,ZD⟩,[]⟩))]⟩
def DO:ch:=cn vz g_
def In:FT:=⟨⟨[.d tC],[]⟩,⟨[.d .bool],[]⟩,dI [(3,(.j ⟨[],[1,17],⟨gI,[.cells 123 [.d tC]]⟩,[]⟩)),(14,(.j ⟨[],[1,3],⟨vJ,[.cells 123 [.d tC]]⟩,[]⟩))]⟩
def S5:ch:=cn In jk
def Ck:FT:=⟨⟨[.ptr 0 0,.d qa],ZY⟩,⟨[],ZZ⟩,.leaf⟩
def M5:ch:=cn Ck cr
def pP:FT:=⟨⟨[.ptr 0 0,.d .ex,.d aM],ZY⟩,⟨[],ZZ⟩,dI [(2,(.j ⟨[],[],⟨[],ZZ⟩,[]⟩))]⟩
def IL:ch:=cn pP il
def He (n:Nat):ch:=cn pP (im n)
def xa:FT:=⟨⟨[.ptr 0 0,.d .sm],ZY⟩,⟨[],ZZ⟩,.leaf⟩
def FC:ch:=cn xa ly
def zH:FT:=⟨⟨[.ptr 0 0,.d .str],ZY⟩,⟨[.d aM],ZY⟩,dI [(6,(.j ⟨[1],[0,5],⟨vJ,ZY⟩,[]⟩))]⟩
def Kg:ch:=cn zH i_
def pQ:FT:=⟨⟨[.ptr 0 0,.d (.sl .sm)],ZY⟩,⟨[],ZZ⟩,dI [(1,(.a [.ren 0 7])),(3,(.j ⟨[1],[0,4],⟨vJ,ZZ⟩,[]⟩))]⟩
def IN:ch:=cn pQ sS
def Hf (n:Nat):ch:=cn pQ (dC n)
def uA:FT:=⟨⟨[.ptr 0 0,.d .sm],ZY⟩,⟨[],ZZ⟩,dI [(1,(.a [.ren 0 7])),(10,(.j ⟨[],[],⟨[],ZZ⟩,[]⟩)),(15,(.j ⟨[4,25],[0,3,31],⟨[.ptr 0 0,.ptr 2 0,.d .bool],[.cells 202 [.d (.sl ka),.d (.sl qc),.d (.sl li),.d (.sl .str),.d (.sl .str),.d (.sl nQ),.d (.sl .str),.row 3,.d aM,.d aM],.gone,.cells 216 [.d .sm],.rows 206 ah qa]⟩,[]⟩))]⟩
def JQ (n:Nat):ch:=cn uA (eC n)
def pR:FT:=⟨⟨[.ptr 0 0,.d .sm],ZY⟩,⟨[],ZZ⟩,.leaf⟩
def BK (n:Nat):ch:=cn pR (cV n)
def rL:FT:=⟨⟨[.ptr 0 0,.d .sm,.d aM,.d aM,.d aM],ZY⟩,⟨[],ZZ⟩,.leaf⟩
def Fq (n:Nat):ch:=cn rL (dx n)
def Cl:FT:=⟨⟨[.d LO],[]⟩,⟨[.d tC,.d aM,.d aM],[]⟩,dI [(20,(.j ⟨[],[1,2,7,8,9],⟨[.ptr 0 0,.ptr 1 0,.ptr 2 0,.d aM,.d aM],[.cells 160 [.d LO],.cells 123 W7,.cells 123 [.d (.sl ka),.d (.sl qc),.d (.sl li),.d (.sl .str),.d (.sl .str),.d (.sl nQ),.row 3],.rows 189 ah vK]⟩,[.cel 7 6 189 vK]⟩)),(32,(.a [.cel 10 7 206 qa])),(45,(.j ⟨[8,9],[1,2,7,10,11,12],⟨afh,ait⟩,[]⟩)),(59,(.j ⟨[8,9,12,13],[1,2,7,10,11,14],⟨afh,ait⟩,[]⟩))]⟩
def M6:ch:=cn Cl pD
def Px:FT:=⟨⟨Jk,[]⟩,⟨[.d .bool],[]⟩,dI [(6,(.j ⟨[0,1],[5],⟨[.d aM],[]⟩,[]⟩))]⟩
def YS:ch:=cn Px pC
def Pw:FT:=⟨⟨Jk,[]⟩,⟨qi,[]⟩,dI [(6,(.j ⟨[0,1],[5],⟨[.d aM],[]⟩,[]⟩)),(8,(.j ⟨[0,1,5],[18],⟨[.d .bool],[]⟩,[]⟩)),(16,(.j ⟨[0,1,5],[32],⟨[.d .bool],[]⟩,[]⟩))]⟩
def YR:ch:=cn Pw uZ
def Ii:FT:=⟨⟨[.d (.sl aM),.d (.sl aM)],[]⟩,⟨qi,[]⟩,dI [(8,(.j ⟨[0,1],[5,6],⟨Jk,[]⟩,[]⟩)),(23,(.j ⟨[1],[5,7],⟨Jk,[]⟩,[]⟩))]⟩
def SS:ch:=cn Ii qr
def zG:FT:=⟨⟨[.d aM],[]⟩,⟨[.d aM],[]⟩,dI [(3,(.j ⟨[0],[8],⟨[.d .bool],[]⟩,[]⟩))]⟩
def Kf:ch:=cn zG lO
def Lt:FT:=⟨⟨[.d eK],[]⟩,⟨[.agg ac1],ZG⟩,dI [(8,(.j ⟨[],[1,2,3,4],⟨D7,[.cells 193 [.d eK],.cells 193 Vh,.cells 193 [.d aM,.row 3,.row 4,.d aM],.rows 2 ah aM,.rows 49 ah (.sl aM)]⟩,[.cel 3 2 49 (.sl aM)]⟩))]⟩
def Wm:ch:=cn Lt ca
def Ls:FT:=⟨⟨[.d qa,.agg ac1],ZG⟩,⟨[.agg ac1,.d .bool],ZG⟩,dI [(8,(.j ⟨[6],[2,3,4,7],⟨[.ptr 2 0,.ptr 3 0,.ptr 4 0,.d aM],afs⟩,[]⟩)),(17,(.j ⟨[6,7],[2,3,4,33],⟨[.ptr 2 0,.ptr 3 0,.ptr 4 0,.d .bool],afs⟩,[]⟩)),(32,(.j ⟨[],[2,3,4,8,9,10],⟨[.ptr 2 0,.ptr 3 0,.ptr 4 0,.d aM,.d .bool,.d (.sl aM)],afs⟩,[]⟩))]⟩
def Wl:ch:=cn Ls uY
def EY:FT:=⟨⟨[.d vK,.d eK],[]⟩,⟨[.d eK,.d .bool],[]⟩,dI [(3,(.j ⟨[],[2,3,4,23],⟨CQ,[.cells 189 [.d vK],.cells 193 [.d eK],.cells 193 Vh]⟩,[]⟩)),(16,(.j ⟨[],[2,3,4,6],⟨D7,ail⟩,[]⟩)),(26,(.j ⟨[6],[2,3,4,44],⟨CQ,ail⟩,[]⟩))]⟩
def Qf:ch:=cn EY mG
def Ig:FT:=⟨⟨[.d nF],[]⟩,⟨[.d FW],[]⟩,dI [(8,(.j ⟨[],[1,2,3,4],⟨D7,[.cells 31 [.d nF],.cells 107 AY,.cells 107 [.row 3,.d aM,.nil,.nil],.rows 175 ah dP]⟩,[.cel 3 0 175 dP]⟩)),(23,(.j ⟨[],[1,2,3,5],⟨D7,[.cells 31 [.d nF],.cells 107 AY,.cells 107 [.row 3,.d aM,.row 4,.nil],.rows 175 ah dP,.rows 4 ah .bool]⟩,[.cel 3 2 4 .bool]⟩)),(38,(.j ⟨[],[1,2,3,6],⟨D7,[.cells 31 [.d nF],.cells 107 AY,.cells 107 ZA,.rows 175 ah dP,.rows 4 ah .bool,.rows 177 ah gR]⟩,[.cel 3 3 177 gR]⟩)),(49,(.j ⟨[6],[1,2,3,7],⟨ZC,[.cells 31 [.d nF],.cells 107 AY,.cells 107 [.row 4,.d aM,.row 5,.row 6],.cells 177 [.d gR],.rows 175 ah dP,.rows 4 ah .bool,.rows 177 ah gR]⟩,[]⟩))]⟩
def SK:ch:=cn Ig qo
def Lq:FT:=⟨⟨[.d nF,.d FW],[]⟩,⟨[.d .bool],[]⟩,dI [(6,(.j ⟨[],[2,3,5],⟨uF,T3⟩,[]⟩)),(15,(.j ⟨[5],[2,3,31],⟨qL,T3⟩,[]⟩)),(23,(.j ⟨[],[4],⟨[.d .bool],[]⟩,[]⟩))]⟩
def Wj:ch:=cn Lq qp
def UT:FT:=⟨⟨uE,[]⟩,⟨[.d .bool],[]⟩,dI [(2,(.j ⟨[],[4],⟨[.d .bool],[]⟩,[]⟩))]⟩
def ab6:ch:=cn UT pB
def If:FT:=⟨⟨[.d nF,.d aM,.d aM],[]⟩,⟨[.d .bool],[]⟩,dI [(6,(.j ⟨[2,7],[3,8],⟨gI,ph⟩,[]⟩)),(36,(.j ⟨[2,7],[3,18],⟨gI,ph⟩,[]⟩)),(46,(.j ⟨[2,7],[3,26],⟨gI,ph⟩,[]⟩)),(53,(.j ⟨[],[6],⟨[.d .bool],[]⟩,[]⟩)),(56,(.j ⟨[2,7],[3,43],⟨gI,ph⟩,[]⟩)),(71,(.j ⟨[],[6],⟨[.d .bool],[]⟩,[]⟩)),(74,(.j ⟨[2,7],[3,61],⟨gI,ph⟩,[]⟩)),(92,(.j ⟨[2,7],[3,71],⟨gI,ph⟩,[]⟩)),(102,(.j ⟨[2],[3,79],⟨gI,ph⟩,[]⟩))]⟩
def SJ:ch:=cn If sR
def Ci:FT:=⟨⟨[.d nF,.d FW,.d aM,.d aM,.d aM],[]⟩,⟨[.d .bool],[]⟩,dI [(3,(.j ⟨[2,3,4],[5,6,30],⟨qL,T3⟩,[]⟩)),(25,(.j ⟨[],[10],⟨[.d .bool],[]⟩,[]⟩)),(50,(.j ⟨[],[10],⟨[.d .bool],[]⟩,[]⟩)),(56,(.j ⟨[],[10],⟨[.d .bool],[]⟩,[]⟩)),(59,(.j ⟨[2,4,70],[5,6,11,119],⟨CQ,[.cells 31 [.d nF],.cells 107 [.d FW],.cells 177 [.d gR]]⟩,[]⟩)),(99,(.j ⟨[2,4,70],[5,6,160],⟨qL,T3⟩,[]⟩)),(116,(.j ⟨[],[10],⟨[.d .bool],[]⟩,[]⟩)),(122,(.j ⟨[],[10],⟨[.d .bool],[]⟩,[]⟩))]⟩
def M3:ch:=cn Ci jO
def Ch:FT:=⟨⟨[.d FW,.d aM],[]⟩,⟨qi,[]⟩,dI [(8,(.j ⟨[1],[2,5,6],⟨Kx,ZB⟩,[.nil 5 3 aM]⟩)),(16,(.j ⟨[1,6],[2,5],⟨[.ptr 0 0,.row 1],ZB⟩,[]⟩)),(17,(.j ⟨[1,6],[2,5,30],⟨[.ptr 0 0,.row 1,.d .bool],ZB⟩,[]⟩))]⟩
def M2:ch:=cn Ch m6
def Cg:FT:=⟨⟨Jk,[]⟩,⟨qi,[]⟩,dI [(8,(.j ⟨[0,1],[5,6],⟨[.row 0,.d aM],[.rows 3 ah aM]⟩,[.nil 5 3 aM]⟩)),(16,(.j ⟨[0,1,6],[5],⟨[.row 0],[.rows 3 ah aM]⟩,[]⟩))]⟩
def M1:ch:=cn Cg pA
def Lr:FT:=⟨⟨[.d FW],[]⟩,⟨[.agg FU],afi⟩,dI [(8,(.j ⟨[],[1,2,3,4],⟨D7,[.cells 107 [.d FW],.cells 107 AY,.cells 107 ZA,.rows 175 ah dP,.rows 4 ah .bool,.rows 177 ah gR]⟩,[.cel 3 0 175 dP]⟩))]⟩
def Wk:ch:=cn Lr gZ
def lZ:FT:=⟨⟨[.agg FU,.d aM],afi⟩,⟨qi,afi⟩,dI [(8,(.j ⟨[1],[2,5,6],⟨[.ptr 3 0,.row 4,.d aM],afo⟩,[.nil 5 3 aM]⟩)),(16,(.j ⟨[1,6],[2,5],⟨[.ptr 3 0,.row 4],afo⟩,[]⟩)),(17,(.j ⟨[1,6],[2,5,30],⟨[.ptr 3 0,.row 4,.d .bool],afo⟩,[]⟩))]⟩
def Ke:ch:=cn lZ lM
def IK:ch:=⟨lZ.pre,⟨lZ.post.vs,[]⟩,ji⟩
def Ih:FT:=⟨⟨[.d nF,.d FW,.d aM,.d aM,.d aM,.d aM],[]⟩,⟨[.d FW,.d aM,.d .bool],[]⟩,dI [(17,(.j ⟨[],[7,12,15],⟨uF,afq⟩,[]⟩)),(26,(.j ⟨[2,4,5,15,30],[6,7,12,45],⟨CQ,aim⟩,[]⟩)),(34,(.j ⟨[2,4,5,15,30],[6,7,12,54],⟨CQ,aim⟩,[]⟩)),(90,(.j ⟨[],[7,12,17],⟨uF,afq⟩,[]⟩)),(109,(.j ⟨[18],[7,12,19],⟨uF,afq⟩,[]⟩))]⟩
def SM:ch:=cn Ih oJ
def Ie:FT:=⟨⟨[.d tC],[]⟩,⟨[.d uI],[]⟩,dI [(16,(.j ⟨[],[1,2,3,4],⟨D7,[.cells 123 [.d tC],.cells 118 uG,.cells 118 [.d (.sl dP),.d aM,.d pi,.d (.sl gR),.row 3,.nil,.nil],.rows 2 ah aM]⟩,[.cel 3 4 2 aM]⟩)),(31,(.j ⟨[],[1,2,3,5],⟨D7,[.cells 123 [.d tC],.cells 118 uG,.cells 118 [.d (.sl dP),.d aM,.d pi,.d (.sl gR),.row 3,.row 4,.nil],.rows 2 ah aM,.rows 2 ah aM]⟩,[.cel 3 5 2 aM]⟩)),(46,(.j ⟨[],[1,2,3,6],⟨D7,[.cells 123 [.d tC],.cells 118 uG,.cells 118 afp,.rows 2 ah aM,.rows 2 ah aM,.rows 193 ah eK]⟩,[.cel 3 6 193 eK]⟩))]⟩
def SH:ch:=cn Ie sQ
def Lp:FT:=⟨⟨[.d tC,.d uI],[]⟩,⟨[.d .bool],[]⟩,dI [(3,(.j ⟨[],[2,3,46],⟨qL,ZF⟩,[]⟩)),(14,(.j ⟨[],[2,3,5],⟨uF,ZF⟩,[]⟩)),(25,(.j ⟨[5],[2,3,97],⟨qL,ZF⟩,[]⟩))]⟩
def Wh:ch:=cn Lp uX
def Ln:FT:=⟨⟨[.d aM],[]⟩,⟨[.d aM],[]⟩,dI [(5,(.j ⟨[0],[3,10],⟨[.row 0,.d .bool],[.rows 3 ai aM]⟩,[]⟩))]⟩
def Wf:ch:=cn Ln uV
def EA:FT:=⟨⟨[.d qa,.d eK],[]⟩,⟨[.d aM],[]⟩,dI [(6,(.j ⟨[6],[2,3,7],⟨qL,[.cells 206 [.d qa],.cells 193 [.d eK]]⟩,[]⟩)),(28,(.j ⟨[],[2,40],⟨gI,[.cells 206 [.d qa]]⟩,[]⟩))]⟩
def PO:ch:=cn EA rf
def Cf:FT:=⟨⟨[.d tC,.d uI,.d aM],[]⟩,⟨[.d iS,.d .bool],[]⟩,dI [(3,(.j ⟨[2],[3,4,6,25],⟨CQ,[.cells 123 [.d tC],.cells 118 [.d uI],.cells 54 tN]⟩,[]⟩)),(54,(.j ⟨[],[6,8,9,10],⟨ZC,aij⟩,[.cel 10 5 3 aM]⟩)),(59,(.j ⟨[],[6,8,9,10,98],⟨yz,[.cells 54 tN,.cells 193 [.d eK],.cells 206 [.d qa],.cells 54 tN]⟩,[]⟩)),(68,(.j ⟨[],[6,10],⟨[.ptr 0 0,.ptr 1 0],[.cells 54 tN,.cells 54 [.d aM,.d aM,.d aM,.d aM,.d aM,.row 2,.row 3],.rows 3 ah aM,.rows 3 ah aM]⟩,[.cel 10 6 3 aM]⟩)),(69,(.j ⟨[],[6,8,9,10,123],⟨yz,aij⟩,[]⟩))]⟩
def M0:ch:=cn Cf mZ
def Ib:FT:=⟨⟨[.d nF],[]⟩,⟨[.d iy],[]⟩,dI [(8,(.j ⟨[],[1,2,3,4],⟨D7,[.cells 31 [.d nF],.cells 110 uG,.cells 110 afp,.rows 2 ah aM,.rows 2 ai aM,.rows 3 ai aM]⟩,[.cel 3 4 2 aM]⟩))]⟩
def SD:ch:=cn Ib mn
def Lm:FT:=⟨⟨[.d nF,.d iy],[]⟩,⟨[.d .bool],[]⟩,dI [(2,(.j ⟨[],[4],⟨[.d .bool],[]⟩,[]⟩))]⟩
def We:ch:=cn Lm uU
def US:FT:=⟨⟨uE,[]⟩,⟨[.d .bool],[]⟩,dI [(2,(.j ⟨[],[4],⟨[.d .bool],[]⟩,[]⟩))]⟩
def ab5:ch:=cn US BF
def Ce:FT:=⟨⟨Jk,[]⟩,⟨[.d .bool],[]⟩,dI [(6,(.j ⟨[0,1],[5],⟨[.d aM],[]⟩,[]⟩)),(15,(.j ⟨[0,1,5],[40],⟨[.d .bool],[]⟩,[]⟩))]⟩
def MZ:ch:=cn Ce mY
def H_:FT:=⟨⟨[.d iy,.d iS],[]⟩,⟨[.d .bool],[]⟩,dI [(21,(.j ⟨[],[4],⟨[.d .bool],[]⟩,[]⟩)),(24,(.j ⟨[7],[2,3,40],⟨qL,[.cells 110 [.d iy],.cells 54 [.d iS]]⟩,[]⟩)),(47,(.j ⟨[],[4],⟨[.d .bool],[]⟩,[]⟩))]⟩
def Sz:ch:=cn H_ sO
def Ll:FT:=⟨⟨[.d nF,.d iy,.d iS],[]⟩,⟨[.d iy,.d .bool],[]⟩,dI [(3,(.j ⟨[],[3,4,5,6,46],⟨yz,Jo⟩,[]⟩)),(10,(.j ⟨[],[3,4,5,6],⟨ZC,Jo⟩,[]⟩)),(11,(.j ⟨[],[3,4,5,6,55],⟨yz,Jo⟩,[]⟩)),(21,(.j ⟨[],[3,4,5,6,78],⟨yz,Jo⟩,[]⟩)),(28,(.j ⟨[],[3,4,5,6,8],⟨yz,Jo⟩,[]⟩)),(31,(.j ⟨[],[3,4,5,6,110],⟨yz,Jo⟩,[]⟩)),(39,(.j ⟨[],[3,4,5,6,125],⟨yz,Jo⟩,[]⟩)),(47,(.j ⟨[],[3,4,5,6,154],⟨yz,Jo⟩,[]⟩)),(58,(.j ⟨[],[3,4,5,6,9,10],⟨afh,[.cells 31 [.d nF],.cells 110 [.d iy],.cells 54 [.d iS],.cells 110 uG,.cells 110 [.nil,.d aM,.nil,.nil,.row 5,.row 6,.row 7],.rows 2 ah aM,.rows 2 ah aM,.rows 3 ah aM]⟩,[]⟩)),(66,(.j ⟨[],[5,6,9],⟨[.ptr 0 0,.ptr 1 0,.ptr 2 0],aff⟩,[]⟩)),(72,(.j ⟨[],[5,6,9],⟨[.ptr 0 0,.ptr 1 0,.ptr 2 0],aff⟩,[]⟩))]⟩
def Wd:ch:=cn Ll qn
def Ia:FT:=⟨⟨[.d (.sl iS),.d aM,.d aM,.d (.sl aM)],[]⟩,⟨[.d .bool],[]⟩,dI [(6,(.j ⟨[0,1,2,3],[9],⟨[.d aM],[]⟩,[]⟩)),(23,(.j ⟨[0,1,2,3,9],[10,11,12],⟨[.d aM,.d .bool,.d aM],[]⟩,[]⟩)),(31,(.j ⟨[0,1,2,3,9,12],[10,11],⟨[.d aM,.d .bool],[]⟩,[]⟩)),(38,(.j ⟨[0,1,2,3,9,10,12],[11],⟨[.d .bool],[]⟩,[]⟩))]⟩
def SA:ch:=cn Ia qm
def Ic:FT:=⟨⟨[.d nP],[]⟩,⟨uE,[]⟩,dI [(24,(.j ⟨[],[1,4,5],⟨uF,[.cells 34 [.d nP],.cells 110 [.d iy]]⟩,[]⟩)),(38,(.j ⟨[5],[1,4,7,63],⟨CQ,[.cells 34 [.d nP],.cells 110 [.d iy],.cells 110 [.d iy]]⟩,[]⟩))]⟩
def SE:ch:=cn Ic sP
def EX:FT:=⟨⟨[.d uI],[]⟩,⟨[.agg [.agg FU,.row 3,.row 4,.csl 5 4 1]],[.rows 175 ah dP,.rows 4 ah .bool,.rows 177 ah gR,.rows 2 ah aM,.rows 2 ah aM,.cells 193 [.d aM,.row 6,.row 7,.d aM],.rows 2 ah aM,.rows 49 ah (.sl aM)]⟩,dI [(8,(.u 2))]⟩
def Qe:ch:=cn EX mF
def EK:FT:=⟨⟨Ky,[]⟩,⟨Kz,[]⟩,dI [(27,(.s 5 0 0 1)),(37,(.j ⟨[],[3,4,5,6,7,9,14,15,16],⟨KE,ag1⟩,[]⟩)),(38,(.j ⟨[16,77],[3,4,5,6,7,9,14,15,78],⟨LN,ag1⟩,[]⟩)),(83,(.j ⟨[16],[3,4,5,6,7,9,14],⟨KB,[.cells 123 [.d tC],.cells 118 adq,.cells 163 [.d ip],.cells 118 uG,.cells 54 tN,.cells 54 [.d iS],.cells 193 Jm,.rows 2 ah aM,.rows 2 ah aM,.cells 193 Jm,.rows 2 ah aM,.rows 49 ah (.sl aM)]⟩,[]⟩)),(84,(.j ⟨[16],[3,4,5,6,7,9,14,15,154],⟨LN,ag1⟩,[]⟩)),(95,(.j ⟨[],[4,5,6,7,9,14],⟨KA,[.cells 118 [.d (.sl dP),.d aM,.d pi,.d (.sl gR),.row 6,.row 7,.csl 8 4 1],.cells 163 [.d ip],.cells 118 uG,.cells 54 tN,.cells 54 [.d iS],.cells 193 [.d eK],.rows 2 ah aM,.rows 2 ah aM,.cells 193 [.d eK]]⟩,[]⟩)),(96,(.j ⟨[],[3,4,5,6,7,9,14,183],⟨KC,[.cells 123 [.d tC],.cells 118 adq,.cells 163 [.d ip],.cells 118 uG,.cells 54 tN,.cells 54 [.d iS],.cells 193 Jn,.rows 2 ah aM,.rows 2 ah aM,.cells 193 Jn]⟩,[]⟩)),(102,(.s 5 0 0 1)),(104,(.a [.pk 4 6 eK]))]⟩
def P3:ch:=cn EK fO
def EW:FT:=⟨⟨[.d uI],[]⟩,⟨[.agg [.agg FU,.row 3,.row 4,.csl 5 4 2]],[.rows 175 ah dP,.rows 4 ah .bool,.rows 177 ah gR,.rows 2 ah aM,.rows 2 ah aM,.cells 193 [.d aM,.row 6,.row 7,.d aM,.d eK],.rows 2 ah aM,.rows 49 ah (.sl aM)]⟩,dI [(8,(.u 3))]⟩
def Qd:ch:=cn EW mE
def EJ:FT:=⟨⟨Ky,[]⟩,⟨Kz,[]⟩,dI [(27,(.s 5 0 0 1)),(37,(.j ⟨[],[3,4,5,6,7,9,14,15,16],⟨KE,ag3⟩,[]⟩)),(38,(.j ⟨[16,77],[3,4,5,6,7,9,14,15,78],⟨LN,ag3⟩,[]⟩)),(83,(.j ⟨[16],[3,4,5,6,7,9,14],⟨KB,[.cells 123 [.d tC],.cells 118 ac8,.cells 163 [.d ip],.cells 118 uG,.cells 54 tN,.cells 54 [.d iS],.cells 193 Jm,.rows 2 ah aM,.rows 2 ah aM,.cells 193 [.d aM,.row 10,.row 11,.d aM,.d eK],.rows 2 ah aM,.rows 49 ah (.sl aM)]⟩,[]⟩)),(84,(.j ⟨[16],[3,4,5,6,7,9,14,15,154],⟨LN,ag3⟩,[]⟩)),(95,(.j ⟨[],[4,5,6,7,9,14],⟨KA,air⟩,[]⟩)),(96,(.j ⟨[],[3,4,5,6,7,9,14,183],⟨KC,[.cells 123 [.d tC],.cells 118 ac8,.cells 163 [.d ip],.cells 118 uG,.cells 54 tN,.cells 54 [.d iS],.cells 193 Jn,.rows 2 ah aM,.rows 2 ah aM,.cells 193 [.d aM,.d (.sl aM),.d uH,.d aM,.d eK]]⟩,[]⟩)),(102,(.s 5 0 0 1)),(104,(.a [.pk 4 6 eK]))]⟩
def P1:ch:=cn EJ gj
def EU:FT:=⟨⟨[.d uI],[]⟩,⟨[.agg [.agg FU,.row 3,.row 4,.csl 5 4 2]],[.rows 175 ah dP,.rows 4 ah .bool,.rows 177 ah gR,.rows 2 ah aM,.rows 2 ah aM,.cells 193 [.d eK,.d aM,.row 6,.row 7,.d aM],.rows 2 ah aM,.rows 49 ah (.sl aM)]⟩,dI [(8,(.u 3))]⟩
def Qc:ch:=cn EU mD
def EI:FT:=⟨⟨Ky,[]⟩,⟨Kz,[]⟩,dI [(27,(.s 5 0 1 1)),(37,(.j ⟨[],[3,4,5,6,7,9,14,15,16],⟨KE,ag2⟩,[]⟩)),(38,(.j ⟨[16,77],[3,4,5,6,7,9,14,15,78],⟨LN,ag2⟩,[]⟩)),(83,(.j ⟨[16],[3,4,5,6,7,9,14],⟨KB,[.cells 123 [.d tC],.cells 118 ac8,.cells 163 [.d ip],.cells 118 uG,.cells 54 tN,.cells 54 [.d iS],.cells 193 Jm,.rows 2 ah aM,.rows 2 ah aM,.cells 193 [.d eK,.d aM,.row 10,.row 11,.d aM],.rows 2 ah aM,.rows 49 ah (.sl aM)]⟩,[]⟩)),(84,(.j ⟨[16],[3,4,5,6,7,9,14,15,154],⟨LN,ag2⟩,[]⟩)),(95,(.j ⟨[],[4,5,6,7,9,14],⟨KA,air⟩,[]⟩)),(96,(.j ⟨[],[3,4,5,6,7,9,14,183],⟨KC,[.cells 123 [.d tC],.cells 118 ac8,.cells 163 [.d ip],.cells 118 uG,.cells 54 tN,.cells 54 [.d iS],.cells 193 Jn,.rows 2 ah aM,.rows 2 ah aM,.cells 193 [.d eK,.d aM,.d (.sl aM),.d uH,.d aM]]⟩,[]⟩)),(102,(.s 5 0 1 1)),(104,(.a [.pk 4 6 eK]))]⟩
def P0:ch:=cn EI fM
def ES:FT:=⟨⟨[.d uI],[]⟩,⟨afe,[.rows 175 ah dP,.rows 4 ah .bool,.rows 177 ah gR,.rows 2 ah aM,.rows 2 ah aM,.cells 193 [.d aM,.row 6,.row 7,.d aM,.d eK,.d eK],.rows 2 ah aM,.rows 49 ah (.sl aM)]⟩,dI [(8,(.u 4))]⟩
def Qb:ch:=cn ES mC
def EH:FT:=⟨⟨Ky,[]⟩,⟨Kz,[]⟩,dI [(27,(.s 5 0 0 1)),(37,(.j ⟨[],[3,4,5,6,7,9,14,15,16],⟨KE,ag6⟩,[]⟩)),(38,(.j ⟨[16,77],[3,4,5,6,7,9,14,15,78],⟨LN,ag6⟩,[]⟩)),(83,(.j ⟨[16],[3,4,5,6,7,9,14],⟨KB,[.cells 123 [.d tC],.cells 118 W9,.cells 163 [.d ip],.cells 118 uG,.cells 54 tN,.cells 54 [.d iS],.cells 193 Jm,.rows 2 ah aM,.rows 2 ah aM,.cells 193 [.d aM,.row 10,.row 11,.d aM,.d eK,.d eK],.rows 2 ah aM,.rows 49 ah (.sl aM)]⟩,[]⟩)),(84,(.j ⟨[16],[3,4,5,6,7,9,14,15,154],⟨LN,ag6⟩,[]⟩)),(95,(.j ⟨[],[4,5,6,7,9,14],⟨KA,afw⟩,[]⟩)),(96,(.j ⟨[],[3,4,5,6,7,9,14,183],⟨KC,[.cells 123 [.d tC],.cells 118 W9,.cells 163 [.d ip],.cells 118 uG,.cells 54 tN,.cells 54 [.d iS],.cells 193 Jn,.rows 2 ah aM,.rows 2 ah aM,.cells 193 [.d aM,.d (.sl aM),.d uH,.d aM,.d eK,.d eK]]⟩,[]⟩)),(102,(.s 5 0 0 1)),(104,(.a [.pk 4 6 eK]))]⟩
def PZ:ch:=cn EH iZ
def ER:FT:=⟨⟨[.d uI],[]⟩,⟨afe,[.rows 175 ah dP,.rows 4 ah .bool,.rows 177 ah gR,.rows 2 ah aM,.rows 2 ah aM,.cells 193 [.d eK,.d aM,.row 6,.row 7,.d aM,.d eK],.rows 2 ah aM,.rows 49 ah (.sl aM)]⟩,dI [(8,(.u 4))]⟩
def Qa:ch:=cn ER mB
def EG:FT:=⟨⟨Ky,[]⟩,⟨Kz,[]⟩,dI [(27,(.s 5 0 1 1)),(37,(.j ⟨[],[3,4,5,6,7,9,14,15,16],⟨KE,ag5⟩,[]⟩)),(38,(.j ⟨[16,77],[3,4,5,6,7,9,14,15,78],⟨LN,ag5⟩,[]⟩)),(83,(.j ⟨[16],[3,4,5,6,7,9,14],⟨KB,[.cells 123 [.d tC],.cells 118 W9,.cells 163 [.d ip],.cells 118 uG,.cells 54 tN,.cells 54 [.d iS],.cells 193 Jm,.rows 2 ah aM,.rows 2 ah aM,.cells 193 [.d eK,.d aM,.row 10,.row 11,.d aM,.d eK],.rows 2 ah aM,.rows 49 ah (.sl aM)]⟩,[]⟩)),(84,(.j ⟨[16],[3,4,5,6,7,9,14,15,154],⟨LN,ag5⟩,[]⟩)),(95,(.j ⟨[],[4,5,6,7,9,14],⟨KA,afw⟩,[]⟩)),(96,(.j ⟨[],[3,4,5,6,7,9,14,183],⟨KC,[.cells 123 [.d tC],.cells 118 W9,.cells 163 [.d ip],.cells 118 uG,.cells 54 tN,.cells 54 [.d iS],.cells 193 Jn,.rows 2 ah aM,.rows 2 ah aM,.cells 193 [.d eK,.d aM,.d (.sl aM),.d uH,.d aM,.d eK]]⟩,[]⟩)),(102,(.s 5 0 1 1)),(104,(.a [.pk 4 6 eK]))]⟩
def PY:ch:=cn EG ik
def EQ:FT:=⟨⟨[.d uI],[]⟩,⟨afe,[.rows 175 ah dP,.rows 4 ah .bool,.rows 177 ah gR,.rows 2 ah aM,.rows 2 ah aM,.cells 193 [.d eK,.d eK,.d aM,.row 6,.row 7,.d aM],.rows 2 ah aM,.rows 49 ah (.sl aM)]⟩,dI [(8,(.u 4))]⟩
def P':ch:=cn EQ mA
def EE:FT:=⟨⟨Ky,[]⟩,⟨Kz,[]⟩,dI [(27,(.s 5 0 2 1)),(37,(.j ⟨[],[3,4,5,6,7,9,14,15,16],⟨KE,ag4⟩,[]⟩)),(38,(.j ⟨[16,77],[3,4,5,6,7,9,14,15,78],⟨LN,ag4⟩,[]⟩)),(83,(.j ⟨[16],[3,4,5,6,7,9,14],⟨KB,[.cells 123 [.d tC],.cells 118 W9,.cells 163 [.d ip],.cells 118 uG,.cells 54 tN,.cells 54 [.d iS],.cells 193 Jm,.rows 2 ah aM,.rows 2 ah aM,.cells 193 [.d eK,.d eK,.d aM,.row 10,.row 11,.d aM],.rows 2 ah aM,.rows 49 ah (.sl aM)]⟩,[]⟩)),(84,(.j ⟨[16],[3,4,5,6,7,9,14,15,154],⟨LN,ag4⟩,[]⟩)),(95,(.j ⟨[],[4,5,6,7,9,14],⟨KA,afw⟩,[]⟩)),(96,(.j ⟨[],[3,4,5,6,7,9,14,183],⟨KC,[.cells 123 [.d tC],.cells 118 W9,.cells 163 [.d ip],.cells 118 uG,.cells 54 tN,.cells 54 [.d iS],.cells 193 Jn,.rows 2 ah aM,.rows 2 ah aM,.cells 193 [.d eK,.d eK,.d aM,.d (.sl aM),.d uH,.d aM]]⟩,[]⟩)),(102,(.s 5 0 2 1)),(104,(.a [.pk 4 6 eK]))]⟩
def PW:ch:=cn EE gM
def EP:FT:=⟨⟨[.d uI],[]⟩,⟨ac7,[.rows 175 ah dP,.rows 4 ah .bool,.rows 177 ah gR,.rows 2 ah aM,.rows 2 ah aM,.cells 193 [.d aM,.row 6,.row 7,.d aM,.d eK,.d eK,.d eK],.rows 2 ah aM,.rows 49 ah (.sl aM)]⟩,dI [(8,(.u 5))]⟩
def P_:ch:=cn EP mz
def dv:FT:=⟨⟨Ky,[]⟩,⟨Kz,[]⟩,dI [(27,(.s 5 0 0 1)),(37,(.j ⟨[],[3,4,5,6,7,9,14,15,16],⟨KE,ag0⟩,[]⟩)),(38,(.j ⟨[16,77],[3,4,5,6,7,9,14,15,78],⟨LN,ag0⟩,[]⟩)),(83,(.j ⟨[16],[3,4,5,6,7,9,14],⟨KB,[.cells 123 [.d tC],.cells 118 QY,.cells 163 [.d ip],.cells 118 uG,.cells 54 tN,.cells 54 [.d iS],.cells 193 Jm,.rows 2 ah aM,.rows 2 ah aM,.cells 193 [.d aM,.row 10,.row 11,.d aM,.d eK,.d eK,.d eK],.rows 2 ah aM,.rows 49 ah (.sl aM)]⟩,[]⟩)),(84,(.j ⟨[16],[3,4,5,6,7,9,14,15,154],⟨LN,ag0⟩,[]⟩)),(95,(.j ⟨[],[4,5,6,7,9,14],⟨KA,aca⟩,[]⟩)),(96,(.j ⟨[],[3,4,5,6,7,9,14,183],⟨KC,[.cells 123 [.d tC],.cells 118 QY,.cells 163 [.d ip],.cells 118 uG,.cells 54 tN,.cells 54 [.d iS],.cells 193 Jn,.rows 2 ah aM,.rows 2 ah aM,.cells 193 [.d aM,.d (.sl aM),.d uH,.d aM,.d eK,.d eK,.d eK]]⟩,[]⟩)),(102,(.s 5 0 0 1)),(104,(.a [.pk 4 6 eK]))]⟩
def PU:ch:=cn dv mq
def EO:FT:=⟨⟨[.d uI],[]⟩,⟨ac7,[.rows 175 ah dP,.rows 4 ah .bool,.rows 177 ah gR,.rows 2 ah aM,.rows 2 ah aM,.cells 193 [.d eK,.d aM,.row 6,.row 7,.d aM,.d eK,.d eK],.rows 2 ah aM,.rows 49 ah (.sl aM)]⟩,dI [(8,(.u 5))]⟩
def P9:ch:=cn EO my
def ED:FT:=⟨⟨Ky,[]⟩,⟨Kz,[]⟩,dI [(27,(.s 5 0 1 1)),(37,(.j ⟨[],[3,4,5,6,7,9,14,15,16],⟨KE,afz⟩,[]⟩)),(38,(.j ⟨[16,77],[3,4,5,6,7,9,14,15,78],⟨LN,afz⟩,[]⟩)),(83,(.j ⟨[16],[3,4,5,6,7,9,14],⟨KB,[.cells 123 [.d tC],.cells 118 QY,.cells 163 [.d ip],.cells 118 uG,.cells 54 tN,.cells 54 [.d iS],.cells 193 Jm,.rows 2 ah aM,.rows 2 ah aM,.cells 193 [.d eK,.d aM,.row 10,.row 11,.d aM,.d eK,.d eK],.rows 2 ah aM,.rows 49 ah (.sl aM)]⟩,[]⟩)),(84,(.j ⟨[16],[3,4,5,6,7,9,14,15,154],⟨LN,afz⟩,[]⟩)),(95,(.j ⟨[],[4,5,6,7,9,14],⟨KA,aca⟩,[]⟩)),(96,(.j ⟨[],[3,4,5,6,7,9,14,183],⟨KC,[.cells 123 [.d tC],.cells 118 QY,.cells 163 [.d ip],.cells 118 uG,.cells 54 tN,.cells 54 [.d iS],.cells 193 Jn,.rows 2 ah aM,.rows 2 ah aM,.cells 193 [.d eK,.d aM,.d (.sl aM),.d uH,.d aM,.d eK,.d eK]]⟩,[]⟩)),(102,(.s 5 0 1 1)),(104,(.a [.pk 4 6 eK]))]⟩
def PR:ch:=cn ED mo
def EM:FT:=⟨⟨[.d uI],[]⟩,⟨ac7,[.rows 175 ah dP,.rows 4 ah .bool,.rows 177 ah gR,.rows 2 ah aM,.rows 2 ah aM,.cells 193 [.d eK,.d eK,.d aM,.row 6,.row 7,.d aM,.d eK],.rows 2 ah aM,.rows 49 ah (.sl aM)]⟩,dI [(8,(.u 5))]⟩
def P5:ch:=cn EM mw
def EC:FT:=⟨⟨Ky,[]⟩,⟨Kz,[]⟩,dI [(27,(.s 5 0 2 1)),(37,(.j ⟨[],[3,4,5,6,7,9,14,15,16],⟨KE,afy⟩,[]⟩)),(38,(.j ⟨[16,77],[3,4,5,6,7,9,14,15,78],⟨LN,afy⟩,[]⟩)),(83,(.j ⟨[16],[3,4,5,6,7,9,14],⟨KB,[.cells 123 [.d tC],.cells 118 QY,.cells 163 [.d ip],.cells 118 uG,.cells 54 tN,.cells 54 [.d iS],.cells 193 Jm,.rows 2 ah aM,.rows 2 ah aM,.cells 193 [.d eK,.d eK,.d aM,.row 10,.row 11,.d aM,.d eK],.rows 2 ah aM,.rows 49 ah (.sl aM)]⟩,[]⟩)),(84,(.j ⟨[16],[3,4,5,6,7,9,14,15,154],⟨LN,afy⟩,[]⟩)),(95,(.j ⟨[],[4,5,6,7,9,14],⟨KA,aca⟩,[]⟩)),(96,(.j ⟨[],[3,4,5,6,7,9,14,183],⟨KC,[.cells 123 [.d tC],.cells 118 QY,.cells 163 [.d ip],.cells 118 uG,.cells 54 tN,.cells 54 [.d iS],.cells 193 Jn,.rows 2 ah aM,.rows 2 ah aM,.cells 193 [.d eK,.d eK,.d aM,.d (.sl aM),.d uH,.d aM,.d eK]]⟩,[]⟩)),(102,(.s 5 0 2 1)),(104,(.a [.pk 4 6 eK]))]⟩
def PQ:ch:=cn EC kM
def EL:FT:=⟨⟨[.d uI],[]⟩,⟨ac7,[.rows 175 ah dP,.rows 4 ah .bool,.rows 177 ah gR,.rows 2 ah aM,.rows 2 ah aM,.cells 193 [.d eK,.d eK,.d eK,.d aM,.row 6,.row 7,.d aM],.rows 2 ah aM,.rows 49 ah (.sl aM)]⟩,dI [(8,(.u 5))]⟩
def P4:ch:=cn EL mr
def EB:FT:=⟨⟨Ky,[]⟩,⟨Kz,[]⟩,dI [(27,(.s 5 0 3 1)),(37,(.j ⟨[],[3,4,5,6,7,9,14,15,16],⟨KE,afx⟩,[]⟩)),(38,(.j ⟨[16,77],[3,4,5,6,7,9,14,15,78],⟨LN,afx⟩,[]⟩)),(83,(.j ⟨[16],[3,4,5,6,7,9,14],⟨KB,[.cells 123 [.d tC],.cells 118 QY,.cells 163 [.d ip],.cells 118 uG,.cells 54 tN,.cells 54 [.d iS],.cells 193 Jm,.rows 2 ah aM,.rows 2 ah aM,.cells 193 [.d eK,.d eK,.d eK,.d aM,.row 10,.row 11,.d aM],.rows 2 ah aM,.rows 49 ah (.sl aM)]⟩,[]⟩)),(84,(.j ⟨[16],[3,4,5,6,7,9,14,15,154],⟨LN,afx⟩,[]⟩)),(95,(.j ⟨[],[4,5,6,7,9,14],⟨KA,aca⟩,[]⟩)),(96,(.j ⟨[],[3,4,5,6,7,9,14,183],⟨KC,[.cells 123 [.d tC],.cells 118 QY,.cells 163 [.d ip],.cells 118 uG,.cells 54 tN,.cells 54 [.d iS],.cells 193 Jn,.rows 2 ah aM,.rows 2 ah aM,.cells 193 [.d eK,.d eK,.d eK,.d aM,.d (.sl aM),.d uH,.d aM]]⟩,[]⟩)),(102,(.s 5 0 3 1)),(104,(.a [.pk 4 6 eK]))]⟩
def PP:ch:=cn EB jN
def Wi:ch:=cn dv yK
def Lo:FT:=⟨⟨[.d tC,.d uI,.nil,.d (.sl ip)],[]⟩,⟨[.d (.sl iS),.d uI],[]⟩,dI [(1,(.a [.nil 2 54 iS])),(6,(.j ⟨[3],[2,4,5,9,10],⟨[.row 0,.ptr 1 0,.ptr 2 0,.ptr 3 0,.d aM],afn⟩,[]⟩)),(8,(.j ⟨[3,10],[2,4,5,9,22],⟨[.row 0,.ptr 1 0,.ptr 2 0,.ptr 3 0,.d .bool],afn⟩,[]⟩)),(14,(.j ⟨[3,10],[2,4,5,9],⟨[.row 0,.ptr 1 0,.ptr 2 0,.ptr 3 0],afn⟩,[]⟩))]⟩
def Wg:ch:=cn Lo uW
def Pv:FT:=⟨⟨[.d tC,.d (.sl ip)],[]⟩,⟨[.d nP,.d uI],[]⟩,.leaf⟩
def YQ:ch:=cn Pv xI
def xi:FT:=⟨⟨vJ,QW⟩,⟨[.d aM],QW⟩,dI [(3,(.j ⟨[1],[0,18],⟨gI,W5⟩,[]⟩))]⟩
def FJ:ch:=cn xi bp
def Lw:FT:=⟨⟨[.d aM],[]⟩,⟨[.d .ex],[]⟩,.leaf⟩
def Ws:ch:=cn Lw qy
def Iv:FT:=⟨⟨[.d .str],[]⟩,⟨[.d .ex],[]⟩,.leaf⟩
def Tj:ch:=cn Iv oO
def Cq:FT:=⟨⟨[.d aM,.d .ex,.d .ex],[]⟩,⟨[.d .ex],[]⟩,.leaf⟩
def Nb:ch:=cn Cq m_
def Cr:FT:=⟨⟨[.d .str,.d .ex],[]⟩,⟨[.d .sm],[]⟩,.leaf⟩
def Nc:ch:=cn Cr iW
def E_:FT:=⟨⟨[],[]⟩,⟨[.d (.sl Fj)],[]⟩,.leaf⟩
def Qt:ch:=cn E_ ri
def zR:FT:=⟨⟨[.d CR],[]⟩,⟨[.d (.sl ip)],[]⟩,dI [(8,(.j ⟨[0],[3,4],⟨[.row 0,.d aM],[.rows 163 ah ip]⟩,[.nil 3 163 ip]⟩))]⟩
def Ks:ch:=cn zR oc
def nA:FT:=⟨⟨vJ,T4⟩,⟨[.d .ex],T4⟩,dI [(8,(.j ⟨[1,6],[0,4,5,14],⟨[.ptr 0 0,.ptr 3 0,.row 4,.d .bool],[.cells 210 adp,.cells 101 [.d xv],.rowsP 9 .str,.cells 214 [.d aM,.d aM,.d .str,.nil],.rows 9 ai .str]⟩,[]⟩))]⟩
def DU:ch:=cn nA eR
def Dl (n:Nat):ch:=cn nA (hX n)
def ug:FT:=⟨⟨[.ptr 0 0,.d .str],T4⟩,⟨[.d .bool],T4⟩,.leaf⟩
def CF:ch:=cn ug eA
def md:FT:=⟨⟨QZ,T4⟩,⟨[.row 4],[.cells 210 afl,.cells 101 NC,.gone,.rowsP 9 .str,.rows 216 ah .sm]⟩,dI [(1,(.a [.ren 0 7])),(8,(.j ⟨[1,2],[0,7,8],⟨[.ptr 0 0,.row 3,.d aM],aik⟩,[.nil 7 216 .sm]⟩)),(10,(.j ⟨[1,2,8],[0,7,22],⟨[.ptr 0 0,.row 3,.d .bool],aik⟩,[]⟩)),(21,(.a [.nil 6 216 .sm]))]⟩
def CE:ch:=cn md pE
def BL (n:Nat):ch:=cn md (dy n)
def qH:FT:=⟨⟨vJ,T4⟩,⟨[.d .sm],[.cells 210 afl,.cells 101 NC,.gone,.rowsP 9 .str]⟩,dI [(1,(.a [.ren 0 7])),(6,(.j ⟨[1,5],[0,4,6],⟨Jl,Zz⟩,[]⟩)),(28,(.j ⟨[1,5,6],[0,4,74],⟨Jl,Zz⟩,[]⟩)),(33,(.j ⟨[],[4,7],⟨[.ptr 3 0,.ptr 4 0],[.cells 210 [.ptr 1 0,.d aM,.d aM,.d .bool,.d .bool,.d .bool,.d .bool,.row 5],.cells 101 [.d xv],.gone,.cells 216 ads,.cells 216 [.d aM,.d aM,.d .str,.d .str,.nil,.d aM,.d aM,.d .str,.d (.sl .ex),.row 6,.row 7],.rowsP 9 .str,.rows 216 ah .sm,.rows 216 ah .sm]⟩,[.cel 7 10 216 .sm]⟩)),(42,(.j ⟨[1,5,6],[0,4,100],⟨Jl,Zz⟩,[]⟩)),(56,(.j ⟨[1,5,6],[0,4,133],⟨Jl,Zz⟩,[]⟩)),(64,(.j ⟨[1,5,6],[0,4,165],⟨Jl,Zz⟩,[]⟩)),(70,(.j ⟨[1,5,6],[0,4,188],⟨Jl,Zz⟩,[]⟩)),(82,(.j ⟨[1,5,6],[0,4,210],⟨Jl,Zz⟩,[]⟩)),(94,(.j ⟨[5,6],[0,4,235],⟨Jl,Zz⟩,[]⟩)),(100,(.j ⟨[5],[0,4,258],⟨Jl,Zz⟩,[]⟩)),(106,(.j ⟨[5],[0,4,278],⟨Jl,Zz⟩,[]⟩)),(114,(.j ⟨[],[0,4,308],⟨Jl,Zz⟩,[]⟩))]⟩
def Dk (n:Nat):ch:=cn qH (ef n)
def pS:FT:=⟨⟨[.ptr 0 0,.d .str,.d aM],T4⟩,⟨[.d (.sl .sm)],[.cells 210 afl,.cells 101 NC,.gone,.rowsP 9 .str]⟩,.leaf⟩
def BN (n:Nat):ch:=cn pS (dN n)
def zQ:FT:=⟨⟨[.d CR],[]⟩,⟨[.d LO],[]⟩,dI [(5,(.a [.cel 3 7 9 .str])),(14,(.j ⟨[5],[2,3,4,6,7],⟨[.ptr 0 0,.ptr 1 0,.ptr 2 0,.row 3,.d aM],[.cells 160 [.nil,.nil],.cells 210 [.ptr 4 0,.d aM,.d aM,.d .bool,.d .bool,.d .bool,.d .bool,.row 5],.cells 160 [.d (.sl Fj),.row 6],.rows 9 ai .str,.cells 101 [.d xv],.rowsP 9 .str,.rows 200 ah rN]⟩,[.cel 4 1 200 rN]⟩)),(27,(.j ⟨[5,7],[2,3,4,6,8],⟨[.ptr 0 0,.ptr 1 0,.ptr 2 0,.row 3,.ptr 4 0],La7⟩,[.cel 8 3 216 .sm]⟩)),(34,(.j ⟨[5,7],[2,3,4,6,8,9],⟨[.ptr 0 0,.ptr 1 0,.ptr 2 0,.row 3,.ptr 4 0,.d aM],La7⟩,[.cel 8 3 216 .sm]⟩)),(48,(.j ⟨[5,7],[2,3,4,6,8],⟨[.ptr 0 0,.ptr 1 0,.ptr 2 0,.row 3,.ptr 4 0],La7⟩,[]⟩)),(49,(.j ⟨[5,7],[2,3,4,6,8,79],⟨[.ptr 0 0,.ptr 1 0,.ptr 2 0,.row 3,.ptr 4 0,.d .bool],La7⟩,[]⟩))]⟩
def Kr:ch:=cn zQ oa
def Iw:FT:=⟨⟨[.d CR],[]⟩,⟨[.d tC],[]⟩,.leaf⟩
def Tk:ch:=cn Iw v8
def Fa:FT:=⟨⟨[.d CR,.d CR],[]⟩,⟨[.d nP],[]⟩,.leaf⟩
def Qu:ch:=cn Fa rj
def Cc:FT:=⟨⟨[],[]⟩,⟨[.d nF],[]⟩,dI [(8,(.j ⟨[21],[0,1,22],⟨uF,ac9⟩,[.cel 1 5 141 nQ]⟩)),(22,(.j ⟨[2,21,22],[0,1,3],⟨uF,ac9⟩,[]⟩))]⟩
def MX:ch:=cn Cc mX
def xZ:FT:=⟨⟨[.d iy],[]⟩,⟨qi,[]⟩,dI [(8,(.j ⟨[8,9],[3,10],⟨[.row 0,.d aM],[.rows 3 ah aM]⟩,[.nil 3 3 aM]⟩)),(16,(.j ⟨[8,9,10],[3],⟨[.row 0],[.rows 3 ah aM]⟩,[]⟩))]⟩
def IJ:ch:=cn xZ kz
def Ca:FT:=⟨⟨[],[]⟩,⟨qi,[]⟩,.leaf⟩
def MV:ch:=cn Ca r8
def zF:FT:=⟨⟨QZ,QW⟩,⟨[.d aM],QW⟩,dI [(6,(.j ⟨[2,7],[0,8],⟨gI,W5⟩,[]⟩)),(16,(.j ⟨[2,7],[0,16],⟨gI,W5⟩,[]⟩)),(26,(.j ⟨[2,7],[0,21],⟨gI,W5⟩,[]⟩)),(44,(.j ⟨[2,7],[0,26],⟨gI,W5⟩,[]⟩)),(70,(.j ⟨[2],[0,33],⟨gI,W5⟩,[]⟩))]⟩
def Kd:ch:=cn zF nY
def B':FT:=⟨⟨[.ptr 0 0,.d iy,.d aM,.d aM],QW⟩,⟨[.d aM],QW⟩,dI [(18,(.j ⟨[10],[0,5,24],⟨qL,[.cells 101 [.d xv],.cells 110 [.d iy]]⟩,[]⟩))]⟩
def MU:ch:=cn B' pw
def Ey:FT:=⟨⟨[.ptr 0 0,.row 1],[.cells 101 NC,.rows 3 ah aM]⟩,⟨qi,[.cells 101 NC,.rows 3 ah aM]⟩,dI [(8,(.j ⟨[9],[0,1,5,8,10],⟨[.ptr 0 0,.row 1,.row 2,.row 1,.d aM],afg⟩,[.nil 5 3 aM]⟩)),(16,(.j ⟨[9,10],[0,1,5,8],⟨[.ptr 0 0,.row 1,.row 2,.row 1],afg⟩,[]⟩)),(19,(.j ⟨[7,9,10],[0,1,5,8,24],⟨[.ptr 0 0,.row 1,.row 2,.row 1,.d .bool],afg⟩,[]⟩))]⟩
def PK:ch:=cn Ey gi
def Cb:FT:=⟨⟨[.ptr 0 0,.d iy,.d nF,.csl 1 1 4],aii⟩,⟨[.d iS],aii⟩,dI [(8,(.j ⟨[9],[0,3,5,6,8,11],⟨[.ptr 0 0,.csl 1 1 4,.ptr 6 0,.ptr 7 0,.ptr 8 0,.ptr 9 0],aio⟩,[]⟩)),(9,(.j ⟨[9],[0,3,5,6,8,11,36],⟨[.ptr 0 0,.csl 1 1 4,.ptr 6 0,.ptr 7 0,.ptr 8 0,.ptr 9 0,.d .bool],aio⟩,[]⟩)),(18,(.j ⟨[9],[0,3,8,11],⟨[.ptr 0 0,.csl 1 1 4,.ptr 6 0,.ptr 7 0],aip⟩,[]⟩)),(19,(.j ⟨[9],[0,3,8,11,74],⟨[.ptr 0 0,.csl 1 1 4,.ptr 6 0,.ptr 7 0,.d .bool],[.cells 101 [.d xv],.cells 49 Zx,.rows 3 ah aM,.rows 3 ah aM,.rows 3 ah aM,.rows 3 ah aM,.cells 54 tN,.cells 54 tN]⟩,[]⟩)),(22,(.s 9 0 0 4)),(24,(.j ⟨[],[8,11],⟨[.ptr 6 0,.ptr 7 0],[.cells 101 [.d xv],.cells 49 Zx,.rows 3 ah aM,.rows 3 ah aM,.rows 3 ah aM,.rows 3 ah aM,.cells 54 tN,.cells 54 [.d aM,.d aM,.d aM,.d aM,.d aM,.d (.sl aM),.d (.sl aM)]]⟩,[]⟩)),(25,(.j ⟨[9],[0,3,8,11,89],⟨[.ptr 0 0,.csl 1 1 4,.ptr 6 0,.ptr 7 0,.d .bool],aip⟩,[]⟩)),(28,(.s 9 0 0 4))]⟩
def MW:ch:=cn Cb px
def Ez:FT:=⟨⟨[.ptr 0 0,.d iy,.d nF,.d aM,.d .bool],QW⟩,⟨[.d (.sl iS)],QW⟩,dI [(8,(.a [.cel 12 0 3 aM,.cel 12 1 3 aM,.cel 12 2 3 aM,.cel 12 3 3 aM])),(9,(.j ⟨[3,11],[0,6,7,12],⟨[.ptr 0 0,.ptr 1 0,.ptr 2 0,.csl 3 1 4],aft⟩,[]⟩)),(10,(.u 5)),(18,(.j ⟨[3,4,11,22,23],[0,6,7,12],⟨[.ptr 0 0,.ptr 1 0,.ptr 2 0,.csl 3 1 4],aft⟩,[]⟩)),(21,(.j ⟨[3,4,11,13,22,23],[0,6,7,12,39],⟨[.ptr 0 0,.ptr 1 0,.ptr 2 0,.csl 3 1 4,.d .bool],aft⟩,[]⟩)),(29,(.j ⟨[3],[0,6,7,11,12],⟨[.ptr 0 0,.ptr 1 0,.ptr 2 0,.row 3,.csl 4 1 4],afu⟩,[.nil 11 54 iS]⟩)),(31,(.j ⟨[3],[0,6,7,11,12,65],⟨[.ptr 0 0,.ptr 1 0,.ptr 2 0,.row 3,.csl 4 1 4,.d .bool],afu⟩,[]⟩)),(36,(.j ⟨[3],[0,6,7,11,12],⟨[.ptr 0 0,.ptr 1 0,.ptr 2 0,.row 3,.csl 4 1 4],afu⟩,[]⟩)),(47,(.j ⟨[3],[0,6,7,11,12,14,15],⟨[.ptr 0 0,.ptr 1 0,.ptr 2 0,.row 3,.csl 4 1 4,.ptr 5 0,.ptr 6 0],aiq⟩,[]⟩)),(48,(.j ⟨[3],[0,6,7,11,12,14,15,87],⟨[.ptr 0 0,.ptr 1 0,.ptr 2 0,.row 3,.csl 4 1 4,.ptr 5 0,.ptr 6 0,.d .bool],aiq⟩,[]⟩)),(51,(.s 14 0 0 4))]⟩
def PL:ch:=cn Ez rc
def Cd:FT:=⟨⟨NC,[]⟩,⟨[.d nP],[]⟩,dI [(2,(.j ⟨[1],[0,4],⟨[.d CR,.ptr 0 0],[.cells 34 W7]⟩,[]⟩)),(22,(.j ⟨[1,9],[4,5,6,7,8,10],⟨[.ptr 0 0,.ptr 1 0,.ptr 2 0,.ptr 3 0,.row 4,.d aM],[.cells 34 W7,.cells 101 [.d xv],.cells 34 [.d (.sl ka),.d (.sl qc),.d (.sl li),.d (.sl .str),.d (.sl .str),.d (.sl nQ),.nil],.cells 110 [.d iy],.rows 54 ai iS]⟩,[]⟩)),(37,(.j ⟨[1,48],[4,5,6,7,47,49],⟨[.ptr 0 0,.ptr 1 0,.ptr 2 0,.ptr 3 0,.row 4,.d aM],ais⟩,[.cel 6 6 54 iS]⟩)),(45,(.j ⟨[1,48,49],[4,5,6,7,47],⟨[.ptr 0 0,.ptr 1 0,.ptr 2 0,.ptr 3 0,.row 4],ais⟩,[]⟩))]⟩
def MY:ch:=cn Cd py
def vy:FT:=⟨⟨[.d (.st (.pr CR (.pr CR CR))),.d aM],[]⟩,⟨[.d nP],[]⟩,.leaf⟩
def DN:ch:=cn vy kA
theorem J1:aG Pg 171 Kl:=mk zL jY an bX
theorem Hy:aG Pg 144 IQ:=mk ya jp (ac J1 an) bX
theorem Eo:aG Pg 143 Qn:=mk E8 kO an bX
theorem Sh:aG Pg 172 Te:=mk Iu qw an bX
theorem Sg:aG Pg 145 Td:=mk It oN (ac Eo (ac Sh an)) bX
theorem rn:aG Pg 105 Qo:=mk E9 eS (ac Eo (ac Hy (ac Sg an))) bX
theorem Hx:aG Pg 224 S6:=mk Io fH an bX
theorem R_:aG Pg 208 S7:=mk Ip sU (ac Hx an) bX
theorem O1:aG Pg 210 Qj:=mk E4 rh (ac Hx an) bX
theorem Sa:aG Pg 207 S8:=mk Iq qu an bX
theorem J0:aG Pg 231 Kk:=mk zK lU an bX
theorem vk:∀ n:Nat,aG Pg 225 (Fs n)
 |0=>Ou oA
 |n+1=>mk oA (lE (gQ n)) (ac rn (ac (vk n) (ac J0 an))) bX
theorem wV:aG Pg 225 FF:=(vk fuel)
theorem Sf:aG Pg 226 Tc:=mk Is oM an bX
theorem qD:∀ n:Nat,aG Pg 211 (Fr n)/\aG Pg 181 (Dj n)
 |0=>⟨Ou rM,Ou nz⟩
 |n+1=>⟨mk rM (jL (d_ n) (dw n)) (ac rn (ac (qD n).2 (ac wV (ac Sf an)))) bX,mk nz (je (d_ n) (dw n)) (ac (qD n).1 an) bX⟩
theorem Du:aG Pg 181 DQ:=(qD fuel).2
theorem Fv:aG Pg 180 FE:=mk xd jJ (ac rn an) bX
theorem O3:aG Pg 154 Qm:=mk E7 o7 (ac rn (ac Fv (ac Du an))) bX
theorem t_:aG Pg 106 ab9:=mk UW iG an bX
theorem t8:aG Pg 182 Ql:=mk E6 gP an bX
theorem ux:aG Pg 183 Kj:=mk zJ gA an bX
theorem O2:aG Pg 227 Qk:=mk E5 o6 (ac t_ (ac t8 (ac ux an))) bX
theorem Lb:aG Pg 214 Wn:=mk Lu gk (ac O2 an) bX
theorem Et:∀ n:Nat,aG Pg 228 (RU n)
 |0=>Ou wH
 |n+1=>mk wH (s_ (mM n)) (ac (Et n) an) bX
theorem Sd:aG Pg 228 Ta:=(Et fuel)
theorem Es:∀ n:Nat,aG Pg 229 (RQ n)
 |0=>Ou wG
 |n+1=>mk wG (s9 (mL n)) (ac Lb (ac (Es n) an)) bX
theorem Sb:aG Pg 229 S9:=(Es fuel)
theorem VS:aG Pg 215 Wo:=mk Lv lQ (ac wV (ac Sd (ac Sb an))) bX
theorem MD:aG Pg 216 M8:=mk Cn cS an bX
theorem aal:aG Pg 213 ab8:=mk UV iF an bX
theorem Dt:aG Pg 212 DP:=mk vA dK an bX
theorem JY:aG Pg 184 Kh:=mk zI lP (ac t_ (ac t8 (ac ux (ac Dt (ac aal (ac Lb (ac VS (ac MD an)))))))) bX
theorem xQ:∀ n:Nat,aG Pg 158 (JR n)
 |0=>Ou qV
 |n+1=>mk qV (lY (ii n)) (ac (xQ n) (ac JY an)) bX
theorem JZ:aG Pg 158 Ki:=(xQ fuel)
theorem Eu:∀ n:Nat,aG Pg 157 (RW n)
 |0=>Ou wI
 |n+1=>mk wI (ta (mN n)) (ac (Eu n) an) bX
theorem Se:aG Pg 157 Tb:=(Eu fuel)
theorem Sc:aG Pg 155 S_:=mk Ir qv (ac t8 an) bX
theorem MC:aG Pg 156 M7:=mk Cm m7 (ac t_ (ac t8 (ac ux an))) bX
theorem wj:aG Pg 121 M9:=mk Co eV (ac O3 (ac Sc (ac MC (ac Se (ac JZ an))))) bX
theorem Ep:∀ n:Nat,aG Pg 160 (RP n)
 |0=>Ou wF
 |n+1=>mk wF (wq (oS n)) (ac (Ep n) an) bX
theorem R5:aG Pg 160 SU:=(Ep fuel)
theorem Ek:aG Pg 159 Qg:=mk EZ jP an bX
theorem Em:aG Pg 217 Qi:=mk E3 kN an bX
theorem R9:aG Pg 122 S4:=mk Im sT (ac wj (ac Ek (ac R5 an))) bX
theorem R6:aG Pg 104 SX:=mk Ij oK an bX
theorem wU:aG Pg 77 FD:=mk xc gO (ac R6 (ac rn (ac t_ an))) bX
theorem s7:aG Pg 125 IP:=mk x_ jm an bX
theorem El:aG Pg 174 Qh:=mk E0 oZ an bX
theorem R7:aG Pg 149 S0:=mk Ik oL (ac El an) bX
theorem MA:aG Pg 150 ab7:=mk UU iV an bX
theorem R8:aG Pg 173 S1:=mk Il mH (ac MA an) bX
theorem Mz:aG Pg 148 M4:=mk Cj kU (ac MA (ac R8 an)) bX
theorem Ds:aG Pg 119 DO:=mk vz g_ (ac s7 (ac Mz (ac R7 (ac MA an)))) bX
theorem AF:aG Pg 87 S5:=mk In jk (ac wU (ac Ds an)) bX
theorem nk:aG Pg 124 M5:=mk Ck cr an bX
theorem wX:∀ n:Nat,aG Pg 189 (He n)
 |0=>Ou pP
 |n+1=>mk pP (pJ (im n)) (ac t_ (ac nk (ac (wX n) (ac Em an)))) bX
theorem s6:aG Pg 189 IL:=(wX fuel)
theorem Fu:aG Pg 185 FC:=mk xa ly (ac t_ (ac nk (ac s6 (ac Em an)))) bX
theorem JX:aG Pg 188 Kg:=mk zH i_ an bX
theorem jK:∀ n:Nat,aG Pg 123 (Hf n)/\aG Pg 161 (JQ n)/\aG Pg 186 (BK n)/\aG Pg 187 (Fq n)
 |0=>⟨Ou pQ,Ou uA,Ou pR,Ou rL⟩
 |n+1=>⟨mk pQ (pK (dC n) (eC n) (cV n) (dx n)) (ac (jK n).2.1 an) bX,mk uA (qT (dC n) (eC n) (cV n) (dx n)) (ac t_ (ac nk (ac Ek (ac Fu (ac (jK n).2.2.1 (ac (jK n).2.2.2 (ac JX (ac s6 an)))))))) bX,mk pR (l_ (dC n) (eC n) (cV n) (dx n)) (ac (jK n).1 (ac nk (ac s6 an))) bX,mk rL (ox (dC n) (eC n) (cV n) (dx n)) (ac (jK n).1 (ac nk an)) bX⟩
theorem Hw:aG Pg 123 IN:=(jK fuel).1
theorem MB:aG Pg 90 M6:=mk Cl pD (ac wj (ac R9 (ac Hw (ac nk (ac s7 an))))) bX
theorem Hu:aG Pg 110 YS:=mk Px pC an bX
theorem Yt:aG Pg 146 YR:=mk Pw uZ an bX
theorem Ht:aG Pg 113 SS:=mk Ii qr (ac Yt an) bX
theorem JW:aG Pg 209 Kf:=mk zG lO an bX
theorem kE:aG Pg 178 Wm:=mk Lt ca an bX
theorem VR:aG Pg 179 Wl:=mk Ls uY (ac Ht (ac s7 (ac R_ (ac JW (ac O1 an))))) bX
theorem ja:aG Pg 153 Qf:=mk EY mG (ac El (ac kE (ac VR an))) bX
theorem Hs:aG Pg 79 SK:=mk Ig qo an bX
theorem Dr:aG Pg 107 Wj:=mk Lq qp an bX
theorem UF:aG Pg 108 ab6:=mk UT pB an bX
theorem R4:aG Pg 109 SJ:=mk If sR (ac UF an) bX
theorem BR:aG Pg 82 M3:=mk Ci jO (ac Dr (ac UF (ac R4 (ac Hu an)))) bX
theorem My:aG Pg 111 M2:=mk Ch m6 an bX
theorem Mx:aG Pg 114 M1:=mk Cg pA an bX
theorem kD:aG Pg 112 Wk:=mk Lr gZ an bX
theorem JV:aG Pg 111 Ke:=mk lZ lM an bX
theorem Hr:aG Pg 111 IK:= @aG.ro Pg 111 lZ.pre lZ.post.vs lM ji (JV.holds rfl) rfl (λx _ h=>by rw[show ji x=obind (lM x) λy=>same y.2 x.2 (aa y.1) from rfl] at h;exact h)
theorem jr:aG Pg 85 SM:=mk Ih oJ (ac BR (ac Hu (ac Hr (ac kD (ac Ht (ac Mx an)))))) bX
theorem R3:aG Pg 89 SH:=mk Ie sQ (ac Hs (ac AF an)) bX
theorem VP:aG Pg 175 Wh:=mk Lp uX (ac AF (ac Dr an)) bX
theorem VN:aG Pg 176 Wf:=mk Ln uV an bX
theorem OE:aG Pg 177 PO:=mk EA rf (ac Sa an) bX
theorem ig:aG Pg 151 M0:=mk Cf mZ (ac VP (ac VN (ac OE an))) bX
theorem Hq:aG Pg 56 SD:=mk Ib mn (ac Hs an) bX
theorem VM:aG Pg 80 We:=mk Lm uU (ac Dr an) bX
theorem aak:aG Pg 81 ab5:=mk US BF an bX
theorem Mw:aG Pg 83 MZ:=mk Ce mY an bX
theorem RZ:aG Pg 84 Sz:=mk H_ sO (ac Hu (ac My an)) bX
theorem Dq:aG Pg 58 Wd:=mk Ll qn (ac VM (ac aak (ac BR (ac Mw (ac RZ (ac jr an)))))) bX
theorem R1:aG Pg 78 SA:=mk Ia qm an bX
theorem R2:aG Pg 54 SE:=mk Ic sP (ac Hq (ac Dq (ac wU (ac R1 an)))) bX
def KJ (t:TypeId):Option Ty:=if aA t 193 then aa (.pr .un eK) else bX t
theorem O0:aG Pg 152 Qe:=mk EX mF (ac kD (ac kE an)) KJ
theorem OP:aG Pg 120 P3:=mk EK fO (ac jr (ac ig (ac O0 (ac ja an)))) KJ
theorem OZ:aG Pg 152 Qd:=mk EW mE (ac kD (ac kE an)) KJ
theorem OO:aG Pg 120 P1:=mk EJ gj (ac jr (ac ig (ac OZ (ac ja an)))) KJ
theorem OY:aG Pg 152 Qc:=mk EU mD (ac kD (ac kE an)) KJ
theorem ON:aG Pg 120 P0:=mk EI fM (ac jr (ac ig (ac OY (ac ja an)))) KJ
theorem OX:aG Pg 152 Qb:=mk ES mC (ac kD (ac kE an)) KJ
theorem OM:aG Pg 120 PZ:=mk EH iZ (ac jr (ac ig (ac OX (ac ja an)))) KJ
theorem OW:aG Pg 152 Qa:=mk ER mB (ac kD (ac kE an)) KJ
theorem OL:aG Pg 120 PY:=mk EG ik (ac jr (ac ig (ac OW (ac ja an)))) KJ
theorem OV:aG Pg 152 P':=mk EQ mA (ac kD (ac kE an)) KJ
theorem OK:aG Pg 120 PW:=mk EE gM (ac jr (ac ig (ac OV (ac ja an)))) KJ
theorem OU:aG Pg 152 P_:=mk EP mz (ac kD (ac kE an)) KJ
theorem OJ:aG Pg 120 PU:=mk dv mq (ac jr (ac ig (ac OU (ac ja an)))) KJ
theorem OT:aG Pg 152 P9:=mk EO my (ac kD (ac kE an)) KJ
theorem OH:aG Pg 120 PR:=mk ED mo (ac jr (ac ig (ac OT (ac ja an)))) KJ
theorem OR:aG Pg 152 P5:=mk EM mw (ac kD (ac kE an)) KJ
theorem OG:aG Pg 120 PQ:=mk EC kM (ac jr (ac ig (ac OR (ac ja an)))) KJ
theorem OQ:aG Pg 152 P4:=mk EL mr (ac kD (ac kE an)) KJ
theorem OF:aG Pg 120 PP:=mk EB jN (ac jr (ac ig (ac OQ (ac ja an)))) KJ
theorem VQ:aG Pg 120 Wi:=(aG.orE (pre:=dv.pre) (post:=dv.post) (m:=mq) (m':=(λx=>orE (mo x) ((λx=>orE (kM x) ((λx=>orE (jN x) ((λx=>orE (iZ x) ((λx=>orE (ik x) ((λx=>orE (gM x) ((λx=>orE (gj x) ((λx=>orE (fM x) (fO x)) x)) x)) x)) x)) x)) x)) x))) rfl OJ (aG.orE (pre:=dv.pre) (post:=dv.post) (m:=mo) (m':=(λx=>orE (kM x) ((λx=>orE (jN x) ((λx=>orE (iZ x) ((λx=>orE (ik x) ((λx=>orE (gM x) ((λx=>orE (gj x) ((λx=>orE (fM x) (fO x)) x)) x)) x)) x)) x)) x))) rfl OH (aG.orE (pre:=dv.pre) (post:=dv.post) (m:=kM) (m':=(λx=>orE (jN x) ((λx=>orE (iZ x) ((λx=>orE (ik x) ((λx=>orE (gM x) ((λx=>orE (gj x) ((λx=>orE (fM x) (fO x)) x)) x)) x)) x)) x))) rfl OG (aG.orE (pre:=dv.pre) (post:=dv.post) (m:=jN) (m':=(λx=>orE (iZ x) ((λx=>orE (ik x) ((λx=>orE (gM x) ((λx=>orE (gj x) ((λx=>orE (fM x) (fO x)) x)) x)) x)) x))) rfl OF (aG.orE (pre:=dv.pre) (post:=dv.post) (m:=iZ) (m':=(λx=>orE (ik x) ((λx=>orE (gM x) ((λx=>orE (gj x) ((λx=>orE (fM x) (fO x)) x)) x)) x))) rfl OM (aG.orE (pre:=dv.pre) (post:=dv.post) (m:=ik) (m':=(λx=>orE (gM x) ((λx=>orE (gj x) ((λx=>orE (fM x) (fO x)) x)) x))) rfl OL (aG.orE (pre:=dv.pre) (post:=dv.post) (m:=gM) (m':=(λx=>orE (gj x) ((λx=>orE (fM x) (fO x)) x))) rfl OK (aG.orE (pre:=dv.pre) (post:=dv.post) (m:=gj) (m':=(λx=>orE (fM x) (fO x))) rfl OO (aG.orE (pre:=dv.pre) (post:=dv.post) (m:=fM) (m':=fO) rfl ON OP)))))))))
theorem VO:aG Pg 88 Wg:=mk Lo uW (ac VQ an) bX
theorem Ys:aG Pg 60 YQ:=mk Pv xI (ac AF (ac VO (ac R3 an))) bX
theorem fc:aG Pg 57 FJ:=mk xi bp an bX
theorem Dw:aG Pg 129 Ws:=mk Lw qy an bX
theorem HG:aG Pg 192 Tj:=mk Iv oO an bX
theorem BX:aG Pg 191 Nb:=mk Cq m_ an bX
theorem BY:aG Pg 128 Nc:=mk Cr iW an bX
theorem O5:aG Pg 126 Qt:=mk E_ ri an bX
theorem J7:aG Pg 62 Ks:=mk zR oc an bX
theorem ua:∀ n:Nat,aG Pg 190 (Dl n)
 |0=>Ou nA
 |n+1=>mk nA (nu (hX n)) (ac fc (ac Dw (ac (ua n) (ac BX (ac HG an))))) bX
theorem Dx:aG Pg 190 DU:=(ua fuel)
theorem BW:aG Pg 193 CF:=mk ug eA (ac t_ an) bX
theorem js:∀ n:Nat,aG Pg 127 (BL n)/\aG Pg 162 (Dk n)/\aG Pg 194 (BN n)
 |0=>⟨Ou md,Ou qH,Ou pS⟩
 |n+1=>⟨mk md (mb (dy n) (ef n) (dN n)) (ac (js n).2.1 an) bX,mk qH (nl (dy n) (ef n) (dN n)) (ac fc (ac (js n).1 (ac BY (ac Dw (ac Dx (ac BX (ac HG (ac BW (ac (js n).2.2 an))))))))) bX,mk pS (mc (dy n) (ef n) (dN n)) (ac fc (ac (js n).1 an)) bX⟩
theorem BV:aG Pg 127 CE:=(js fuel).1
theorem J6:aG Pg 91 Kr:=mk zQ oa (ac fc (ac wj (ac O5 (ac BV (ac BY (ac Dw an)))))) bX
theorem Sj:aG Pg 61 Tk:=mk Iw v8 (ac MB (ac J6 an)) bX
theorem O6:aG Pg 29 Qu:=mk Fa rj (ac Ys (ac Sj (ac J7 an))) bX
theorem Mu:aG Pg 55 MX:=mk Cc mX an bX
theorem Hm:aG Pg 147 IJ:=mk xZ kz an bX
theorem Ms:aG Pg 115 MV:=mk Ca r8 an bX
theorem JU:aG Pg 116 Kd:=mk zF nY (ac fc an) bX
theorem Mr:aG Pg 117 MU:=mk B' pw (ac fc (ac Hm an)) bX
theorem OA:aG Pg 118 PK:=mk Ey gi (ac fc an) bX
theorem Mt:aG Pg 86 MW:=mk Cb px (ac fc (ac Ms (ac JU (ac Mr (ac OA an))))) bX
def tv1 (t:TypeId):Option Ty:=if aA t 49 then aa (.pr .un (.pr .un (.pr .un (.pr .un (.pr .un (.sl aM)))))) else bX t
theorem OC:aG Pg 59 PL:=mk Ez rc (ac fc (ac Dq (ac Mt an))) tv1
theorem Mv:aG Pg 28 MY:=mk Cd py (ac R2 (ac Mu (ac Hq (ac fc (ac Dq (ac OC an)))))) bX
theorem Dp:aG Pg 11 DN:=mk vy kA (ac Mv (ac O6 an)) bX
abbrev afd:List PV:=[.row 1,.row 2,.row 3,.row 4,.row 5,.row 6,.d (.sl aM),.row 7,.row 8]
abbrev Ld0:List PB:=[.cells 51 afd,.rows 49 ai (.sl aM),.rows 49 ai (.sl aM),.rows 49 ai (.sl aM),.rows 49 ai (.sl aM),.rows 49 ai (.sl aM),.rows 49 ai (.sl aM),.rows 49 ai (.sl aM),.rows 3 ah aM,.rows 3 ai aM]
abbrev Ld4:List PV:=[.d aM,.d aM,.d aM,.d aM,.d aM,.d (.sl aM),.d (.sl aM)]
abbrev Ld3:List PV:=[.d (.sl ka),.d (.sl qc),.d (.sl li),.d (.sl .str),.d (.sl .str),.d (.sl nQ)]
abbrev Ld1:List PB:=[.cells 54 Ld4,.cells 51 [.row 3,.row 4,.row 5,.row 6,.row 7,.row 8,.d (.sl aM),.row 9,.row 10],.cells 31 Ld3,.rows 49 ai (.sl aM),.rows 49 ai (.sl aM),.rows 49 ai (.sl aM),.rows 49 ai (.sl aM),.rows 49 ai (.sl aM),.rows 49 ai (.sl aM),.rows 49 ai (.sl aM),.rows 3 ah aM]
abbrev Ld2:List PB:=[.cells 51 afd,.rows 49 ai (.sl aM),.rows 49 ai (.sl aM),.rows 49 ai (.sl aM),.rows 49 ai (.sl aM),.rows 49 ai (.sl aM),.rows 49 ai (.sl aM),.rows 49 ai (.sl aM),.rows 3 ah aM,.rows 3 ai aM,.cells 54 Ld4]
abbrev Ld5:List PB:=[.rows 175 ai dP,.rows 4 ah .bool,.rows 177 ah gR,.cells 107 FU]
abbrev Ld6:List PB:=[.rows 175 ai dP,.rows 4 ah .bool,.rows 177 ah gR]
abbrev Vg:List PB:=[.rows 3 ah aM]
abbrev Ld8:List PB:=[.cells 110 [.d iy],.cells 54 [.d iS],.cells 221 [.d Kd1]]
abbrev Ld9:List PB:=[.rows 3 ah aM,.cells 3 [.d aM]]
abbrev aif:List PB:=[.cells 31 [.d nF],.cells 107 [.row 4,.d aM,.row 5,.row 6],.cells 3 [.d aM],.cells 107 AY,.rows 175 ai dP,.rows 4 ah .bool,.rows 177 ah gR]
abbrev Nz:List PB:=[.rows 3 ai aM]
abbrev aie:List PB:=[.cells 107 AY,.cells 107 [.row 2,.d aM,.row 3,.row 4],.rows 175 ai dP,.rows 4 ai .bool,.rows 177 ai gR]
abbrev ac0:List PB:=[.cells 34 [.d nP],.rows 59 ah ip]
abbrev QV:List PV:=[.row 0,.d aM]
abbrev Zw:List PB:=[.rows 49 ai (.sl aM)]
abbrev afc:List PB:=[.rows 49 ai (.sl aM),.rows 3 ai aM]
abbrev W2:List PB:=[.cells 54 [.d iS]]
abbrev afb:List PV:=[.d (.sl aM),.d (.sl aM)]
abbrev afa:List PV:=[.ptr 0 0,.ptr 1 0,.ptr 2 0]
def LB:FT:=⟨⟨Jk,[]⟩,⟨[.d aM],[]⟩,dI [(3,(.j ⟨[0,1],[12],⟨[.d .bool],[]⟩,[]⟩))]⟩
def Wz:ch:=cn LB iH
def Fc:FT:=⟨⟨afb,[]⟩,⟨qi,[]⟩,dI [(8,(.j ⟨[0,1,14],[5,15],⟨QV,Nz⟩,[]⟩))]⟩
def QD:ch:=cn Fc kP
def UR:FT:=⟨⟨Jk,[]⟩,⟨[.d aM],[]⟩,dI [(3,(.j ⟨[0,1],[12],⟨[.d .bool],[]⟩,[]⟩))]⟩
def ab4:ch:=cn UR BE
def UY:FT:=⟨⟨qi,[]⟩,⟨qi,[]⟩,.leaf⟩
def CI:ch:=cn UY Mm
def ael:ch:=⟨CI.pre,CI.post,Ay⟩
def IA:FT:=⟨⟨[.d uH],[]⟩,⟨[.row 0],Zw⟩,dI [(8,(.j ⟨[9,10],[3,11],⟨QV,Zw⟩,[]⟩))]⟩
def Tq:ch:=cn IA hP
def PH:FT:=⟨⟨qi,[]⟩,⟨[.row 0],Vg⟩,dI [(8,(.a [.nil 2 3 aM])),(12,(.a [.nil 2 3 aM]))]⟩
def yo:ch:=cn PH G'
def abj:ch:=⟨yo.pre,yo.post,ov⟩
def IB:FT:=⟨⟨[.d Kd0],[]⟩,⟨[.agg [.row 0,.row 1,.row 2,.row 3,.row 4,.row 5,.d (.sl aM),.row 6,.row 7]],[.rows 49 ai (.sl aM),.rows 49 ai (.sl aM),.rows 49 ai (.sl aM),.rows 49 ai (.sl aM),.rows 49 ai (.sl aM),.rows 49 ai (.sl aM),.rows 49 ai (.sl aM),.rows 3 ah aM]⟩,.leaf⟩
def Tr:ch:=cn IB sW
def Lx:FT:=⟨⟨QV,Zw⟩,⟨qi,Zw⟩,dI [(3,(.j ⟨[1],[0,12],⟨[.row 0,.d .bool],Zw⟩,[]⟩))]⟩
def Wt:ch:=cn Lx sA
def ID:FT:=⟨⟨afa,Ld1⟩,⟨[.d uH],Ld1⟩,dI [(18,(.j ⟨[6],[0,1,2,25],⟨CQ,Ld1⟩,[]⟩))]⟩
def Tt:ch:=cn ID sX
def Lz:FT:=⟨⟨[.d nF],[]⟩,⟨[.d Kd0],[]⟩,dI [(8,(.j ⟨[40],[2,3,41],⟨uF,[.cells 51 [.nil,.nil,.nil,.nil,.nil,.nil,.nil,.nil,.nil],.cells 51 [.row 2,.row 3,.row 4,.row 5,.row 6,.row 7,.nil,.row 8,.row 9],.rows 49 ai (.sl aM),.rows 49 ai (.sl aM),.rows 49 ai (.sl aM),.rows 49 ai (.sl aM),.rows 49 ai (.sl aM),.rows 49 ai (.sl aM),.rows 49 ai (.sl aM),.rows 3 ai aM]⟩,[]⟩))]⟩
def Wv:ch:=cn Lz o8
def Fb:FT:=⟨⟨Jk,[]⟩,⟨[.row 0],Nz⟩,dI [(4,(.j ⟨[0,1,5],[6],⟨[.d .bool],[]⟩,[]⟩)),(6,(.j ⟨[0,1,6],[5],⟨[.d aM],[]⟩,[]⟩)),(16,(.j ⟨[],[7],⟨[.row 0],Nz⟩,[]⟩)),(17,(.j ⟨[1],[7,33],⟨[.row 0,.d .bool],Nz⟩,[]⟩))]⟩
def Qz:ch:=cn Fb rm
def vC:FT:=⟨⟨[.row 0],Nz⟩,⟨qi,Nz⟩,.leaf⟩
def Y7:ch:=cn vC ve
def abi:ch:=⟨vC.pre,⟨vC.post.vs,[]⟩,tW⟩
def yT:FT:=⟨⟨[.d (.sl aM),.row 0],Nz⟩,⟨qi,Nz⟩,dI [(8,(.j ⟨[0,14],[1,5,15],⟨[.row 0,.row 1,.d aM],[.rows 3 ai aM,.rows 3 ai aM]⟩,[]⟩))]⟩
def abg:ch:=cn yT r_
def aek:ch:=⟨yT.pre,⟨yT.post.vs,[]⟩,Ax⟩
def Iy:FT:=⟨⟨[.row 0,.d aM,.row 1],afc⟩,⟨[],afc⟩,dI [(0,(.j ⟨[1],[0,2,13],⟨[.row 0,.row 1,.d .bool],afc⟩,[]⟩))]⟩
def To:ch:=cn Iy kV
def Py:FT:=⟨⟨[.ptr 0 0,.d aM,.row 9],Ld0⟩,⟨[],Ld0⟩,.leaf⟩
def Y2:ch:=cn Py u0
def Ly:FT:=⟨⟨[.d nF,.ptr 0 0,.d iS,.row 9],Ld0⟩,⟨[],Ld0⟩,dI [(6,(.j ⟨[],[],⟨[],Ld0⟩,[]⟩)),(11,(.j ⟨[20],[1,3,4,6,32],⟨[.ptr 0 0,.row 9,.ptr 10 0,.ptr 11 0,.d .bool],[.cells 51 afd,.rows 49 ai (.sl aM),.rows 49 ai (.sl aM),.rows 49 ai (.sl aM),.rows 49 ai (.sl aM),.rows 49 ai (.sl aM),.rows 49 ai (.sl aM),.rows 49 ai (.sl aM),.rows 3 ah aM,.rows 3 ai aM,.cells 31 Ld3,.cells 54 Ld4]⟩,[]⟩)),(48,(.j ⟨[],[1,3,6,129],⟨[.ptr 0 0,.row 9,.ptr 10 0,.d .bool],Ld2⟩,[]⟩)),(59,(.j ⟨[141],[1,3,6,140,142],⟨[.ptr 0 0,.row 9,.ptr 10 0,.row 8,.d aM],Ld2⟩,[]⟩)),(67,(.j ⟨[141,142],[1,3,6,140],⟨[.ptr 0 0,.row 9,.ptr 10 0,.row 8],Ld2⟩,[]⟩))]⟩
def Wu:ch:=cn Ly qz
def Pz:FT:=⟨⟨[.d nF,.d Kd0,.d iS],[]⟩,⟨[.d Kd0,.row 0],Nz⟩,dI [(14,(.j ⟨[22,23],[3,5,6,7,24],⟨[.ptr 0 0,.ptr 1 0,.ptr 2 0,.ptr 3 0,.d aM],[.cells 31 Ld3,.cells 54 Ld4,.cells 51 [.row 4,.row 5,.row 6,.row 7,.row 8,.row 9,.d (.sl aM),.row 10,.row 11],.cells 49 qi,.rows 49 ai (.sl aM),.rows 49 ai (.sl aM),.rows 49 ai (.sl aM),.rows 49 ai (.sl aM),.rows 49 ai (.sl aM),.rows 49 ai (.sl aM),.rows 49 ai (.sl aM),.rows 3 ah aM]⟩,[]⟩))]⟩
def Y3:ch:=cn Pz rk
def Pu:FT:=⟨⟨afb,[]⟩,⟨[.d .bool],[]⟩,dI [(6,(.j ⟨[0,1],[5],⟨[.d aM],[]⟩,[]⟩))]⟩
def YP:ch:=cn Pu re
def Lk:FT:=⟨⟨afb,[]⟩,⟨[.d .bool],[]⟩,dI [(2,(.j ⟨[],[4],⟨[.d .bool],[]⟩,[]⟩))]⟩
def Wc:ch:=cn Lk uT
def vx:FT:=⟨⟨[.d .str],[]⟩,⟨[.d .bool],[]⟩,dI [(6,(.j ⟨[0,5],[6],⟨[.d aM],[]⟩,[]⟩))]⟩
def DM:ch:=cn vx ky
def zE:FT:=⟨⟨[.d .str],[]⟩,⟨[.d .bool],[]⟩,dI [(3,(.j ⟨[0],[16],⟨[.d .bool],[]⟩,[]⟩)),(14,(.j ⟨[],[18],⟨[.ptr 0 0],[.mp li .un]⟩,[]⟩)),(24,(.j ⟨[],[18],⟨[.ptr 0 0],[.mp li .un]⟩,[]⟩)),(25,(.j ⟨[3,4],[18,23],⟨gI,[.mp li .un]⟩,[]⟩)),(29,(.j ⟨[],[18,38],⟨gI,[.mp li .un]⟩,[]⟩))]⟩
def Kc:ch:=cn zE nX
def IG:FT:=⟨⟨Jk,[]⟩,⟨[.d aM],[]⟩,dI [(6,(.j ⟨[0,1,7],[8],⟨[.d aM],[]⟩,[]⟩))]⟩
def TA:ch:=cn IG qA
def zV:FT:=⟨⟨Jk,[]⟩,⟨[.d .bool],[]⟩,.leaf⟩
def Kv:ch:=cn zV j6
def zU:FT:=⟨⟨[.d (.sl aM),.d ip],[]⟩,⟨[.d .bool],[]⟩,.leaf⟩
def Ku:ch:=cn zU lX
def IC:FT:=⟨⟨[.d iS],[]⟩,⟨[.d .bool],[]⟩,dI [(2,(.j ⟨[],[2],⟨[.d .bool],[]⟩,[]⟩))]⟩
def Ts:ch:=cn IC wa
def Cv:FT:=⟨⟨[.d nP,.d aM,.d aM],[]⟩,⟨[.d .bool],[]⟩,dI [(5,(.j ⟨[],[3,7,8,30],⟨CQ,[.cells 34 [.d nP],.cells 54 [.d iS],.cells 54 [.d iS]]⟩,[]⟩)),(13,(.j ⟨[],[7,8,48],⟨qL,[.cells 54 [.d iS],.cells 54 [.d iS]]⟩,[]⟩)),(20,(.j ⟨[],[6],⟨[.d .bool],[]⟩,[]⟩))]⟩
def Ni:ch:=cn Cv v_
def Iz:FT:=⟨⟨[.d (.sl iS)],[]⟩,⟨[.d (.sl ip)],[]⟩,dI [(10,(.j ⟨[11,12],[3,4,13],⟨[.mp 0,.row 1,.d aM],[.mp aM aM,.rows 66 ai ip]⟩,[.mpt 3 aM aM]⟩))]⟩
def Tp:ch:=cn Iz mJ
def xk:FT:=⟨⟨uE,[]⟩,⟨[.d .bool],[]⟩,dI [(2,(.j ⟨[],[4],⟨[.d .bool],[]⟩,[]⟩))]⟩
def FM:ch:=cn xk rF
def xl:FT:=⟨⟨[.d nF,.d aM,.d .bool],[]⟩,⟨[.d .bool],[]⟩,dI [(2,(.j ⟨[],[6],⟨[.d .bool],[]⟩,[]⟩))]⟩
def FN:ch:=cn xl rG
def rV:FT:=⟨⟨[.d (.sl ka)],[]⟩,⟨[.d (.sl .str),.d .bool],[]⟩,dI [(8,(.j ⟨[0],[4,5],⟨QV,[.rows 9 ah .str]⟩,[.nil 4 9 .str]⟩)),(15,(.j ⟨[0],[4,5],⟨QV,[.rows 9 ah .str]⟩,[]⟩)),(37,(.j ⟨[0,5],[4,6,49],⟨[.row 0,.ptr 1 0,.d .bool],[.rows 9 ah .str,.cells 134 [.d ka]]⟩,[]⟩)),(48,(.j ⟨[0,5,51],[4,6,52],⟨[.row 0,.ptr 1 0,.d aM],[.rows 9 ah .str,.cells 134 [.d ka]]⟩,[]⟩))]⟩
def zo:ch:=cn rV gK
def rU:FT:=⟨⟨[.d nF,.d (.sl .str)],[]⟩,⟨[.d .bool],[]⟩,dI [(10,(.j ⟨[17,18],[2,5,19],⟨Kx,W6⟩,[]⟩)),(27,(.j ⟨[30,31],[2,5,32],⟨Kx,W6⟩,[]⟩)),(50,(.j ⟨[52],[10,51,53],⟨[.mp 0,.row 1,.d aM],[.mp .str .bool,.rows 9 ah .str]⟩,[.mpt 10 .str .bool]⟩)),(62,(.j ⟨[12,52,53],[10,51,64],⟨[.mp 0,.row 1,.d .bool],[.mp .str .bool,.rows 9 ah .str]⟩,[.mpt 10 .str .bool]⟩))]⟩
def zn:ch:=cn rU dD
def rT:FT:=⟨⟨[.d nF],[]⟩,⟨[.d .bool],[]⟩,dI [(8,(.j ⟨[8,9],[1,3,4,10],⟨[.ptr 0 0,.d aM,.d aM,.d aM],ph⟩,[]⟩)),(20,(.j ⟨[3,4,8,9,10],[1,6,25],⟨qL,[.cells 31 [.d nF],.cells 141 [.d nQ]]⟩,[]⟩)),(27,(.j ⟨[8,9,10],[1,3,4,6],⟨[.ptr 0 0,.d aM,.d aM,.ptr 1 0],[.cells 31 [.d nF],.cells 141 [.d nQ]]⟩,[]⟩))]⟩
def zm:ch:=cn rT fI
def rW:FT:=⟨⟨[.d nF],[]⟩,⟨[.d .bool],[]⟩,dI [(3,(.j ⟨[],[1,34],⟨gI,ph⟩,[]⟩)),(11,(.j ⟨[],[1,44],⟨gI,ph⟩,[]⟩)),(21,(.j ⟨[],[1,58],⟨gI,ph⟩,[]⟩)),(32,(.j ⟨[60,61],[1,62],⟨vJ,ph⟩,[]⟩))]⟩
def zq:ch:=cn rW dE
def zP:FT:=⟨⟨[.d nF],[]⟩,⟨[.d FW],[]⟩,dI [(8,(.j ⟨[20],[2,3,21],⟨uF,aie⟩,[]⟩)),(21,(.j ⟨[],[2,3],⟨[.ptr 0 0,.ptr 1 0],aie⟩,[]⟩))]⟩
def Kp:ch:=cn zP n_
def ue:FT:=⟨⟨[.d nF],[]⟩,⟨[.d iy],[]⟩,dI [(8,(.j ⟨[22,23],[2,3,24],⟨uF,[.cells 110 uG,.cells 110 [.d (.sl dP),.d aM,.d pi,.d (.sl gR),.row 2,.row 3,.row 4],.rows 2 ai aM,.rows 2 ai aM,.rows 3 ai aM]⟩,[]⟩))]⟩
def Cz:ch:=cn ue c7
def ry:FT:=⟨⟨[.d pi,.d iS],[]⟩,⟨[.d .bool],[]⟩,dI [(6,(.j ⟨[0,13],[14],⟨[.d aM],[]⟩,[]⟩)),(20,(.j ⟨[0,13,14,17,18],[19],⟨[.d aM],[]⟩,[]⟩)),(31,(.j ⟨[0,13,14,17,18,19],[37],⟨[.d .bool],[]⟩,[]⟩))]⟩
def yk:ch:=cn ry b_
def yc:FT:=⟨⟨uE,[]⟩,⟨[.d .bool],[]⟩,dI [(2,(.j ⟨[],[4],⟨[.d .bool],[]⟩,[]⟩))]⟩
def IR:ch:=cn yc eP
def xf:FT:=⟨⟨[.d nF,.d aM,.d aM],[]⟩,⟨[.d .bool],[]⟩,dI [(6,(.j ⟨[2,7],[3,8],⟨gI,ph⟩,[]⟩)),(36,(.j ⟨[2,7],[3,18],⟨gI,ph⟩,[]⟩)),(46,(.j ⟨[2,7],[3,26],⟨gI,ph⟩,[]⟩)),(53,(.j ⟨[],[6],⟨[.d .bool],[]⟩,[]⟩)),(56,(.j ⟨[2,7],[3,43],⟨gI,ph⟩,[]⟩)),(71,(.j ⟨[],[6],⟨[.d .bool],[]⟩,[]⟩)),(74,(.j ⟨[2,7],[3,61],⟨gI,ph⟩,[]⟩)),(92,(.j ⟨[2,7],[3,71],⟨gI,ph⟩,[]⟩)),(102,(.j ⟨[2],[3,79],⟨gI,ph⟩,[]⟩))]⟩
def FG:ch:=cn xf lz
def Cp:FT:=⟨⟨[.d nF,.d FW],[]⟩,⟨[.d .bool],[]⟩,dI [(3,(.j ⟨[],[2,31],⟨gI,ph⟩,[]⟩)),(14,(.j ⟨[33,34],[2,35],⟨vJ,ph⟩,[]⟩))]⟩
def M_:ch:=cn Cp jQ
def zN:FT:=⟨⟨[.d nF,.d FW,.d aM,.d aM,.d aM],[]⟩,⟨[.d .bool],[]⟩,dI [(15,(.j ⟨[],[10],⟨[.d .bool],[]⟩,[]⟩)),(21,(.j ⟨[],[10],⟨[.d .bool],[]⟩,[]⟩)),(24,(.j ⟨[2,4,11],[5,6,60],⟨qL,T3⟩,[]⟩)),(64,(.j ⟨[2,4,11],[5,6,109],⟨qL,T3⟩,[]⟩)),(81,(.j ⟨[],[10],⟨[.d .bool],[]⟩,[]⟩)),(87,(.j ⟨[],[10],⟨[.d .bool],[]⟩,[]⟩))]⟩
def Kn:ch:=cn zN nZ
def xg:FT:=⟨⟨[.d nF,.d FW,.d aM,.d aM,.d aM],[]⟩,⟨[.d .bool],[]⟩,dI [(3,(.j ⟨[2,3,4],[5,6,30],⟨qL,T3⟩,[]⟩)),(25,(.j ⟨[],[10],⟨[.d .bool],[]⟩,[]⟩)),(29,(.j ⟨[],[10],⟨[.d .bool],[]⟩,[]⟩))]⟩
def FH:ch:=cn xg iN
def vu:FT:=⟨⟨[.d nF,.d iy],[]⟩,⟨[.d .bool],[]⟩,dI [(2,(.j ⟨[],[4],⟨[.d .bool],[]⟩,[]⟩))]⟩
def DK:ch:=cn vu kx
def tm:FT:=⟨⟨[.d nF,.d iS],[]⟩,⟨[.d .bool],[]⟩,dI [(3,(.j ⟨[],[2,3,12],⟨qL,[.cells 31 [.d nF],.cells 54 [.d iS]]⟩,[]⟩)),(10,(.j ⟨[],[4],⟨[.d .bool],[]⟩,[]⟩))]⟩
def AL:ch:=cn tm jh
def pO:FT:=⟨⟨[.d nF,.d iy,.d iS],[]⟩,⟨[.d .bool],[]⟩,dI [(2,(.j ⟨[],[4,5,7],⟨qL,[.cells 110 [.d iy],.cells 54 [.d iS]]⟩,[]⟩)),(4,(.j ⟨[],[4,5,8],⟨afa,Ld8⟩,[]⟩)),(10,(.j ⟨[51],[4,5,8,52],⟨D7,Ld8⟩,[]⟩)),(22,(.j ⟨[10,51,52],[4,5,8,64],⟨CQ,Ld8⟩,[]⟩)),(34,(.j ⟨[51,52,65,66],[4,5,8,11,67],⟨[.ptr 0 0,.ptr 1 0,.ptr 2 0,.d aM,.d aM],Ld8⟩,[]⟩)),(46,(.j ⟨[13,51,52,65,66,67],[4,5,8,83],⟨CQ,Ld8⟩,[]⟩))]⟩
def wL:ch:=cn pO eL
def tj:FT:=⟨⟨[.d iy,.d iS],[]⟩,⟨[.d .bool],[]⟩,dI [(21,(.j ⟨[],[4],⟨[.d .bool],[]⟩,[]⟩)),(24,(.j ⟨[13],[2,3,46],⟨qL,[.cells 110 [.d iy],.cells 54 [.d iS]]⟩,[]⟩)),(43,(.j ⟨[53,54],[3,5,6,55],⟨[.ptr 0 0,.d aM,.d .bool,.d aM],W2⟩,[]⟩)),(51,(.j ⟨[53,54,55],[3,5,6],⟨[.ptr 0 0,.d aM,.d .bool],W2⟩,[]⟩)),(54,(.j ⟨[5,6,7,53,54,55],[3,69],⟨gI,W2⟩,[]⟩)),(62,(.j ⟨[],[4],⟨[.d .bool],[]⟩,[]⟩)),(74,(.j ⟨[94,95],[3,9,96],⟨QZ,W2⟩,[]⟩)),(82,(.j ⟨[94,95,96],[3,9],⟨vJ,W2⟩,[]⟩)),(85,(.j ⟨[9,94,95,96],[3,109],⟨gI,W2⟩,[]⟩))]⟩
def AK:ch:=cn tj gf
def zM:FT:=⟨⟨[.d gR,.d aM],[]⟩,⟨[.d .bool],[]⟩,dI [(2,(.j ⟨[],[4],⟨[.d .bool],[]⟩,[]⟩))]⟩
def Km:ch:=cn zM lV
def PI:FT:=⟨⟨[.d pi],[]⟩,⟨[.d pi],[]⟩,.leaf⟩
def yp:ch:=cn PI Hb
def abk:ch:=⟨yp.pre,yp.post,Ml⟩
def LG:FT:=⟨⟨[.d pi],[]⟩,⟨[.row 0],[.rows 4 ah .bool]⟩,dI [(8,(.a [.nil 2 4 .bool])),(12,(.a [.nil 2 4 .bool]))]⟩
def vH:ch:=cn LG Di
def Y9:ch:=⟨vH.pre,vH.post,Ha⟩
def PF:FT:=⟨⟨[.d (.sl gR)],[]⟩,⟨[.d (.sl gR)],[]⟩,.leaf⟩
def yn:ch:=cn PF G_
def abh:ch:=⟨yn.pre,yn.post,Mk⟩
def LD:FT:=⟨⟨[.d (.sl gR)],[]⟩,⟨[.row 0],[.rows 177 ah gR]⟩,dI [(8,(.a [.nil 2 177 gR])),(12,(.a [.nil 2 177 gR]))]⟩
def vF:ch:=cn LD Dg
def Y6:ch:=⟨vF.pre,vF.post,G9⟩
def LF:FT:=⟨⟨qi,[]⟩,⟨[.row 0],[.rows 2 ah aM]⟩,dI [(8,(.a [.nil 2 2 aM])),(12,(.a [.nil 2 2 aM]))]⟩
def vG:ch:=cn LF Dh
def Y8:ch:=⟨vG.pre,vG.post,xK⟩
def zO:FT:=⟨⟨[.d FW],[]⟩,⟨[.agg FU],Ld6⟩,dI [(8,(.j ⟨[11,12],[1,2,3,13],⟨[.ptr 0 0,.ptr 1 0,.row 2,.d aM],[.cells 107 [.d FW],.cells 107 AY,.rows 175 ai dP]⟩,[]⟩))]⟩
def Ko:ch:=cn zO jZ
def yd:FT:=⟨⟨[.agg FU,.d aM,.d aM],Ld6⟩,⟨[.d aM],Ld6⟩,dI [(8,(.j ⟨[1,2,12],[3,7,11,13],⟨[.ptr 3 0,.d aM,.row 2,.d aM],Ld5⟩,[]⟩)),(16,(.j ⟨[1,2,12,13],[3,7,11],⟨[.ptr 3 0,.d aM,.row 2],Ld5⟩,[]⟩)),(19,(.j ⟨[1,2,7,8,12,13],[3,11,29],⟨[.ptr 3 0,.row 2,.d .bool],Ld5⟩,[]⟩)),(25,(.j ⟨[7],[],⟨[],Ld6⟩,[]⟩))]⟩
def IU:ch:=cn yd jq
def uf:FT:=⟨⟨[.agg FU,.d aM],Ld6⟩,⟨[.d aM],Ld6⟩,dI [(8,(.j ⟨[1,10],[2,5,9,11],⟨[.ptr 3 0,.d aM,.row 2,.d aM],Ld5⟩,[]⟩)),(16,(.j ⟨[1,10,11],[2,5,9],⟨[.ptr 3 0,.d aM,.row 2],Ld5⟩,[]⟩))]⟩
def CD:ch:=cn uf gE
def yh:FT:=⟨⟨[.d aM],[]⟩,⟨[.d .bool],[]⟩,.leaf⟩
def I2:ch:=cn yh pG
def zS:FT:=⟨⟨uE,[]⟩,⟨[.d .bool],[]⟩,dI [(2,(.j ⟨[],[4],⟨[.d .bool],[]⟩,[]⟩))]⟩
def Kt:ch:=cn zS uw
def vB:FT:=⟨⟨[.d (.int .u64)],[]⟩,⟨[.d aM],[]⟩,.leaf⟩
def DS:ch:=cn vB qx
def yg:FT:=⟨⟨[.d (.int .u64)],[]⟩,⟨[.d aM],[]⟩,.leaf⟩
def IY:ch:=cn yg sV
def nE:FT:=⟨⟨[.row 0,.d aM,.d aM],Vg⟩,⟨[],Vg⟩,dI [(3,(.j ⟨[1,2],[0,6],⟨QV,Vg⟩,[]⟩)),(15,(.j ⟨[1,2,6],[0,7],⟨QV,Vg⟩,[]⟩)),(17,(.j ⟨[1,2,6,7],[0,30],⟨[.row 0,.d .bool],Vg⟩,[]⟩))]⟩
def tK:ch:=cn nE fB
def rS:FT:=⟨⟨[.row 0,.d aM,.d aM,.d aM],Vg⟩,⟨[],Vg⟩,dI [(5,(.j ⟨[],[0,1,2,3,8,9],⟨[.row 0,.d aM,.d aM,.d aM,.d .bool,.d .bool],Vg⟩,[]⟩))]⟩
def zk:ch:=cn rS iQ
def LC:FT:=⟨⟨[.row 0],Vg⟩,⟨[],Vg⟩,.leaf⟩
def WA:ch:=cn LC vb
def Cy:FT:=⟨⟨[.row 0],Vg⟩,⟨[.row 0],Vg⟩,dI [(14,(.j ⟨[],[0,3],⟨QV,Vg⟩,[]⟩))]⟩
def Nm:ch:=cn Cy kX
def xh:FT:=⟨⟨[.d aM,.ptr 0 0],[.cells 3 [.d aM]]⟩,⟨[.d .bool],[.cells 3 [.d aM]]⟩,.leaf⟩
def FI:ch:=cn xh ou
def yi:FT:=⟨⟨[.row 0,.clo 140 1 0],Ld9⟩,⟨[.d aM],Ld9⟩,dI [(6,(.j ⟨[7],[0,1,8],⟨[.row 0,.clo 140 1 0,.d aM],Ld9⟩,[]⟩))]⟩
def I3:ch:=cn yi mK
def xm:FT:=⟨⟨[.row 0,.clo 140 1 0],Ld9⟩,⟨[.row 2],[.gone,.cells 3 [.d aM],.rows 3 ai aM]⟩,dI [(16,(.j ⟨[],[0,1,5,6],⟨[.row 0,.clo 140 1 0,.d aM,.d aM],Ld9⟩,[]⟩)),(24,(.j ⟨[6],[0,1,5],⟨[.row 0,.clo 140 1 0,.d aM],Ld9⟩,[]⟩))]⟩
def FO:ch:=cn xm iO
def mP:FT:=⟨⟨[.d nF,.d FW,.d aM,.d aM,.d aM,.d aM],[]⟩,⟨[.d FW,.d aM,.d .bool],[]⟩,dI [(17,(.j ⟨[],[7,12,15],⟨uF,[.cells 107 [.row 2,.d aM,.row 3,.row 4],.cells 107 AY,.rows 175 ai dP,.rows 4 ah .bool,.rows 177 ah gR]⟩,[]⟩)),(26,(.j ⟨[4,5,15,27],[6,7,8,12,42],⟨yz,aif⟩,[]⟩)),(34,(.j ⟨[4,5,15,27],[6,7,8,12,51],⟨yz,aif⟩,[]⟩))]⟩
def IX:ch:=cn mP gF
def ye:FT:=⟨⟨[.d FW],[]⟩,⟨[.agg [.csl 0 2 3,.d aM,.d pi,.d (.sl gR)]],[.cells 175 [.d aM,.row 1,.d aM,.row 2,.d aM,.row 3],.rows 3 ah aM,.rows 3 ah aM,.rows 3 ah aM]⟩,dI [(7,(.j ⟨[],[1,2,3],⟨[.ptr 0 0,.ptr 1 0,.csl 2 2 3],[.cells 107 [.d FW],.cells 107 AY,.cells 175 [.d aM,.row 3,.d aM,.row 4,.d aM,.row 5],.rows 3 ah aM,.rows 3 ah aM,.rows 3 ah aM]⟩,[.cel 3 1 3 aM,.cel 3 3 3 aM,.cel 3 5 3 aM]⟩)),(8,(.u 4))]⟩
def IV:ch:=cn ye mI
def yf:FT:=⟨⟨[.d nF,.d FW,.d aM,.d aM,.d aM,.d aM],[]⟩,⟨[.d FW,.d aM,.d .bool],[]⟩,dI [(17,(.j ⟨[],[7,12,15],⟨uF,[.cells 107 [.csl 2 2 3,.d aM,.d pi,.d (.sl gR)],.cells 107 AY,.cells 175 [.d dP,.d dP,.d aM,.row 3],.rowsP 3 aM]⟩,[]⟩)),(26,(.j ⟨[4,5,15,27],[6,7,8,12,42],⟨yz,[.cells 31 [.d nF],.cells 107 [.csl 4 2 3,.d aM,.d pi,.d (.sl gR)],.cells 3 [.d aM],.cells 107 AY,.cells 175 [.d aM,.row 5,.d aM,.row 6,.d aM,.row 7],.rows 3 ah aM,.rows 3 ah aM,.rows 3 ah aM]⟩,[]⟩)),(33,(.s 4 0 0 0)),(34,(.j ⟨[4,5,15,27],[6,7,8,12,51],⟨yz,[.cells 31 [.d nF],.cells 107 [.csl 4 2 3,.d aM,.d pi,.d (.sl gR)],.cells 3 [.d aM],.cells 107 AY,.cells 175 [.d aM,.d (.sl aM),.d aM,.d (.sl aM),.d aM,.row 5],.rows 3 ah aM]⟩,[]⟩)),(41,(.s 4 0 0 0)),(46,(.s 4 0 0 3)),(53,(.s 4 0 0 3)),(74,(.s 4 0 0 0)),(80,(.s 4 0 0 0)),(100,(.a [.pk 7 0 dP]))]⟩
def IW:ch:=cn yf kB
def Kq:ch:=cn mP qQ
def vw:FT:=⟨⟨[.d nF,.d iy,.d iS],[]⟩,⟨[.d iy,.d .bool],[]⟩,dI [(3,(.j ⟨[],[3,4,5,6,39],⟨yz,Jo⟩,[]⟩)),(11,(.j ⟨[],[3,4,5,6,70],⟨yz,Jo⟩,[]⟩)),(20,(.j ⟨[],[3,4,5,6,8],⟨[.ptr 0 0,.ptr 1 0,.ptr 2 0,.ptr 3 0,.d aM],Jo⟩,[]⟩)),(41,(.j ⟨[],[5,6,12],⟨afa,aff⟩,[]⟩))]⟩
def DL:ch:=cn vw fw
def tB:FT:=⟨⟨[.d nP],[]⟩,⟨uE,[]⟩,dI [(26,(.j ⟨[27,28],[1,4,5,29],⟨[.ptr 0 0,.ptr 1 0,.csl 2 1 1,.d aM],[.cells 34 [.d nP],.cells 110 [.d iy],.cells 104 [.row 3],.rows 4 ah .bool]⟩,[.cel 5 0 4 .bool]⟩)),(40,(.j ⟨[6,27,28,29],[1,4,5,7,8,53],⟨[.ptr 0 0,.ptr 1 0,.csl 2 1 1,.ptr 3 0,.ptr 4 0,.d .bool],[.cells 34 [.d nP],.cells 110 [.d iy],.cells 104 [.row 5],.cells 54 [.d iS],.cells 110 [.d iy],.rows 4 ah .bool]⟩,[]⟩)),(41,(.s 7 0 0 1)),(47,(.j ⟨[27,28,29],[1,4,5,8],⟨[.ptr 0 0,.ptr 1 0,.csl 2 1 1,.ptr 3 0],[.cells 34 [.d nP],.cells 110 [.d iy],.cells 104 [.row 4],.cells 110 [.d iy],.rows 4 ah .bool]⟩,[]⟩)),(48,(.s 7 0 0 1))]⟩
def AS:ch:=cn tB dU
def tw:FT:=⟨⟨[.d nP],[]⟩,⟨uE,[]⟩,dI [(26,(.j ⟨[27,28],[1,4,5,29],⟨[.ptr 0 0,.ptr 1 0,.csl 2 1 2,.d aM],[.cells 34 [.d nP],.cells 110 [.d iy],.cells 104 [.row 3,.row 4],.rows 4 ah .bool,.rows 4 ah .bool]⟩,[.cel 5 0 4 .bool,.cel 5 1 4 .bool]⟩)),(40,(.j ⟨[6,27,28,29],[1,4,5,7,8,53],⟨[.ptr 0 0,.ptr 1 0,.csl 2 1 2,.ptr 3 0,.ptr 4 0,.d .bool],[.cells 34 [.d nP],.cells 110 [.d iy],.cells 104 [.row 5,.row 6],.cells 54 [.d iS],.cells 110 [.d iy],.rows 4 ah .bool,.rows 4 ah .bool]⟩,[]⟩)),(41,(.s 7 0 0 2)),(47,(.j ⟨[27,28,29],[1,4,5,8],⟨[.ptr 0 0,.ptr 1 0,.csl 2 1 2,.ptr 3 0],[.cells 34 [.d nP],.cells 110 [.d iy],.cells 104 [.row 4,.row 5],.cells 110 [.d iy],.rows 4 ah .bool,.rows 4 ah .bool]⟩,[]⟩)),(48,(.s 7 0 0 2))]⟩
def AQ:ch:=cn tw c8
def tu:FT:=⟨⟨[.d nP],[]⟩,⟨uE,[]⟩,dI [(26,(.j ⟨[27,28],[1,4,5,29],⟨[.ptr 0 0,.ptr 1 0,.csl 2 1 3,.d aM],[.cells 34 [.d nP],.cells 110 [.d iy],.cells 104 [.row 3,.row 4,.row 5],.rows 4 ah .bool,.rows 4 ah .bool,.rows 4 ah .bool]⟩,[.cel 5 0 4 .bool,.cel 5 1 4 .bool,.cel 5 2 4 .bool]⟩)),(40,(.j ⟨[6,27,28,29],[1,4,5,7,8,53],⟨[.ptr 0 0,.ptr 1 0,.csl 2 1 3,.ptr 3 0,.ptr 4 0,.d .bool],[.cells 34 [.d nP],.cells 110 [.d iy],.cells 104 [.row 5,.row 6,.row 7],.cells 54 [.d iS],.cells 110 [.d iy],.rows 4 ah .bool,.rows 4 ah .bool,.rows 4 ah .bool]⟩,[]⟩)),(41,(.s 7 0 0 3)),(47,(.j ⟨[27,28,29],[1,4,5,8],⟨[.ptr 0 0,.ptr 1 0,.csl 2 1 3,.ptr 3 0],[.cells 34 [.d nP],.cells 110 [.d iy],.cells 104 [.row 4,.row 5,.row 6],.cells 110 [.d iy],.rows 4 ah .bool,.rows 4 ah .bool,.rows 4 ah .bool]⟩,[]⟩)),(48,(.s 7 0 0 3))]⟩
def AO:ch:=cn tu dB
def eM:FT:=⟨⟨[.d nP],[]⟩,⟨uE,[]⟩,dI [(26,(.j ⟨[27,28],[1,4,5,29],⟨[.ptr 0 0,.ptr 1 0,.csl 2 1 4,.d aM],[.cells 34 [.d nP],.cells 110 [.d iy],.cells 104 [.row 3,.row 4,.row 5,.row 6],.rows 4 ah .bool,.rows 4 ah .bool,.rows 4 ah .bool,.rows 4 ah .bool]⟩,[.cel 5 0 4 .bool,.cel 5 1 4 .bool,.cel 5 2 4 .bool,.cel 5 3 4 .bool]⟩)),(40,(.j ⟨[6,27,28,29],[1,4,5,7,8,53],⟨[.ptr 0 0,.ptr 1 0,.csl 2 1 4,.ptr 3 0,.ptr 4 0,.d .bool],[.cells 34 [.d nP],.cells 110 [.d iy],.cells 104 [.row 5,.row 6,.row 7,.row 8],.cells 54 [.d iS],.cells 110 [.d iy],.rows 4 ah .bool,.rows 4 ah .bool,.rows 4 ah .bool,.rows 4 ah .bool]⟩,[]⟩)),(41,(.s 7 0 0 4)),(47,(.j ⟨[27,28,29],[1,4,5,8],⟨[.ptr 0 0,.ptr 1 0,.csl 2 1 4,.ptr 3 0],[.cells 34 [.d nP],.cells 110 [.d iy],.cells 104 [.row 4,.row 5,.row 6,.row 7],.cells 110 [.d iy],.rows 4 ah .bool,.rows 4 ah .bool,.rows 4 ah .bool,.rows 4 ah .bool]⟩,[]⟩)),(48,(.s 7 0 0 4))]⟩
def AM:ch:=cn eM dT
def CA:ch:=cn eM l8
def IE:FT:=⟨⟨[.d nP],[]⟩,⟨[.d uH,.d aM],[]⟩,dI [(20,(.j ⟨[25,26],[1,6,7,27],⟨[.ptr 0 0,.ptr 1 0,.row 2,.d aM],[.cells 34 [.d nP],.cells 51 [.d Kd0],.rows 49 ai (.sl aM)]⟩,[]⟩))]⟩
def Tu:ch:=cn IE kW
def LA:FT:=⟨⟨[.d nP],[]⟩,⟨[.d (.sl ip),.d aM],[]⟩,dI [(20,(.j ⟨[4,6,23],[1,7,24],⟨Kx,ac0⟩,[.nil 7 59 ip]⟩)),(34,(.j ⟨[4,6,8,23,24,27],[1,7,28],⟨Kx,ac0⟩,[]⟩)),(42,(.j ⟨[4,6,8,23,24,27,28],[1,7],⟨[.ptr 0 0,.row 1],ac0⟩,[]⟩)),(45,(.j ⟨[4,6,8,9,23,24,27,28],[1,7,46],⟨[.ptr 0 0,.row 1,.d .bool],ac0⟩,[]⟩))]⟩
def Ww:ch:=cn LA sB
def UX:FT:=⟨⟨[],[]⟩,⟨[.d nF],[]⟩,dI [(8,(.j ⟨[21],[0,1,22],⟨uF,ac9⟩,[.cel 1 5 141 nQ]⟩)),(22,(.j ⟨[2,21,22],[0,1,3],⟨uF,ac9⟩,[]⟩))]⟩
def abf:ch:=cn UX BH
def Ix:FT:=⟨⟨[.d .bool],[]⟩,⟨[.d nP],[]⟩,dI [(6,(.j ⟨[],[2,3],⟨[.ptr 0 0,.ptr 1 0],[.cells 34 W7,.cells 34 [.d (.sl ka),.d (.sl qc),.d (.sl li),.d (.sl .str),.d (.sl .str),.d (.sl nQ),.row 2],.rows 54 ai iS]⟩,[]⟩))]⟩
def Tn:ch:=cn Ix v9
def Ct:FT:=⟨⟨[],[]⟩,⟨[.d .bool],[]⟩,dI [(6,(.j ⟨[],[0],⟨[.d .bool],[]⟩,[]⟩))]⟩
def Nd:ch:=cn Ct pF
theorem Dy:aG Pg 70 Wz:=mk LB iH an bX
theorem Oo x:kK (kP x) (xH x):=by
 unfold kP xH ub ck bu bA aU cK aD cw;with_reducible repeat' first|(refine OI.o ?_;constructor)|intro _
theorem O8:aG Pg 46 QD:=xw Fc kP xH Oo (ac Dy an) bX
theorem aaj:aG Pg 52 ab4:=mk UR BE an bX
theorem aaq:aG Pg 73 CI:=mk UY Mm an bX
theorem YE:aG Pg 73 ael:= @aG.sub Pg 73 CI.pre CI.post Mm Ay aaq rfl (λx y h=>qJ (b:=8) x y h)
theorem RG x:kK (hP x) (Aq x):=by
 unfold hP Aq wv ck bu vP bA aU cK aD cw;with_reducible repeat' first|(refine OI.o ?_;constructor)|intro _
theorem Sm:aG Pg 72 Tq:=xw IA hP Aq RG (ac YE an) bX
theorem YA:aG Pg 73 yo:=mk PH G' an bX
theorem MI:aG Pg 73 abj:= @aG.sub Pg 73 yo.pre yo.post G' ov YA rfl (λx y h=>qJ (b:=8) x y h)
theorem Sn:aG Pg 43 Tr:=mk IB sW (ac Sm (ac MI an)) bX
theorem VU:aG Pg 45 Wt:=mk Lx sA an bX
theorem Sp:aG Pg 44 Tt:=mk ID sX (ac VU an) bX
theorem Vv x:kK (o8 x) (Dc x):=by
 unfold o8 Dc yP aV bk bt ct eo kc pj ck bu bA aU cK aD cw;with_reducible repeat' first|(refine OI.o ?_;constructor)|intro _
theorem VW:aG Pg 19 Wv:=xw Lz o8 Dc Vv an bX
theorem O7:aG Pg 47 Qz:=mk Fb rm an bX
theorem Yz:aG Pg 73 Y7:=mk vC ve an bX
theorem UG:aG Pg 73 abi:= @aG.ro Pg 73 vC.pre vC.post.vs ve tW (Yz.holds rfl) rfl (λx _ h=>by rw[show tW x=obind (ve x) λy=>same y.2 x (aa y.1) from gx (obind _) (funext λ_=>N8 ..)] at h;exact h)
theorem aa6 x:kK (r_ x) (Mj x):=by
 unfold r_ Mj Gh ck bu bA aU cK aD cw;with_reducible repeat' first|(refine OI.o ?_;constructor)|intro _
theorem aan:aG Pg 46 abg:=xw yT r_ Mj aa6 (ac Dy an) bX
theorem Yw:aG Pg 46 aek:= @aG.ro Pg 46 yT.pre yT.post.vs r_ Ax (aan.holds rfl) rfl (λx _ h=>by rw[show Ax x=obind (r_ x) λy=>same y.2 x.2 (aa y.1) from gx (obind _) (funext λ_=>N8 ..)] at h;exact h)
theorem Sl:aG Pg 74 To:=mk Iy kV (ac Yw an) bX
theorem Yu:aG Pg 75 Y2:=mk Py u0 (ac UG an) bX
theorem Vu x:kK (qz x) (Db x):=by
 unfold qz Db yO CV Prod.p11 Prod.p12 Prod.p13 Prod.p14 Prod.p15 Prod.p16 Prod.p17 aV bk bt ct eo kc yD Bf Prod.q10 Prod.q16 Prod.q17 Prod.q18 cQ l7 Prod.q9 ck bc bu jC vP bA aU cK aD cw;with_reducible repeat' first|(refine OI.o ?_;constructor)|intro _
theorem VV:aG Pg 48 Wu:=xw Ly qz Db Vu (ac Yw (ac UG (ac Sl (ac Yu an)))) bX
theorem X6 x:kK (rk x) (G6 x):=by
 unfold rk G6 B1 CV Prod.p11 aV bk bt ct eo kc yD Bf Prod.q11 Prod.q12 cQ eU pj Prod.q9 ck bu vP bA aU cK cw;with_reducible repeat' first|(refine OI.o ?_;constructor)|intro _
theorem Yv:aG Pg 20 Y3:=xw Pz rk G6 X6 (ac Sn (ac Sp (ac O8 (ac O7 (ac VV an))))) bX
theorem X1 x:kK (re x) (G5 x):=by
 unfold re G5 BZ bu aU cK aD cw;with_reducible repeat' first|(refine OI.o ?_;constructor)|intro _
theorem Yr:aG Pg 49 YP:=xw Pu re G5 X1 (ac aaj an) bX
theorem VK:aG Pg 21 Wc:=mk Lk uT (ac Yr an) bX
theorem C' x:kK (ky x) (ql x):=by
 unfold ky ql qE CV Prod.p11 Prod.p12 Prod.p13 Prod.p14 Prod.p15 Prod.p16 Prod.p17 Prod.p18 Prod.p19 aV Prod.p20 bk bt ct eo kc yD Bf Prod.q21 bu bA cK aD cw;with_reducible repeat' first|(refine OI.o ?_;constructor)|intro _
theorem Do:aG Pg 163 DM:=xw vx ky ql C' an bX
theorem JI x:kK (nX x) (ur x):=by
 unfold nX ur uy bc bu jC bA aU cK aD;with_reducible repeat' first|(refine OI.o ?_;constructor)|intro _
theorem JS:aG Pg 130 Kc:=xw zE nX ur JI (ac Do an) bX
theorem RJ x:kK (qA x) (As x):=by
 unfold qA As wB bc bu bF aU cK aD cw;with_reducible repeat' first|(refine OI.o ?_;constructor)|intro _
theorem Sr:aG Pg 195 TA:=xw IG qA As RJ an bX
theorem J9:aG Pg 164 Kv:=mk zV j6 (ac Sr an) bX
theorem zB:aG Pg 39 Ku:=mk zU lX (ac Dy an) bX
theorem So:aG Pg 69 Ts:=mk IC wa an bX
theorem MG:aG Pg 38 Ni:=mk Cv v_ (ac So an) bX
theorem RF x:kK (mJ x) (Ap x):=by
 unfold mJ Ap wu ck bu bA bF aU cK aD cw;with_reducible repeat' first|(refine OI.o ?_;constructor)|intro _
theorem HH:aG Pg 37 Tp:=xw Iz mJ Ap RF an bX
theorem Fx:aG Pg 131 FM:=mk xk rF an bX
theorem Fy:aG Pg 94 FN:=mk xl rG (ac Fx an) bX
theorem y_ x:kK (gK x) (nJ x):=by
 unfold gK nJ nN aV bk bt ct di eU bc bu iL bA bF aU cK aD cw;with_reducible repeat' first|(refine OI.o ?_;constructor)|intro _
theorem zh:aG Pg 92 zo:=xw rV gK nJ y_ an bX
theorem yZ x:kK (dD x) (nI x):=by
 unfold dD nI nM aV bk bt bu bA bF kj aU cK aD cw;with_reducible repeat' first|(refine OI.o ?_;constructor)|intro _
theorem zg:aG Pg 93 zn:=xw rU dD nI yZ (ac JS an) bX
theorem yY x:kK (fI x) (nH x):=by
 unfold fI nH km aV bk ct cQ bu iL bF aU cK aD cw;with_reducible repeat' first|(refine OI.o ?_;constructor)|intro _
theorem zf:aG Pg 95 zm:=xw rT fI nH yY an bX
theorem za x:kK (dE x) (nK x):=by
 unfold dE nK kn aV bk ct cQ bu bF aU cK aD cw;with_reducible repeat' first|(refine OI.o ?_;constructor)|intro _
theorem kl:aG Pg 63 zq:=xw rW dE nK za (ac zh (ac zg (ac Fy (ac zf an)))) bX
theorem JL x:kK (n_ x) (uu x):=by
 unfold n_ uu uz aV bk bt bI di cQ ck bu bA aU cK aD cw;with_reducible repeat' first|(refine OI.o ?_;constructor)|intro _
theorem J4:aG Pg 96 Kp:=xw zP n_ uu JL an bX
theorem BB x:kK (c7 x) (pt x):=by
 unfold c7 pt pI aV bk bt di bu bA bF aU cK aD cw;with_reducible repeat' first|(refine OI.o ?_;constructor)|intro _
theorem l9:aG Pg 64 Cz:=xw ue c7 pt BB (ac J4 an) bX
theorem xE x:kK (b_ x) (mm x):=by
 unfold b_ mm jT eo l7 bu jC bA bF aU cK aD cw;with_reducible repeat' first|(refine OI.o ?_;constructor)|intro _
theorem jS:aG Pg 66 yk:=xw ry b_ mm xE an bX
theorem s8:aG Pg 133 IR:=mk yc eP an bX
theorem Fw:aG Pg 134 FG:=mk xf lz (ac s8 an) bX
theorem Md x:kK (jQ x) (vZ x):=by
 unfold jQ vZ sg aV bk bt di bu iL bF aU cK aD cw;with_reducible repeat' first|(refine OI.o ?_;constructor)|intro _
theorem BU:aG Pg 132 M_:=xw Cp jQ vZ Md (ac s8 an) bX
theorem J2:aG Pg 135 Kn:=mk zN nZ (ac J9 an) bX
theorem rH:aG Pg 98 FH:=mk xg iN (ac BU (ac s8 (ac Fw (ac J2 an)))) bX
theorem Dn:aG Pg 97 DK:=mk vu kx (ac BU an) bX
theorem AA:aG Pg 99 AL:=mk tm jh an bX
theorem vY x:kK (eL x) (kS x):=by
 unfold eL kS iX aV bk bt ct bI di eU bc bu jC bA bF aU cK aD cw;with_reducible repeat' first|(refine OI.o ?_;constructor)|intro _
theorem wh:aG Pg 100 wL:=xw pO eL kS vY an bX
theorem Ai x:kK (gf x) (oD x):=by
 unfold gf oD kY aV bk bt ct bI bc bu bF aU cK aD cw;with_reducible repeat' first|(refine OI.o ?_;constructor)|intro _
theorem Az:aG Pg 101 AK:=xw tj gf oD Ai an bX
theorem zA:aG Pg 170 Km:=mk zM lV an bX
theorem YD:aG Pg 165 yp:=mk PI Hb an bX
theorem aap:aG Pg 165 abk:= @aG.sub Pg 165 yp.pre yp.post Hb Ml YD rfl (λx y h=>qJ (b:=1) x y h)
theorem V2:aG Pg 165 vH:=mk LG Di an bX
theorem YC:aG Pg 165 Y9:= @aG.sub Pg 165 vH.pre vH.post Di Ha V2 rfl (λx y h=>qJ (b:=1) x y h)
theorem Yy:aG Pg 166 yn:=mk PF G_ an bX
theorem aao:aG Pg 166 abh:= @aG.sub Pg 166 yn.pre yn.post G_ Mk Yy rfl (λx y h=>qJ (b:=24) x y h)
theorem VZ:aG Pg 166 vF:=mk LD Dg an bX
theorem Yx:aG Pg 166 Y6:= @aG.sub Pg 166 vF.pre vF.post Dg G9 VZ rfl (λx y h=>qJ (b:=24) x y h)
theorem V0:aG Pg 103 vG:=mk LF Dh an bX
theorem YB:aG Pg 103 Y8:= @aG.sub Pg 103 vG.pre vG.post Dh xK V0 rfl (λx y h=>qJ (b:=8) x y h)
theorem JK x:kK (jZ x) (ut x):=by
 unfold jZ ut qU aV bI ck bu bA bF aU cK cw;with_reducible repeat' first|(refine OI.o ?_;constructor)|intro _
theorem J3:aG Pg 136 Ko:=xw zO jZ ut JK (ac YE (ac YC (ac Yx an))) bX
theorem G0 x:kK (jq x) (sM x):=by
 unfold jq sM pL aV bk bI ck bu jC kj aU cK aD cw;with_reducible repeat' first|(refine OI.o ?_;constructor)|intro _
theorem Hz:aG Pg 141 IU:=xw yd jq sM G0 (ac zA an) bX
theorem BD x:kK (gE x) (pu x):=by
 unfold gE pu ma aV bk bI di ck bu kj aU cK aD cw;with_reducible repeat' first|(refine OI.o ?_;constructor)|intro _
theorem BT:aG Pg 142 CD:=xw uf gE pu BD (ac zA an) bX
theorem HI:aG Pg 223 I2:=mk yh pG an bX
theorem J8:aG Pg 202 Kt:=mk zS uw (ac HI an) bX
theorem Dv:aG Pg 206 DS:=mk vB qx an bX
theorem HE:aG Pg 168 IY:=mk yg sV (ac Dv an) bX
theorem tH x:kK (fB x) (jG x):=by
 unfold fB jG jH ck bu kj cK aD cw;with_reducible repeat' first|(refine OI.o ?_;constructor)|intro _
theorem tI:aG Pg 196 tK:=xw nE fB jG tH (ac J8 an) bX
theorem yX x:kK (iQ x) (nG x):=by
 unfold iQ nG nL aV bk bc jC bA aD;with_reducible repeat' first|(refine OI.o ?_;constructor)|intro _
theorem ze:aG Pg 167 zk:=xw rS iQ nG yX (ac tI an) bX
theorem VY:aG Pg 137 WA:=mk LC vb (ac ze (ac HE an)) bX
theorem Mg x:kK (kX x) (v7 x):=by
 unfold kX v7 wC bc bu bA kj aU cK aD cw;with_reducible repeat' first|(refine OI.o ?_;constructor)|intro _
theorem MH:aG Pg 138 Nm:=xw Cy kX v7 Mg an bX
theorem wW:aG Pg 140 FI:=mk xh ou an bX
theorem G3 x:kK (mK x) (sN x):=by
 unfold mK sN te bu kj aU cK aD cw;with_reducible repeat' first|(refine OI.o ?_;constructor)|intro _
theorem HJ:aG Pg 169 I3:=xw yi mK sN G3 (ac wW an) bX
theorem Fn x:kK (iO x) (rE x):=by
 unfold iO rE rJ ck bc bu bA kj aU cK aD cw;with_reducible repeat' first|(refine OI.o ?_;constructor)|intro _
theorem Fz:aG Pg 139 FO:=xw xm iO rE Fn (ac wW (ac HJ an)) bX
theorem HC:aG Pg 102 IX:=mk mP gF (ac rH (ac J3 (ac Hz (ac BT an)))) bX
def tv2 (t:TypeId):Option Ty:=if aA t 175 then aa (.pr .un (.pr .un (.pr .un (.pr .un dP)))) else bX t
theorem HA:aG Pg 136 IV:=mk ye mI (ac MI (ac aap (ac aao an))) tv2
theorem HB:aG Pg 102 IW:=mk yf kB (ac rH (ac HA (ac VY (ac MH (ac Fz an))))) tv2
theorem J5:aG Pg 102 Kq:=(aG.orE (pre:=mP.pre) (post:=mP.post) (m:=gF) (m':=kB) rfl HC HB)
theorem nj:aG Pg 65 DL:=mk vw fw (ac MI (ac Dn (ac rH (ac AA (ac wh (ac Az (ac J5 (ac YB an)))))))) bX
def tv3 (t:TypeId):Option Ty:=if aA t 104 then aa (.pr .un (.pr .un pi)) else bX t
theorem Am x:kK (dU x) (oH x):=by
 unfold dU oH kZ aV bk bt bI cQ bc bu bA bF aU cK aD cw;with_reducible repeat' first|(refine OI.o ?_;constructor)|intro _
theorem AE:aG Pg 30 AS:=xw tB dU oH Am (ac kl (ac l9 (ac nj (ac jS an)))) tv3
def tv4 (t:TypeId):Option Ty:=if aA t 104 then aa (.pr .un (.pr .un (.pr .un pi))) else bX t
theorem Al x:kK (c8 x) (oG x):=by
 unfold c8 oG jv aV bk bt ct bI di eU bc bu bA bF aU cK aD cw;with_reducible repeat' first|(refine OI.o ?_;constructor)|intro _
theorem AD:aG Pg 30 AQ:=xw tw c8 oG Al (ac kl (ac l9 (ac nj (ac jS an)))) tv4
def tv5 (t:TypeId):Option Ty:=if aA t 104 then aa (.pr .un (.pr .un (.pr .un (.pr .un pi)))) else bX t
theorem Ak x:kK (dB x) (oF x):=by
 unfold dB oF ju aV bk bt ct eo bI cQ eU l7 bc bu bA bF aU cK aD cw;with_reducible repeat' first|(refine OI.o ?_;constructor)|intro _
theorem AC:aG Pg 30 AO:=xw tu dB oF Ak (ac kl (ac l9 (ac nj (ac jS an)))) tv5
def tv6 (t:TypeId):Option Ty:=if aA t 104 then aa (.pr .un (.pr .un (.pr .un (.pr .un (.pr .un pi))))) else bX t
theorem Aj x:kK (dT x) (oE x):=by
 unfold dT oE jt aV bk bt ct eo kc bI eU l7 pj bc bu bA bF aU cK aD cw;with_reducible repeat' first|(refine OI.o ?_;constructor)|intro _
theorem AB:aG Pg 30 AM:=xw eM dT oE Aj (ac kl (ac l9 (ac nj (ac jS an)))) tv6
theorem BQ:aG Pg 30 CA:=(aG.orE (pre:=eM.pre) (post:=eM.post) (m:=dT) (m':=(λx=>orE (dB x) ((λx=>orE (c8 x) (dU x)) x))) rfl AB (aG.orE (pre:=eM.pre) (post:=eM.post) (m:=dB) (m':=(λx=>orE (c8 x) (dU x))) rfl AC (aG.orE (pre:=eM.pre) (post:=eM.post) (m:=c8) (m':=dU) rfl AD AE)))
theorem RH x:kK (kW x) (Ar x):=by
 unfold kW Ar ww aV bI ck bu iL bA bF aU cK aD cw;with_reducible repeat' first|(refine OI.o ?_;constructor)|intro _
theorem AG:aG Pg 12 Tu:=xw IE kW Ar RH (ac VW (ac Yv (ac BQ an))) bX
theorem Vw x:kK (sB x) (Dd x):=by
 unfold sB Dd Dz bu iL bA bF aU cK aD cw;with_reducible repeat' first|(refine OI.o ?_;constructor)|intro _
theorem VX:aG Pg 16 Ww:=xw LA sB Dd Vw (ac AG (ac HH (ac MG (ac zB an)))) bX
theorem aa5 x:kK (BH x) (Mi x):=by
 unfold BH Mi ML aV bk bt ct eU bu bA cK aD cw;with_reducible repeat' first|(refine OI.o ?_;constructor)|intro _
theorem aam:aG Pg 55 abf:=xw UX BH Mi aa5 an bX
theorem Sk:aG Pg 36 Tn:=mk Ix v9 (ac aam an) bX
theorem MF:aG Pg 15 Nd:=mk Ct pF (ac VX (ac Sk an)) bX
abbrev Le0:List PB:=[.cells 34 [.d nP]]
abbrev Le6:List PB:=[.cells 34 [.d nP],.rows 3 ai aM]
abbrev Le9:List PV:=[.ptr 0 0,.row 1,.d .bool]
def IF:FT:=⟨⟨[.d nP,.d aM,.d aM],[]⟩,⟨[.d .bool],[]⟩,dI [(3,(.j ⟨[1,2],[3,22],⟨gI,Le0⟩,[]⟩))]⟩
def Tv:ch:=cn IF sY
def xj:FT:=⟨⟨[.d Ke0,.d (.int .u8)],[]⟩,⟨[.d .bool],[]⟩,dI [(7,(.j ⟨[1,6],[5,27],⟨gI,Le0⟩,[]⟩)),(30,(.j ⟨[6,8,46],[5,9,47],⟨Kx,Le6⟩,[]⟩)),(38,(.j ⟨[6,8,46,47],[5,9],⟨[.ptr 0 0,.row 1],Le6⟩,[]⟩)),(41,(.j ⟨[6,8,10,46,47],[5,9,58],⟨Le9,Le6⟩,[]⟩)),(47,(.j ⟨[],[4],⟨[.d .bool],[]⟩,[]⟩))]⟩
def FK:ch:=cn xj lA
theorem Sq:aG Pg 23 Tv:=mk IF sY (ac AG (ac HH (ac zB an))) bX
theorem hlaw23_HBCounts:aG Pg 10 FK:=mk xj lA (ac Dp (ac AG (ac MF (ac VK (ac Sq an))))) bX
theorem run_law {P:Program} {f:FuncId} {pre:Tm} {m:pre.ty.den->Option (Tm.ty ⟨[.d .bool],[]⟩).den} (sp:pd P f ⟨pre,⟨[.d .bool],[]⟩,m⟩) (h0:pre.bs.length=0) {x:pre.ty.den} (M:m x=aa ah) {vs:List TV} {hp:bd} (hi:BP pre x=aa (vs,hp)) {la:List AV} (hla:cF hp vs=aa la)
 {W:World} {us:List Value} (hg:∀ g cells,G g=aa cells->mR (λ_=>False) W (.ptr cells 0) (.pointer (aa ⟨g,0,af⟩))) (hrel:jI (λ_=>af) (λ_=>False) W la us):
 Calls P f us.toArray W λe w'=>e= .returned (.bool ah)/\Below W.heap.size W w':=by
 obtain⟨l1,I⟩:=vi hi;obtain⟨l2,J⟩:=vi (t:=⟨[.d .bool],[]⟩) (x:=ah) (vs:=[.f .bool ah]) (h1:=PT.leaf) rfl;have hn:bw hp=λ_=>af:=by
  funext n;cases hb:bw hp n with
  |none=>rfl
  |some b=>
   obtain⟨i,c,rfl,h1,_⟩:=jf hb;have:=I.lt_len h1;omega
 have own0:∀ (φ:PM) k,¬own φ (bw hp) k:=by rintro φ k ⟨i,b,h1,_⟩;rw[hn] at h1;cases h1
 have htot:tot (λ_=>False) (λ_=>af) (bw hp)=λ_=>False:=by
  funext k;exact propext ⟨λh=>h.elim id λh=>cW h (own0 _ k),λh=>h.elim⟩
 refine Calls.mono (sp.calls x ah M vs hp l1 _ PT.leaf l2 la _ I J hla rfl (λ_=>af) (λ_=>False) W us ⟨(λi j b b' k h1=>by rw[hn] at h1;cases h1),(λi b h1=>by rw[hn] at h1;cases h1),(λk h=>h.elim),(λg cells h=>by rw[htot];exact hg g cells h)⟩ (by rw[htot];exact hrel) (λn k h=>by cases h)) ?_;rintro en w' ⟨v,φ',rfl,he,_,_,_,hv⟩;refine ⟨?_,⟨he.os,he.tape,he.output,he.size,λk hk=>he.blk k hk (own0 _ k)⟩⟩;have hv:cG φ' _ w' (.f (.raw (.bool ah))) v:=hv;cases hv with
 |f h=>cases h;rfl
theorem gKw:Tryz.prog.globalNamed "interleave/token.keywords" =aa 0:=by kernel_rfl
theorem tKw:(Tryz.prog.globals[0]?).map (·.type)=aa 273:=by kernel_rfl
theorem kw_of_laid {W:World} (h:laidMetH Tryz.prog [("interleave/token.keywords",Rows.laid_interleave_token_keywords)] W):∀ g cells,G g=aa cells→mR (λ_=>False) W (.ptr cells 0) (.pointer (aa ⟨g,0,af⟩)):=by
 intro g cells U;unfold G at U;split at U
 .rename_i hg;have hg:=eq_of_beq hg;subst hg;cases U;rw[MakeChecks.laidMetH_plain _ _ _ (by kernel_rfl)] at h;obtain⟨ps,⟨g0,t0,cs0,f0,p0,q0,M,Z,Y,hd0,_,_⟩,_,_⟩:=h;obtain rfl:=jE (gKw.symm.trans M);obtain rfl:=jE (tKw.symm.trans Z);obtain⟨xs,m1,rfl,J,hlen,hn,hel⟩:=DataW.trod_array Tryz.underlying273 hd0;have c1:Tryz.prog.cellsOf 9=1:=by kernel_rfl
  have c22:Tryz.prog.cellsOf 273=22:=by kernel_rfl
  rw[c22] at hlen;simp only[aB,Rows.laid_interleave_token_keywords,DataW.agg.injEq] at J;have hxs:=J.1;have hcell:∀ j,j<22→∃ l,(xs.map (·.1))[j]? =aa (.lit (.string l))∧W.cell? ⟨0,j,af⟩=aa (.string ⟨l.toArray⟩):=λj hj=>by
   have h1:=hel j hj;rw[c1,Nat.mul_one] at h1;rw[ay (by omega)] at h1;obtain⟨s,e1,e2,_⟩:=DataW.trod_string Tryz.underlying9 h1;refine ⟨s.data.toList,?_,?_⟩
   .rw[aZ,ay (by omega),b8,e2]
   .have:=World.var?_cell M Y j;rw[this];have h2:cs0.toList[j]? =aa (.string s):=by
     have:((cs0.toList.drop j).take 1)[0]? =aa (.string s):=by rw[e1];rfl
     rw[cH,aI (by omega),gJ] at this;simpa using this
    rw[← cB,h2]
  have hb:0<W.heap.size:=by
   obtain⟨l,_,h2⟩:=hcell 0 (by omega);exact World.block_lt_of_cell? W _ h2
  refine .ptr BJ 0 0 0 (λj=>(W.cell? ⟨0,j,af⟩).getD undef) (λh=>h) hb (λx I=>?_) (λj hj=>?_) (λj x I=>?_)
  .simp only[BJ,bh,cj,fP] at I;rcases I with rfl|rfl|rfl|rfl|rfl|rfl|rfl|rfl|rfl|rfl|rfl|rfl|rfl|rfl|rfl|rfl|rfl|rfl|rfl|rfl|rfl|rfl<;>rfl
  .obtain⟨l,_,h2⟩:=hcell j hj;rw[bJ,h2];rfl
  .have hj:j<22:=(bf.1 I).1;obtain⟨l,h1,h2⟩:=hcell j hj;rw[← hxs] at h1;have:x= .raw (.string ⟨l.toArray⟩):=by
    rcases j with _|_|_|_|_|_|_|_|_|_|_|_|_|_|_|_|_|_|_|_|_|_|j;all_goals first|(simp only[pZ,List.getElem?_cons_succ,aj,DataW.lit.injEq,Lit.string.injEq,BJ] at h1 I;subst h1;subst I;rfl)|omega
   rw[this,h2];exact .raw _
 .cases U
end
end Go.Proofs.YtkagidinekdnoaaGreatDoor.AI
