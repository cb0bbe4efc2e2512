/-
  Texts of the proof, part 5 of 5: what is used to prove the statement. No condition.
-/
import Derived.Test.YthehadcddfilhaaGreatDoorHBPartialQ3
import Derived.Deep.Slices
import Derived.OpenShut
import Derived.Below
import Derived.Test.YthehadcddfilhaaGreatDoorProg
import Derived.KernelRfl
import Derived.Recover
import Derived.Test.YthehadcddfilhaaGreatDoorRows
import Derived.LaidMore
namespace Go.Proofs.YthehadcddfilhaaGreatDoor.AI
open Go.RowKit
set_option maxRecDepth 100000
set_option maxHeartbeats 4000000
set_option linter.unusedVariables false
set_option linter.unusedSimpArgs false
open Act renaming put→LN
open _root_.Array renaming replicate→nP
open _root_.Bool renaming true→ah,false→ai
open Call renaming operands→eD
open _root_.Int renaming ofNat_eq_natCast→ar,ofNat→aN
open _root_.List renaming length→ak,cons_append→fX,length_singleton→gf,length_nil→jE,nil_append→ll,getElem?_cons_zero→pW,take_succ_cons→uG
open _root_.Nat renaming beq→aA,testBit→aL,add_zero→c8,ble→eo,blt→fR
open Oper renaming wp→FU
open _root_.Option renaming some→aa,none→af,bind_some→aE,map_some→b7,map→lj,getD_some→tO
open _root_.Prod renaming p2→aU,p3→bk,p4→bt,q3→bI,p5→ct,q5→cQ,q4→dh,p6→em,q6→eU,p7→ka,q7→lY,q8→pg,p8→yz,p9→Ba,p10→CM
open Region renaming wanted→iu
open Result renaming andThen_ok→cD
open Sem renaming run_bind→eh,run_pure→og
open _root_.Sum renaming inr→bS,inl→lX
open Value renaming okWide→FP
open World renaming cell?→LK
noncomputable section
mutual
def FV.fl:FV->Bool
 |.raw _=>ah
 |.agg l=>FV.flL l
 |.sl _ _=>ai
 |.ptr _ _=>ai
def FV.flL:List FV->Bool
 |[]=>ah
 |x::r=>x.fl&&FV.flL r
end
theorem Uy:∀ {l:List FV},FV.flL l=ah->∀ x∈l,x.fl=ah
 |[],_,x,I=>by cases I
 |y::l,h,x,I=>by
  simp only[FV.flL,au] at h;rcases bh.1 I with rfl|I
  .exact h.1
  .exact Uy h.2 x I
theorem Yp:∀ {l:List FV},(∀ x∈l,x.fl=ah)->FV.flL l=ah
 |[],_=>rfl
 |y::l,h=>by simp only[FV.flL,au];exact⟨h y (by simp),Yp λx I=>h x (by simp[I])⟩
theorem mP.flat {O O':Nat->Prop} {w w':World} {x:FV} {v:Value} (h:mP O w x v):x.fl=ah->mP O' w' x v:=by
 induction h with
 |raw v=>intro _;exact .raw v
 |nil a c hc=>intro h;cases h
 |sl cells n c b off us hn hc hO hb hcl hu hr I=>intro h;cases h
 |ptr cells o b off us hO hb hcl hu hr I=>intro h;cases h
 |agg cells vs hl hcl hr I=>intro h;exact .agg cells vs hl hcl λj x v J hv=>I j x v J hv (Uy h x (aZ J))
mutual
def AV.fl:AV->Bool
 |.f x=>x.fl
 |.emp=>ah
 |.anyb=>ah
 |.agg l=>AV.flL l
 |.tup l=>AV.flL l
 |.ptr _ _=>ai
 |.sl _ _ _=>ai
 |.row _ _ _=>ai
 |.mp _=>ai
 |.clo _ _=>ai
def AV.flL:List AV->Bool
 |[]=>ah
 |x::r=>x.fl&&AV.flL r
end
theorem I_:∀ {l:List AV},AV.flL l=ah->∀ x∈l,x.fl=ah
 |[],_,x,I=>by cases I
 |y::l,h,x,I=>by
  simp only[AV.flL,au] at h;rcases bh.1 I with rfl|I
  .exact h.1
  .exact I_ h.2 x I
theorem UX:∀ {l:List AV},(∀ x∈l,x.fl=ah)->AV.flL l=ah
 |[],_=>rfl
 |y::l,h=>by simp only[AV.flL,au];exact⟨h y (by simp),UX λx I=>h x (by simp[I])⟩
theorem cG.flat {φ φ':PM} {O O':Nat->Prop} {w w':World} {x:AV} {v:Value} (h:cG φ O w x v):x.fl=ah->cG φ' O' w' x v:=by
 induction h with
 |f h=>intro hf;exact .f (h.flat hf)
 |ptr h=>intro hf;cases hf
 |sl h hn hc=>intro hf;cases hf
 |row h hn hc hsh=>intro hf;cases hf
 |emp=>intro _;exact .emp
 |anyb=>intro _;exact .anyb
 |mp h=>intro hf;cases hf
 |agg hl hcl hr J=>intro hf;exact .agg hl hcl λj x v I hv=>J j x v I hv (I_ hf x (aZ I))
 |tup hl hr J=>intro hf;exact .tup hl λj x v I hv=>J j x v I hv (I_ hf x (aZ I))
 |clo hl hr J=>intro hf;cases hf
mutual
theorem adp (γ:Nat->Nat):∀ x:AV,x.fl=ah->x.ren γ=x
 |.f x,_=>rfl
 |.emp,_=>rfl
 |.anyb,_=>rfl
 |.agg l,h=>by simp only[AV.ren];rw[Gb γ l h]
 |.tup l,h=>by simp only[AV.ren];rw[Gb γ l h]
 |.ptr _ _,h=>by cases h
 |.sl _ _ _,h=>by cases h
 |.row _ _ _,h=>by cases h
 |.mp _,h=>by cases h
 |.clo _ _,h=>by cases h
theorem Gb (γ:Nat->Nat):∀ l:List AV,AV.flL l=ah->AV.renL γ l=l
 |[],_=>rfl
 |x::r,h=>by
  simp only[AV.flL,au] at h;rw[AV.renL,adp γ x h.1,Gb γ r h.2]
end
theorem yO:∀ (T:Ty),T.flat=ah->∀ x:T.den,∀ y∈bN T x,y.fl=ah
 |.int _,_,x,y,I=>by simp only[bN,aK] at I;subst I;rfl
 |.bool,_,x,y,I=>by simp only[bN,aK] at I;subst I;rfl
 |.str,_,x,y,I=>by simp only[bN,aK] at I;subst I;rfl
 |.sl _,h,x,y,I=>by cases h
 |.st t,h,x,y,I=>yO t h x y I
 |.pr a b,h,x,y,I=>by
  simp only[Ty.flat,au] at h;simp only[bN,bR] at I;exact I.elim (yO a h.1 x.1 y) (yO b h.2 x.2 y)
 |.un,_,x,y,I=>by simp[bN] at I
 |.ex,h,_,_,_=>by cases h
 |.sm,h,_,_,_=>by cases h
theorem aae (T:Ty) (h:T.flat=ah) (x:T.den):(gw T x).fl=ah:=by
 cases I:T.one with
 |true=>
  have:=yO T h x (gw T x) (by rw[(B3 T x I).1];simp);exact this
 |false=>rw[pK T x I];exact Yp (yO T h x)
theorem NI (a b:Ty):(ZK a b).flat=(a.flat&&b.flat):=by
 cases a<;>cases b<;>simp[ZK,Fh,Ty.flat]
theorem G8 {n:Nat}:∀ {a b:List TV},qy n (a++b)=ah->qy n a=ah/\qy n b=ah
 |[],b,h=>⟨rfl,h⟩
 |x::r,b,h=>by
  simp only[fX,qy,au] at h ⊢;obtain⟨h1,h2⟩:=G8 h.2;exact⟨⟨h.1,h1⟩,h2⟩
mutual
theorem ZQ {g:Nat->Nat} {h:bd}:∀ (p:PV) (x:p.ty.den) (cs:List TV) (l:List AV),p.ty.flat=ah->pd g p x=aa cs->qy 0 cs=ah->cF h cs=aa l->∀ y∈l,y.fl=ah
 |.d T,x,cs,l,hf,hp,_,hl,y,hy=>by
  have:=(k9 h 40 T x cs hp).1;rw[hl] at this;cases this;obtain⟨q,hq,rfl⟩:=c9.1 hy;exact yO T hf x q hq
 |.ptr i q,x,cs,l,hf,hp,hlt,hl,y,hy=>by
  simp only[pd,aj] at hp;subst hp;simp[qy,JI] at hlt
 |.csl i q z,x,cs,l,hf,hp,hlt,hl,y,hy=>by
  simp only[pd,aj] at hp;subst hp;simp[qy,JI] at hlt
 |.clo q i z,x,cs,l,hf,hp,hlt,hl,y,hy=>by
  simp only[pd,aj] at hp;subst hp;simp[qy,JI] at hlt
 |.row i,x,cs,l,hf,hp,hlt,hl,y,hy=>by
  simp only[pd,aj] at hp;subst hp;simp[qy,JI] at hlt
 |.mp i,x,cs,l,hf,hp,hlt,hl,y,hy=>by
  simp only[pd,aj] at hp;subst hp;simp[qy,JI] at hlt
 |.nil,x,cs,l,hf,hp,hlt,hl,y,hy=>by
  simp only[pd,aj] at hp;subst hp;simp only[cF,ch,aj] at hl;subst hl;simp only[aK] at hy;subst hy;rfl
 |.emp,x,cs,l,hf,hp,hlt,hl,y,hy=>by
  simp only[pd,aj] at hp;subst hp;simp only[cF,ch,aj] at hl;subst hl;simp only[aK] at hy;subst hy;rfl
 |.agg ps,x,cs,l,hf,hp,hlt,hl,y,hy=>GG ps x cs l hf hp hlt hl y hy
theorem GG {g:Nat->Nat} {h:bd}:∀ (ps:List PV) (x:(PV.tyL ps).den) (cs:List TV) (l:List AV),(PV.tyL ps).flat=ah->qa g ps x=aa cs->qy 0 cs=ah->cF h cs=aa l->∀ y∈l,y.fl=ah
 |[],x,cs,l,hf,hp,hlt,hl,y,hy=>by
  simp only[qa,aj] at hp;subst hp;simp only[cF,aj] at hl;subst hl;cases hy
 |p::ps,x,cs,l,hf,hp,hlt,hl,y,hy=>by
  simp only[PV.tyL] at hf;rw[NI,au] at hf;simp only[qa] at hp;split at hp
  .rename_i a ha;split at hp
   .rename_i b hb;simp only[aj] at hp;subst hp;obtain⟨a',b',rfl,e1,e2⟩:=AE hl;have hsp:=G8 hlt;rcases bR.1 hy with hy|hy
    .exact ZQ p _ a a' hf.1 ha hsp.1 e1 y hy
    .exact GG ps _ b b' hf.2 hb hsp.2 e2 y hy
   .cases hp
  .cases hp
end
theorem ZO {g:Nat->Nat} {h:bd} {p:PV} {x:p.ty.den} {u:TV} {y:AV} (hf:p.ty.flat=ah) (hp:r7 g p x=aa u) (hlt:JI 0 u=ah) (I:ch h u=aa y):y.fl=ah:=by
 cases p with
 |d T=>
  simp only[r7,aj] at hp;subst hp;simp only[ch,aj] at I;subst I;exact aae T hf x
 |agg ps=>
  simp only[r7] at hp;split at hp
  .rename_i l hl;simp only[aj] at hp;subst hp;simp only[ch] at I;split at I
   .rename_i M J;simp only[aj] at I;subst I;exact UX (GG ps _ l M hf hl hlt J)
   .cases I
  .cases hp
 |ptr i q=>simp only[r7,aj] at hp;subst hp;simp[JI] at hlt
 |csl i q z=>simp only[r7,aj] at hp;subst hp;simp[JI] at hlt
 |row i=>simp only[r7,aj] at hp;subst hp;simp[JI] at hlt
 |clo q i z=>simp only[r7,aj] at hp;subst hp;simp[JI,qy] at hlt
 |mp i=>simp only[r7,aj] at hp;subst hp;simp[JI] at hlt
 |nil=>simp only[r7,aj] at hp;subst hp;simp only[ch,aj] at I;subst I;rfl
 |emp=>simp only[r7,aj] at hp;subst hp;simp only[ch,aj] at I;subst I;rfl
theorem N3 {g:Nat->Nat} {h:bd}:∀ (ps:List PV) (x:(PV.tyL ps).den) (us:List TV) (l:List AV),(PV.tyL ps).flat=ah->pj g ps x=aa us->qy 0 us=ah->cF h us=aa l->AV.flL l=ah
 |[],x,us,l,hf,hp,hlt,hl=>by
  simp only[pj,aj] at hp;subst hp;simp only[cF,aj] at hl;subst hl;rfl
 |p::ps,x,us,l,hf,hp,hlt,hl=>by
  simp only[PV.tyL] at hf;rw[NI,au] at hf;simp only[pj] at hp;split at hp
  .rename_i a I;split at hp
   .rename_i b hb;simp only[aj] at hp;subst hp;obtain⟨y,l2,rfl,e1,e2⟩:=cP hl;simp only[qy,au] at hlt;simp only[AV.flL,au];exact⟨ZO hf.1 I hlt.1 e1,N3 ps _ b l2 hf.2 hb hlt.2 e2⟩
   .cases hp
  .cases hp
theorem ZH:∀ {l:List AV},AV.flL l=ah->(CU l).fl=ah
 |[],_=>rfl
 |[x],h=>by simp only[AV.flL,au] at h;exact h.1
 |x::y::r,h=>h
theorem aaq {P:Program} {o:Oper} {e:iy} {h:bd} {nx:Nat} {f:FuncId} {c:cq} {l:List TV} (hinv:lG h nx) (sp:o_ P f c) {x:c.pre.ty.den} {m:Nat} {σ:PT Nat} {sm:Nat} (M:Gj 0 c.pre l h x m σ sm) {vs:List TV} {hp:bd} {l1:List (Option h_)} (I:pR c.pre x vs hp l1) {y:c.post.ty.den} (hm:c.m x=aa y) {rs:List TV} {hq:bd} {l2:List (Option h_)} (J:pR c.post y rs hq l2) (hp0:c.pre.bs.length=0) (hq0:c.post.bs.length=0) (hfl:(PV.tyL c.post.vs).flat=ah)
 (g:Nat->Nat) {la:List AV} (hla:cF h l=aa la)
 (hexec:∀ (φ:PM) (E:Nat->Prop) (h':HF) (w:World) (a:Act),(∀ t,.tmp t∈o.op.operands->∀ y,fD e h t=aa y->cG φ (tot E φ h') w y (a.tmps.getD t undef))->qd φ E h' w->∃ us:List Value,(execOp a.eval o).run P w= .ok (.enter f us.toArray) w/\jH φ (tot E φ h') w la us):
 iS P o ai e h nx (NX (j8 g rs)) m 0 h nx:=by
 obtain⟨x1,m1,x2,m2,hx,hmm,gv,gb⟩:=M.ex;have hmr:dH h m:=by rw[hmm];exact (F8 _ _ _ _ gv).or (F_ _ _ _ _ gb)
 have pvg:pj (gW σ) c.pre.vs x1=aa (j8 (gW σ) vs):=by
  have U:=sw (gW σ) c.pre.vs x1;have h4:=I.pv;rw[hx,sj] at h4;rw[U,h4];rfl
 obtain⟨lr,hlr⟩:=eY hq rs J.ok;obtain⟨lp,hlp⟩:=eY hp vs I.ok;have hfl':AV.flL lr=ah:=N3 c.post.vs _ rs lr hfl J.pv (by rw[<- hq0];exact J.lt) hlr;have hpe:∀ i,hp.get i=af:=λi=>by
  cases hb:hp.get i with
  |none=>rfl
  |some b=>have:=I.lt_len hb;omega
 have hqe:∀ i,hq.get i=af:=λi=>by
  cases hb:hq.get i with
  |none=>rfl
  |some b=>have:=J.lt_len hb;omega
 have rows_hp:∀ i r,dZ hp i=aa r->dZ (d_ m h) (gW σ i)=aa r:=λi r hr=>by rw[bO,hpe] at hr;cases hr
 have rows_hq:∀ i r,dZ hq i=aa r->dZ h (g i)=aa r:=λi r hr=>by rw[bO,hqe] at hr;cases hr
 have rows_in:wH (d_ m h) h:=λj r hr=>by
  rw[bO] at hr ⊢;rw[iI] at hr;split at hr
  .rename_i ht;obtain⟨ty,p,T,xs,hb⟩:=hmr j ht;rw[hb] at hr ⊢;exact hr
  .exact hr
 have hOpT:gB P o (fD e h) (bw h) ⟨CU lr,Ee m,[],λ_=>af,[]⟩:=by
  intro φ E h' w a hrd hwr hops hrep hN;obtain⟨us,hrun,hrel⟩:=hexec φ E h' w a hops hrep
  let Hv:HF:=λn=>if n∈Ee m then af else h' n
  have Hv_in:∀ n,n∈Ee m->Hv n=af:=λn hn=>by simp only[Hv,hn,bB]
  have Hv_out:∀ n,n∉Ee m->Hv n=h' n:=λn hn=>by simp only[Hv,hn,dR]
  have hd:ui h' Hv:=λn b hb=>by
   by_cases hn:n∈Ee m
   .rw[Hv_in n hn] at hb;cases hb
   .rw[Hv_out n hn] at hb;exact⟨b,hb⟩
  have gvv:CR h h' Hv m:=λi hi=>⟨hrd _ (kU.2 hi),Hv_in _ (kU.2 hi)⟩
  have V:Ja h' Hv:=⟨hd,λn b b' hb Y=>by
   by_cases hn:n∈Ee m
   .rw[Hv_in n hn] at Y;cases Y
   .rw[Hv_out n hn,hb] at Y;cases Y;exact jI.refl hd b⟩
  have hrepv:=V.rep hrep;have hlpg:cF (d_ m h) (j8 (gW σ) vs)=aa (AV.renL (F' (gW σ)) lp):=pJ rows_hp vs lp hlp;have hrel1:jH φ (tot E φ Hv) w (AV.renL (F' (gW σ)) lp) us:=
   jH.le hrep (BU hd rows_in c.pre.vs l x1 m1 _ la _ gv pvg hla hlpg (λi hi=>gvv i (by rw[hmm,bl,hi];rfl))) hrel
  let E':Nat->Prop:=λk=>E k\/∃ n b,Hv n=aa b/\φ n=aa k
  have T:ab5 c.pre x vs hp (gW σ) φ E E' Hv w:=by
   refine qd.toId I (λa b ha=>by omega) hrepv (λi b yb hb=>by rw[hpe] at hb;cases hb) ?_ (λi k b hi=>by omega) ?_
   .rintro k (hE|⟨n,b,h1,U⟩)
    .exact .inl hE
    .exact .inr ⟨n,b,h1,U⟩
   .rintro k (hE|⟨n,b,h1,U⟩)
    .exact hrepv.el k hE
    .obtain⟨k',Z,_,ob,q3,_⟩:=hrepv.at_ n b h1;rw[U] at Z;cases Z;exact (cu.1 q3).1
  have hcalls:=sp.calls x y hm vs hp l1 rs hq l2 lp lr I J hlp hlr (φ1 c.pre.bs.length (gW σ) φ) E' w us T.rep (jH.toId T.val (sd vs lp I.lt hlp) hrel1) (λn k hk=>by
   obtain⟨i,hi,rfl,_⟩:=vK hk;rw[dQ];exact hi)
  unfold FU;rw[hrun];refine Calls.mono hcalls ?_;rintro en w' ⟨v,φc',rfl,hext,hown,hnm,rp,rv'⟩;have hno:∀ k,¬own (φ1 c.pre.bs.length (gW σ) φ) (bw hp) k:=by
   rintro k ⟨n,b,h1,_⟩;obtain⟨i,bb,_,U,_⟩:=je h1;rw[hpe] at U;cases U
  have mv:iJ φ φ h' h' w w':=⟨λ_ _ h=>h,hext.mono λk hk=>cX hk (hno k),λ_ _ h=>h⟩
  refine ⟨v,φ,rfl,?_,λ_ _ h=>.inl h,?_,?_⟩
  .rw[sJ];exact mv
  .rw[sJ];refine hrep.moved mv λk hk=>?_
   obtain⟨n,b,h1,U⟩:=hk;obtain⟨k',Z,_,ob,q3,_⟩:=hrep.at_ n b h1;rw[U] at Z;cases Z;exact hext.blk k (cu.1 q3).1 (hno k)
  .exact rv'.flat (ZH hfl')
 have hrsg:cF h (j8 g rs)=aa (AV.renL (F' g) lr):=pJ rows_hq rs lr hlr;refine ⟨⟨_,hOpT,λz hz=>?_,?_,λn hn=>?_,by simp,by simp⟩,λ_ _ h=>h,hinv,bQ _,λhs=>by cases hs⟩
 .rw[T7 hrsg,Gb _ lr hfl'] at hz;cases hz;rfl
 .exact sJ _ _
 .obtain⟨i,rfl,hi⟩:=ng.1 hn;rw[dQ];exact hi
def cq.full (c:cq):cq:=⟨c.pre,⟨c.post.vs,c.pre.bs⟩,λx=>obind (c.m x) λy=>aa (Rw (PV.tyL c.post.vs) (PB.tyL c.pre.bs) (MB _ _ y) (Jz _ _ x))⟩
def aG (P:Program) (f:FuncId) (c:cq):Prop:=if eo c.pre.bs.length c.post.bs.length=ah then o_ P f c else o_ P f c.full
theorem o_.toC {P:Program} {f:FuncId} {c:cq} (h:o_ P f c) (hb:eo c.pre.bs.length c.post.bs.length=ah):aG P f c:=by
 unfold aG;rw[aJ hb];exact h
theorem aG.holds {P:Program} {f:FuncId} {c:cq} (h:aG P f c) (hb:eo c.pre.bs.length c.post.bs.length=ah):o_ P f c:=by
 unfold aG at h;rw[aJ hb] at h;exact h
theorem Z3 (a b:Ty) (z:(ZK a b).den):Rw a b (MB a b z) (Jz a b z)=z:=by cases a<;>cases b<;>rfl
open Classical in
def roM {pre:Tm} {vs:List PV} (m:pre.ty.den->Option (Tm.ty ⟨vs,pre.bs⟩).den) (x:pre.ty.den):Option (Tm.ty ⟨vs,[]⟩).den:=
 obind (m x) λy=>if Jz (PV.tyL vs) (PB.tyL pre.bs) y=Jz _ _ x then aa (Rw (PV.tyL vs) (PB.tyL []) (MB (PV.tyL vs) (PB.tyL pre.bs) y) ()) else af
theorem aG.ro {P:Program} {f:FuncId} {pre:Tm} {vs:List PV} {m:pre.ty.den->Option (Tm.ty ⟨vs,pre.bs⟩).den} {m':pre.ty.den->Option (Tm.ty ⟨vs,[]⟩).den} (h:o_ P f ⟨pre,⟨vs,pre.bs⟩,m⟩) (hb:eo pre.bs.length 0=ai) (hs:∀ x y,m' x=aa y->roM m x=aa y):aG P f ⟨pre,⟨vs,[]⟩,m'⟩:=by
 unfold aG;rw[aC (by show ¬eo pre.bs.length 0=ah;rw[hb];exact Bool.false_ne_true)];refine ⟨h.callable,λx y hxy=>?_⟩;refine h.calls x y ?_;have hxy:obind (m' x) (λy=>aa (Rw (PV.tyL vs) (PB.tyL pre.bs) (MB (PV.tyL vs) (PB.tyL []) y) (Jz _ _ x)))=aa y:=hxy;obtain⟨z,M,hzy⟩:=dy hxy;have h1:=hs x z M;unfold roM at h1;obtain⟨y0,J,h2⟩:=dy h1;split at h2
 .rename_i heq;have h2:=jD h2;have hzy:=jD hzy;subst h2;have I:Rw (PV.tyL vs) (PB.tyL pre.bs) (MB (PV.tyL vs) (PB.tyL pre.bs) y0) (Jz (PV.tyL pre.vs) (PB.tyL pre.bs) x)=y:=(gA (λq=>Rw (PV.tyL vs) (PB.tyL pre.bs) q (Jz (PV.tyL pre.vs) (PB.tyL pre.bs) x)) (sj (PV.tyL vs) (PB.tyL []) _ ()).symm).trans hzy;rw[<- heq] at I;have:=(Z3 (PV.tyL vs) (PB.tyL pre.bs) y0).symm.trans I;exact J.trans (gA aa this)
 .cases h2
theorem iS.drop {P:Program} {o:Oper} {e:iy} {h h':bd} {nx nx':Nat} {v:TV} {rd wr W wr':Nat} (t:iS P o ai e h nx v rd wr h' nx') (hW:∀ i,aL W i=ah->bw h' (nm i)=bw h (nm i)/\aL rd i=ah) (M:∀ i,aL wr i=ah->aL W i=ah\/aL wr' i=ah):iS P o ai e h nx v rd wr' h' nx':=by
 obtain⟨⟨f,h1,h2,J,h4,h5,Z⟩,r,i,g,st⟩:=t;have hs:∀ n,aL W (ow n)=ah->bw h' n=bw h n:=λn hn=>by
  by_cases I:∃ i,n=nm i
  .obtain⟨i,rfl⟩:=I;rw[dQ] at hn;exact (hW i hn).1
  .rw[vi h I,vi h' I]
 have hup:∀ H:HF,(∀ n∈f.wr,H n=bw h n)->eE H (f.wr.filter λn=> !(aL W (ow n))) f.nw=eE H f.wr f.nw:=λH Y=>by
  funext n;unfold eE;by_cases hn:n∈f.wr
  .by_cases hb:aL W (ow n)=ah
   .rw[aC (by simp[hb]),aJ hn];have:=congrFun J n;unfold eE at this;rw[aJ hn,hs n hb] at this;rw[this,Y n hn]
   .rw[aJ (by simp[hn,hb]),aJ hn]
  .rw[aC (by simp[hn]),aC hn]
 refine ⟨⟨⟨f.val,f.rd++(f.wr.filter λn=>aL W (ow n)),f.wr.filter λn=> !(aL W (ow n)),f.nw,f.N⟩,?_,h2,?_,λn hn=>?_,λn hn=>?_,Z⟩,r,i,g,λhs=>by cases hs⟩
 .intro φ E H w a hrd hwr hops hrep U;have k1:∀ i∈f.rd,H i=bw h i:=λi hi=>hrd i (kJ _ hi)
  have k2:∀ i∈f.wr,H i=bw h i:=λi hi=>by
   cases hb:aL W (ow i) with
   |true=>exact hrd i (mV _ (by simp[hi,hb]))
   |false=>exact hwr i (by simp[hi,hb])
  have:=h1 φ E H w a k1 k2 hops hrep U;simp only[hup H k2];exact this
 .simp only[hup (bw h) (λ_ _=>rfl)];exact J
 .rcases bR.1 hn with hn|hn
  .exact h4 n hn
  .simp only[D7] at hn;exact (hW _ hn.2).2
 .simp only[D7,dX] at hn;rcases M _ (h5 n hn.1) with hh|hh
  .rw[hn.2] at hh;cases hh
  .exact hh
mutual
theorem XX {n n':Nat} (hle:n<=n'):∀ (v:TV),JI n v=ah->JI n' v=ah
 |.row id,h=>by simp only[JI,Nat.blt_eq] at h ⊢;omega
 |.rtl id _,h=>by simp only[JI,Nat.blt_eq] at h ⊢;omega
 |.pel id _ _ _,h=>by simp only[JI,Nat.blt_eq] at h ⊢;omega
 |.ptr id _,h=>by simp only[JI,Nat.blt_eq] at h ⊢;omega
 |.csl id _ _,h=>by simp only[JI,Nat.blt_eq] at h ⊢;omega
 |.mp id,h=>by simp only[JI,Nat.blt_eq] at h ⊢;omega
 |.agg l,h=>u0 hle l h
 |.tup l,h=>u0 hle l h
 |.clo _ l,h=>u0 hle l h
 |.f _ _,_=>rfl
 |.fel _ _ _ _ _,_=>rfl
 |.emp,_=>rfl
 |.nil,_=>rfl
 |.undef,_=>rfl
 |.np,_=>rfl
 |.anyb,_=>rfl
theorem u0 {n n':Nat} (hle:n<=n'):∀ (l:List TV),qy n l=ah->qy n' l=ah
 |[],_=>rfl
 |x::r,h=>by
  simp only[qy,au] at h ⊢;exact⟨XX hle x h.1,u0 hle r h.2⟩
end
theorem K5 {g g':Nat->Nat} {h:bd}:∀ (bs:List PB) (i:Nat) (x:(PB.tyL bs).den) (m:Nat),Gi bs=ah->zw g h i bs=aa (x,m)->∃ l,nS g' bs x=aa l/\l.length=bs.length/\∀ j,j<bs.length->∃ ty p T xs,l[j]? =aa (aa (.rows ty p T xs))/\h.get (g (i+j))=aa (.rows ty p T xs)
 |[],i,x,m,_,hg=>⟨[],rfl,rfl,λj hj=>by simp at hj⟩
 |.rows ty p T::r,i,x,m,I,hg=>by
  simp only[zw] at hg;split at hg
  .rename_i M m1 h1;split at hg
   .rename_i J m2 h2;simp only[aj,aB] at hg;obtain⟨rfl,rfl⟩:=hg;obtain⟨l,q1,Z,q3⟩:=K5 (g:=g) (g':=g') (h:=h) r (i+1) J m2 I h2;simp only[Du] at h1;split at h1
    .rename_i ty' p' S xs hb;split at h1
     .rename_i hc;simp only[au,cN] at hc;obtain⟨rfl,rfl⟩:=hc;split at h1
      .rename_i z hz;simp only[aj] at h1;obtain⟨rfl,_⟩:=h1;obtain⟨es,ez⟩:=iR hz;cases es;subst ez;refine ⟨aa (.rows ty p T M)::l,?_,by simp[Z],λj hj=>?_⟩
       .simp only[nS];rw[sj,tU,q1];rfl
       .cases j with
        |zero=>exact⟨ty,p,T,_,rfl,hb⟩
        |succ j=>
         obtain⟨a,b,c,d,Y,U⟩:=q3 j (by simpa using hj);exact⟨a,b,c,d,by simpa using Y,by rw[show i+(j+1)=i+1+j from by omega];exact U⟩
      .cases h1
     .cases h1
    .cases h1
   .cases hg
  .cases hg
 |.rowsP _ _::r,i,x,m,I,hg=>by cases I
 |.cells _ _::r,i,x,m,I,hg=>by cases I
 |.mp _ _::r,i,x,m,I,hg=>by cases I
 |.gone::r,i,x,m,I,hg=>by cases I
theorem Ed:∀ {bs:List PB},Gi bs=ah->Al bs=ah
 |[],_=>rfl
 |.rows _ _ _::r,h=>Ed (bs:=r) h
 |.rowsP _ _::r,h=>by cases h
 |.cells _ _::r,h=>by cases h
 |.mp _ _::r,h=>by cases h
 |.gone::r,h=>by cases h
theorem D_ {h h2:bd} {g:Nat->Nat}:∀ (n:Nat),(∀ i,i<n->h2.get (g i)=h.get (g i))->sK h h2 g n=ah
 |0,_=>rfl
 |n+1,hs=>by
  simp only[sK,au];refine ⟨?_,D_ n λi hi=>hs i (by omega)⟩;have:dZ h2 (g n)=dZ h (g n):=by rw[bO,bO,hs n (by omega)]
  rw[this];cases dZ h (g n) with
  |none=>rfl
  |some q=>obtain⟨p,s,k⟩:=q;simp
def Jo (P:Program) (con:FuncId->Option cq):Prop:=∀ f c,con f=aa c->aG P f c
theorem UP {R:Type} {P:Program} {con:FuncId->Option cq} (hcon:Jo P con) {o:Oper} {e:iy} {h:bd} {nx:Nat} {f:FuncId} {l:List TV} {K:KO R} {r:R} (hinv:lG h nx) (hk:UQ con f l h nx K=aa r) {la:List AV} (hla:cF h l=aa la)
 (hexec:∀ (φ:PM) (E:Nat->Prop) (h':HF) (w:World) (a:Act),CL P f->(∀ t,.tmp t∈o.op.operands->∀ y,fD e h t=aa y->cG φ (tot E φ h') w y (a.tmps.getD t undef))->qd φ E h' w->∃ us:List Value,(execOp a.eval o).run P w= .ok (.enter f us.toArray) w/\jH φ (tot E φ h') w la us):kq P o ai e h nx K r:=by
 unfold UQ at hk;split at hk
 .rename_i c hc;have spc:=hcon f c hc;split at hk
  .rename_i x m σ sm hM;split at hk
   .rename_i q hq;obtain⟨vs,hp⟩:=q;obtain⟨l1,I⟩:=u_ hq;obtain⟨y,hy,hk⟩:=dy hk;split at hk
    .rename_i q2 hq2;obtain⟨rs1,Z⟩:=q2;obtain⟨l2,J⟩:=u_ hq2;split at hk
     .rename_i hcond;simp only[au] at hcond;have hle:=aY hcond.1;have sp:=spc.holds hcond.1;simp only at hk;split at hk
      .rename_i rs hrs;have hrs':=hrs;rw[sw,J.pv] at hrs';simp only[b7,aj] at hrs';split at hk
       .rename_i hb;simp only[au] at hb;have hq0:=av hb.1.2;refine ⟨_,_,_,_,_,hk,?_⟩;rw[<- hrs'];exact aaq hinv sp (uX hM) I hy J (by omega) hq0 hb.2 _ hla λφ E h' w a=>hexec φ E h' w a sp.callable
       .split at hk
        .rename_i h2 U;obtain⟨hsr,hk⟩:=dN hk;refine ⟨_,_,_,_,_,hk,?_⟩;rw[<- hrs'];unfold KM at U;rw[uN,J.pb] at U;simp only[b7,aj] at U;exact YK hinv sp (uX hM) I hcond.2 hy J hle (λi hi=>by
          have:fR i c.pre.bs.length=ah:=bz hi;simp only[this,bB]) (λi hi=>by
          have:fR i c.pre.bs.length=ai:=by
           cases hb:fR i c.pre.bs.length with
           |false=>rfl
           |true=>have:=aY hb;omega
          simp only[this];rfl) U.symm hsr hla λφ E h' w a=>hexec φ E h' w a sp.callable
        .cases hk
      .cases hk
     .rename_i hcond;split at hk
      .rename_i hro;simp only[au] at hro;have hq0:=av hro.1;have hng:=Ed hro.2;have sp:o_ P f c.full:=by
        unfold aG at spc
        rwa [aC (λhb=>hcond (by rw[hb,hng];rfl))] at spc
       simp only at hk;split at hk
       .rename_i rs hrs;split at hk
        .rename_i h2 U;have hrs':=hrs;rw[sw,J.pv] at hrs';simp only[b7,aj] at hrs';refine ⟨_,_,_,_,_,hk,?_⟩;rw[<- hrs'];have M:=uX hM;unfold KM at U;rw[uN,I.pb] at U;simp only[b7,aj] at U;have hqe:∀ i,Z.get i=af:=λi=>by
          cases hb:Z.get i with
          |none=>rfl
          |some b=>have:=J.lt_len hb;omega
         have J':pR c.full.post (Rw (PV.tyL c.post.vs) (PB.tyL c.pre.bs) (MB _ _ y) (Jz _ _ x)) rs1 hp l1:=
          ⟨by show pj F7 c.post.vs (MB (PV.tyL c.post.vs) (PB.tyL c.pre.bs) _)=_;rw[sj];exact J.pv,by show nS F7 c.pre.bs (Jz (PV.tyL c.post.vs) (PB.tyL c.pre.bs) _)=_;rw[tU];exact I.pb,I.len,I.at_,iF (λi r hr=>by rw[bO,hqe] at hr;cases hr) _ J.ok,u0 (by omega) _ J.lt,I.cells⟩
         obtain⟨x1,m1,x2,m2,hx,hmm,gv,gb⟩:=M.ex;obtain⟨l,q1,q2,q3⟩:=K5 (g':=F7) c.pre.bs 0 x2 m2 hro.2 gb;have hl1:l1=l:=by
          have:=I.pb;rw[hx,tU,q1] at this;cases this;rfl
         subst hl1;have hgi:∀ i,i<c.pre.bs.length->(if fR i c.pre.bs.length then gW σ i else nx+(i-c.pre.bs.length))=gW σ i:=λi hi=>by
          have:fR i c.pre.bs.length=ah:=bz hi;simp only[this,bB]
         have hsame:∀ i,i<c.pre.bs.length->h2.get (gW σ i)=h.get (gW σ i):=λi hi=>by
          obtain⟨ty,p,T,xs,w1,Y⟩:=q3 i hi;rw[bJ] at Y;have:=tY (λi=>if fR i c.pre.bs.length then gW σ i else nx+(i-c.pre.bs.length)) (l1.map (lj (lq (λi=>if fR i c.pre.bs.length then gW σ i else nx+(i-c.pre.bs.length))))) 0 (d_ m h) (λa b ha hb e=>by
           simp only[b8,q2] at ha hb;rw[bJ,bJ,hgi a ha,hgi b hb] at e;exact M.inj a b ha hb e) i (aa (.rows ty p T xs)) (by rw[a8,w1];rfl)
          rw[bJ,hgi i hi] at this;rw[<- U,this,Y]
         have t:=YK (o:=o) (e:=e) hinv sp M I hng (y:=Rw (PV.tyL c.post.vs) (PB.tyL c.pre.bs) (MB _ _ y) (Jz _ _ x)) (by show obind (c.m x) _=_;rw[hy];rfl) J' (bQ _) (g:=λi=>if fR i c.pre.bs.length then gW σ i else nx+(i-c.pre.bs.length)) hgi (λi hi=>by
          have:fR i c.pre.bs.length=ai:=by
           cases hb:fR i c.pre.bs.length with
           |false=>rfl
           |true=>have:=aY hb;have hi:c.pre.bs.length<=i:=hi;omega
          simp only[this];rfl) U.symm (D_ _ λi hi=>by rw[hgi i hi];exact hsame i hi) hla λφ E h' w a=>hexec φ E h' w a sp.callable
         have t':iS P o ai e h nx (NX (j8 (λi=>if fR i c.pre.bs.length then gW σ i else nx+(i-c.pre.bs.length)) rs1)) (sm|||m) (sm|||m|||(((1<<<(c.pre.bs.length-c.pre.bs.length))-1)<<<nx)) h2 (nx+(c.pre.bs.length-c.pre.bs.length)):=t;rw[Nat.sub_self,c8] at t';refine t'.drop (W:=sm) (λi hi=>?_) (λi hi=>?_)
         .refine ⟨?_,by rw[bl,hi];rfl⟩;obtain⟨k,hk,rfl⟩:=(M.sig i).1 hi;obtain⟨ty,p,T,xs,_,Y⟩:=q3 k hk;rw[bJ] at Y;rw[bE,bE,hsame k hk,Y];rfl
         .simp only[Nat.shiftLeft_zero,Nat.sub_self,Nat.zero_shiftLeft,Nat.or_zero,bl,iE] at hi;exact hi
        .cases hk
       .cases hk
      .cases hk
    .cases hk
   .cases hk
  .cases hk
 .cases hk
theorem ad8 {R:Type} {P:Program} {con:FuncId->Option cq} (hcon:Jo P con) {bY:TypeId->Option Ty} {o:Oper} {e:iy} {h:bd} {nx:Nat} {i:SI} {K:KO R} {r:R} (hinv:lG h nx) (hi:sr e h) (hc:xc P o.op=i) (hk:dK con bY i e h nx K=aa r):kq P o i.still e h nx K r:=by
 have callOps:∀ (c:Call),o.op= .call c->∀ x,x∈c.operands->x∈o.op.operands:=λc I x J=>by rw[I];exact J
 cases i with
 |call f args=>
  simp only[dK] at hk;split at hk
  .rename_i l hl;have I:∃ c:Call,o.op= .call c/\c.callee= .value (.func f)/\c.args.toList=args:=by
    unfold xc at hc;split at hc
    .rename_i i hi;subst hc;unfold M_ at hi;split at hi
     .rename_i c I;split at hi
      .rename_i g hg;simp only[aj,SI.call.injEq] at hi;exact⟨c,I,by rw[hg,hi.1],hi.2⟩
      .simp at hi
      .cases hi
     .cases hi
    .split at hc<;>cases hc
   obtain⟨c,I,h1,h2⟩:=I;obtain⟨la,Z,Y⟩:=xv hi hl;refine UP hcon hinv hk Y λφ E h' w a hcb hops hrep=>?_
   have hp:Tx φ E h' w a (HR e h) o:=λx y J U=>sk hrep (by rw[ub];exact hops) J U
   refine ⟨args.map a.eval,?_,MI hp args la (λx J=>callOps c I x (by simp[eD,h1,<-h2] at J ⊢;exact .inr J)) Z⟩;unfold execOp;rw[I];have hm:c.args.map a.eval=(args.map a.eval).toArray:=by rw[<- h2];apply Js;simp
   simp[resolve,h1,Act.eval,Deferred.ofValue,invoke,hm,vM hcb]
  .cases hk
 |callv x args=>
  simp only[dK] at hk;split at hk
  .rename_i f cap l J hl;have I:∃ c:Call,o.op= .call c/\c.callee= .value x/\c.args.toList=args:=by
    unfold xc at hc;split at hc
    .rename_i i hi;subst hc;unfold M_ at hi;split at hi
     .rename_i c I;split at hi
      .simp at hi
      .rename_i g hg;simp only[aj,SI.callv.injEq] at hi;exact⟨c,I,by rw[hg,hi.1],hi.2⟩
      .cases hi
     .cases hi
    .split at hc<;>cases hc
   obtain⟨c,I,h1,h2⟩:=I;obtain⟨la,Z,Y⟩:=xv hi hl;obtain⟨yx,g3,M⟩:=bG hi J;simp only[ch] at M;split at M
   .rename_i lc hlc;simp only[aj] at M;subst M;refine UP hcon hinv hk (mM Y hlc) λφ E h' w a hcb hops hrep=>?_
    have hp:Tx φ E h' w a (HR e h) o:=λx y J U=>sk hrep (by rw[ub];exact hops) J U
    have hxv:=hp x _ (callOps c I x (by simp[eD,h1])) g3;have hlv:=MI hp args la (λx J=>callOps c I x (by simp[eD,h1,<-h2] at J ⊢;exact .inr J)) Z;generalize hz:a.eval x=z at hxv;cases hxv with
    |@clo _ _ vs hvl hvr=>
     refine ⟨args.map a.eval++vs,?_,hlv.append (jH.of hvl hvr)⟩;unfold execOp;rw[I];have hm:c.args.map a.eval=(args.map a.eval).toArray:=by rw[<- h2];apply Js;simp
     simp[resolve,h1,hz,Deferred.ofValue,invoke,hm,vM hcb]
   .cases M
  .cases hk
 |op s=>
  have hc:s= .bad\/c6 P o.op=aa s:=by
   unfold xc at hc;split at hc
   .rename_i i hi;subst hc;unfold M_ at hi;split at hi
    .split at hi<;>simp at hi
    .cases hi
   .split at hc
    .rename_i q hq;simp only[SI.op.injEq] at hc;subst hc;exact .inr hq
    .simp only[SI.op.injEq] at hc;exact .inl hc.symm
  rcases hc with rfl|hc
  .simp[dK] at hk
  .exact K_op hinv hi hc hk
def f_ (am:Nat) (e e':iy):Prop:=∀ k,aL am k=ai->∀ I,e'.get k=aa I->∃ v,e.get k=aa v/\(sY v=ah->I=v)
theorem f_.refl (am:Nat) (e:iy):f_ am e e:=λ_ _ I h=>⟨I,h,λ_=>rfl⟩
theorem f_.trans {am:Nat} {a b c:iy} (h1:f_ am a b) (h2:f_ am b c):f_ am a c:=λk hk J hv=>by
 obtain⟨I,Z,Y⟩:=h2 k hk J hv;obtain⟨v,U,M⟩:=h1 k hk I Z;refine ⟨v,U,λhf=>?_⟩;have:=M hf;subst this;exact Y hf
theorem f_.mono {am am':Nat} {a b:iy} (h:f_ am a b) (hm:∀ k,aL am k=ah->aL am' k=ah):f_ am' a b:=λk hk=>h k (by
 cases I:aL am k with
 |false=>rfl
 |true=>rw[hm k I] at hk;cases hk)
structure Y6 (P:Program) (ops:Array Oper) (rest:List Oper) (sl:List rz) (am:Nat) (s s':TS) (fs:List Zn) (l:List (Oper×zX)):Prop where
 ops_:l.map (·.1)=rest
 chain:yr P ops l (fD s.e s.h) (bw s.h) (fD s'.e s'.h) (bw s'.h)
 fsl:fs.length=l.length
 sll:sl.length=l.length
 fp:∀ (j:Nat) o f q,l[j]? =aa (o,f)->fs[j]? =aa q->(∀ n∈f.rd,aL q.rd (ow n)=ah)/\∀ n∈f.wr,aL q.wr (ow n)=ah
 still:∀ (j:Nat) o f so,l[j]? =aa (o,f)->sl[j]? =aa so->so.op.still=ah->f.rd=[]/\f.wr=[]
 names:∀ (j:Nat) o f,l[j]? =aa (o,f)->∀ n∈f.N,s.nx<=ow n/\ow n<s'.nx
 apart_:∀ (i j:Nat) oi fi oj fj,i<j->l[i]? =aa (oi,fi)->l[j]? =aa (oj,fj)->∀ n∈fi.N,n∉fj.N
 grows:s.nx<=s'.nx
 invH:lG s'.h s'.nx
 invE:sr s'.e s'.h
 keeps:f_ am s.e s'.e
theorem ZP {e:iy} {h h':bd} (hi:sr e h) (hr:cg h h') (d:Option Nat) {v:TV} {y:AV} (hv:ch h' v=aa y):Bs (fD e h) d y=fD (C1 e d v) h':=by
 funext t;have old:(e.get t).bind (ch h)=(e.get t).bind (ch h'):=by
  cases ht:e.get t with
  |none=>rfl
  |some x=>
   obtain⟨z,I⟩:=pm h x (hi t x ht);simp only[aE,I,gk hr x z I]
 cases d with
 |none=>simp only[Bs,C1,fD];rw[aC (by simp)];exact old
 |some d=>
  simp only[Bs,C1,fD,PT.get_set,aj];by_cases hd:d=t
  .subst hd;simp[hv]
  .rw[aC hd,aC (λe=>hd e.symm)];exact old
theorem sr.put {e:iy} {h h':bd} (hi:sr e h) (hr:cg h h') (d:Option Nat) {v:TV} (hv:JG h' v=ah):sr (C1 e d v) h':=λt x I=>by
 cases d with
 |none=>exact nU hr x (hi t x I)
 |some d=>
  simp only[C1,PT.get_set] at I;split at I
  .cases I;exact hv
  .exact nU hr x (hi t x I)
theorem O9 {e:iy} {h:bd} {t:Nat} {v:TV} (ht:e.get t=aa v):fD (e.set t (aa v)) h=fD e h:=by
 funext k;simp only[fD,PT.get_set];by_cases hk:k=t
 .subst hk;simp[ht]
 .rw[aC hk]
theorem sr.set {e:iy} {h:bd} {t:Nat} {v:TV} (hi:sr e h) (ht:e.get t=aa v):sr (e.set t (aa v)) h:=λk x I=>by
 rw[PT.get_set] at I;split at I
 .rename_i hk;subst hk;cases I;exact hi _ _ ht
 .exact hi k x I
theorem Q7 {R:Type} {e:iy} {g:Option (Nat×Bool)} {K:Bool->iy->Option R} {r:R} (h:Xg e g K=aa r):
 (g=af/\K ah e=aa r)\/(∃ t want b,g=aa (t,want)/\e.get t=aa (.f .bool b)/\K (b==want) (e.set t (aa (.f .bool b)))=aa r)\/∃ t want,g=aa (t,want)/\e.get t=aa .undef/\K ai e=aa r:=by
 unfold Xg at h;split at h
 .exact .inl ⟨rfl,h⟩
 .rename_i t want;split at h
  .rename_i b hb;refine .inr (.inl ⟨t,want,b,rfl,hb,?_⟩);cases want with
   |true=>rcases oS h with ⟨rfl,h⟩|⟨rfl,h⟩<;>exact h
   |false=>rcases oS h with ⟨rfl,h⟩|⟨rfl,h⟩<;>exact h
  .rename_i hb;exact .inr (.inr ⟨t,want,rfl,hb,h⟩)
  .cases h
theorem GP {R:Type} {P:Program} {con:FuncId->Option cq} (hcon:Jo P con) {bY:TypeId->Option Ty} {ops:Array Oper} {am:Nat} (ham:∀ (j:Nat) (o:Oper) (d:Nat),ops[j]? =aa o->o.dst=aa d->aL am d=ah):
 ∀ (rest:List Oper) (sl:List rz) (s:TS) (fs:List Zn) (K:TS->List Zn->Option R) (r:R),(∀ o∈rest,∃ j:Nat,ops[j]? =aa o)->qU P ops rest=aa sl->JD con bY sl s fs K=aa r->lG s.h s.nx->sr s.e s.h->∃ s' fs' l,K s' (fs.reverse++fs')=aa r/\Y6 P ops rest sl am s s' fs' l
 |[],sl,s,fs,K,r,hin,hc,hk,hH,M=>by
  simp only[qU,aj] at hc;subst hc;simp only[JD] at hk;exact⟨s,[],[],by simpa using hk,rfl,.nil _ _,rfl,rfl,by simp,by simp,by simp,by simp,bQ _,hH,M,f_.refl _ _⟩
 |o::rest,sl,s,fs,K,r,hin,hc,hk,hH,M=>by
  simp only[qU] at hc;split at hc
  .rename_i sl' hsl';have hso:∃ g,sl=⟨o.dst,xc P o.op,g⟩::sl'/\((g=af/\o.guard=af)\/∃ j want t,g=aa (t,want)/\o.guard=aa (j,want)/\(ops[j]?).bind (·.dst)=aa t):=by
    split at hc
    .rename_i hg;simp only[aj] at hc;exact⟨af,hc.symm,.inl ⟨rfl,hg⟩⟩
    .rename_i j want hg;split at hc
     .rename_i t ht;simp only[aj] at hc;exact⟨aa (t,want),hc.symm,.inr ⟨j,want,t,rfl,hg,ht⟩⟩
     .cases hc
   obtain⟨g,rfl,hg⟩:=hso;simp only[JD] at hk;have hdst:∀ d,o.dst=aa d->aL am d=ah:=λd hd=>by
    obtain⟨j,hj⟩:=hin o (dG ..);exact ham j o d hj hd
   have hgs:∀ t want,g=aa (t,want)->aL am t=ah:=λt want hgt=>by
    rcases hg with ⟨h1,_⟩|⟨j,want',t',h1,_,I⟩
    .rw[h1] at hgt;cases hgt
    .rw[h1] at hgt;cases hgt;cases hj:ops[j]? with
     |none=>rw[hj] at I;cases I
     |some oj=>rw[hj] at I;exact ham j oj t hj I
   have kput:∀ (e:iy) (v:TV),f_ am s.e e->f_ am s.e (C1 e o.dst v):=λe v hke k hk v' hv=>by
    cases hd:o.dst with
    |none=>rw[hd] at hv;exact hke k hk v' hv
    |some d=>
     rw[hd] at hv;simp only[C1,PT.get_set] at hv;split at hv
     .rename_i e2;rw[e2,hdst d hd] at hk;cases hk
     .exact hke k hk v' hv
   have done:∀ (f:zX) (v:TV) (h':bd) (nx' rd wr:Nat) (e:iy),fD e s.h=fD s.e s.h->sr e s.h->f_ am s.e e->Jb P ops o f (fD s.e s.h) (bw s.h)->(∃ y,ch h' v=aa y/\f.val=y)->eE (bw s.h) f.wr f.nw=bw h'->(∀ n∈f.rd,aL rd (ow n)=ah)->(∀ n∈f.wr,aL wr (ow n)=ah)->(∀ n∈f.N,s.nx<=ow n/\ow n<nx')->cg s.h h'->lG h' nx'->s.nx<=nx'->((xc P o.op).still=ah->f.rd=[]/\f.wr=[])->
    JD con bY sl' ⟨C1 e o.dst v,h',nx'⟩ (⟨rd,wr⟩::fs) K=aa r->∃ s' fs' l,K s' (fs.reverse++fs')=aa r/\Y6 P ops (o::rest) (⟨o.dst,xc P o.op,g⟩::sl') am s s' fs' l:=by
    intro f v h' nx' rd wr e hee hiE hke hst hval hheap hrd hwr hN hrows hinv' hgr hstill hrun;obtain⟨y,U,hy2⟩:=hval;obtain⟨s',fs',l,J,L⟩:=GP hcon ham rest sl' _ _ K r (λo' ho'=>hin o' (cO _ ho')) hsl' hrun hinv' (hiE.put hrows o.dst (Dz _ _ _ U));have hg2:nx'<=s'.nx:=L.grows;refine ⟨s',⟨rd,wr⟩::fs',(o,f)::l,by simpa using J,by simp[L.ops_],.cons hst ?_,by simp[L.fsl],by simp[L.sll],?_,?_,?_,?_,c7 hgr hg2,L.invH,L.invE,(kput e v hke).trans L.keeps⟩
    .have e1:Bs (fD s.e s.h) o.dst f.val=fD (C1 e o.dst v) h':=by rw[<- hee,hy2];exact ZP hiE hrows o.dst U
     rw[e1,hheap];exact L.chain
    .intro j o' f' q' h1 h2;cases j with
     |zero=>simp at h1 h2;obtain⟨rfl,rfl⟩:=h1;subst h2;exact⟨hrd,hwr⟩
     |succ j=>exact L.fp j o' f' q' (by simpa using h1) (by simpa using h2)
    .intro j o' f' so h1 h2 I;cases j with
     |zero=>simp at h1 h2;obtain⟨rfl,rfl⟩:=h1;subst h2;exact hstill I
     |succ j=>exact L.still j o' f' so (by simpa using h1) (by simpa using h2) I
    .intro j o' f' h1 n hn;cases j with
     |zero=>
      simp at h1;obtain⟨rfl,rfl⟩:=h1;have:=hN n hn;exact⟨this.1,by omega⟩
     |succ j=>
      have:=L.names j o' f' (by simpa using h1) n hn;exact⟨c7 hgr this.1,this.2⟩
    .intro i j oi fi oj fj hij h1 h2 n hn Y;cases j with
     |zero=>omega
     |succ j=>
      have hj:=L.names j oj fj (by simpa using h2) n Y;cases i with
      |zero=>
       simp at h1;obtain⟨rfl,rfl⟩:=h1;have I:=(hN n hn).2;have Z:nx'<=ow n:=hj.1;omega
      |succ i=>exact L.apart_ i j oi fi oj fj (by omega) (by simpa using h1) (by simpa using h2) n hn Y
   have runs:∀ (e:iy),fD e s.h=fD s.e s.h->sr e s.h->f_ am s.e e->(∀ f,gB P o (fD s.e s.h) (bw s.h) f->Jb P ops o f (fD s.e s.h) (bw s.h))->dK con bY (xc P o.op) e s.h s.nx (λv rd wr h nx=>if JG h v then JD con bY sl' ⟨C1 e o.dst v,h,nx⟩ (⟨rd,wr⟩::fs) K else af)=aa r->∃ s' fs' l,K s' (fs.reverse++fs')=aa r/\Y6 P ops (o::rest) (⟨o.dst,xc P o.op,g⟩::sl') am s s' fs' l:=by
    intro e hee hiE hke hstep hk;obtain⟨v,rd,wr,h',nx',J,T⟩:=ad8 hcon hH hiE rfl hk;simp only[] at J;split at J
    .rename_i hok;obtain⟨f,t1,t2,t3,t4,t5,t6⟩:=T.ex;rw[hee] at t1;obtain⟨y,hy⟩:=pm h' v hok;refine done f v h' nx' rd wr e hee hiE hke (hstep f t1) ⟨y,hy,t2 y hy⟩ t3 t4 t5 t6 T.rows T.inv T.grows (λhs=>?_) J;obtain⟨r0,w0⟩:=T.st hs;subst r0;subst w0;constructor
     .cases hl:f.rd with
      |nil=>rfl
      |cons n q=>have:=t4 n (by rw[hl];simp);simp at this
     .cases hl:f.wr with
      |nil=>rfl
      |cons n q=>have:=t5 n (by rw[hl];simp);simp at this
    .cases J
   have skips:∀ (e:iy),fD e s.h=fD s.e s.h->sr e s.h->f_ am s.e e->Jb P ops o qM (fD s.e s.h) (bw s.h)->JD con bY sl' ⟨C1 e o.dst .undef,s.h,s.nx⟩ (⟨0,0⟩::fs) K=aa r->∃ s' fs' l,K s' (fs.reverse++fs')=aa r/\Y6 P ops (o::rest) (⟨o.dst,xc P o.op,g⟩::sl') am s s' fs' l:=by
    intro e hee hiE hke hstep hk;exact done qM .undef s.h s.nx 0 0 e hee hiE hke hstep ⟨_,rfl,rfl⟩ (by funext i;simp[eE,qM]) (by simp[qM]) (by simp[qM]) (by simp[qM]) (cg.refl _) hH (bQ _) (λ_=>⟨rfl,rfl⟩) hk
   rcases Q7 hk with ⟨h1,hk⟩|⟨t,want,b,h1,hb,hk⟩|⟨t,want,h1,hb,hk⟩
   .refine runs s.e rfl M (f_.refl _ _) (λf hf=>?_) hk;rcases hg with ⟨_,hg⟩|⟨j,want,t,h2,_,_⟩
    .exact .run hg hf
    .rw[h1] at h2;cases h2
   .rcases hg with ⟨h2,_⟩|⟨j,want',t',h2,I,Z⟩
    .rw[h1] at h2;cases h2
    .rw[h1] at h2;cases h2;have hgt:=hgs t want h1;have heb:fD s.e s.h t=aa (.f (.raw (.bool b))):=by simp only[fD,hb,aE,ch];rfl
     have hke:f_ am s.e (s.e.set t (aa (.f .bool b))):=λk hk v' hv=>by
      rw[PT.get_set] at hv;split at hv
      .rename_i ek;rw[ek,hgt] at hk;cases hk
      .exact⟨v',hv,λ_=>rfl⟩
     cases hbw:(b==want) with
     |true=>
      rw[hbw] at hk;have:b=want:=by simpa using hbw
      subst this;exact runs _ (O9 hb) (M.set hb) hke (λf hf=>.runG j t b I Z heb hf) hk
     |false=>
      rw[hbw] at hk;refine skips _ (O9 hb) (M.set hb) hke (.skip j t want I Z (.bool b) heb ?_ rfl) hk;intro hv;cases hv;simp at hbw
   .rcases hg with ⟨h2,_⟩|⟨j,want',t',h2,I,Z⟩
    .rw[h1] at h2;cases h2
    .rw[h1] at h2;cases h2;exact skips _ rfl M (f_.refl _ _) (.skip j t want I Z undef (by simp only[fD,hb,aE,ch]) (by unfold undef;simp) rfl) hk
  .cases hc
theorem ZZ {P:Program} {ops:Array Oper} {sl:List rz} {am:Nat} {s s':TS} {fs:List Zn} {l:List (Oper×zX)} {prs:List (Nat×Nat)} (hl:Y6 P ops ops.toList sl am s s' fs l) (hp:KN ops sl=aa prs) (hok:Ea fs prs=ah):NIP ops l:=by
 unfold KN at hp;simp only[] at hp;split at hp
 .rename_i hall;simp only[fY,mQ,au] at hall;simp only[aj] at hp;have hop:∀ (j:Nat) o f,l[j]? =aa (o,f)->ops[j]? =aa o:=λj o f hj=>by
   have h1:(l.map (·.1))[j]? =aa o:=by rw[a8,hj];rfl
   rw[hl.ops_] at h1;simpa using h1
  have hsize:∀ (j:Nat) o,ops[j]? =aa o->j<ops.size:=λj o h=>(cu.1 h).1
  have hprs:∀ i j,(i,j)∈prs->∃ a b,fs[i]? =aa a/\fs[j]? =aa b/\Cm a.wr b.rd=ah/\Cm a.wr b.wr=ah/\Cm b.wr a.rd=ah:=by
   clear hp hall;induction prs with
   |nil=>intro i j h;cases h
   |cons p prs ih=>
    obtain⟨i0,j0⟩:=p;simp only[Ea,au,Uw] at hok;intro i j hm;rcases bh.1 hm with h|h
    .cases h;have h1:=hok.1;split at h1
     .rename_i a b Z hb;simp only[au] at h1;exact⟨a,b,Z,hb,h1.1.1,h1.1.2,h1.2⟩
     .cases h1
    .exact ih hok.2 i j h
  refine ⟨λj o ho e he hb=>?_,λi j oi fi oj fj hij hi hj=>?_,hl.apart_⟩
  .have:=(hall j (hsize j o ho)).1;rw[ho] at this;simp only[Option.all_some,fY] at this;have:=this e (by simpa using he);simp[hb] at this;exact this
  .have h1:=hop i oi fi hi;have h2:=hop j oj fj hj;have hcase:=(hall j (hsize j oj h2)).2 i hij;rw[h1,h2] at hcase;simp only[iE] at hcase;by_cases M:aL ((I1 ops.toList []).getD j 0) i=ah
   .left;rw[ax] at M;cases I:(I1 ops.toList [])[j]? with
    |none=>rw[I] at M;simp at M
    |some B=>
     rw[I] at M;exact Lz (ops:=ops) ops.toList [] (λj o hj=>by simpa using hj) (λj B hj=>by simp at hj) j B I i (by simpa using M)
   .right;have hap:=hcase.resolve_left M;refine ⟨hap,?_⟩;have hil:i<l.length:=(be.1 hi).1;have hjl:j<l.length:=(be.1 hj).1;have hsi:=ay (show i<sl.length by rw[hl.sll];exact hil);have hsj:=ay (show j<sl.length by rw[hl.sll];exact hjl);by_cases hst:(sl[i]'(by rw[hl.sll];exact hil)).op.still=ah
    .obtain⟨Y,U⟩:=hl.still i oi fi _ hi hsi hst;rw[Y,U];exact⟨(λx I=>by cases I),(λx _ I=>by cases I)⟩
    .by_cases hst2:(sl[j]'(by rw[hl.sll];exact hjl)).op.still=ah
     .obtain⟨Y,U⟩:=hl.still j oj fj _ hj hsj hst2;rw[Y,U];exact⟨(λx I=>⟨(by simp),(by simp)⟩),(λx I=>by cases I)⟩
     .have hmem:(i,j)∈prs:=by
       rw[<- hp,tP];refine ⟨j,mQ.2 (hsize j oj h2),?_⟩;rw[List.mem_filterMap];refine ⟨i,mQ.2 hij,?_⟩;rw[aC];rw[hsi,hsj];simp only[iE,not_or];exact⟨M,hst,hst2⟩
      obtain⟨a,b,Z,hb,d1,d2,d3⟩:=hprs i j hmem;obtain⟨f1,f2⟩:=hl.fp i oi fi a hi Z;obtain⟨g1,g2⟩:=hl.fp j oj fj b hj hb;refine ⟨λx I=>⟨λJ=>?_,λJ=>?_⟩,λx I J=>?_⟩
      .have:=wC d1 (ow x) (f2 x I);rw[g1 x J] at this;cases this
      .have:=wC d2 (ow x) (f2 x I);rw[g2 x J] at this;cases this
      .have:=wC d3 (ow x) (g2 x I);rw[f1 x J] at this;cases this
 .cases hp
structure oc (P:Program) (E:Nat->Prop) (nt np:Nat) (φ:PM) (s:TS) (a:Act) (w:World):Prop where
 rep:qd φ E (bw s.h) w
 env:LG φ (tot E φ (bw s.h)) w (fD s.e s.h) a
 dom:∀ n k,φ n=aa k->ow n<s.nx
 low:np<=s.nx
 invH:lG s.h s.nx
 invE:sr s.e s.h
 inert:∀ d∈a.defers,Zk P d
 size:a.tmps.size=nt
structure A_ (np:Nat) (φ φ':PM) (H H':HF) (w w':World):Prop where
 ext:Jm (own φ H) w w'
 own_:∀ k,k<w.heap.size->own φ' H' k->own φ H k
 par:∀ i,i<np->φ' (nm i)=φ (nm i)
theorem A_.refl (np:Nat) (φ:PM) (H:HF) (w:World):A_ np φ φ H H w w:=⟨Jm.refl _ _,λ_ _ h=>h,λ_ _=>rfl⟩
theorem A_.trans {np:Nat} {φ φ' φ'':PM} {H H' H'':HF} {w w' w'':World} (a:A_ np φ φ' H H' w w') (b:A_ np φ' φ'' H' H'' w' w''):A_ np φ φ'' H H'' w w'' where
 ext:=⟨b.ext.os.trans a.ext.os,b.ext.tape.trans a.ext.tape,b.ext.output.trans a.ext.output,c7 a.ext.size b.ext.size,
  λk hk I=>(b.ext.blk k (dj hk a.ext.size) (λh=>I (a.own_ k hk h))).trans (a.ext.blk k hk I),
  λk hk=>(b.ext.shp k (dj hk a.ext.size)).trans (a.ext.shp k hk)⟩
 own_:=λk hk h=>a.own_ k hk (b.own_ k (dj hk a.ext.size) h)
 par:=λi hi=>(b.par i hi).trans (a.par i hi)
theorem XC {R:Type} {P:Program} {E:Nat->Prop} {nt np:Nat} {φ:PM} {s:TS} {a:Act} {w:World} {con:FuncId->Option cq} {bY:TypeId->Option Ty} (hm:P.follows .mixedOrders=ah) (hcon:Jo P con) (c:oc P E nt np φ s a w) {id:Nat} {ops:Array Oper} {draw:Bool} {sl:List rz} {prs:List (Nat×Nat)} {am:Nat} (ham:∀ (j:Nat) (o:Oper) (d:Nat),ops[j]? =aa o->o.dst=aa d->aL am d=ah)
 (hd:(ops.toList.all λo=>match o.dst with|some d=>decide (d<nt)|none=>ah)=ah) (hc:qU P ops ops.toList=aa sl) (hp:KN ops sl=aa prs) {K:TS->Option R} {r:R} (hr:JD con bY sl s [] (λs' fs=>if Ea fs prs then K s' else af)=aa r) {Q:Exit->Act->World->Prop}
 (hQ:∀ a' w' s' φ',K s'=aa r->oc P E nt np φ' s' a' w'->A_ np φ φ' (bw s.h) (bw s'.h) w w'->f_ am s.e s'.e->Q .normal a' w'):(Code.region id ops draw).wp P Q a w:=by
 obtain⟨s',fs',l,J,L⟩:=GP hcon ham ops.toList sl s [] _ r (λo U=>by
  obtain⟨j,hj⟩:=eO U;exact⟨j,by simpa using hj⟩) hc hr c.invH c.invE
 have J:(if Ea fs' prs then K s' else af)=aa r:=J;by_cases hok:Ea fs' prs=ah
 .rw[aJ hok] at J;refine NZ (φ0:=φ) (E:=E) hm L.ops_ L.chain (ZZ L hp hok) ?_ ?_ c.rep c.env ?_
  .intro n hn;obtain⟨p,I,hn⟩:=tP.1 hn;obtain⟨j,hj⟩:=eO I;have:=L.names j p.1 p.2 hj n hn;cases M:φ n with
   |none=>rfl
   |some k=>have:=c.dom n k M;omega
  .intro j o U d Y;have:=fY.1 hd o (by have:=Array.mem_of_getElem? U;simpa using this);rw[Y] at this;rw[c.size];simpa using this
  .rintro a' w' ⟨φ',m',d',Z,en',df',sz'⟩;have hnm:∀ n k,φ' n=aa k->φ n=aa k\/(s.nx<=ow n/\ow n<s'.nx):=λn k hik=>by
    rcases d' n k hik with h|h
    .exact .inl h
    .obtain⟨p,I,hn⟩:=tP.1 h;obtain⟨j,hj⟩:=eO I;exact .inr (L.names j p.1 p.2 hj n hn)
   have hg:=L.grows;have hlow:=c.low;refine hQ a' w' s' φ' J ⟨Z,en',λn k hik=>?_,by omega,L.invH,L.invE,by rw[df'];exact c.inert,by rw[sz'];exact c.size⟩ ⟨m'.ext,m'.own_,λi hi=>?_⟩ L.keeps
   .rcases hnm n k hik with h|h
    .have:=c.dom n k h;omega
    .exact h.2
   .cases M:φ (nm i) with
    |some k=>exact m'.sub _ _ M
    |none=>
     cases hy:φ' (nm i) with
     |none=>rfl
     |some k=>
      rcases hnm (nm i) k hy with h|h
      .rw[M] at h;cases h
      .rw[dQ] at h;omega
 .rw[aC hok] at J;cases J
theorem ym:∀ (l:List rz) (acc:Nat),Nb l acc=acc|||Nb l 0
 |[],acc=>by simp[Nb]
 |o::r,acc=>by
  simp only[Nb];cases o.dst with
  |none=>exact ym r acc
  |some d=>simp only[];rw[ym r (acc|||ko d),ym r (0|||ko d),xf,kc]
theorem yI:∀ (l:List Nat) (acc:Nat),JJ l acc=acc|||JJ l 0
 |[],acc=>by simp[JJ]
 |k::r,acc=>by simp only[JJ];rw[yI r (acc|||ko k),yI r (0|||ko k),xf,kc]
theorem lE:∀ (l:List Zu) (acc:Nat),nN l acc=acc|||nN l 0
 |[],acc=>by simp[nN]
 |.nil k _ _::r,acc=>by simp only[nN];rw[lE r (acc|||ko k),lE r (0|||ko k),xf,kc]
 |.cel _ _ _ _::r,acc=>by simp only[nN];exact lE r acc
 |.mpt _ _ _::r,acc=>by simp only[nN];exact lE r acc
 |.ren k _::r,acc=>by simp only[nN];rw[lE r (acc|||ko k),lE r (0|||ko k),xf,kc]
 |.pk _ _ _::r,acc=>by simp only[nN];exact lE r acc
theorem ik:∀ (c:TC) (acc:Nat),c.asg acc=acc|||c.asg 0
 |.reg ops _,acc=>ym ops acc
 |.seq a b,acc=>by simp only[TC.asg];rw[ik b (a.asg acc),ik b (a.asg 0),ik a acc,kc]
 |.jseq A a b,acc=>by simp only[TC.asg];rw[ik b (a.asg _),ik b (a.asg (JJ A.ks 0)),ik a (JJ A.ks acc),ik a (JJ A.ks 0),yI A.ks acc,kc,kc,kc]
 |.cond _ a b,acc=>by simp only[TC.asg];rw[ik b (a.asg acc),ik b (a.asg 0),ik a acc,kc]
 |.block _ b,acc=>ik b acc
 |.jblock A _ b,acc=>by simp only[TC.asg];rw[ik b (JJ A.ks acc),ik b (JJ A.ks 0),yI A.ks acc,kc]
 |.loop A b,acc=>by simp only[TC.asg];rw[ik b (JJ A.ks acc),ik b (JJ A.ks 0),yI A.ks acc,kc]
 |.defer _ _ t,acc=>by simp[TC.asg]
 |.adj l c,acc=>by simp only[TC.asg];rw[ik c (nN l acc),ik c (nN l 0),lE l acc,kc]
 |.split _ _ _ _ c,acc=>ik c acc
 |.unl _ b,acc=>ik b acc
 |.skip,acc=>by simp[TC.asg]
 |.exit _,acc=>by simp[TC.asg]
 |.ret,acc=>by simp[TC.asg]
 |.bad,acc=>by simp[TC.asg]
theorem uh {c:TC} {acc k:Nat} (h:aL (c.asg 0) k=ah):aL (c.asg acc) k=ah:=by rw[ik,bl,h];simp
theorem jT {c:TC} {acc k:Nat} (h:aL acc k=ah):aL (c.asg acc) k=ah:=by rw[ik,bl,h];rfl
theorem Ul:∀ {l:List Nat} {acc k:Nat},k∈l->aL (JJ l acc) k=ah
 |[],_,_,h=>by cases h
 |x::r,acc,k,h=>by
  simp only[JJ];rcases bh.1 h with rfl|h
  .rw[yI,bl,bl,bT.2 rfl];simp
  .exact Ul h
theorem Ql:∀ {l:List rz} {acc:Nat} {o:rz} {d:Nat},o∈l->o.dst=aa d->aL (Nb l acc) d=ah
 |[],_,_,_,h,_=>by cases h
 |x::r,acc,o,d,h,hd=>by
  simp only[Nb];rcases bh.1 h with rfl|h
  .rw[hd];simp only[];rw[ym,bl,bl,bT.2 rfl];simp
  .exact Ql h hd
theorem Ut:∀ {e:iy} {ks:List Nat} {vs:List TV},nu e ks=aa vs->vs.length=ks.length/\∀ (j k:Nat),ks[j]? =aa k->∃ v,vs[j]? =aa v/\e.get k=aa v
 |e,[],vs,h=>by simp only[nu,aj] at h;subst h;exact⟨rfl,by simp⟩
 |e,k::r,vs,h=>by
  simp only[nu] at h;split at h
  .rename_i v hv;split at h
   .rename_i l hl;simp only[aj] at h;subst h;obtain⟨h1,h2⟩:=Ut hl;refine ⟨by simp[h1],λj k' hj=>?_⟩;cases j with
    |zero=>simp at hj;subst hj;exact⟨v,rfl,hv⟩
    |succ j=>simpa using h2 j k' (by simpa using hj)
   .cases h
  .cases h
theorem GV {e:iy} {h:bd} (hi:sr e h):∀ {ks:List Nat} {vs:List TV},nu e ks=aa vs->kr h vs=ah
 |[],vs,hg=>by simp only[nu,aj] at hg;subst hg;rfl
 |k::r,vs,hg=>by
  simp only[nu] at hg;split at hg
  .rename_i v hv;split at hg
   .rename_i l hl;simp only[aj] at hg;subst hg;simp only[kr,au];exact⟨hi k v hv,GV hi hl⟩
   .cases hg
  .cases hg
theorem Bj:∀ {e:iy} {ks:List Nat} {vs:List TV},vs.length=ks.length->∀ t v,(Va e ks vs).get t=aa v->(∃ j:Nat,ks[j]? =aa t/\vs[j]? =aa v)\/(t∉ks/\e.get t=aa v)
 |e,[],[],_,t,v,h=>.inr ⟨by simp,h⟩
 |e,[],_::_,hl,t,v,h=>by simp at hl
 |e,_::_,[],hl,t,v,h=>by simp at hl
 |e,k::r,u::l,hl,t,v,h=>by
  simp only[Va,PT.get_set] at h;split at h
  .rename_i I;subst I;cases h;exact .inl ⟨0,rfl,rfl⟩
  .rename_i I;rcases Bj (by simpa using hl) t v h with ⟨j,h1,h2⟩|⟨h1,h2⟩
   .exact .inl ⟨j+1,by simpa using h1,by simpa using h2⟩
   .exact .inr ⟨by simp[I,h1],h2⟩
theorem sC {am:Nat} {e:iy}:∀ {ks:List Nat} {k:Nat} {v:TV},(BH am e ks).get k=aa v->k∈ks/\e.get k=aa v/\sY v=ah/\aL am k=ai
 |[],k,v,h=>by simp[BH,PT.get] at h
 |x::r,k,v,h=>by
  simp only[BH] at h;split at h
  .rename_i u hu;split at h
   .rename_i hc;simp only[au,dX] at hc;rw[PT.get_set] at h;split at h
    .rename_i I;subst I;cases h;exact⟨by simp,hu,hc.1,hc.2⟩
    .obtain⟨h1,h2⟩:=sC h;exact⟨by simp[h1],h2⟩
   .obtain⟨h1,h2⟩:=sC h;exact⟨by simp[h1],h2⟩
  .obtain⟨h1,h2⟩:=sC h;exact⟨by simp[h1],h2⟩
theorem Hb {am:Nat} {e0 e:iy}:∀ {ks:List Nat},F5 am e0 e ks=ah->∀ k v,k∈ks->e0.get k=aa v->sY v=ah->aL am k=ai->∃ J,e.get k=aa J
 |[],_,k,v,h,_,_,_=>by cases h
 |x::r,hc,k,v,h,hv,hf,I=>by
  simp only[F5,au] at hc;rcases bh.1 h with rfl|h
  .have h1:=hc.1;rw[hv] at h1;simp only[hf,I,Bool.not_true,Bool.false_or] at h1;cases M:e.get k with
   |none=>rw[M] at h1;cases h1
   |some u=>exact⟨u,rfl⟩
  .exact Hb hc.2 k v h hv hf I
section walk
variable {P:Program} {E:Nat->Prop} {nt np:Nat}
theorem O7 {h:bd} {v:TV} {y:AV} (hn:Z6 v=ah) (I:ch h v=aa y):Le y .emp:=by
 cases v with
 |nil=>simp only[ch,aj] at I;subst I;exact Le.nilEmp
 |emp=>simp only[ch,aj] at I;subst I;exact Le.refl _
 |_=>cases hn
theorem UY {φ:PM} {s:TS} {a:Act} {w:World} (c:oc P E nt np φ s a w) (ty:TypeId) (T:Ty):oc P E nt np φ ⟨s.e,s.h.set s.nx (aa (.rows ty ah T [])),s.nx+1⟩ a w/\bw (s.h.set s.nx (aa (.rows ty ah T [])))=bw s.h/\cg s.h (s.h.set s.nx (aa (.rows ty ah T []))):=by
 have hfr:=c.invH.fresh;have hr:cg s.h (s.h.set s.nx (aa (.rows ty ah T []))):=cg.set λr hr=>by rw[bO,hfr] at hr;cases hr
 have J:bw (s.h.set s.nx (aa (.rows ty ah T [])))=bw s.h:=by
  funext n;by_cases hn:n=nm s.nx
  .subst hn;rw[bE,bE,PT.get_set,aJ rfl,hfr];rfl
  .refine kn c.invH hr λi e=>?_
   subst e;rw[PT.get_set,aC (λe=>hn (by rw[e]))]
 refine ⟨⟨by rw[J];exact c.rep,?_,λn k hk=>yA (c.dom n k hk),ic c.low,c.invH.set hr (AW _) (Nat.le_succ _) (λ_ _ he=>by cases he),?_,c.inert,c.size⟩,J,hr⟩
 .intro t x I;rw[J];simp only[fD] at I;cases he:s.e.get t with
  |none=>rw[he] at I;cases I
  |some q=>
   rw[he] at I;obtain⟨z,M⟩:=pm s.h q (c.invE t q he);simp only[aE,gk hr q z M,aj] at I;subst I;exact c.env t _ (by simp only[fD,he,aE,M])
 .intro t x I;exact nU hr x (c.invE t x I)
theorem xx {h:bd}:∀ {a b:List TV},kr h a=ah->kr h b=ah->kr h (a++b)=ah
 |[],_,_,hb=>hb
 |x::r,b,I,hb=>by
  simp only[kr,au] at I;simp only[fX,kr,au];exact⟨I.1,xx I.2 hb⟩
theorem KP {h:bd}:∀ {a:List TV} (n:Nat),kr h a=ah->kr h (a.take n)=ah
 |[],n,_=>by simp[kr]
 |x::r,0,_=>rfl
 |x::r,n+1,I=>by
  simp only[kr,au] at I;simp only[uG,kr,au];exact⟨I.1,KP n I.2⟩
theorem KQ {h:bd}:∀ {a:List TV} (n:Nat),kr h a=ah->kr h (a.drop n)=ah
 |[],n,_=>by simp[kr]
 |x::r,0,I=>I
 |x::r,n+1,I=>by
  simp only[kr,au] at I;simp only[uH];exact KQ n I.2
theorem xq {α:Type} {l:List α} {j:Nat} {x:α} (h:l[j]? =aa x):splice l j [x]=l:=by
 have hl:j<l.length:=by
  rcases bW j l.length with h'|h'
  .exact h'
  .rw[bM h'] at h;cases h
 rw[ay hl,aj] at h;unfold splice;subst h;simp
theorem YX {φ:PM} {s:TS} {a:Act} {w:World} (c:oc P E nt np φ s a w) {id cty j:Nat} {l:List TV} {v u:TV} (hb:s.h.get id=aa (.cells cty l)) (hv:l[j]? =aa v) (hn:Z6 v=ah) (hu:ch s.h u=aa .emp) (huo:JG s.h u=ah):
 oc P E nt np φ ⟨s.e,s.h.set id (aa (.cells cty (splice l j [u]))),s.nx⟩ a w/\A_ np φ φ (bw s.h) (bw (s.h.set id (aa (.cells cty (splice l j [u]))))) w w:=by
 have hr:cg s.h (s.h.set id (aa (.cells cty (splice l j [u])))):=cg.set λr hr=>by rw[bO,hb] at hr;cases hr
 have hlo:=c.invH.cells id cty l hb;obtain⟨J,M⟩:=eY s.h l hlo;have hsp:cF s.h (splice l j [u])=aa (splice J j [.emp]):=rn j M (by simp only[cF,hu]);have hsp':cF (s.h.set id (aa (.cells cty (splice l j [u])))) (splice l j [u])=aa (splice J j [.emp]):=gM hr _ _ hsp;obtain⟨y,hy,hey⟩:=lB M j v hv;have hold:bw s.h (nm id)=aa ⟨cty,.mx J⟩:=by rw[bE,hb];simp only[aE,j9,M]
 have hnew:bw (s.h.set id (aa (.cells cty (splice l j [u])))) (nm id)=aa ⟨cty,.mx (splice J j [.emp])⟩:=by
  rw[bE,PT.get_set,aJ rfl];simp only[aE,j9,hsp']
 have hoth:∀ n,n≠nm id->bw (s.h.set id (aa (.cells cty (splice l j [u])))) n=bw s.h n:=λn Y=>by
  refine kn c.invH hr λi e=>?_
  subst e;rw[PT.get_set,aC (λe=>Y (by rw[e]))]
 have hdom:ui (bw s.h) (bw (s.h.set id (aa (.cells cty (splice l j [u]))))):=λn b U=>by
  by_cases e:n=nm id
  .subst e;exact⟨_,hold⟩
  .rw[hoth n e] at U;exact⟨b,U⟩
 have hcell:∀ x∈J,x.isCell=ah:=λx I=>by
  obtain⟨k,hk⟩:=eO I;obtain⟨q,_,_,hat⟩:=c.rep.at_ _ _ hold;unfold U7 at hat;obtain⟨ob,_,hob⟩:=hat;rw[oW rfl] at hob;obtain⟨arr,_,hca⟩:=hob;exact (hca.2 k x hk).1
 have hV:Ja (bw s.h) (bw (s.h.set id (aa (.cells cty (splice l j [u]))))):=⟨hdom,λn b b' h1 h2=>by
  by_cases e:n=nm id
  .subst e;rw[hold] at h1;cases h1;rw[hnew] at h2;cases h2;refine jI.cells rfl rfl ?_ λx I=>?_
   .show gX _ _ J (splice J j [.emp]);have:=gX.splice j (gX.refl hdom J) (b:=[y]) (b':=[.emp]) ⟨(O7 hn hey).toH hdom,trivial⟩;rw[xq hy] at this;exact this
   .have I:x∈splice J j [.emp]:=I;unfold splice at I;rw[bR,bR,aK] at I;rcases I with (I|I)|I
    .exact hcell x (iT I)
    .subst I;rfl
    .exact hcell x (List.mem_of_mem_drop I)
  .rw[hoth n e,h1] at h2;cases h2;exact jI.refl hdom b⟩
 refine ⟨⟨hV.rep c.rep,?_,c.dom,c.low,c.invH.set hr (c.invH.low id _ hb) (bQ _) (λty l2 he=>?_),?_,c.inert,c.size⟩,⟨Jm.refl _ _,λk _ ho=>hdom.own ho,λ_ _=>rfl⟩⟩
 .intro t x I;simp only[fD] at I;cases he:s.e.get t with
  |none=>rw[he] at I;cases I
  |some q=>
   rw[he] at I;obtain⟨z,Z⟩:=pm s.h q (c.invE t q he);simp only[aE,gk hr q z Z,aj] at I;subst I;exact (c.env t _ (by simp only[fD,he,aE,Z])).dom hdom
 .simp only[h_.cells.injEq] at he;obtain⟨_,rfl⟩:=he;refine iF hr _ ?_;unfold splice;exact xx (xx (KP _ hlo) (by simp only[kr,huo,kh])) (KQ _ hlo)
 .intro t x I;exact nU hr x (c.invE t x I)
theorem oc.congr {φ:PM} {s s':TS} {a:Act} {w:World} (c:oc P E nt np φ s a w) (he:∀ t,s'.e.get t=s.e.get t) (hh:∀ i,s'.h.get i=s.h.get i) (hn:s'.nx=s.nx):oc P E nt np φ s' a w/\bw s'.h=bw s.h:=by
 have hr:cg s.h s'.h:=λi r hi=>by rw[bO] at hi ⊢;rw[hh];exact hi
 have J:bw s'.h=bw s.h:=by funext n;exact kn c.invH hr λi _=>hh i
 refine ⟨⟨by rw[J];exact c.rep,?_,by rw[hn];exact c.dom,by rw[hn];exact c.low,⟨λi ty l hg=>?_,λi b hg=>?_⟩,λt v hv=>?_,c.inert,c.size⟩,J⟩
 .intro t x I;rw[J];simp only[fD,he] at I;cases hg:s.e.get t with
  |none=>rw[hg] at I;cases I
  |some v=>
   rw[hg] at I;obtain⟨z,M⟩:=pm s.h v (c.invE t v hg);simp only[aE,gk hr v z M,aj] at I;subst I;exact c.env t _ (by simp only[fD,hg,aE,M])
 .rw[hh] at hg;exact iF hr l (c.invH.cells i ty l hg)
 .rw[hh] at hg;rw[hn];exact c.invH.low i b hg
 .rw[he] at hv;exact nU hr v (c.invE t v hv)
theorem NK {R:Type} {v:Int} {f:Nat->Option R} {r:R}:∀ {m i:Nat},spl v f i m=aa r->∃ j,v=aN j/\f j=aa r
 |0,i,h=>by cases h
 |m+1,i,h=>by
  simp only[spl] at h;rcases oS h with ⟨h1,h2⟩|⟨_,h2⟩
  .exact⟨i,bm h1,h2⟩
  .exact NK h2
theorem Xz {φ:PM} {s s':TS} {a:Act} {w:World} (c:oc P E nt np φ s a w) {k off:Nat} {kd:IntKind} {v:Int} (h1:X4 s k off=aa (kd,v)) (h2:Rh s k off kd v=aa s'):oc P E nt np φ s' a w/\bw s'.h=bw s.h/\∀ t,s'.e.get t=s.e.get t:=by
 unfold X4 at h1;unfold Rh at h2;cases hk:s.e.get k with
 |none=>rw[hk] at h1;cases h1
 |some x=>
  rw[hk] at h1 h2;cases x with
  |f T q=>
   cases T with
   |int kd'=>
    simp only[aj,aB] at h1;obtain⟨rfl,rfl⟩:=h1;simp only[aj] at h2;subst h2;have he:∀ t,(s.e.set k (aa (.f (.int kd') q))).get t=s.e.get t:=λt=>by
     rw[PT.get_set];split
     .rename_i e;subst e;exact hk.symm
     .rfl
    obtain⟨J,I⟩:=c.congr (s':=⟨s.e.set k (aa (.f (.int kd') q)),s.h,s.nx⟩) he (λ_=>rfl) rfl;exact⟨J,I,he⟩
   |_=>cases h1
  |ptr a0 o0=>
   simp only[] at h1 h2;cases hb:s.h.get a0 with
   |none=>rw[hb] at h1;cases h1
   |some b=>
    rw[hb] at h1 h2;cases b with
    |cells ty l=>
     simp only[] at h1 h2;cases hl:l[o0+off]? with
     |none=>rw[hl] at h1;cases h1
     |some y=>
      rw[hl] at h1;cases y with
      |f T q=>
       cases T with
       |int kd'=>
        simp only[aj,aB] at h1;obtain⟨rfl,rfl⟩:=h1;simp only[aj] at h2;subst h2;have hh:∀ i,(s.h.set a0 (aa (.cells ty (splice l (o0+off) [.f (.int kd') q])))).get i=s.h.get i:=λi=>by
         rw[PT.get_set];split
         .rename_i e;subst e;rw[hb,xq hl]
         .rfl
        obtain⟨J,I⟩:=c.congr (s':=⟨s.e,s.h.set a0 (aa (.cells ty (splice l (o0+off) [.f (.int kd') q]))),s.nx⟩) (λ_=>rfl) hh rfl;exact⟨J,I,λ_=>rfl⟩
       |_=>cases h1
      |_=>cases h1
    |_=>cases h1
  |_=>cases h1
mutual
theorem KF (id sz n:Nat):∀ v:TV,sY v=ah->Jy id sz n v=v
 |.f _ _,_=>rfl
 |.fel _ _ _ _ _,_=>rfl
 |.emp,_=>rfl
 |.nil,_=>rfl
 |.undef,_=>rfl
 |.np,_=>rfl
 |.anyb,_=>rfl
 |.agg l,h=>by simp only[Jy];rw[Ab id sz n l h]
 |.tup l,h=>by simp only[Jy];rw[Ab id sz n l h]
 |.pel _ _ _ _,h=>by cases h
 |.ptr _ _,h=>by cases h
 |.csl _ _ _,h=>by cases h
 |.row _,h=>by cases h
 |.rtl _ _,h=>by cases h
 |.mp _,h=>by cases h
 |.clo _ _,h=>by cases h
theorem Ab (id sz n:Nat):∀ l:List TV,pE l=ah->Bg id sz n l=l
 |[],_=>rfl
 |x::r,h=>by
  simp only[pE,au] at h;simp only[Bg];rw[KF id sz n x h.1,Ab id sz n r h.2]
end
section subs
variable {id sz n:Nat} {h h':bd}
mutual
theorem LW (hr:cg h h') (hid:dZ h' id=aa (ai,sz,n)):∀ (v:TV) (y:AV),ch h v=aa y->ch h' (Jy id sz n v)=aa y
 |.csl i s m,y,he=>by
  simp only[ch,aj] at he;subst he;simp only[Jy];split
  .rename_i hq;simp only[au] at hq;have e1:=av hq.1.1;have e2:=av hq.1.2;have e3:=av hq.2;subst e1;subst e2;subst e3;simp only[ch,hid,eZ,mS,co,dR]
  .rfl
 |.agg l,y,he=>by
  simp only[ch] at he;cases hl:cF h l with
  |none=>rw[hl] at he;cases he
  |some l'=>rw[hl] at he;simp only[Jy,ch,uL hr hid l l' hl];exact he
 |.tup l,y,he=>by
  simp only[ch] at he;cases hl:cF h l with
  |none=>rw[hl] at he;cases he
  |some l'=>rw[hl] at he;simp only[Jy,ch,uL hr hid l l' hl];exact he
 |.clo g l,y,he=>by
  simp only[ch] at he;cases hl:cF h l with
  |none=>rw[hl] at he;cases he
  |some l'=>rw[hl] at he;simp only[Jy,ch,uL hr hid l l' hl];exact he
 |.f T v,y,he=>gk hr _ _ he
 |.fel T xs j hj off,y,he=>gk hr _ _ he
 |.pel _ _ _ _,y,he=>gk hr _ _ he
 |.ptr _ _,y,he=>gk hr _ _ he
 |.row _,y,he=>gk hr _ _ he
 |.rtl _ _,y,he=>gk hr _ _ he
 |.emp,y,he=>gk hr _ _ he
 |.nil,y,he=>gk hr _ _ he
 |.mp _,y,he=>gk hr _ _ he
 |.undef,y,he=>gk hr _ _ he
 |.np,y,he=>gk hr _ _ he
 |.anyb,y,he=>gk hr _ _ he
theorem uL (hr:cg h h') (hid:dZ h' id=aa (ai,sz,n)):∀ (l:List TV) (l':List AV),cF h l=aa l'->cF h' (Bg id sz n l)=aa l'
 |[],l',he=>by simp only[cF,aj] at he;subst he;rfl
 |x::r,l',he=>by
  obtain⟨y,l2,rfl,h1,h2⟩:=cP he;simp only[Bg];exact ov (LW hr hid x y h1) (uL hr hid r l2 h2)
end
end subs
theorem age {φ:PM} {s:TS} {a:Act} {w:World} (c:oc P E nt np φ s a w) {T:Ty} {id sz n:Nat} {s':TS} (hp:pkS s T id sz n=aa s'):oc P E nt np φ s' a w/\A_ np φ φ (bw s.h) (bw s'.h) w w/\f_ 0 s.e s'.e:=by
 unfold pkS at hp;split at hp
 .rename_i ty l hb;split at hp
  .rename_i hs;have hs:=av hs;subst hs;split at hp
   .rename_i xs m hpk;split at hp
    .cases hp
    .rename_i hmid;simp only[aj] at hp;subst hp;have hm:dH s.h m:=L3 n l xs m hpk;obtain⟨l',hl⟩:=eY s.h l (c.invH.cells id ty l hb);have hidlt:=c.invH.low id _ hb;have nu:∀ i,((PT.updI (λ_ b=>U_ id T.size n b) 1 0 (d_ m s.h)).set id (aa (.rows ty ai T xs))).get i=if i=id then aa (.rows ty ai T xs) else if aL m i then (s.h.get i).map tZ else (s.h.get i).map (U_ id T.size n):=λi=>by
      rw[PT.get_set];by_cases e:i=id
      .rw[aJ e,aJ e]
      .rw[aC e,aC e,PT.get_updI,iI];split
       .cases hg:s.h.get i with
        |none=>rfl
        |some b=>cases b<;>rfl
       .rfl
     generalize hH2:((PT.updI (λ_ b=>U_ id T.size n b) 1 0 (d_ m s.h)).set id (aa (.rows ty ai T xs)))=h2 at nu ⊢;have hr:cg s.h h2:=λi r hi=>by
      rw[bO] at hi ⊢;rw[nu];by_cases e:i=id
      .subst e;rw[hb] at hi;cases hi
      .rw[aC e];cases hg:s.h.get i with
       |none=>rw[hg] at hi;cases hi
       |some b=>
        rw[hg] at hi;split
        .exact KK hi
        .cases b<;>first|exact hi|cases hi
     have hnone:∀ i,aL m i=ah->bw h2 (nm i)=af:=λi hi=>by
      have e:i≠id:=λe=>by subst e;exact hmid hi
      obtain⟨ty',p',T',xs',J⟩:=hm i hi;rw[bE,nu,aC e,aJ hi,J];rfl
     have hdom:ui (bw s.h) (bw h2):=λq b hq=>by
      obtain⟨i,cc,rfl,I,h4⟩:=je hq;rw[bE];rw[nu] at I;by_cases e:i=id
      .subst e;rw[hb];simp only[aE,j9,hl];exact⟨_,rfl⟩
      .rw[aC e] at I;cases hg:s.h.get i with
       |none=>rw[hg] at I;split at I<;>cases I
       |some b0=>
        rw[hg] at I;split at I
        .simp only[b7,aj] at I;subst I;cases b0<;>simp[tZ,j9] at h4
        .simp only[b7,aj] at I;subst I;simp only[aE];cases b0 with
         |cells ty0 l0=>
          obtain⟨l0',U⟩:=eY s.h l0 (c.invH.cells i ty0 l0 hg);exact⟨⟨ty0,.mx l0'⟩,by simp only[j9,U]⟩
         |rows=>exact⟨_,h4⟩
         |dead=>exact⟨_,h4⟩
         |mp=>exact⟨_,h4⟩
     have giv:CR s.h (bw s.h) (bw h2) m:=λi hi=>⟨rfl,hnone i hi⟩
     obtain⟨hle,hlen⟩:=Bv hdom n l xs m l' hpk hl giv;have hrow:dZ h2 id=aa (ai,T.size,n):=by rw[bO,nu,aJ rfl,<-hlen];rfl
     have hV:Ja (bw s.h) (bw h2):=⟨hdom,λq b b' I h4=>by
      obtain⟨i,cc,rfl,Z,h6⟩:=je h4;rw[bE] at I;rw[nu] at Z;by_cases e:i=id
      .subst e;rw[aJ rfl] at Z;cases Z;rw[hb] at I;simp only[aE,j9,hl,aj] at I;subst I;simp only[j9,mS,co,dR,aj] at h6;subst h6;refine jI.cells rfl rfl hle λx J=>?_
       simp only[BC.toMx] at J;obtain⟨q,hq,rfl⟩:=c9.1 J;exact qD T _ q hq
      .rw[aC e] at Z;cases hg:s.h.get i with
       |none=>rw[hg] at Z;split at Z<;>cases Z
       |some b0=>
        rw[hg] at Z I;split at Z
        .simp only[b7,aj] at Z;subst Z;cases b0<;>simp[tZ,j9] at h6
        .simp only[b7,aj] at Z;subst Z;have:b=b':=by
          simp only[aE] at I;cases b0 with
          |cells ty0 l0=>
           obtain⟨l0',U⟩:=eY s.h l0 (c.invH.cells i ty0 l0 hg);simp only[j9,U,aj] at I;simp only[U_,j9,uL hr hrow l0 l0' U,aj] at h6;rw[<- I,<-h6]
          |rows ty1 p1 T1 xs1=>
           have h3':j9 h2 (.rows ty1 p1 T1 xs1)=aa b:=I;exact jD (h3'.symm.trans h6)
          |dead p1 s1 n1=>
           have h3':j9 h2 (.dead p1 s1 n1)=aa b:=I;exact jD (h3'.symm.trans h6)
          |mp K1 V1 es1=>
           have h3':j9 h2 (.mp K1 V1 es1)=aa b:=I;exact jD (h3'.symm.trans h6)
         subst this;exact jI.refl hdom b⟩
     refine ⟨⟨hV.rep c.rep,?_,c.dom,c.low,⟨λi ty' l2 hg=>?_,λi b hg=>?_⟩,?_,c.inert,c.size⟩,⟨Jm.refl _ _,λk _ hk=>hdom.own hk,λ_ _=>rfl⟩,?_⟩
     .intro t x J;simp only[fD,PT.get_updI] at J;cases he:s.e.get t with
      |none=>rw[he] at J;cases J
      |some v=>
       rw[he] at J;obtain⟨z,hz⟩:=pm s.h v (c.invE t v he);simp only[b7,aE,LW hr hrow v z hz,aj] at J;subst J;exact (c.env t _ (by simp only[fD,he,aE,hz])).dom hdom
     .rw[nu] at hg;by_cases e:i=id
      .rw[aJ e] at hg;cases hg
      .rw[aC e] at hg;cases Y:s.h.get i with
       |none=>rw[Y] at hg;split at hg<;>cases hg
       |some b0=>
        rw[Y] at hg;split at hg
        .simp only[b7,aj] at hg;cases b0<;>simp[tZ] at hg
        .simp only[b7,aj] at hg;cases b0 with
         |cells ty0 l0=>
          simp only[U_,h_.cells.injEq] at hg;obtain⟨_,rfl⟩:=hg;obtain⟨l0',U⟩:=eY s.h l0 (c.invH.cells i ty0 l0 Y);exact km _ _ _ (uL hr hrow l0 l0' U)
         |_=>cases hg
     .rw[nu] at hg;by_cases e:i=id
      .subst e;exact hidlt
      .rw[aC e] at hg;cases Y:s.h.get i with
       |none=>rw[Y] at hg;split at hg<;>cases hg
       |some b0=>exact c.invH.low i b0 Y
     .intro t x J;simp only[PT.get_updI] at J;cases he:s.e.get t with
      |none=>rw[he] at J;cases J
      |some v=>
       rw[he] at J;simp only[b7,aj] at J;subst J;obtain⟨z,hz⟩:=pm s.h v (c.invE t v he);exact Dz _ _ _ (LW hr hrow v z hz)
     .intro k _ v' M;simp only[PT.get_updI] at M;cases he:s.e.get k with
      |none=>rw[he] at M;cases M
      |some v=>
       rw[he] at M;simp only[b7,aj] at M;subst M;exact⟨v,rfl,λhf=>KF _ _ _ v hf⟩
   .cases hp
  .cases hp
 .cases hp
theorem aga {φ:PM} {s:TS} {a:Act} {w:World} (c:oc P E nt np φ s a w) {k off:Nat} {s':TS} (h:Ng s (.ren k off)=aa s'):∃ φ',oc P E nt np φ' s' a w/\A_ np φ φ' (bw s.h) (bw s'.h) w w/\f_ (nN [.ren k off] 0) s.e s'.e:=by
 simp only[Ng] at h;split at h
 .rename_i b o hk;split at h
  .rename_i cty l hb;split at h
   .rename_i id hv;split at h
    .rename_i ty p T xs J;simp only[aj] at h;subst h;have hfr:=c.invH.fresh;have hidlt:=c.invH.low id _ J;have hblt:=c.invH.low b _ hb;have hbid:b≠id:=λe=>by rw[e,J] at hb;cases hb
     have hbn:b≠s.nx:=by omega
     have hin:id≠s.nx:=by omega
     generalize hh2:(((s.h.set id (aa (.dead p T.size xs.length))).set s.nx (aa (.rows ty p T xs))).set b (aa (.cells cty (splice l (o+off) [.row s.nx]))))=h2;have nu:∀ i,h2.get i=if i=b then aa (.cells cty (splice l (o+off) [.row s.nx])) else if i=s.nx then aa (.rows ty p T xs) else if i=id then aa (.dead p T.size xs.length) else s.h.get i:=λi=>by
      rw[<- hh2,PT.get_set,PT.get_set,PT.get_set]
     have hr:cg s.h h2:=λi r hi=>by
      rw[bO] at hi ⊢;rw[nu];by_cases e1:i=b
      .subst e1;rw[hb] at hi;cases hi
      .rw[aC e1];by_cases e2:i=s.nx
       .subst e2;rw[hfr] at hi;cases hi
       .rw[aC e2];by_cases e3:i=id
        .subst e3;rw[aJ rfl];rw[J] at hi;exact hi
        .rw[aC e3];exact hi
     have hlo:=c.invH.cells b cty l hb;obtain⟨Z,hl'⟩:=eY s.h l hlo;have hrow:ch h2 (.row s.nx)=aa (eZ p s.nx T.size xs.length):=by
      simp only[ch,bO,nu];rw[aC hbn.symm];simp only[bB,aE,mg]
     have hsp:cF h2 (splice l (o+off) [.row s.nx])=aa (splice Z (o+off) [eZ p s.nx T.size xs.length]):=rn _ (gM hr _ _ hl') (by simp only[cF,hrow]);obtain⟨y,hy,hey⟩:=lB hl' _ _ hv;have hy0:y=eZ p id T.size xs.length:=by
      simp only[ch,bO,J,aE,mg,aj] at hey;exact hey.symm
     subst hy0;have hold:bw s.h (nm b)=aa ⟨cty,.mx Z⟩:=by rw[bE,hb];simp only[aE,j9,hl']
     have hnew:bw h2 (nm b)=aa ⟨cty,.mx (splice Z (o+off) [eZ p s.nx T.size xs.length])⟩:=by
      rw[bE,nu,aJ rfl];simp only[aE,j9,hsp]
     have hdead:bw h2 (nm id)=af:=by rw[bE,nu,aC hbid.symm,aC hin,aJ rfl];rfl
     have hnx2:bw h2 (nm s.nx)=if p&&xs.length==0 then af else aa ⟨ty,.fz (xs.flatMap (bN T))⟩:=by rw[bE,nu,aC hbn.symm,aJ rfl];rfl
     have hid0:bw s.h (nm id)=if p&&xs.length==0 then af else aa ⟨ty,.fz (xs.flatMap (bN T))⟩:=by rw[bE,J];rfl
     have hoth:∀ n,n≠nm b->n≠nm s.nx->n≠nm id->bw h2 n=bw s.h n:=λn e1 e2 e3=>kn c.invH hr λi e=>by
      subst e;rw[nu,aC (λe=>e1 (by rw[e])),aC (λe=>e2 (by rw[e])),aC (λe=>e3 (by rw[e]))]
     have hnb:nm b≠nm s.nx:=λe=>hbn (ku e)
     have hbi:nm b≠nm id:=λe=>hbid (ku e)
     have hni:nm s.nx≠nm id:=λe=>hin (ku e).symm
     have hinv:lG h2 (s.nx+1):=by
      refine ⟨λi ty2 l2 hil=>?_,λi q hiq=>?_⟩
      .rw[nu] at hil;split at hil
       .simp only[aj,h_.cells.injEq] at hil;obtain⟨_,rfl⟩:=hil;exact km _ _ _ hsp
       .split at hil
        .cases hil
        .split at hil
         .cases hil
         .exact iF hr l2 (c.invH.cells i ty2 l2 hil)
      .rw[nu] at hiq;split at hiq
       .omega
       .split at hiq
        .omega
        .split at hiq
         .omega
         .have:=c.invH.low i q hiq;omega
     have hE:∀ t x,fD s.e h2 t=aa x->fD s.e s.h t=aa x:=λt x I=>by
      simp only[fD] at I ⊢;cases he:s.e.get t with
      |none=>rw[he] at I;cases I
      |some q=>
       rw[he] at I;obtain⟨z,hz⟩:=pm s.h q (c.invE t q he);simp only[aE,gk hr q z hz,aj] at I;subst I;simp only[aE,hz]
     by_cases hp:(p&&xs.length==0)=ah
     ·
      have Y:bw h2=bw s.h:=by
       funext n;by_cases e1:n=nm b
       .subst e1;rw[hold,hnew];have:eZ p s.nx T.size xs.length=eZ p id T.size xs.length:=by unfold eZ;rw[aJ hp,aJ hp]
        rw[this,xq hy]
       .by_cases e2:n=nm s.nx
        .subst e2;rw[hnx2,aJ hp,bE,hfr];rfl
        .by_cases e3:n=nm id
         .subst e3;rw[hdead,hid0,aJ hp]
         .exact hoth n e1 e2 e3
      refine ⟨φ,⟨by rw[Y];exact c.rep,λt x I=>by rw[Y];exact c.env t x (hE t x I),λn q hq=>yA (c.dom n q hq),ic c.low,hinv,λt x I=>nU hr x (c.invE t x I),c.inert,c.size⟩,by rw[Y];exact A_.refl _ _ _ _,f_.refl _ _⟩
     .have hid1:bw s.h (nm id)=aa ⟨ty,.fz (xs.flatMap (bN T))⟩:=by rw[hid0,aC hp]
      obtain⟨kk,k1,k2,ob,k3,k4⟩:=c.rep.at_ _ _ hid1;have hφn:φ (nm s.nx)=af:=by
       cases hq:φ (nm s.nx) with
       |none=>rfl
       |some q=>have:=c.dom _ q hq;rw[dQ] at this;omega
      let nw:HF:=λn=>if n=nm s.nx then aa ⟨ty,.fz (xs.flatMap (bN T))⟩ else af
      have hsh:DW w w kk ob:=⟨rfl,rfl,rfl,rfl,k3,λ_ _=>rfl,λ_=>rfl⟩
      obtain⟨φ',p1,p2,p3,p4⟩:=c.rep.wren hid1 k1 hφn hsh k4 nw (by simp[nw]) (by simp only[nw];rw[aC hni.symm]);have hb1:eE (bw s.h) [nm s.nx,nm id] nw (nm b)=aa ⟨cty,.mx Z⟩:=by
       unfold eE;rw[aC (by simp[hnb,hbi]),hold]
      obtain⟨kb,b1,b2,ob2,b3,b4⟩:=p4.at_ _ _ hb1;have hlt:o+off<Z.length:=by
       rcases bW (o+off) Z.length with h'|h'
       .exact h'
       .rw[bM h'] at hy;cases hy
      have hob:ja φ' (tot E φ' (eE (bw s.h) [nm s.nx,nm id] nw)) w ⟨cty,.mx (splice Z (o+off) [eZ p s.nx T.size xs.length])⟩ ob2:=by
       rw[oW rfl] at b4 ⊢;obtain⟨arr,a1,a2⟩:=b4;refine ⟨arr,a1,?_⟩;unfold uj at a2 ⊢;refine ⟨by simp only[BC.len] at a2 ⊢;rw[nQ (by simp;omega)];exact a2.1,λj x I=>?_⟩;simp only[BC.get] at I a2;rw[mf (by simp;omega)] at I;split at I
       .exact a2.2 j x I
       .split at I
        .rename_i h3 M;simp only[gf] at M;have hj:j=o+off:=by omega
         subst hj;simp only[Nat.sub_self,pW,aj] at I;subst I;obtain⟨_,v,a3,a4⟩:=a2.2 _ _ hy;unfold eZ at a4 ⊢;rw[aC hp] at a4 ⊢;refine ⟨rfl,v,a3,?_⟩;cases a4 with
         |@row _ _ _ cc q hφq hn hc hs2=>
          have:=p2.sub _ _ k1;rw[this,aj] at hφq;subst hφq;exact .row p1 hn hc hs2
        .exact a2.2 j x I
      obtain⟨q1,q2⟩:=p4.wset hb1 b1 (⟨rfl,rfl,rfl,rfl,b3,λ_ _=>rfl,λ_=>rfl⟩:DW w w kb ob2) hob (λn=>if n=nm b then aa ⟨cty,.mx (splice Z (o+off) [eZ p s.nx T.size xs.length])⟩ else af) (by simp);have Y:eE (eE (bw s.h) [nm s.nx,nm id] nw) [nm b] (λn=>if n=nm b then aa ⟨cty,.mx (splice Z (o+off) [eZ p s.nx T.size xs.length])⟩ else af)=bw h2:=by
       funext n;by_cases e1:n=nm b
       .subst e1;rw[hnew];simp[eE]
       .by_cases e2:n=nm s.nx
        .subst e2;rw[hnx2,aC hp];simp[eE,nw,hnb.symm]
        .by_cases e3:n=nm id
         .subst e3;rw[hdead];simp[eE,nw,hbi.symm,hni.symm]
         .rw[hoth n e1 e2 e3];simp[eE,e1,e2,e3]
      rw[Y] at q1 q2;have m:=p2.trans q1;refine ⟨φ',⟨q2,λt x I=>m.keep (c.env t x (hE t x I)),λn q hq=>?_,ic c.low,hinv,λt x I=>nU hr x (c.invE t x I),c.inert,c.size⟩,⟨Jm.refl _ _,m.own_,λi hi=>?_⟩,f_.refl _ _⟩
      .rcases p3 n q hq with M|M
       .exact yA (c.dom n q M)
       .simp only[aK] at M;subst M;rw[dQ];exact AW _
      .cases hq:φ' (nm i) with
       |none=>
        cases hq2:φ (nm i) with
        |none=>rfl
        |some z=>rw[p2.sub _ _ hq2] at hq;cases hq
       |some z=>
        rcases p3 _ _ hq with M|M
        .exact M.symm
        .simp only[aK] at M;have:=ku M;have:=c.low;omega
    .cases h
   .cases h
  .cases h
 .rename_i id hk;split at h
  .rename_i ty p T xs J;simp only[aj] at h;subst h;have hfr:=c.invH.fresh;have hidlt:=c.invH.low id _ J;have hin:id≠s.nx:=by omega
   generalize hh2:((s.h.set id (aa (.dead p T.size xs.length))).set s.nx (aa (.rows ty p T xs)))=h2;have nu:∀ i,h2.get i=if i=s.nx then aa (.rows ty p T xs) else if i=id then aa (.dead p T.size xs.length) else s.h.get i:=λi=>by
    rw[<- hh2,PT.get_set,PT.get_set]
   have hr:cg s.h h2:=λi r hi=>by
    rw[bO] at hi ⊢;rw[nu];by_cases e2:i=s.nx
    .subst e2;rw[hfr] at hi;cases hi
    .rw[aC e2];by_cases e3:i=id
     .subst e3;rw[aJ rfl];rw[J] at hi;exact hi
     .rw[aC e3];exact hi
   have hrow:ch h2 (.row s.nx)=aa (eZ p s.nx T.size xs.length):=by
    simp only[ch,bO,nu,bB,aE,mg]
   have hrow0:ch s.h (.row id)=aa (eZ p id T.size xs.length):=by
    simp only[ch,bO,J,aE,mg]
   have hdead:bw h2 (nm id)=af:=by rw[bE,nu,aC hin,aJ rfl];rfl
   have hnx2:bw h2 (nm s.nx)=if p&&xs.length==0 then af else aa ⟨ty,.fz (xs.flatMap (bN T))⟩:=by rw[bE,nu,aJ rfl];rfl
   have hid0:bw s.h (nm id)=if p&&xs.length==0 then af else aa ⟨ty,.fz (xs.flatMap (bN T))⟩:=by rw[bE,J];rfl
   have hoth:∀ n,n≠nm s.nx->n≠nm id->bw h2 n=bw s.h n:=λn e2 e3=>kn c.invH hr λi e=>by
    subst e;rw[nu,aC (λe=>e2 (by rw[e])),aC (λe=>e3 (by rw[e]))]
   have hni:nm s.nx≠nm id:=λe=>hin (ku e).symm
   have hinv:lG h2 (s.nx+1):=by
    refine ⟨λi ty2 l2 hil=>?_,λi q hiq=>?_⟩
    .rw[nu] at hil;split at hil
     .cases hil
     .split at hil
      .cases hil
      .exact iF hr l2 (c.invH.cells i ty2 l2 hil)
    .rw[nu] at hiq;split at hiq
     .omega
     .split at hiq
      .omega
      .have:=c.invH.low i q hiq;omega
   have hE:∀ t x,t≠k->fD (s.e.set k (aa (.row s.nx))) h2 t=aa x->fD s.e s.h t=aa x:=λt x ht I=>by
    simp only[fD,PT.get_set] at I ⊢;rw[aC ht] at I;cases he:s.e.get t with
    |none=>rw[he] at I;cases I
    |some q=>
     rw[he] at I;obtain⟨z,hz⟩:=pm s.h q (c.invE t q he);simp only[aE,gk hr q z hz,aj] at I;subst I;simp only[aE,hz]
   have hIE:sr (s.e.set k (aa (.row s.nx))) h2:=λt x I=>by
    simp only[PT.get_set] at I;split at I
    .cases I;exact Dz _ _ _ hrow
    .exact nU hr x (c.invE t x I)
   have hKp:f_ (nN [.ren k off] 0) s.e (s.e.set k (aa (.row s.nx))):=λt ht v' hv'=>by
    simp only[PT.get_set] at hv';split at hv'
    .rename_i et;subst et;simp only[nN] at ht;rw[bl,bT.2 rfl] at ht;simp at ht
    .exact⟨v',hv',λ_=>rfl⟩
   have U:=c.env k (eZ p id T.size xs.length) (by simp only[fD,hk,aE,hrow0]);by_cases hp:(p&&xs.length==0)=ah
   .have Y:bw h2=bw s.h:=by
     funext n;by_cases e2:n=nm s.nx
     .subst e2;rw[hnx2,aJ hp,bE,hfr];rfl
     .by_cases e3:n=nm id
      .subst e3;rw[hdead,hid0,aJ hp]
      .exact hoth n e2 e3
    have hsame:eZ p s.nx T.size xs.length=eZ p id T.size xs.length:=by unfold eZ;rw[aJ hp,aJ hp]
    refine ⟨φ,⟨by rw[Y];exact c.rep,λt x I=>?_,λn q hq=>yA (c.dom n q hq),ic c.low,hinv,hIE,c.inert,c.size⟩,by rw[Y];exact A_.refl _ _ _ _,hKp⟩;rw[Y];by_cases ht:t=k
    .subst ht;simp only[fD,PT.get_set,bB,aE,hrow,aj] at I;subst I;rw[hsame];exact U
    .exact c.env t x (hE t x ht I)
   .have hid1:bw s.h (nm id)=aa ⟨ty,.fz (xs.flatMap (bN T))⟩:=by rw[hid0,aC hp]
    obtain⟨kk,k1,k2,ob,k3,k4⟩:=c.rep.at_ _ _ hid1;have hφn:φ (nm s.nx)=af:=by
     cases hq:φ (nm s.nx) with
     |none=>rfl
     |some q=>have:=c.dom _ q hq;rw[dQ] at this;omega
    let nw:HF:=λn=>if n=nm s.nx then aa ⟨ty,.fz (xs.flatMap (bN T))⟩ else af
    have hsh:DW w w kk ob:=⟨rfl,rfl,rfl,rfl,k3,λ_ _=>rfl,λ_=>rfl⟩
    obtain⟨φ',p1,p2,p3,p4⟩:=c.rep.wren hid1 k1 hφn hsh k4 nw (by simp[nw]) (by simp only[nw];rw[aC hni.symm]);have Y:eE (bw s.h) [nm s.nx,nm id] nw=bw h2:=by
     funext n;by_cases e2:n=nm s.nx
     .subst e2;rw[hnx2,aC hp];simp[eE,nw]
     .by_cases e3:n=nm id
      .subst e3;rw[hdead];simp[eE,nw,hni.symm]
      .rw[hoth n e2 e3];simp[eE,e2,e3]
    rw[Y] at p2 p4;refine ⟨φ',⟨p4,λt x I=>?_,λn q hq=>?_,ic c.low,hinv,hIE,c.inert,c.size⟩,⟨Jm.refl _ _,p2.own_,λi hi=>?_⟩,hKp⟩
    .by_cases ht:t=k
     .subst ht;simp only[fD,PT.get_set,bB,aE,hrow,aj] at I;subst I;unfold eZ at U ⊢;rw[aC hp] at U ⊢;generalize a.tmps.getD t undef=z at U;cases U with
      |@row _ _ _ cc q hφq hn hc hs2=>
       rw[k1,aj] at hφq;subst hφq;exact .row p1 hn hc hs2
     .exact p2.keep (c.env t x (hE t x ht I))
    .rcases p3 n q hq with M|M
     .exact yA (c.dom n q M)
     .simp only[aK] at M;subst M;rw[dQ];exact AW _
    .cases hq:φ' (nm i) with
     |none=>
      cases hq2:φ (nm i) with
      |none=>rfl
      |some z=>rw[p2.sub _ _ hq2] at hq;cases hq
     |some z=>
      rcases p3 _ _ hq with M|M
      .exact M.symm
      .simp only[aK] at M;have:=ku M;have:=c.low;omega
  .cases h
 .cases h
theorem ae4 {φ:PM} {s:TS} {a:Act} {w:World} (c:oc P E nt np φ s a w) {Z:Zu} {s':TS} (h:Ng s Z=aa s') (hnr:∀ k off,Z≠ .ren k off):oc P E nt np φ s' a w/\A_ np φ φ (bw s.h) (bw s'.h) w w/\f_ (nN [Z] 0) s.e s'.e:=by
 cases Z with
 |ren k off=>exact cX rfl (hnr k off)
 |nil k ty T=>
  simp only[Ng] at h;split at h
  .rename_i v hv;split at h
   .rename_i hn;simp only[aj] at h;subst h;obtain⟨J,M,hr⟩:=UY c ty T;refine ⟨⟨J.rep,?_,J.dom,J.low,J.invH,?_,J.inert,J.size⟩,by rw[M];exact A_.refl _ _ _ _,?_⟩
    .intro t x I;simp only[fD,PT.get_set] at I;split at I
     .rename_i et;subst et;simp only[aE,ch,bO,PT.get_set,bB,mg,eZ,jE,cM,kh,aj] at I;subst I;obtain⟨z,Y⟩:=pm s.h v (c.invE _ v hv);rw[M];exact O7 hn Y _ _ _ _ (c.env _ _ (by simp only[fD,hv,aE,Y]))
     .exact J.env t x I
    .intro t x I;simp only[PT.get_set] at I;split at I
     .cases I;simp only[JG,bO,PT.get_set,bB];rfl
     .exact J.invE t x I
    .intro t ht v' U;simp only[PT.get_set] at U;split at U
     .rename_i et;subst et;simp only[nN] at ht;rw[bl,bT.2 rfl] at ht;simp at ht
     .exact⟨v',U,λ_=>rfl⟩
   .simp only[aj] at h;subst h;exact⟨c,A_.refl _ _ _ _,f_.refl _ _⟩
  .cases h
 |cel k off ty T=>
  simp only[Ng] at h;split at h
  .rename_i id o hk;split at h
   .rename_i cty l hb;split at h
    .rename_i v hv;split at h
     .rename_i hn;simp only[aj] at h;subst h;obtain⟨J,M,hr⟩:=UY c ty T;have hid:id≠s.nx:=λe=>by have:=c.invH.low id _ hb;omega
      obtain⟨c2,t2⟩:=YX J (id:=id) (cty:=cty) (l:=l) (v:=v) (u:=.row s.nx) (by show (s.h.set s.nx _).get id=_;rw[PT.get_set,aC hid];exact hb) hv hn (by simp only[ch,bO,PT.get_set,bB,aE,mg,eZ,jE,cM,kh]) (by simp only[JG,bO,PT.get_set,bB];rfl);exact⟨c2,by rw[<- M];exact t2,f_.refl _ _⟩
     .simp only[aj] at h;subst h;exact⟨c,A_.refl _ _ _ _,f_.refl _ _⟩
    .cases h
   .cases h
  .cases h
 |mpt k K V=>
  simp only[Ng] at h;split at h
  .rename_i id hk;split at h
   .rename_i K' V' es hb;split at h
    .rename_i hE;simp only[aj] at h;subst h;have hr:cg s.h (s.h.set id (aa (.mp K V []))):=cg.set λr hr=>by rw[bO,hb] at hr;cases hr
     have M:bw (s.h.set id (aa (.mp K V [])))=bw s.h:=by
      funext n;by_cases hn:n=nm id
      .subst hn;rw[bE,bE,PT.get_set,aJ rfl,hb];simp only[aE,j9,At (adf (tD.1 hE).1),At (tD.1 hE).2,Rv (tD.1 hE).1,List.map_nil]
      .refine kn c.invH hr λi e=>?_
       subst e;rw[PT.get_set,aC (λe=>hn (by rw[e]))]
     refine ⟨⟨by rw[M];exact c.rep,?_,c.dom,c.low,c.invH.set hr (c.invH.low id _ hb) (bQ _) (λ_ _ he=>by cases he),λt x I=>nU hr x (c.invE t x I),c.inert,c.size⟩,by rw[M];exact A_.refl _ _ _ _,f_.refl _ _⟩;intro t x I;rw[M];simp only[fD] at I;cases he:s.e.get t with
     |none=>rw[he] at I;cases I
     |some q=>
      rw[he] at I;obtain⟨z,Y⟩:=pm s.h q (c.invE t q he);simp only[aE,gk hr q z Y,aj] at I;subst I;exact c.env t _ (by simp only[fD,he,aE,Y])
    .simp only[aj] at h;subst h;exact⟨c,A_.refl _ _ _ _,f_.refl _ _⟩
   .cases h
  .cases h
 |pk k off T=>
  simp only[Ng] at h;split at h
  .obtain⟨h1,h2,h3⟩:=age c h;exact⟨h1,h2,h3.mono λk hk=>by simp at hk⟩
  .cases h
theorem ae3 {φ:PM} {s:TS} {a:Act} {w:World} (c:oc P E nt np φ s a w) {I:Zu} {s':TS} (h:Ng s I=aa s'):∃ φ',oc P E nt np φ' s' a w/\A_ np φ φ' (bw s.h) (bw s'.h) w w/\f_ (nN [I] 0) s.e s'.e:=by
 by_cases hn:∃ k off,I= .ren k off
 .obtain⟨k,off,rfl⟩:=hn;exact aga c h
 .exact⟨φ,ae4 c h λk off e=>hn ⟨k,off,e⟩⟩
theorem Tq {φ:PM} {a:Act} {w:World}:∀ {l:List Zu} {s s':TS},oc P E nt np φ s a w->Wm s l=aa s'->∃ φ',oc P E nt np φ' s' a w/\A_ np φ φ' (bw s.h) (bw s'.h) w w/\f_ (nN l 0) s.e s'.e
 |[],s,s',c,h=>by simp only[Wm,aj] at h;subst h;exact⟨φ,c,A_.refl _ _ _ _,f_.refl _ _⟩
 |I::r,s,s',c,h=>by
  simp only[Wm] at h;split at h
  .rename_i s1 h1;obtain⟨φ1,U,t1,k1⟩:=ae3 c h1;obtain⟨φ2,M,J,k2⟩:=Tq U h;refine ⟨φ2,M,t1.trans J,(k1.mono ?_).trans (k2.mono ?_)⟩
   .intro k hk;cases I with
    |nil q ty T=>simp only[nN] at hk ⊢;rw[lE,bl,hk];rfl
    |cel q off ty T=>simp[nN] at hk
    |mpt q K V=>simp[nN] at hk
    |pk q off T=>simp[nN] at hk
    |ren q off=>simp only[nN] at hk ⊢;rw[lE,bl,hk];rfl
   .intro k hk;cases I with
    |nil q ty T=>simp only[nN];rw[lE,bl,hk];simp
    |cel q off ty T=>simp only[nN];exact hk
    |mpt q K V=>simp only[nN];exact hk
    |pk q off T=>simp only[nN];exact hk
    |ren q off=>simp only[nN];rw[lE,bl,hk];simp
  .cases h
mutual
theorem OZ {h:bd}:∀ (v:TV) (y:AV),sY v=ah->ch h v=aa y->y.all (λ_=>ai)=ah
 |.f _ _,y,_,he=>by simp only[ch,aj] at he;subst he;rfl
 |.fel _ _ _ _ _,y,_,he=>by simp only[ch,aj] at he;subst he;rfl
 |.emp,y,_,he=>by simp only[ch,aj] at he;subst he;rfl
 |.nil,y,_,he=>by simp only[ch,aj] at he;subst he;rfl
 |.undef,y,_,he=>by simp only[ch,aj] at he;subst he;rfl
 |.np,y,_,he=>by simp only[ch,aj] at he;subst he;rfl
 |.anyb,y,_,he=>by simp only[ch,aj] at he;subst he;rfl
 |.agg l,y,hl,he=>by
  simp only[ch] at he;split at he
  .rename_i l' hl';simp only[aj] at he;subst he;exact Dw l l' hl hl'
  .cases he
 |.tup l,y,hl,he=>by
  simp only[ch] at he;split at he
  .rename_i l' hl';simp only[aj] at he;subst he;exact Dw l l' hl hl'
  .cases he
 |.pel _ _ _ _,_,h,_=>by cases h
 |.ptr _ _,_,h,_=>by cases h
 |.csl _ _ _,_,h,_=>by cases h
 |.row _,_,h,_=>by cases h
 |.rtl _ _,_,h,_=>by cases h
 |.mp _,_,h,_=>by cases h
 |.clo _ _,_,h,_=>by cases h
theorem Dw {h:bd}:∀ (l:List TV) (l':List AV),pE l=ah->cF h l=aa l'->AV.allL (λ_=>ai) l'=ah
 |[],l',_,he=>by simp only[cF,aj] at he;subst he;rfl
 |x::r,l',hl,he=>by
  obtain⟨y,l2,rfl,e1,e2⟩:=cP he;simp only[pE,au] at hl;simp only[AV.allL,au];exact⟨OZ x y hl.1 e1,Dw r l2 hl.2 e2⟩
end
mutual
theorem Uv (h:bd):∀ (v:TV),sY v=ah->JG h v=ah
 |.f _ _,_=>rfl
 |.fel _ _ _ _ _,_=>rfl
 |.emp,_=>rfl
 |.nil,_=>rfl
 |.undef,_=>rfl
 |.np,_=>rfl
 |.anyb,_=>rfl
 |.agg l,hl=>HK h l hl
 |.tup l,hl=>HK h l hl
 |.pel _ _ _ _,h=>by cases h
 |.ptr _ _,h=>by cases h
 |.csl _ _ _,h=>by cases h
 |.row _,h=>by cases h
 |.rtl _ _,h=>by cases h
 |.mp _,h=>by cases h
 |.clo _ _,h=>by cases h
theorem HK (h:bd):∀ (l:List TV),pE l=ah->kr h l=ah
 |[],_=>rfl
 |x::r,hl=>by
  simp only[pE,au] at hl;simp only[kr,au];exact⟨Uv h x hl.1,HK h r hl.2⟩
end
structure Seen (np:Nat) (t:Tm) (x:t.ty.den) (us:List TV) (h1:bd) (φ φ':PM) (H:HF) (E:Nat->Prop) (w:World) (la lu:List AV):Prop where
 rep:qd φ' E (bw h1) w
 val:∀ (j:Nat) y v,lu[j]? =aa y->∃ z,la[j]? =aa z/\(cG φ (tot E φ H) w z v->cG φ' (tot E φ' (bw h1)) w y v)
 len:lu.length=la.length
 tot_:∀ k,tot E φ' (bw h1) k->tot E φ H k
 own_:∀ k,own φ' (bw h1) k->own φ H k
 dom:∀ n k,φ' n=aa k->ow n<t.bs.length
 par:∀ i,i<np->i<t.bs.length->φ' (nm i)=φ (nm i)
theorem JB {t:Tm} {x:t.ty.den} {us:List TV} {h1:bd} {l1:List (Option h_)} (I:pR t x us h1 l1) {h:bd} {nx:Nat} (hinv:lG h nx) {vs:List TV} {m:Nat} {σ:PT Nat} {sm:Nat} (M:Gj np t vs h x m σ sm) {la:List AV} (hla:cF h vs=aa la) {φ:PM} {w:World} (r:qd φ E (bw h) w):∃ φ' lu,cF h1 us=aa lu/\Seen np t x us h1 φ φ' (bw h) E w la lu:=by
 obtain⟨x1,m1,x2,m2,hx,hmm,gv,gb⟩:=M.ex;have hmr:dH h m:=by rw[hmm];exact (F8 _ _ _ _ gv).or (F_ _ _ _ _ gb)
 have pvg:pj (gW σ) t.vs x1=aa (j8 (gW σ) us):=by
  have U:=sw (gW σ) t.vs x1;have J:=I.pv;rw[hx,sj] at J;rw[U,J];rfl
 have pbg:nS (gW σ) t.bs x2=aa (l1.map (lj (lq (gW σ)))):=by
  have U:=uN (gW σ) t.bs x2;have J:=I.pb;rw[hx,tU] at J;rw[U,J];rfl
 have hbm:∀ i b,l1[i]? =aa (aa b)->∃ b0,h.get (gW σ i)=aa b0/\BM (gW σ) h m b0 (lq (gW σ) b):=λi b hb=>by
  obtain⟨b0,Y,Z⟩:=HI t.bs 0 x2 m2 _ gb pbg i (lq (gW σ) b) (by rw[a8,hb];rfl);rw[bJ] at Y;exact⟨b0,Y,Z.mono λj hj=>by rw[hmm,bl,hj];simp⟩
 let hv:bd:=y_ (gW σ) 0 (l1.map (lj (lq (gW σ)))) PT.leaf
 have hv_at:∀ i b,l1[i]? =aa (aa b)->hv.get (gW σ i)=aa (lq (gW σ) b):=λi b hb=>by
  have:=tY (gW σ) (l1.map (lj (lq (gW σ)))) 0 PT.leaf (λa b ha hb=>by
   simp only[b8,I.len] at ha hb;simp only[bJ];exact M.inj a b ha hb) i (aa (lq (gW σ) b)) (by rw[a8,hb];rfl)
  rw[bJ] at this;exact this
 have hv_ex:∀ j c,hv.get j=aa c->∃ i b,l1[i]? =aa (aa b)/\j=gW σ i/\c=lq (gW σ) b:=λj c hj=>by
  by_cases hex:∃ i,i<l1.length/\j=gW σ i
  .obtain⟨i,hi,rfl⟩:=hex;have hcc:=ay hi;cases hcv:l1[i] with
   |some b=>rw[hcv] at hcc;rw[hv_at i b hcc] at hj;cases hj;exact⟨i,b,hcc,rfl,rfl⟩
   |none=>
    rw[hcv] at hcc;have:=tY (gW σ) (l1.map (lj (lq (gW σ)))) 0 PT.leaf (λa b ha hb=>by
     simp only[b8,I.len] at ha hb;simp only[bJ];exact M.inj a b ha hb) i af (by rw[a8,hcc];rfl)
    rw[bJ] at this;have hj':(y_ (gW σ) 0 (l1.map (lj (lq (gW σ)))) PT.leaf).get (gW σ i)=aa c:=hj;rw[this] at hj';simp[PT.get] at hj'
  .have:hv.get j=(PT.leaf:bd).get j:=tX (gW σ) _ 0 _ j λk hk=>by
    simp only[b8] at hk;rw[bJ];exact λe=>hex ⟨k,hk,e⟩
   rw[this] at hj;simp[PT.get] at hj
 have rows_in:wH hv h:=λj q hq=>by
  rw[bO] at hq ⊢;cases hc:hv.get j with
  |none=>rw[hc] at hq;cases hq
  |some c=>
   rw[hc] at hq;obtain⟨i,b,Y,rfl,rfl⟩:=hv_ex j c hc;obtain⟨b0,Z,q3⟩:=hbm i b Y;rw[Z];simp only[aE] at hq ⊢;rw[<- q3.row];exact hq
 have rows_h1:∀ i q,dZ h1 i=aa q->dZ hv (gW σ i)=aa q:=λi q hq=>by
  rw[bO] at hq ⊢;cases hb:h1.get i with
  |none=>rw[hb] at hq;cases hq
  |some b=>
   rw[hb] at hq;rw[hv_at i b ((I.at_ i b).1 hb)];simp only[aE,Gx] at hq ⊢;exact hq
 have hd:ui (bw h) (bw hv):=λn y hy=>by
  obtain⟨j,c,rfl,U,J⟩:=je hy;obtain⟨i,b,Y,rfl,rfl⟩:=hv_ex j c U;obtain⟨b0,Z,q3⟩:=hbm i b Y;obtain⟨y0,hy0⟩:=BM.erB_some hinv Z q3 J;exact⟨y0,by rw[bE,Z];exact hy0⟩
 have gvv:CR h (bw h) (bw hv) m:=λi hi=>⟨rfl,by
  cases hc:bw hv (nm i) with
  |none=>rfl
  |some y=>
   obtain⟨j,c,e,U,J⟩:=je hc;have:=ku e;subst this;obtain⟨k,b,Y,rfl,rfl⟩:=hv_ex i c U;have hk:k<t.bs.length:=by rw[<- I.len];exact (be.1 Y).1
   have h5:=M.disj _ hi;rw[(M.sig _).2 ⟨k,hk,rfl⟩] at h5;cases h5⟩
 have V:Ja (bw h) (bw hv):=⟨hd,λn b b' hb hb'=>by
  obtain⟨j,c,rfl,U,J⟩:=je hb';obtain⟨i,bb,Y,rfl,rfl⟩:=hv_ex j c U;obtain⟨b0,Z,q3⟩:=hbm i bb Y;rw[bE,Z] at hb;exact BM.view hd gvv rows_in q3 hb J⟩
 have rv:=V.rep r;have T:ab5 t x us h1 (gW σ) φ E E (bw hv) w:=by
  refine qd.toId I M.inj rv (λi b yb hb hyb=>?_) (λk hk=>.inl hk) (λi k b hi U J hE=>?_) rv.el
  .rw[bE,hv_at i b ((I.at_ i b).1 hb)];exact BZ rows_h1 hyb
  .obtain⟨k',p1,p2,_⟩:=rv.at_ _ _ U;rw[J] at p1;cases p1;exact p2 hE
 obtain⟨lu,hlu⟩:=eY h1 us I.ok;have hlug:cF hv (j8 (gW σ) us)=aa (AV.renL (F' (gW σ)) lu):=pJ rows_h1 us lu hlu;have hle:=BU hd rows_in t.vs vs x1 m1 _ la _ gv pvg hla hlug (λi hi=>gvv i (by rw[hmm,bl,hi];rfl));have hall:=sd us lu I.lt hlu;refine ⟨_,lu,hlu,T.rep,λj y v hy=>?_,?_,λk hk=>hd.tot (T.tot_ k hk),λk hk=>hd.own (T.own_ k hk),λn k hk=>?_,λi hi hb=>?_⟩
 .rw[nR] at hle;obtain⟨z,hz,hlz⟩:=hle.get j (y.ren (F' (gW σ))) (by rw[a8,hy];rfl);exact⟨z,hz,λhr=>T.val y v (lD hall y (aZ hy)) (hlz _ _ _ _ r hr)⟩
 .have:=hle.length;rw[nR,b8] at this;exact this
 .obtain⟨i,hi,rfl,_⟩:=vK hk;rw[dQ];exact hi
 .rw[Xd hb,M.fix i hi]
theorem Me {φ:PM} {s':TS} {a:Act} {w:World} (c:oc P E nt np φ s' a w) {A:Xb} {am:Nat} {s0 s1:TS} {x:A.D} (J:J5 np A am s0 s'=aa x) (hs:Fi A am s0 x=aa s1)
 (hk:∀ k,k∈A.keep->k∉A.ks->∀ v,s0.e.get k=aa v->sY v=ah->aL am k=ai->∀ Z,s'.e.get k=aa Z->Z=v):∃ φ',oc P E nt np φ' s1 a w/\A_ np φ φ' (bw s'.h) (bw s1.h) w w:=by
 unfold J5 at J;split at J
 .rename_i hc;simp only[au] at hc;have hnp:=aY hc.1;split at J
  .rename_i s2 h2;obtain⟨φ2,c2,t2,_⟩:=Tq c h2;split at J
   .rename_i vs hvs;split at J
    .rename_i z m σ sm hM;simp only[aj] at J;subst J;have M:=uX hM;unfold Fi at hs;split at hs
     .rename_i us h1 hi;obtain⟨l1,I⟩:=u_ hi;split at hs
      .rename_i hlen;have hlen:=av hlen;simp only[aj] at hs;subst hs;obtain⟨g1,g2⟩:=Ut hvs;have hvok:kr s2.h vs=ah:=GV c2.invE hvs;obtain⟨la,hla⟩:=eY s2.h vs hvok;obtain⟨φ',lu,hlu,S⟩:=JB (E:=E) I c2.invH M hla c2.rep;refine ⟨φ',⟨S.rep,?_,S.dom,hnp,⟨λi ty l hl=>(I.cells i ty l hl).1,λi b hb=>I.lt_len hb⟩,?_,c.inert,c.size⟩,t2.trans ⟨Jm.refl _ _,λk _ h=>S.own_ k h,λi hi=>S.par i hi (by omega)⟩⟩
       .intro t y U;simp only[fD] at U;cases ht:(Va (BH am s0.e A.keep) A.ks us).get t with
        |none=>rw[ht] at U;cases U
        |some v=>
         rw[ht] at U;simp only[aE] at U;rcases Bj hlen t v ht with ⟨j,q1,Y⟩|⟨q1,Y⟩
         .obtain⟨y',p1,p2⟩:=lB hlu j v Y;rw[U] at p2;cases p2;obtain⟨z,p3,p4⟩:=S.val j y (a.tmps.getD t undef) p1;refine p4 ?_;obtain⟨v0,p5,p6⟩:=g2 j t q1;obtain⟨z',p7,p8⟩:=lB hla j v0 p5;rw[p3] at p7;cases p7;exact c2.env t _ (by simp only[fD,p6,aE,p8])
         .obtain⟨k1,k2,k3,k4⟩:=sC Y;obtain⟨Z,k5⟩:=Hb hc.2 t v k1 k2 k3 k4;have:=hk t k1 q1 v k2 k3 k4 Z k5;subst this;have h3:=c.env t y (by simp only[fD,k5,aE];rw[O8 s'.h h1 Z k3];exact U);exact h3.restrict (p:=λ_=>ai) (λi k hi _=>by cases hi) (λk hk=>by
           have h4:=S.tot_ k hk;rcases h4 with h4|h4
           .exact .inl h4
           .exact .inr (by
             have hkl:k<w.heap.size:=by
              obtain⟨n,b,e1,e2⟩:=h4;obtain⟨k',p1,_,ob,p3,_⟩:=c2.rep.at_ n b e1;rw[e2] at p1;cases p1;exact (cu.1 p3).1
             exact t2.own_ k hkl h4)) (OZ Z y k3 U)
       .intro t v hv;rcases Bj hlen t v hv with ⟨j,q1,Y⟩|⟨q1,Y⟩
        .obtain⟨y',_,p2⟩:=lB hlu j v Y;exact Dz _ _ _ p2
        .exact Uv _ v (sC Y).2.2.1
      .cases hs
     .cases hs
    .cases J
   .cases J
  .cases J
 .cases J
theorem CY {A:Xb} {am:Nat} {I s1:TS} {x:A.D} (hs:Fi A am I x=aa s1):f_ (JJ A.ks 0) I.e s1.e/\∀ k,k∉A.ks->∀ v,s1.e.get k=aa v->I.e.get k=aa v:=by
 unfold Fi at hs;split at hs
 .rename_i us h1 hi;split at hs
  .rename_i hlen;have hlen:=av hlen;simp only[aj] at hs;subst hs;have key:∀ k,k∉A.ks->∀ v,(Va (BH am I.e A.keep) A.ks us).get k=aa v->I.e.get k=aa v:=λk hk v hv=>by
    rcases Bj hlen k v hv with ⟨j,U,_⟩|⟨_,M⟩
    .exact cX (aZ U) hk
    .exact (sC M).2.1
   refine ⟨λk hk J hv=>?_,key⟩;have hnk:k∉A.ks:=λhm=>by rw[Ul hm] at hk;cases hk
   exact⟨J,key k hnk J hv,λ_=>rfl⟩
  .cases hs
 .cases hs
end walk
inductive Er:TC->SC->Prop
 |skip:Er .skip .skip
 |reg (ops:List rz) (prs:List (Nat×Nat)):Er (.reg ops prs) (.reg ops prs)
 |seq {a b:TC} {a' b':SC}:Er a a'->Er b b'->Er (.seq a b) (.seq a' b')
 |jseq (A:Xb) {a b:TC} {a' b':SC}:Er a a'->Er b b'->Er (.jseq A a b) (.seq a' b')
 |cond (c:Nat) {a b:TC} {a' b':SC}:Er a a'->Er b b'->Er (.cond c a b) (.cond c a' b')
 |block (id:Nat) {b:TC} {b':SC}:Er b b'->Er (.block id b) (.block id b')
 |jblock (A:Xb) (id:Nat) {b:TC} {b':SC}:Er b b'->Er (.jblock A id b) (.block id b')
 |loop (A:Xb) {b:TC} {b':SC}:Er b b'->Er (.loop A b) (.loop b')
 |exit (id:Nat):Er (.exit id) (.exit id)
 |ret:Er .ret .ret
 |defer (f:FuncId) (c:List Operand) (t:Nat):Er (.defer f c t) (.defer f c t)
 |adj (l:List Zu) {c:TC} {c':SC}:Er c c'->Er (.adj l c) c'
 |split (k off lo n:Nat) {c:TC} {c':SC}:Er c c'->Er (.split k off lo n c) c'
 |unl (n:Nat) {b:TC} {b':SC}:Er b b'->Er (.unl n b) (.loop b')
 |bad (c:SC):Er .bad c
theorem Bc {H:PT Zl} {n:Nat} {c:TC} {c':SC} (h:Er c c'):Er (Gm H n c) c':=by
 unfold Gm;split
 .exact .adj _ h
 .exact .split _ _ _ _ h
 .exact h
theorem wD (H:PT Zl):∀ (c:SC) (n:Nat),Er (Cp H c n).1 c
 |.skip,n=>Bc .skip
 |.reg o p,n=>Bc (.reg o p)
 |.seq a b,n=>by
  have h1:=wD H a (n+1);have h2:=wD H b (Cp H a (n+1)).2;simp only[Cp];split
  .exact .jseq _ h1 h2
  .exact .seq h1 h2
 |.cond c a b,n=>by
  have h1:=wD H a (n+1);have h2:=wD H b (Cp H a (n+1)).2;simp only[Cp];exact Bc (.cond c h1 h2)
 |.block id b,n=>by
  have h1:=wD H b (n+1);simp only[Cp];split
  .exact .jblock _ id h1
  .exact .block id h1
 |.loop b,n=>by
  have h1:=wD H b (n+1);simp only[Cp];split
  .exact .loop _ h1
  .exact .unl _ h1
  .exact .bad _
 |.exit id,n=>Bc (.exit id)
 |.ret,n=>Bc .ret
 |.defer f c t,n=>.defer f c t
 |.bad,n=>.bad _
theorem Vn {σ R:Type} {step:σ->Option (σ⊕R)} {x:σ} {r:R} (h:iter step x=aa r):∃ n,iterN step n x=aa r:=by
 unfold iter at h;split at h
 .exact⟨_,h⟩
 .cases h
theorem Uo {α R:Type} {o:Option (R⊕α)} {k:α->Option R} {r:R} (h:jn o k=aa r):(∃ x,o=aa (.inr x)/\k x=aa r)\/o=aa (.inl r):=by
 unfold jn at h;split at h
 .exact .inl ⟨_,rfl,h⟩
 .cases h;exact .inr rfl
 .cases h
section inv
variable {P:Program} {nt:Nat}
theorem yf (id:Nat) (ops:Array Oper) (I:Bool):ci P nt (.region id ops I)= .bad\/
 ((ops.toList.all λo=>match o.dst with|some d=>decide (d<nt)|none=>ah)=ah/\
   ((∃ f caps t,Co ops I=aa (f,caps,t)/\ci P nt (.region id ops I)= .defer f caps t)\/
    ∃ l prs,qU P ops ops.toList=aa l/\KN ops l=aa prs/\ci P nt (.region id ops I)= .reg l prs)):=by
 simp only[ci];split
 .rename_i hd;split
  .rename_i f caps t h;exact .inr ⟨hd,.inl ⟨f,caps,t,h,rfl⟩⟩
  .split
   .rename_i l hl;split
    .rename_i prs hp;exact .inr ⟨hd,.inr ⟨l,prs,hl,hp,rfl⟩⟩
    .exact .inl rfl
   .exact .inl rfl
 .exact .inl rfl
def C5:Code->Bool
 |.cond (.const (.bool _)) _ _=>ai
 |_=>ah
theorem jM (P:Program) (nt:Nat) (c:Code):∃ c',C5 c'=ah/\ci P nt c'=ci P nt c/\∀ Q a w,c'.wp P Q a w->c.wp P Q a w:=by
 have self:∀ c:Code,C5 c=ah->∃ c',C5 c'=ah/\ci P nt c'=ci P nt c/\∀ Q a w,c'.wp P Q a w->c.wp P Q a w:=λc h=>⟨c,h,rfl,λ_ _ _ h=>h⟩
 induction c with
 |cond o x y ihx ihy=>
  cases o with
  |const v=>
   cases v with
   |bool b=>
    cases b with
    |true=>
     obtain⟨c',h1,h2,I⟩:=ihx;exact⟨c',h1,h2,λQ a w h=>wp_cond_true rfl (I Q a w h)⟩
    |false=>
     obtain⟨c',h1,h2,I⟩:=ihy;exact⟨c',h1,h2,λQ a w h=>wp_cond_false rfl (I Q a w h)⟩
   |_=>exact self _ rfl
  |_=>exact self _ rfl
 |_=>exact self _ rfl
theorem Ef {α:Prop} {o:Operand} {x y:Code} {sc:SC} (hn:C5 (.cond o x y)=ah) (h:ci P nt (.cond o x y)=sc) (h1:sc≠ .bad) (h2:∀ t a b,sc≠ .cond t a b):α:=by
 cases o with
 |tmp q=>exact (h2 _ _ _ h.symm).elim
 |const v=>cases v<;>first|exact (h1 h.symm).elim|cases hn
 |global g=>exact (h1 h.symm).elim
 |func f=>exact (h1 h.symm).elim
theorem Z8 {c:Code} {sl:List rz} {prs:List (Nat×Nat)} (hn:C5 c=ah) (h:ci P nt c= .reg sl prs):∃ id ops I,c= .region id ops I/\(ops.toList.all λo=>match o.dst with|some d=>decide (d<nt)|none=>ah)=ah/\qU P ops ops.toList=aa sl/\KN ops sl=aa prs:=by
 cases c with
 |region id ops I=>
  rcases yf (P:=P) (nt:=nt) id ops I with h1|⟨hd,⟨f,caps,t,_,h1⟩|⟨l,p,h2,J,h1⟩⟩
  .rw[h1] at h;cases h
  .rw[h1] at h;cases h
  .rw[h1] at h;cases h;exact⟨id,ops,I,rfl,hd,h2,J⟩
 |cond o x y=>exact Ef hn h (by simp) (by simp)
 |_=>simp[ci] at h
theorem Vo {c:Code} {f:FuncId} {caps:List Operand} {t:Nat} (hn:C5 c=ah) (h:ci P nt c= .defer f caps t):∃ id ops I,c= .region id ops I/\(ops.toList.all λo=>match o.dst with|some d=>decide (d<nt)|none=>ah)=ah/\Co ops I=aa (f,caps,t):=by
 cases c with
 |region id ops I=>
  rcases yf (P:=P) (nt:=nt) id ops I with h1|⟨hd,⟨f',caps',t',h2,h1⟩|⟨l,p,h2,J,h1⟩⟩
  .rw[h1] at h;cases h
  .rw[h1] at h;cases h;exact⟨id,ops,I,rfl,hd,h2⟩
  .rw[h1] at h;cases h
 |cond o x y=>exact Ef hn h (by simp) (by simp)
 |_=>simp[ci] at h
theorem oG {c:Code} {sc:SC} (h:ci P nt c=sc) (h1:sc≠ .bad) (h2:∀ a b,sc≠ .reg a b) (M:∀ a b t,sc≠ .defer a b t):∀ id ops J,c≠ .region id ops J:=by
 rintro id ops J rfl;rcases yf (P:=P) (nt:=nt) id ops J with I|⟨_,⟨f,caps,t,_,I⟩|⟨l,p,_,_,I⟩⟩<;>rw[I] at h
 .exact h1 h.symm
 .exact M _ _ _ h.symm
 .exact h2 _ _ h.symm
theorem X1 {c:Code} (hn:C5 c=ah) (h:ci P nt c= .skip):c= .skip:=by
 have I:=oG h (by simp) (by simp) (by simp);cases c with
 |skip=>rfl
 |region id ops J=>exact cX rfl (I id ops J)
 |cond o x y=>exact Ef hn h (by simp) (by simp)
 |_=>simp[ci] at h
theorem Z7 {c:Code} (hn:C5 c=ah) (h:ci P nt c= .ret):c= .ret:=by
 have I:=oG h (by simp) (by simp) (by simp);cases c with
 |ret=>rfl
 |region id ops J=>exact cX rfl (I id ops J)
 |cond o x y=>exact Ef hn h (by simp) (by simp)
 |_=>simp[ci] at h
theorem X2 {c:Code} {i:Nat} (hn:C5 c=ah) (h:ci P nt c= .exit i):c= .exit i:=by
 have I:=oG h (by simp) (by simp) (by simp);cases c with
 |exit id=>simp[ci] at h;rw[h]
 |region id ops J=>exact cX rfl (I id ops J)
 |cond o x y=>exact Ef hn h (by simp) (by simp)
 |_=>simp[ci] at h
theorem Up {c:Code} {a b:SC} (hn:C5 c=ah) (h:ci P nt c= .seq a b):∃ x y,c= .seq x y/\ci P nt x=a/\ci P nt y=b:=by
 have I:=oG h (by simp) (by simp) (by simp);cases c with
 |seq x y=>simp[ci] at h;exact⟨x,y,rfl,h.1,h.2⟩
 |region id ops J=>exact cX rfl (I id ops J)
 |cond o x y=>exact Ef hn h (by simp) (by simp)
 |_=>simp[ci] at h
theorem X3 {c:Code} {t:Nat} {a b:SC} (hn:C5 c=ah) (h:ci P nt c= .cond t a b):∃ x y,c= .cond (.tmp t) x y/\ci P nt x=a/\ci P nt y=b:=by
 have I:=oG h (by simp) (by simp) (by simp);cases c with
 |cond o x y=>
  cases o with
  |tmp q=>simp[ci] at h;obtain⟨rfl,h1,h2⟩:=h;exact⟨x,y,rfl,h1,h2⟩
  |const v=>cases v<;>first|(simp [ci] at h;done)|cases hn
  |_=>simp[ci] at h
 |region id ops J=>exact cX rfl (I id ops J)
 |_=>simp[ci] at h
theorem K3 {c:Code} {id:Nat} {b:SC} (hn:C5 c=ah) (h:ci P nt c= .block id b):∃ y,c= .block id y/\ci P nt y=b:=by
 have I:=oG h (by simp) (by simp) (by simp);cases c with
 |block i y=>simp[ci] at h;obtain⟨rfl,h1⟩:=h;exact⟨y,rfl,h1⟩
 |region id ops J=>exact cX rfl (I id ops J)
 |cond o x y=>exact Ef hn h (by simp) (by simp)
 |_=>simp[ci] at h
theorem Og {c:Code} {b:SC} (hn:C5 c=ah) (h:ci P nt c= .loop b):∃ y,c= .loop y/\ci P nt y=b:=by
 have I:=oG h (by simp) (by simp) (by simp);cases c with
 |loop y=>simp[ci] at h;exact⟨y,rfl,h⟩
 |region id ops J=>exact cX rfl (I id ops J)
 |cond o x y=>exact Ef hn h (by simp) (by simp)
 |_=>simp[ci] at h
end inv
def acu {R:Type} (P:Program) (E:Nat->Prop) (nt np:Nat) (φ:PM) (s:TS) (w:World) (am:Nat) (K:Ex->TS->Option R) (r:R):Exit->Act->World->Prop:=
 λe a' w'=>∃ ex s' φ',e=ex.to/\K ex s'=aa r/\oc P E nt np φ' s' a' w'/\A_ np φ φ' (bw s.h) (bw s'.h) w w'/\f_ am s.e s'.e
theorem oc.bool {P:Program} {E:Nat->Prop} {nt np:Nat} {φ:PM} {s:TS} {a:Act} {w:World} (c:oc P E nt np φ s a w) {t:Nat} {b:Bool} (ht:s.e.get t=aa (.f .bool b)):a.eval (.tmp t)= .bool b:=
 e9 (c.env t _ (by simp only[fD,ht,aE,ch];rfl))
theorem oc.anyb {P:Program} {E:Nat->Prop} {nt np:Nat} {φ:PM} {s:TS} {a:Act} {w:World} (c:oc P E nt np φ s a w) {t:Nat} (ht:s.e.get t=aa .anyb):∃ b,a.eval (.tmp t)= .bool b:=by
 have:=c.env t .anyb (by simp only[fD,ht,aE,ch]);show ∃ b,a.tmps.getD t undef= .bool b;generalize a.tmps.getD t undef=z at this;cases this with
 |anyb=>exact⟨_,rfl⟩
theorem Wk {R:Type} {a b:Option R} {r:R} (h:DR a b=aa r):a=aa r/\b=aa r:=by
 unfold DR at h;split at h
 .rename_i e;exact⟨h,by rw[<- e];exact h⟩
 .cases h
theorem ad7 {P:Program} {E:Nat->Prop} {nt np:Nat} {con:FuncId->Option cq} {bY:TypeId->Option Ty} {inert:FuncId->Bool} (hm:P.follows .mixedOrders=ah) (hcon:Jo P con) (hin:Jk P inert):
 ∀ {tc:TC} {sc:SC},Er tc sc->∀ (c:Code),ci P nt c=sc->∀ (R:Type) (s:TS) (K:Ex->TS->Option R) (r:R),oA np con bY inert tc s K=aa r->∀ (φ:PM) (a:Act) (w:World),oc P E nt np φ s a w->c.wp P (acu P E nt np φ s w (tc.asg 0) K r) a w:=by
 intro tc sc hE;induction hE with
 |skip=>
  intro c hc R s K r h φ a w g;obtain⟨c',hn,I,hsim⟩:=jM P nt c;refine hsim _ _ _ ?_;rw[<- I] at hc;rw[X1 hn hc];exact wp_skip ⟨.normal,s,φ,rfl,h,g,A_.refl _ _ _ _,f_.refl _ _⟩
 |reg ops prs=>
  intro c hc R s K r h φ a w g;obtain⟨c',hn,I,hsim⟩:=jM P nt c;refine hsim _ _ _ ?_;rw[<- I] at hc;obtain⟨id,os,dr,rfl,h1,h2,h3⟩:=Z8 hn hc;simp only[oA] at h;refine XC (K:=λs'=>K .normal s') hm hcon g (am:=Nb ops 0) (λj o d ho hd=>?_) h1 h2 h3 h λa' w' s' φ' Z J q3 q4=>⟨.normal,s',φ',rfl,Z,J,q3,q4⟩
  have hmem:o∈os.toList:=by have:=Array.mem_of_getElem? ho;simpa using this
  have key:∀ (rest:List Oper) (sl:List rz),qU P os rest=aa sl->∀ o∈rest,∃ so∈sl,so.dst=o.dst:=by
   intro rest;induction rest with
   |nil=>intro sl _ o ho;cases ho
   |cons x rest ih=>
    intro sl hsl o ho;simp only[qU] at hsl;split at hsl
    .rename_i l hl;have:∃ so,sl=so::l/\so.dst=x.dst:=by
      split at hsl
      .simp only[aj] at hsl;exact⟨_,hsl.symm,rfl⟩
      .split at hsl
       .simp only[aj] at hsl;exact⟨_,hsl.symm,rfl⟩
       .cases hsl
     obtain⟨so,rfl,hso⟩:=this;rcases bh.1 ho with rfl|ho
     .exact⟨so,by simp,hso⟩
     .obtain⟨q,hq,hq2⟩:=ih l hl o ho;exact⟨q,by simp[hq],hq2⟩
    .cases hsl
  obtain⟨so,hso,hd2⟩:=key os.toList ops h2 o hmem;exact Ql hso (by rw[hd2];exact hd)
 |@seq x y x' y' _ _ ihx ihy=>
  intro c hc R s K r h φ a w g;obtain⟨c',hn,I,hsim⟩:=jM P nt c;refine hsim _ _ _ ?_;rw[<- I] at hc;obtain⟨cx,cy,rfl,h1,h2⟩:=Up hn hc;simp only[oA] at h;refine wp_seq (wp_mono (ihx cx h1 R s _ r h φ a w g) ?_);rintro e a' w' ⟨ex,s',φ',rfl,hk,g',st,M⟩;have kp':f_ ((TC.seq x y).asg 0) s.e s'.e:=M.mono λk hk=>by simp only[TC.asg];exact jT hk
  cases ex with
  |normal=>
   refine wp_mono (ihy cy h2 R s' K r hk φ' a' w' g') ?_;rintro e2 a2 w2 ⟨ex2,s2,φ2,rfl,hk2,g2,Xw,kp2⟩;exact⟨ex2,s2,φ2,rfl,hk2,g2,st.trans Xw,kp'.trans (kp2.mono λk hk=>by simp only[TC.asg];exact uh hk)⟩
  |exit id=>exact⟨.exit id,s',φ',rfl,hk,g',st,kp'⟩
  |ret=>exact⟨.ret,s',φ',rfl,hk,g',st,kp'⟩
 |@jseq A x y x' y' _ _ ihx ihy=>
  intro c hc R s K r h φ a w g;obtain⟨c',hn,I,hsim⟩:=jM P nt c;refine hsim _ _ _ ?_;rw[<- I] at hc;obtain⟨cx,cy,rfl,h1,h2⟩:=Up hn hc;simp only[oA] at h;have sub1:∀ k,aL (x.asg 0) k=ah->aL ((TC.jseq A x y).asg 0) k=ah:=λk hk=>by simp only[TC.asg];exact jT (uh hk)
  have sub2:∀ k,aL (y.asg 0) k=ah->aL ((TC.jseq A x y).asg 0) k=ah:=λk hk=>by simp only[TC.asg];exact uh hk
  have sub3:∀ k,aL (JJ A.ks 0) k=ah->aL ((TC.jseq A x y).asg 0) k=ah:=λk hk=>by simp only[TC.asg];exact jT (jT hk)
  rcases Uo h with ⟨d,h3,h4⟩|h3
  .refine wp_seq (wp_mono (ihx cx h1 _ s _ _ h3 φ a w g) ?_);rintro e a' w' ⟨ex,s',φ',rfl,hk,g',st,M⟩;cases ex with
   |normal=>
    simp only[] at hk;obtain⟨d',Z,J⟩:=dy hk;simp only[aj,Sum.inr.injEq] at J;subst J;split at h4
    .rename_i s1 Y;obtain⟨φ1,g1,Gu⟩:=Me g' Z Y λk _ _ v hv hf ha v' U=>by
      obtain⟨v0,e1,e2⟩:=M k ha v' U;rw[hv] at e1;cases e1;exact e2 hf
     refine wp_mono (ihy cy h2 R s1 K r h4 φ1 a' w' g1) ?_;rintro e2 a2 w2 ⟨ex2,s2,φ2,rfl,hk2,g2,Xw,kp2⟩;exact⟨ex2,s2,φ2,rfl,hk2,g2,(st.trans Gu).trans Xw,((CY Y).1.mono sub3).trans (kp2.mono sub2)⟩
    .cases h4
   |exit id=>simp only[] at hk;obtain⟨_,_,J⟩:=dy hk;simp at J
   |ret=>simp only[] at hk;obtain⟨_,_,J⟩:=dy hk;simp at J
  .refine wp_seq (wp_mono (ihx cx h1 _ s _ _ h3 φ a w g) ?_);rintro e a' w' ⟨ex,s',φ',rfl,hk,g',st,M⟩;cases ex with
   |normal=>simp only[] at hk;obtain⟨_,_,J⟩:=dy hk;simp at J
   |exit id=>
    simp only[] at hk;obtain⟨r',Z,J⟩:=dy hk;simp only[aj,Sum.inl.injEq] at J;subst J;exact⟨.exit id,s',φ',rfl,Z,g',st,M.mono sub1⟩
   |ret=>
    simp only[] at hk;obtain⟨r',Z,J⟩:=dy hk;simp only[aj,Sum.inl.injEq] at J;subst J;exact⟨.ret,s',φ',rfl,Z,g',st,M.mono sub1⟩
 |@cond t x y x' y' _ _ ihx ihy=>
  intro c hc R s K r h φ a w g;obtain⟨c',hn,I,hsim⟩:=jM P nt c;refine hsim _ _ _ ?_;rw[<- I] at hc;obtain⟨cx,cy,rfl,h1,h2⟩:=X3 hn hc;simp only[oA] at h;split at h
  .rename_i b hb;rcases oS h with ⟨rfl,h⟩|⟨rfl,h⟩
   .refine wp_cond_true (g.bool hb) (wp_mono (ihx cx h1 R s K r h φ a w g) ?_);rintro e a' w' ⟨ex,s',φ',rfl,hk,g',st,M⟩;exact⟨ex,s',φ',rfl,hk,g',st,M.mono λk hk=>by simp only[TC.asg];exact jT hk⟩
   .refine wp_cond_false (g.bool hb) (wp_mono (ihy cy h2 R s K r h φ a w g) ?_);rintro e a' w' ⟨ex,s',φ',rfl,hk,g',st,M⟩;exact⟨ex,s',φ',rfl,hk,g',st,M.mono λk hk=>by simp only[TC.asg];exact uh hk⟩
  .rename_i hb;obtain⟨ha,hbb⟩:=Wk h;obtain⟨bv,hbv⟩:=g.anyb hb;cases bv with
   |true=>
    refine wp_cond_true hbv (wp_mono (ihx cx h1 R s K r ha φ a w g) ?_);rintro e a' w' ⟨ex,s',φ',rfl,hk,g',st,M⟩;exact⟨ex,s',φ',rfl,hk,g',st,M.mono λk hk=>by simp only[TC.asg];exact jT hk⟩
   |false=>
    refine wp_cond_false hbv (wp_mono (ihy cy h2 R s K r hbb φ a w g) ?_);rintro e a' w' ⟨ex,s',φ',rfl,hk,g',st,M⟩;exact⟨ex,s',φ',rfl,hk,g',st,M.mono λk hk=>by simp only[TC.asg];exact uh hk⟩
  .cases h
 |@block id b b' _ ih=>
  intro c hc R s K r h φ a w g;obtain⟨c',hn,I,hsim⟩:=jM P nt c;refine hsim _ _ _ ?_;rw[<- I] at hc;obtain⟨cb,rfl,h1⟩:=K3 hn hc;simp only[oA] at h;refine wp_block (wp_mono (ih cb h1 R s _ r h φ a w g) ?_);rintro e a' w' ⟨ex,s',φ',rfl,hk,g',st,M⟩;cases ex with
  |normal=>exact⟨.normal,s',φ',rfl,hk,g',st,M⟩
  |ret=>exact⟨.ret,s',φ',rfl,hk,g',st,M⟩
  |exit i=>
   simp only[Ex.to,Exit.inBlock];simp only[] at hk;split at hk
   .rename_i hb;rw[aJ (av hb)];exact⟨.normal,s',φ',rfl,hk,g',st,M⟩
   .rename_i hb;rw[aC (λe=>hb (by rw[e];exact qK id))];exact⟨.exit i,s',φ',rfl,hk,g',st,M⟩
 |@jblock A id b b' _ ih=>
  intro c hc R s K r h φ a w g;obtain⟨c',hn,I,hsim⟩:=jM P nt c;refine hsim _ _ _ ?_;rw[<- I] at hc;obtain⟨cb,rfl,h1⟩:=K3 hn hc;simp only[oA] at h;have sub1:∀ k,aL (b.asg 0) k=ah->aL ((TC.jblock A id b).asg 0) k=ah:=λk hk=>by simp only[TC.asg];exact uh hk
  have sub3:∀ k,aL (JJ A.ks 0) k=ah->aL ((TC.jblock A id b).asg 0) k=ah:=λk hk=>by simp only[TC.asg];exact jT hk
  rcases Uo h with ⟨d,h3,h4⟩|h3
  .refine wp_block (wp_mono (ih cb h1 _ s _ _ h3 φ a w g) ?_);rintro e a' w' ⟨ex,s',φ',rfl,hk,g',st,M⟩;have fin:obind (J5 np A (b.asg 0) s s') (λx=>aa (bS (α:=R) x))=aa (bS d)->acu P E nt np φ s w ((TC.jblock A id b).asg 0) K r .normal a' w':=by
    intro hk;obtain⟨d',Z,J⟩:=dy hk;simp only[aj,Sum.inr.injEq] at J;subst J;split at h4
    .rename_i s1 Y;obtain⟨φ1,g1,Gu⟩:=Me g' Z Y λk _ _ v hv hf ha v' U=>by
      obtain⟨v0,e1,e2⟩:=M k ha v' U;rw[hv] at e1;cases e1;exact e2 hf
     exact⟨.normal,s1,φ1,rfl,h4,g1,st.trans Gu,(CY Y).1.mono sub3⟩
    .cases h4
   cases ex with
   |normal=>exact fin hk
   |ret=>simp only[] at hk;obtain⟨_,_,J⟩:=dy hk;simp at J
   |exit i=>
    simp only[Ex.to,Exit.inBlock];simp only[] at hk;split at hk
    .rename_i hb;rw[aJ (av hb)];exact fin hk
    .obtain⟨_,_,J⟩:=dy hk;simp at J
  .refine wp_block (wp_mono (ih cb h1 _ s _ _ h3 φ a w g) ?_);rintro e a' w' ⟨ex,s',φ',rfl,hk,g',st,M⟩;cases ex with
   |normal=>simp only[] at hk;obtain⟨_,_,J⟩:=dy hk;simp at J
   |ret=>
    simp only[] at hk;obtain⟨r',Z,J⟩:=dy hk;simp only[aj,Sum.inl.injEq] at J;subst J;exact⟨.ret,s',φ',rfl,Z,g',st,M.mono sub1⟩
   |exit i=>
    simp only[Ex.to,Exit.inBlock];simp only[] at hk;split at hk
    .obtain⟨_,_,J⟩:=dy hk;simp at J
    .rename_i hb;rw[aC (λe=>hb (by rw[e];exact qK id))];obtain⟨r',Z,J⟩:=dy hk;simp only[aj,Sum.inl.injEq] at J;subst J;exact⟨.exit i,s',φ',rfl,Z,g',st,M.mono sub1⟩
 |@loop A b b' _ ih=>
  intro c hc R s K r h φ a w g;obtain⟨c',hn,I,hsim⟩:=jM P nt c;refine hsim _ _ _ ?_;rw[<- I] at hc;obtain⟨cb,rfl,h1⟩:=Og hn hc;simp only[oA] at h;obtain⟨x0,hx0,h⟩:=dy h;obtain⟨n,hn⟩:=Vn h;have sub1:∀ k,aL (b.asg 0) k=ah->aL ((TC.loop A b).asg 0) k=ah:=λk hk=>by simp only[TC.asg];exact uh hk
  have sub3:∀ k,aL (JJ A.ks 0) k=ah->aL ((TC.loop A b).asg 0) k=ah:=λk hk=>by simp only[TC.asg];exact jT hk
  obtain⟨step,hstep⟩:∃ step:A.D->Option (A.D⊕R),step=λx=>(match Fi A (b.asg 0) s x with
   |some s'=>oA np con bY inert b s' λex s'=>(match ex with
    |.normal=>obind (J5 np A (b.asg 0) s s') λy=>aa (lX y)
    |ex=>obind (K ex s') λr=>aa (bS r))
   |none=>af):=⟨_,rfl⟩
  have hn:iterN step n x0=aa r:=by rw[hstep];exact hn
  have stepEq:∀ x,step x=(match Fi A (b.asg 0) s x with
   |some s'=>oA np con bY inert b s' λex s'=>(match ex with
    |.normal=>obind (J5 np A (b.asg 0) s s') λy=>aa (lX y)
    |ex=>obind (K ex s') λr=>aa (bS r))
   |none=>af):=λx=>by rw[hstep]
  let Inv:Nat->Act->World->Prop:=λn a w'=>∃ x s1 φ1,iterN step n x=aa r/\Fi A (b.asg 0) s x=aa s1/\oc P E nt np φ1 s1 a w'/\A_ np φ φ1 (bw s.h) (bw s1.h) w w'
  have head:∀ (n:Nat) (x:A.D),iterN step n x=aa r->∃ s1,Fi A (b.asg 0) s x=aa s1:=by
   intro n x hn;cases n with
   |zero=>cases hn
   |succ n=>
    simp only[iterN] at hn;cases hr:Fi A (b.asg 0) s x with
    |some s1=>exact⟨s1,rfl⟩
    |none=>rw[stepEq,hr] at hn;cases hn
  refine Bd Inv ?_ (n:=n) ?_
  .rintro n a1 w1 ⟨x,s1,φ1,hi,hr,g1,Gu⟩;cases n with
   |zero=>cases hi
   |succ n=>
    simp only[iterN] at hi;have hse:=stepEq x;rw[hr] at hse;simp only[] at hse;obtain⟨kp1,kp1'⟩:=CY hr;split at hi
    .rename_i y hy;rw[hy] at hse;refine wp_mono (ih cb h1 _ s1 _ _ hse.symm φ1 a1 w1 g1) ?_;rintro e a' w' ⟨ex,s',φ',rfl,hk,g',st,M⟩;cases ex with
     |normal=>
      simp only[] at hk;obtain⟨d',Z,J⟩:=dy hk;simp only[aj,Sum.inl.injEq] at J;subst J;obtain⟨s2,hs2⟩:=head n d' hi;obtain⟨φ2,g2,Xw⟩:=Me g' Z hs2 λk hkk hks v hv hf ha v' U=>by
       obtain⟨v0,e1,e2⟩:=M k ha v' U;have:=kp1' k hks v0 e1;rw[hv] at this;cases this;exact e2 hf
      exact⟨n,by omega,d',s2,φ2,hi,hs2,g2,(Gu.trans st).trans Xw⟩
     |exit id=>simp only[] at hk;obtain⟨_,_,J⟩:=dy hk;simp at J
     |ret=>simp only[] at hk;obtain⟨_,_,J⟩:=dy hk;simp at J
    .rename_i r' hy;cases hi;rw[hy] at hse;refine wp_mono (ih cb h1 _ s1 _ _ hse.symm φ1 a1 w1 g1) ?_;rintro e a' w' ⟨ex,s',φ',rfl,hk,g',st,M⟩;cases ex with
     |normal=>simp only[] at hk;obtain⟨_,_,J⟩:=dy hk;simp at J
     |exit id=>
      simp only[] at hk;obtain⟨r',Z,J⟩:=dy hk;simp only[aj,Sum.inr.injEq] at J;subst J;exact⟨.exit id,s',φ',rfl,Z,g',Gu.trans st,(kp1.mono sub3).trans (M.mono sub1)⟩
     |ret=>
      simp only[] at hk;obtain⟨r',Z,J⟩:=dy hk;simp only[aj,Sum.inr.injEq] at J;subst J;exact⟨.ret,s',φ',rfl,Z,g',Gu.trans st,(kp1.mono sub3).trans (M.mono sub1)⟩
    .cases hi
  .obtain⟨s1,Y⟩:=head n x0 hn;obtain⟨φ1,g1,Gu⟩:=Me g hx0 Y λk _ _ v hv _ _ v' U=>by rw[hv] at U;cases U;rfl
   exact⟨x0,s1,φ1,hn,Y,g1,Gu⟩
 |exit id=>
  intro c hc R s K r h φ a w g;obtain⟨c',hn,I,hsim⟩:=jM P nt c;refine hsim _ _ _ ?_;rw[<- I] at hc;rw[X2 hn hc];exact wp_exit ⟨.exit id,s,φ,rfl,h,g,A_.refl _ _ _ _,f_.refl _ _⟩
 |ret=>
  intro c hc R s K r h φ a w g;obtain⟨c',hn,I,hsim⟩:=jM P nt c;refine hsim _ _ _ ?_;rw[<- I] at hc;rw[Z7 hn hc];exact wp_ret ⟨.ret,s,φ,rfl,h,g,A_.refl _ _ _ _,f_.refl _ _⟩
 |defer f caps t=>
  intro c hc R s K r h φ a w g;obtain⟨c',hn,I,hsim⟩:=jM P nt c;refine hsim _ _ _ ?_;rw[<- I] at hc;obtain⟨id,ops,dr,rfl,h1,h2⟩:=Vo hn hc;simp only[oA] at h;split at h
  .rename_i l hl;split at h
   .rename_i hi;obtain⟨l',e1,e2⟩:=xv g.invE hl;obtain⟨H,hH⟩:=jw s.h;have lowN:∀ n k,φ n=aa k->n<2*s.nx+2:=λn k hk=>by have:=g.dom n k hk;unfold ow at this;omega
    have cfg:Cfg P ⟨2*s.nx+2,φ,E,bw s.h,w⟩ nt ⟨HR s.e s.h,H,2*s.nx+2,0⟩ a w:=by
     refine ⟨⟨φ,?_,?_,?_,lowN,λi k hk=>.inl hk⟩,bQ _,g.inert,g.size⟩
     .rw[hH];exact iJ.refl _ _ _
     .rw[hH];exact g.rep
     .rw[hH,ub];exact g.env
    refine Pn hin cfg h1 h2 e1 hi λa' w' c'=>?_
    obtain⟨φ',m',r',en',dm',d0'⟩:=c'.ex;have hφ:φ'=φ:=by
     funext n;cases hx:φ n with
     |some k=>exact m'.sub n k hx
     |none=>
      cases hy:φ' n with
      |none=>rfl
      |some k=>
       rcases d0' n k hy with h3|h3
       .have h3:φ n=aa k:=h3;rw[hx] at h3;cases h3
       .have h4:n<2*s.nx+2:=dm' n k hy;have h5:2*s.nx+2<=n:=h3;omega
    subst hφ;simp only[hH] at m' r' en';refine ⟨.normal,_,φ',rfl,h,⟨r',?_,g.dom,g.low,g.invH,?_,c'.inert,c'.size⟩,⟨m'.ext,m'.own_,λ_ _=>rfl⟩,?_⟩
    .intro u x hx;refine en' u x ?_;simp only[fD,PT.get_set] at hx;simp only[yq.put,PT.get_set];split at hx
     .rename_i eu;rw[aJ eu];simp only[aE,ch,e2,aj] at hx;rw[hx]
     .rename_i eu;rw[aC eu,ub];exact hx
    .intro u x hx;simp only[PT.get_set] at hx;split at hx
     .cases hx;simp only[JG];exact km _ _ _ e2
     .exact g.invE u x hx
    .intro k hk v' U;simp only[PT.get_set] at U;split at U
     .rename_i ek;subst ek;simp only[TC.asg] at hk;rw[bl,bT.2 rfl] at hk;simp at hk
     .exact⟨v',U,λ_=>rfl⟩
   .cases h
  .cases h
 |@adj l tc' sc' _ ih=>
  intro c hc R s K r h φ a w g;obtain⟨c',hn,I,hsim⟩:=jM P nt c;refine hsim _ _ _ ?_;rw[<- I] at hc;simp only[oA] at h;split at h
  .rename_i s1 Y;obtain⟨φ1,g1,Gu,kp1⟩:=Tq g Y;refine wp_mono (ih c' hc R s1 K r h φ1 a w g1) ?_;rintro e a' w' ⟨ex,s',φ',rfl,hk,g',st,M⟩;exact⟨ex,s',φ',rfl,hk,g',Gu.trans st,(kp1.mono λk hk=>by simp only[TC.asg];exact jT hk).trans (M.mono λk hk=>by simp only[TC.asg];exact uh hk)⟩
  .cases h
 |@split k off lo n tc' sc' _ ih=>
  intro c hc R s K r h φ a w g;obtain⟨c',hn,I,hsim⟩:=jM P nt c;refine hsim _ _ _ ?_;rw[<- I] at hc;simp only[oA] at h;split at h
  .rename_i kd v hv;obtain⟨j,hj,h2⟩:=NK h;subst hj;split at h2
   .rename_i s1 Y;obtain⟨g1,hH,he⟩:=Xz g hv Y;refine wp_mono (ih c' hc R s1 K r h2 φ a w g1) ?_;rintro e a' w' ⟨ex,s',φ',rfl,hk,g',st,M⟩;exact⟨ex,s',φ',rfl,hk,g',by rw[<- hH];exact st,λk hk v' U=>by
     obtain⟨v,Z,J⟩:=M k hk v' U;exact⟨v,by rw[<- he];exact Z,J⟩⟩
   .cases h2
  .cases h
 |@unl n b b' _ ih=>
  intro c hc R s K r h φ a w g;obtain⟨c',hn,I,hsim⟩:=jM P nt c;refine hsim _ _ _ ?_;rw[<- I] at hc;obtain⟨cb,rfl,h1⟩:=Og hn hc;simp only[oA] at h
  let Inv:Nat->Act->World->Prop:=λm a w'=>∃ s1 φ1,ZG (λs K=>oA np con bY inert b s K) m s1 K=aa r/\oc P E nt np φ1 s1 a w'/\A_ np φ φ1 (bw s.h) (bw s1.h) w w'/\f_ (b.asg 0) s.e s1.e
  refine Bd Inv ?_ (n:=n) ⟨s,φ,h,g,A_.refl _ _ _ _,f_.refl _ _⟩;rintro m a1 w1 ⟨s1,φ1,hi,g1,Gu,kp1⟩;cases m with
  |zero=>cases hi
  |succ m=>
   simp only[ZG] at hi;refine wp_mono (ih cb h1 R s1 _ r hi φ1 a1 w1 g1) ?_;rintro e a' w' ⟨ex,s',φ',rfl,hk,g',st,M⟩;cases ex with
   |normal=>exact⟨m,AW m,s',φ',hk,g',Gu.trans st,kp1.trans M⟩
   |exit id=>exact⟨.exit id,s',φ',rfl,hk,g',Gu.trans st,kp1.trans M⟩
   |ret=>exact⟨.ret,s',φ',rfl,hk,g',Gu.trans st,kp1.trans M⟩
 |bad sc'=>
  intro c hc R s K r h;simp[oA] at h
theorem L1 {P:Program} {φ:PM} {E:Nat->Prop} {s:TS} {a:Act} {w:World} (hinv:lG s.h s.nx) (hiE:sr s.e s.h) (r:qd φ E (bw s.h) w) (en:LG φ (tot E φ (bw s.h)) w (fD s.e s.h) a):∀ (rs:List ResultVar) (rvs:List RV) (l:List TV),ug P rs=aa rvs->Rj s rvs=aa l->
 ∃ la vs,cF s.h l=aa la/\(rs.mapM (Vc a.tmps)).run P w= .ok vs w/\jH φ (tot E φ (bw s.h)) w la vs
 |[],rvs,l,hc,hr=>by
  simp only[ug,aj] at hc;subst hc;simp only[Rj,aj] at hr;subst hr;exact⟨[],[],rfl,by simp,trivial⟩
 |.tmp t::rs,rvs,l,hc,hr=>by
  simp only[ug] at hc;split at hc
  .rename_i rvs' hrs;simp only[aj] at hc;subst hc;simp only[Rj] at hr;split at hr
   .rename_i v hv;split at hr
    .rename_i M I;simp only[aj] at hr;subst hr;obtain⟨la,vs,h0,h1,h2⟩:=L1 hinv hiE r en rs rvs' M hrs I;simp only[rvT] at hv;obtain⟨y,Y⟩:=pm s.h v (hiE t v hv);refine ⟨y::la,a.tmps.getD t undef::vs,ov Y h0,?_,en t y (by simp only[fD,hv,aE,Y]),h2⟩;simp only[List.mapM_cons,eh,Vc,og,cD];show ((rs.mapM (Vc a.tmps)).run P w).andThen _=_;rw[h1];rfl
    .cases hr
   .cases hr
  .cases hc
 |.cell ad t::rs,rvs,l,hc,hr=>by
  simp only[ug] at hc;split at hc
  .rename_i rvs' sz ag hrs hsz hag;simp only[aj] at hc;subst hc;simp only[Rj] at hr;split at hr
   .rename_i v hv;split at hr
    .rename_i M I;simp only[aj] at hr;subst hr;obtain⟨la,vs,h0,h1,h2⟩:=L1 hinv hiE r en rs rvs' M hrs I;simp only[rvT] at hv;split at hv
     .rename_i id off hp;split at hv
      .rename_i ty q hb;obtain⟨q',J⟩:=eY s.h q (hinv.cells id ty q hb);obtain⟨y,e1,e2⟩:=TY J hv;obtain⟨H,Z⟩:=jw s.h;have hR:CE H sz ag (.ptr (nm id) off)=aa ⟨y,[nm id],[],[],[]⟩:=by
        have hg:H.get (nm id)=aa ⟨ty,.mx q'⟩:=by rw[Z,bE,hb];simp only[aE,j9,J]
        simp only[CE,hg,e2]
       obtain⟨_,_,_,h3⟩:=Qp (P:=P) hsz hag hR;obtain⟨qq,U,h4,h5,h6⟩:=h3 φ E (bw s.h) w _ (λi _=>by rw[Z]) r (en ad _ (by simp only[fD,hp,aE,ch]));refine ⟨y::la,U::vs,ov e1 h0,?_,h6,h2⟩;have hone:(Vc a.tmps (.cell ad t)).run P w= .ok U w:=by
        simp only[Vc,eh,h4,asAddr,og,cD,h5]
       rw[List.mapM_cons];simp only[eh,hone,cD,h1,og]
      .cases hv
     .cases hv
    .cases hr
   .cases hr
  .cases hc
theorem DU:∀ (args:List TV) (k t:Nat) (x:TV),(I6 k args).get t=aa x->k<=t/\args[t-k]? =aa x
 |[],k,t,x,h=>by simp[I6,PT.get] at h
 |y::args,k,t,x,h=>by
  rw[I6,PT.get_set] at h;split at h
  .rename_i hk;subst hk;cases h;exact⟨bQ _,by simp⟩
  .obtain⟨h1,h2⟩:=DU args (k+1) t x h;refine ⟨by omega,?_⟩;rw[show t-k=t-(k+1)+1 from by omega];simpa using h2
theorem XN {h:bd} {l:List TV} (J:kr h l=ah) {j:Nat} {v:TV} (hj:l[j]? =aa v):JG h v=ah:=by
 obtain⟨M,hl⟩:=eY h l J;obtain⟨y,_,I⟩:=lB hl j v hj;exact Dz _ _ _ I
theorem Rb {P:Program} {con:FuncId->Option cq} {bY:TypeId->Option Ty} {inert:FuncId->Bool} (hm:P.follows .mixedOrders=ah) (hcon:Jo P con) (hin:Jk P inert) {f:FuncId} {sf:SF} (hf:yg P f=aa sf) (D:FT) (m:D.pre.ty.den->Option D.post.ty.den) (hmod:∀ x y,m x=aa y->Xr con bY inert (aa sf) D x=aa y):o_ P f ⟨D.pre,D.post,m⟩:=by
 obtain⟨fn,c,hfn,hb,hnm,hcode,hres,hnt⟩:=Qa hf;refine ⟨⟨fn,hfn,by rw[hb];rfl,hnm⟩,λx y hxy vs hp l1 rs hq l2 la lr I J hla hlr φ E w us hrep hrel hdom=>?_⟩;have ht:=hmod x y hxy;unfold Xr at ht;simp only[] at ht;split at ht
 .rename_i args h hins;obtain⟨l1',I'⟩:=u_ hins;have e1:args=vs:=by have h1:=I.pv;have h2:=I'.pv;rw[h1] at h2;cases h2;rfl
  have e2:l1'=l1:=by have h1:=I.pb;have h2:=I'.pb;rw[h1] at h2;cases h2;rfl
  subst e1;subst e2;have hget:∀ i,h.get i=hp.get i:=λi=>by
   cases h3:hp.get i with
   |some b=>exact (I'.at_ i b).2 ((I.at_ i b).1 h3)
   |none=>
    cases h4:h.get i with
    |none=>rfl
    |some b=>have:=(I.at_ i b).2 ((I'.at_ i b).1 h4);rw[h3] at this;cases this
  have hrow:∀ i,dZ h i=dZ hp i:=λi=>by rw[bO,bO,hget]
  have herH:bw h=bw hp:=by
   funext n;by_cases hn:∃ i,n=nm i
   .obtain⟨i,rfl⟩:=hn;rw[bE,bE,hget];cases h3:hp.get i with
    |none=>rfl
    |some b=>
     simp only[aE];refine HU (λi r hr=>by rw[hrow];exact hr) λty l e=>?_
     exact (I.cells i ty l (by rw[h3,e])).1
   .rw[vi _ hn,vi _ hn]
  have hla':cF h args=aa la:=gM (λi r hr=>by rw[hrow];exact hr) args la hla;split at ht
  .rename_i hle;simp only[au] at hle;have hle2:=aY hle.2;have hle:=aY hle.1;have hlen:=hrel.length;have hargl:args.length=la.length:=(gT hla).symm;refine calls_of_wp_defers hfn hb ?_;have hcfg:oc P E fn.ntmps D.pre.bs.length φ ⟨I6 0 args,h,D.pre.bs.length⟩ {tmps:=us.toArray++nP (fn.ntmps-us.toArray.size) undef,defers:=[]} w:=by
    refine ⟨by rw[herH];exact hrep,?_,hdom,bQ _,⟨λi ty l hl=>(I'.cells i ty l hl).1,λi b hbb=>I'.lt_len hbb⟩,?_,by simp,by simp;omega⟩
    .intro t z U;simp only[fD] at U;cases Z:(I6 0 args).get t with
     |none=>rw[Z] at U;cases U
     |some v0=>
      rw[Z] at U;obtain⟨_,h2⟩:=DU args 0 t v0 Z;rw[Nat.sub_zero] at h2;obtain⟨y0,q1,Y⟩:=lB hla' t v0 h2;simp only[aE] at U;rw[U] at Y;cases Y;obtain⟨v,h3,h4⟩:=hrel.get t z q1;have hlt:t<us.length:=(be.1 h3).1;have:(us.toArray++nP (fn.ntmps-us.toArray.size) undef).getD t undef=v:=by
       rw[gr,Array.getElem?_append];simp only[rX,hlt,bB,jU,h3,tO]
      show cG φ _ w z ((us.toArray++nP (fn.ntmps-us.toArray.size) undef).getD t undef);rw[this,herH];exact h4
    .intro t v0 hv0;obtain⟨_,h2⟩:=DU args 0 t v0 hv0;exact XN I'.ok h2
   refine wp_mono (ad7 (E:=E) hm hcon hin (wD D.hints sf.code 0) c hcode.symm _ _ _ _ ht φ _ w hcfg) ?_;rintro e a' w' ⟨ex,s',φ',rfl,hk,g',st,_⟩;have fin:(match Rj s' sf.res with
    |some l=>(match C_ D.pre.bs.length D.post l s'.h with
     |some ⟨y,_,_,_⟩=>(match BI D.post y with|some _=>aa y|none=>af)
     |none=>af)
    |none=>af)=aa y->Leaves P fn a'.tmps (λen w'=>∃ v φ',en= .returned v/\Jm (own φ (bw hp)) w w'/\(∀ k,k<w.heap.size->own φ' (bw hq) k->own φ (bw hp) k)/\(∀ i,i<D.pre.bs.length->φ' (nm i)=φ (nm i))/\qd φ' E (bw hq) w'/\cG φ' (tot E φ' (bw hq)) w' (CU lr) v) a'.defers .returning w':=by
    intro hk;split at hk
    .rename_i l hl;split at hk
     .rename_i y' m' σ sm hM;split at hk
      .simp only[aj] at hk;subst hk;obtain⟨lo,rvs,q0,q1,Y⟩:=L1 g'.invH g'.invE g'.rep g'.env fn.results.toList sf.res l hres hl;have M:=uX hM;obtain⟨φ2,lu,hlu,S⟩:=JB (np:=D.pre.bs.length) (E:=E) J g'.invH M q0 g'.rep;rw[hlr] at hlu;cases hlu;have hresults:(results fn a'.tmps).run P w'= .ok (if h:rvs.toArray.size=1 then rvs.toArray[0] else .tuple rvs.toArray) w':=by
        rw[Rl,Array.mapM_eq_mapM_toList];simp only[eh,Sem.run_map,q1,cD,og]
       have hrl:jH φ2 (tot E φ2 (bw hq)) w' lr rvs:=by
        refine jH.of (by rw[Y.length,S.len]) λj z v U hv=>?_
        obtain⟨z0,p1,p2⟩:=S.val j z v U;obtain⟨v',p3,p4⟩:=Y.get j z0 p1;rw[hv] at p3;cases p3;exact p2 p4
       have hval:cG φ2 (tot E φ2 (bw hq)) w' (CU lr) (if h:rvs.toArray.size=1 then rvs.toArray[0] else .tuple rvs.toArray):=by
        have hll:=hrl.length;clear hlr S;cases lr with
        |nil=>
         cases rvs with
         |nil=>exact cG.tup (vs:=[]) rfl (by intro j x v Z;simp at Z)
         |cons _ _=>exact hrl.elim
        |cons z lr=>
         cases rvs with
         |nil=>exact hrl.elim
         |cons v rvs=>
          cases lr with
          |nil=>
           cases rvs with
           |nil=>exact hrl.1
           |cons _ _=>exact hrl.2.elim
          |cons y l=>
           cases rvs with
           |nil=>exact hrl.2.elim
           |cons u rvs=>
            rw[dif_neg (by simp)];refine cG.tup (vs:=v::u::rvs) (by simpa using hll) λj x' v' Z hv=>?_
            obtain⟨v'',q1,Y⟩:=hrl.get j x' Z;rw[hv] at q1;cases q1;exact Y
       have st':A_ D.pre.bs.length φ φ' (bw hp) (bw s'.h) w w':=by rw[<- herH];exact st
       refine BB hresults ⟨_,φ2,rfl,st'.ext,λk hk ho=>st'.own_ k hk (S.own_ k ho),λi hi=>?_,S.rep,hval⟩ a'.defers g'.inert;rw[S.par i hi (dj hi hle2),st'.par i hi]
      .cases hk
     .cases hk
    .cases hk
   cases ex with
   |normal=>exact fin hk
   |ret=>exact fin hk
   |exit id=>cases hk
  .cases ht
 .cases ht
def SX:List (FuncId×cq)->FuncId->Option cq
 |[],_=>af
 |(g,c)::r,f=>if aA g f then aa c else SX r f
def Q1 (P:Program):List (FuncId×cq)->Prop
 |[]=>True
 |p::r=>aG P p.1 p.2/\Q1 P r
theorem UL {P:Program}:∀ {l:List (FuncId×cq)},Q1 P l->Jo P (SX l)
 |[],_,f,c,h=>by simp[SX] at h
 |(g,d)::r,I,f,c,h=>by
  simp only[SX] at h;split at h
  .rename_i hb;have:=av hb;subst this;cases h;exact I.1
  .exact UL I.2 f c h
theorem OQ {P:Program} {inert:FuncId->Bool} (hm:P.follows .mixedOrders=ah) (hin:Jk P inert) {l:List (FuncId×cq)} (I:Q1 P l) {bY:TypeId->Option Ty} {f:FuncId} {D:FT} {m:D.pre.ty.den->Option D.post.ty.den} (hs:(yg P f).isSome=ah) (he:∀ x,Xr (SX l) bY inert (yg P f) D x=m x):o_ P f ⟨D.pre,D.post,m⟩:=by
 obtain⟨J,hf⟩:=iv.1 hs;exact Rb hm (UL I) hin hf D m λx y hxy=>by rw[<- hf,he];exact hxy
theorem o_.sub {P:Program} {f:FuncId} {pre post:Tm} {m m':pre.ty.den->Option post.ty.den} (h:o_ P f ⟨pre,post,m⟩) (hs:∀ x y,m' x=aa y->m x=aa y):o_ P f ⟨pre,post,m'⟩:=
 ⟨h.callable,λx y hxy=>h.calls x y (hs x y hxy)⟩
theorem aG.sub {P:Program} {f:FuncId} {pre post:Tm} {m m':pre.ty.den->Option post.ty.den} (h:aG P f ⟨pre,post,m⟩) (hb:eo pre.bs.length post.bs.length=ah) (hs:∀ x y,m' x=aa y->m x=aa y):aG P f ⟨pre,post,m'⟩:=
 ((h.holds hb).sub hs).toC hb
theorem qG {α:Type} {b:Nat}:∀ (x y:List α),chk (a_ (ak x) b) (λ_=>aa x)=aa y->bcase (aA (ak x) 0) (DR (aa ([]:List α)) (chk (a_ (ak ([]:List α)+ak x) b) λ_=>(aa (([]:List α)++x)))) (chk (a_ (ak ([]:List α)+ak x) b) λ_=>(aa (([]:List α)++x)))=aa y:=by
 intro x y h;rw[ll,jE,bJ,h];cases x with
 |nil=>
  obtain⟨_,h⟩:=dN h;cases h;show DR (aa []) (aa [])=_;unfold DR;rw[aJ rfl]
 |cons a r=>rfl
theorem R3 {P:Program} {f:FuncId} {pre post:Tm} (hs:(yg P f).isSome=ah):o_ P f ⟨pre,post,λ_=>af⟩:=by
 obtain⟨I,hf⟩:=iv.1 hs;obtain⟨fn,c,hfn,hb,hnm,_⟩:=Qa hf;exact⟨⟨fn,hfn,by rw[hb];rfl,hnm⟩,λx y h=>by cases h⟩
theorem o_.orElse {P:Program} {f:FuncId} {pre post:Tm} {m m':pre.ty.den->Option post.ty.den} (h:o_ P f ⟨pre,post,m⟩) (h':o_ P f ⟨pre,post,m'⟩):o_ P f ⟨pre,post,λx=>match m x with|some y=>aa y|none=>m' x⟩:=
 ⟨h.callable,λx y hxy=>by
   cases hm:m x with
   |some z=>rw[show (cq.m ⟨pre,post,λx=>match m x with|some y=>aa y|none=>m' x⟩ x)=aa z by show (match m x with|some y=>aa y|none=>m' x)=aa z;rw[hm]] at hxy;cases hxy;exact h.calls x _ hm
   |none=>rw[show (cq.m ⟨pre,post,λx=>match m x with|some y=>aa y|none=>m' x⟩ x)=m' x by show (match m x with|some y=>aa y|none=>m' x)=m' x;rw[hm]] at hxy;exact h'.calls x y hxy⟩
theorem aG.orE {P:Program} {f:FuncId} {pre post:Tm} {m m':pre.ty.den->Option post.ty.den} (hb:eo pre.bs.length post.bs.length=ah) (h:aG P f ⟨pre,post,m⟩) (h':aG P f ⟨pre,post,m'⟩):aG P f ⟨pre,post,λx=>AI.orE (m x) (m' x)⟩:=by
 have e:(λx=>AI.orE (m x) (m' x))=λx=>match m x with|some y=>aa y|none=>m' x:=by funext x;cases m x<;>rfl
 rw[e];exact ((h.holds hb).orElse (h'.holds hb)).toC hb
def Xl (P:Program) (f:Ty->TypeId->Bool):List Field->Nat->Ty->Bool
 |[],_,.un=>ah
 |[x],off,T=>aA x.offset off&&f T x.type&&aA (P.cellsOf x.type) T.size
 |x::y::r,off,.pr a b=>aA x.offset off&&f a x.type&&aA (P.cellsOf x.type) a.size&&Xl P f (y::r) (off+a.size) b
 |_,_,_=>ai
def Ra (P:Program) (f:Ty->TypeId->Bool) (e:TypeId):Nat->Ty->Bool
 |1,T=>f T e&&aA (P.cellsOf e) T.size
 |m+2,.pr a b=>f a e&&aA (P.cellsOf e) a.size&&Ra P f e (m+1) b
 |_,_=>ai
def z_ (P:Program):Nat->Ty->TypeId->Bool
 |0,_,_=>ai
 |n+1,T,t=>match T,P.underlying t with
  |.int k,aa (.int k')=>k==k'
  |.bool,aa .bool=>ah
  |.str,aa .string=>ah
  |.sl U,aa (.slice e)=>z_ P n U e&&aA (P.cellsOf e) U.size&&fR 0 U.size
  |.st U,aa (.struct fs)=>Xl P (z_ P n) fs.toList 0 U&&aA (P.cellsOf t) U.size
  |.st U,aa (.array m e)=>Ra P (z_ P n) e m U&&aA (P.cellsOf t) U.size
  |_,_=>ai
def TO:(T:Ty)->T.den->Prop
 |.int k,n=>(Lit.int k n).wf=ah
 |.str,s=>ak s<=maxLen
 |.sl U,xs=>ak xs<=maxLen/\∀ x∈(xs:List U.den),TO U x
 |.st t,v=>TO t v
 |.pr a b,v=>TO a v.1/\TO b v.2
 |_,_=>True
def Jf (W:World) (T:Ty) (x:T.den) (cs:List Value):Prop:=cs.length=T.size/\∀ (j:Nat) y v,(bN T x)[j]? =aa y->cs[j]? =aa v->mP (λ_=>False) W y v
theorem IV {α:Type} (z:α) (P:Nat->α->Prop):∀ n:Nat,(∀ i,i<n->∃ a,P i a)->∃ l:List α,l.length=n/\∀ i x,l[i]? =aa x->P i x
 |0,_=>⟨[],rfl,λi x h=>by simp at h⟩
 |n+1,h=>by
  obtain⟨l,hl,hp⟩:=IV z P n (λi hi=>h i (by omega));obtain⟨a,J⟩:=h n (by omega);refine ⟨l++[a],by simp[hl],λi x I=>?_⟩;by_cases hi:i<l.length
  .rw[bK hi] at I;exact hp i x I
  .rw[bX (by omega)] at I;by_cases h0:i-l.length=0
   .rw[h0] at I;simp at I;subst I;rw[show i=n from by omega];exact J
   .rw[bM (by simp;omega)] at I;cases I
theorem Addr.add_plain {a:Addr} (h:a.spot=af) (n:Nat):a.add n=⟨a.block,a.off+n,af⟩:=by
 unfold Addr.add;split
 .rename_i h0;subst h0;cases a;simp at h;subst h;rfl
 .rfl
theorem Wg {w:World} {a:Addr} {v:Value} (h:w.cell? a=aa v):a.spot=af:=by
 unfold LK at h;split at h
 .split at h
  .cases h
  .rename_i hs;cases hh:a.spot with
   |none=>rfl
   |some _=>simp[hh] at hs
 .cases h
theorem Jf.sub {W:World} {T:Ty} {x:T.den} {cs:List Value} {off n:Nat} (h:Jf W T x ((cs.drop off).take n)) (hn:n=T.size) (hl:off+n<=cs.length):∀ (j:Nat) y v,(bN T x)[j]? =aa y->cs[off+j]? =aa v->mP (λ_=>False) W y v:=λj y v I hv=>by
 refine h.2 j y v I ?_;have hj:j<T.size:=by have:=(be.1 I).1;rwa [bx] at this
 rw[cH,aJ (by omega),gJ];exact hv
section
variable {H:Type} {enc:TypeId×Value->H} {P:Program} {W:World} {base:Nat} {sp:Nat->Bool} {hd:Bool}
theorem Ub {f:Ty->TypeId->Bool} {m:Nat} (M:∀ (T:Ty) (t:TypeId) (cs:List Value) x,f T t=ah->DataW.trod enc P W base sp hd m t cs=aa x->∃ v,Jf W T v cs/\TO T v) (cs:List Value) (ts:List (DataW H×List MemPlace)):
 ∀ (fs:List Field) (off k:Nat) (T:Ty),Xl P f fs off T=ah->off+T.size<=cs.length->(∀ (i:Nat) (fl:Field),fs[i]? =aa fl->∃ z,DataW.trod enc P W base sp hd m fl.type ((cs.drop fl.offset).take (P.cellsOf fl.type))=aa z)->
 ∃ v,(∀ (j:Nat) y u,(bN T v)[j]? =aa y->cs[off+j]? =aa u->mP (λ_=>False) W y u)/\TO T v
 |[],off,k,.un,_,_,_=>⟨(),λj y u I=>by simp[bN] at I,trivial⟩
 |[x],off,k,T,h,hl,hg=>by
  simp only[Xl,au] at h;obtain⟨⟨h1,h2⟩,J⟩:=h;have h1:=av h1;have J:=av J;obtain⟨z,U⟩:=hg 0 x rfl;obtain⟨v,hv,Z⟩:=M T _ _ _ h2 U;rw[h1] at hv;exact⟨v,hv.sub J (by omega),Z⟩
 |x::x'::r,off,k,.pr a b,h,hl,hg=>by
  simp only[Xl,au] at h;obtain⟨⟨⟨h1,h2⟩,J⟩,h4⟩:=h;have h1:=av h1;have J:=av J;simp only[Ty.size] at hl;obtain⟨z,U⟩:=hg 0 x rfl;obtain⟨v,hv,Z⟩:=M a _ _ _ h2 U;rw[h1] at hv;have hv:=hv.sub J (by omega);obtain⟨v',hv',Y⟩:=Ub M cs ts (x'::r) (off+a.size) (k+1) b h4 (by omega) (λi fl hi=>hg (i+1) fl (by simpa using hi));refine ⟨(v,v'),λj y u I hu=>?_,Z,Y⟩;simp only[bN] at I;by_cases hj:j<a.size
  .rw[bK (by rw[bx];exact hj)] at I;exact hv j y u I hu
  .rw[bX (by rw[bx];omega),bx] at I;exact hv' _ y u I (by rw[show off+a.size+(j-a.size)=off+j from by omega];exact hu)
theorem Uc {f:Ty->TypeId->Bool} {m:Nat} {e:TypeId} (J:∀ (T:Ty) (t:TypeId) (cs:List Value) x,f T t=ah->DataW.trod enc P W base sp hd m t cs=aa x->∃ v,Jf W T v cs/\TO T v) (cs:List Value):
 ∀ (n i:Nat) (T:Ty),Ra P f e n T=ah->i*P.cellsOf e+T.size<=cs.length->(∀ j,j<n->∃ z,DataW.trod enc P W base sp hd m e ((cs.drop ((i+j)*P.cellsOf e)).take (P.cellsOf e))=aa z)->
 ∃ v,(∀ (j:Nat) y u,(bN T v)[j]? =aa y->cs[i*P.cellsOf e+j]? =aa u->mP (λ_=>False) W y u)/\TO T v
 |0,i,T,h,_,_=>by unfold Ra at h;cases h
 |1,i,T,h,hl,hg=>by
  simp only[Ra,au] at h;have h3:=av h.2;obtain⟨z,M⟩:=hg 0 (by omega);obtain⟨v,hv,Y⟩:=J T _ _ _ h.1 M;rw[c8] at hv;exact⟨v,hv.sub h3 (by omega),Y⟩
 |n+2,i,T,h,hl,hg=>by
  cases T with
  |pr a b=>
   simp only[Ra,au] at h;obtain⟨⟨h1,h2⟩,h4⟩:=h;have h3:=av h2;simp only[Ty.size] at hl;obtain⟨z,M⟩:=hg 0 (by omega);obtain⟨v,hv,Y⟩:=J a _ _ _ h1 M;rw[c8] at hv;have hv:=hv.sub h3 (by omega);obtain⟨v',Z,U⟩:=Uc J cs (n+1) (i+1) b h4 (by rw[LM,Nat.one_mul];omega) (λj hj=>by have:=hg (j+1) (by omega);rwa [show i+(j+1)=i+1+j from by omega] at this);refine ⟨(v,v'),λj y u I hu=>?_,Y,U⟩;simp only[bN] at I;by_cases hj:j<a.size
   .rw[bK (by rw[bx];exact hj)] at I;exact hv j y u I hu
   .rw[bX (by rw[bx];omega),bx] at I;exact Z _ y u I (by rw[LM,Nat.one_mul,show i*P.cellsOf e+P.cellsOf e+(j-a.size)=i*P.cellsOf e+j from by omega];exact hu)
  |_=>unfold Ra at h;cases h
theorem F1:∀ (n:Nat) (T:Ty) (t:TypeId) (fuel:Nat) (cs:List Value) x,z_ P n T t=ah->(∀ b,sp b=ah)->DataW.trod enc P W base sp hd fuel t cs=aa x->∃ v,Jf W T v cs/\TO T v
 |0,_,_,_,_,_,h,_,_=>by unfold z_ at h;cases h
 |n+1,T,t,fuel,cs,x,h,hsp,ht=>by
  unfold z_ at h;split at h
  .rename_i k k' hu;have hk:=eq_of_beq h;subst hk;obtain⟨m,rfl,_,J⟩:=DataW.trod_int hu ht;refine ⟨m,⟨rfl,λj y v I hv=>?_⟩,J⟩;cases j with
   |zero=>simp[bN] at I hv;subst I hv;exact .raw _
   |succ j=>simp[bN] at I
  .rename_i hu;obtain⟨b,rfl,_⟩:=DataW.trod_bool hu ht;refine ⟨b,⟨rfl,λj y v I hv=>?_⟩,trivial⟩;cases j with
   |zero=>simp[bN] at I hv;subst I hv;exact .raw _
   |succ j=>simp[bN] at I
  .rename_i hu;obtain⟨s,rfl,_,hs⟩:=DataW.trod_string hu ht;refine ⟨s.data.toList,⟨rfl,λj y v I hv=>?_⟩,by simpa[TO] using hs⟩;cases j with
   |zero=>simp[bN] at I hv;subst I hv;exact .raw _
   |succ j=>simp[bN] at I
  .rename_i U e hu;simp only[au] at h;obtain⟨⟨h1,h2⟩,h3⟩:=h;have h2:=av h2;have h3:0<U.size:=aY h3;rcases Go.Deep.open_slice hu ht with ⟨rfl,_⟩|⟨a,len,cap,m,k,D,Pl,rfl,hb,hl,hm,hmm,_,hi⟩
   .refine ⟨[],⟨rfl,λj y v I hv=>?_⟩,by simp[TO]⟩;cases j with
    |zero=>simp[bN] at I hv;subst I hv;exact .nil _ _ (by unfold maxLen;omega)
    |succ j=>simp[bN] at I
   .rw[hsp,aJ rfl] at hmm;rw[h2] at hi;obtain⟨xs,hx1,Y⟩:=IV U.zero (λi (v:U.den)=>∃ cs',W.cells? base (a.add (i*U.size)) U.size=aa cs'/\Jf W U v cs'/\TO U v) len (λi hil=>by
     obtain⟨cs',hc,htt⟩:=hi i (by omega);obtain⟨v,hv,J⟩:=F1 n U e k cs' _ h1 hsp htt;exact⟨v,cs',hc,hv,J⟩)
    refine ⟨xs,⟨rfl,λj y v I hv=>?_⟩,by show ak xs<=maxLen;omega,λy I=>?_⟩
    .cases j with
     |succ j=>simp[bN] at I
     |zero=>
      simp[bN] at I hv;subst I hv;by_cases h0:len=0
      .have:xs=[]:=gz.1 (by omega);subst this;subst h0;exact .nil _ _ hm
      .obtain⟨x0,hx0⟩:∃ x0,xs[0]? =aa x0:=⟨xs[0]'(by omega),ay (by omega)⟩
       obtain⟨cs0,hc0,_⟩:=Y 0 x0 hx0;obtain⟨_,hcl0,hat0⟩:=World.cells?_some hc0;have hca:=hat0 0 h3;rw[ay (by omega)] at hca;have hspot:a.spot=af:=by
        have:=Wg hca;simpa[Addr.add] using this
       have hblk:=World.block_lt_of_cell? W _ hca;rw[Nat.zero_mul,Addr.add_plain hspot,Addr.add_plain rfl] at hca hblk;have hcell:∀ (i j:Nat) x,xs[i]? =aa x->j<U.size->∃ cs',W.cell? ⟨a.block,a.off+(i*U.size+j),af⟩=cs'[j]? /\j<cs'.length/\Jf W U x cs':=λi j x Z hj=>by
        obtain⟨cs',hc,hr,_⟩:=Y i x Z;obtain⟨_,hcl,hat⟩:=World.cells?_some hc;have:=hat j hj;rw[Addr.add_plain hspot,Addr.add_plain rfl,rC] at this;exact⟨cs',this,by omega,hr⟩
       have hflat:∀ j,j<xs.length*U.size->∃ x,xs[j/U.size]? =aa x/\j%U.size<U.size/\j=j/U.size*U.size+j%U.size:=λj hj=>by
        have h5:j/U.size<xs.length:=Nat.div_lt_of_lt_mul (by rw[FW];exact hj);exact⟨xs[j/U.size],ay h5,Nat.mod_lt _ h3,by rw[FW];exact (Nat.div_add_mod j U.size).symm⟩
       have hlen:(List.flatMap (bN U) xs).length=xs.length*U.size:=fd (bx U) xs;obtain⟨ab,ao,az⟩:=a;cases hspot;rw[<- hx1];refine .sl (List.flatMap (bN U) xs) xs.length cap ab ao (λj=>(W.cell? ⟨ab,ao+j,af⟩).getD undef) (by omega) hm (λh=>h) hblk (qD U xs) (λj hj=>?_) (λj y I=>?_)
       .obtain⟨x,Z,hjs,hje⟩:=hflat j (by omega);obtain⟨cs',g1,g2,_⟩:=hcell _ _ x Z hjs;rw[<- hje] at g1;simp only[g1,ay g2,tO]
       .have hj:j<xs.length*U.size:=by rw[<- hlen];exact (be.1 I).1
        obtain⟨x,Z,hjs,hje⟩:=hflat j hj;obtain⟨cs',g1,g2,g3⟩:=hcell _ _ x Z hjs;rw[<- hje] at g1;simp only[g1];rw[ay g2];refine g3.2 (j%U.size) y _ ?_ (ay g2);obtain⟨r,hr⟩:=Dx (bx U) xs (j/U.size) x Z;have:((List.flatMap (bN U) xs).drop (j/U.size*U.size))[j%U.size]? =aa y:=by rw[gJ,<-hje];exact I
        rw[hr,bK (by rw[bx];exact hjs)] at this;exact this
    .obtain⟨i,M⟩:=eO I;obtain⟨_,_,_,J⟩:=Y i y M;exact J
  .rename_i U fs hu;simp only[au] at h;have h2:=av h.2;obtain⟨xs,m,rfl,_,hl,hxl,hg⟩:=DataW.trod_struct hu ht;obtain⟨v,hv,J⟩:=Ub (f:=z_ P n) (m:=m) (λT t cs x h1 h2=>F1 n T t m cs x h1 hsp h2) cs xs fs.toList 0 0 U h.1 (by omega) (λi fl hi=>by
    have M:fs[i]? =aa fl:=by simpa using hi
    have:=hg i fl M;have hlt:i<xs.length:=by rw[hxl];exact (cu.1 M).1
    rw[ay hlt] at this;exact⟨_,this⟩)
   exact⟨v,⟨by rw[hl,h2];rfl,λj y u I hu=>hv j y u I (by rw[bJ];exact hu)⟩,J⟩
  .rename_i U m e hu;simp only[au] at h;have h2:=av h.2;obtain⟨xs,q,rfl,_,hl,hxl,hg⟩:=DataW.trod_array hu ht;obtain⟨v,hv,J⟩:=Uc (f:=z_ P n) (m:=q) (λT t cs x h1 h2=>F1 n T t q cs x h1 hsp h2) cs m 0 U h.1 (by omega) (λj hj=>by
    have:=hg j hj;rw[ay (by omega)] at this;rw[bJ];exact⟨_,this⟩)
   exact⟨v,⟨by rw[hl,h2];rfl,λj y u I hu=>hv j y u I (by rw[Nat.zero_mul,bJ];exact hu)⟩,J⟩
  .cases h
theorem N' {n:Nat} {T:Ty} {t:TypeId} {v:Value} {r:Reach} {bs:Nat} (I:z_ P n T t=ah) (h1:T.one=ah) (h:FP P W r bs t v):v.cells.toList=[v]:=by
 cases n with
 |zero=>unfold z_ at I;cases I
 |succ n=>
  unfold z_ at I;unfold FP at h;cases v with
  |agg cs=>
   exfalso;split at I<;>rename_i hu<;>first|(rw [hu] at h;simp only[] at h;unfold Cell.okWide at h;rw[hu] at h;unfold Cell.ok at h;rw[hu] at h;simp at h)|cases h1|cases I
  |_=>rfl
theorem Rn {n:Nat} {T:Ty} {t:TypeId} {v:Value} {r:Reach} {bs:Nat} (I:z_ P n T t=ah) (h1:T.one=ai) (h:FP P W r bs t v):∃ cs,v= .agg cs:=by
 cases n with
 |zero=>unfold z_ at I;cases I
 |succ n=>
  unfold z_ at I;unfold FP at h;split at I<;>rename_i hu<;>first|(rw [hu] at h;obtain⟨cs,h,_⟩:=h;exact⟨cs,h⟩)|cases h1|cases I
theorem open_arg {n:Nat} {T:Ty} {t:TypeId} {v:Value} {d:DataW H} {ps:List MemPlace} {r:Reach} {bs:Nat} (J:z_ P n T t=ah) (hsp:∀ b,sp b=ah) (hok:FP P W r bs t v) (h:DataW.Trod enc P W base sp hd t v d ps):∃ x,mP (λ_=>False) W (gw T x) v/\TO T x:=by
 obtain⟨fuel,hf⟩:=h;obtain⟨x,I,U⟩:=F1 n T t fuel _ _ J hsp hf;refine ⟨x,?_,U⟩;by_cases h1:T.one=ah
 .obtain⟨e1,e2⟩:=B3 T x h1;exact I.2 0 _ v (by rw[e1];rfl) (by rw[N' J h1 hok];rfl)
 .obtain⟨cs,rfl⟩:=Rn J (by simpa using h1) hok;rw[pK T x (by simpa using h1)];have hl:cs.toList.length=(bN T x).length:=by rw[bx];exact I.1
  have:=mP.agg (O:=λ_=>False) (w:=W) (bN T x) cs.toList hl (nv T x) (λj y u M hu=>I.2 j y u M hu);simpa using this
end
theorem UR {z:Int} (h:(Lit.int .u8 z).wf=ah):0<=z/\z<=255:=⟨bm (tD.1 h).1,bm (tD.1 h).2⟩
theorem FN (a b c:List Int) (Z:a.length<=9223372036854775807) (Y:∀ z∈a,0<=z/\z<=255) (hc:c.length<=9223372036854775807) (U:∀ z∈c,0<=z/\z<=255):Ok (kB (a,b,c)) λy=>y=ah:=by
 unfold kB bc bu jg bF aW cK aD cz;refine aw (P:=TR) (Ni a b c 12 (by omega) (by omega) Z Y hc U) ?_;rintro⟨w,l⟩ I;have hl:=I.len;dsimp only at hl;refine cf l.length (λi x=>x=((i:Int),w,l)) ?_ ?_ rfl
 .rintro i x hi rfl;refine dl ?_;refine cf l.length (λj x=>x=((j:Int),w,l)) ?_ ?_ rfl
  .rintro j x hj rfl;refine dl ?_;refine aT (D5 I _ _) ?_;dsimp only;have hsame:(eN l i).1=(eN l j).1->(rK l i).th=(rK l j).th:=λe=>by have:=(UD I hi).th;have:=(UD I hj).th;omega
   refine aX (λx=>x=(ai,w,l)) ?_ ?_
   .cases h:bfN w l i j with
    |true=>
     obtain⟨h1,_,_⟩:=yR.1 h;refine N_ (e_ (λg=>by omega) λ_=>bA (λ_=>?_) λ_=>al rfl);exact cw (aR (cw (aR (aI (λ_=>al rfl) λ_=>al rfl))))
    |false=>
     refine fh (bA (λq=>?_) λ_=>al rfl);refine cw (aR (cw (aR (aI (λe=>?_) λ_=>al rfl))));have:=yR.2 ⟨show i<j by omega,hj,TJ.own I (show i<j by omega) hj (hsame e)⟩;rw[h] at this;cases this
   rintro x rfl;refine fh ?_;dsimp only;rw[gK (show j<9223372036854775807 by omega)];refine cf (l.length-(j+1)) (λk x=>x=(((j+1+k:Nat):Int),w,l)) ?_ ?_ rfl
   .rintro k x hk rfl;refine aX (λx=>x=(bfN w l i j,w,l)) (dl (al rfl)) ?_;rintro x rfl;refine aO (λhb=>?_) λ_=>al rfl
    obtain⟨h1,h2,h3⟩:=yR.1 hb;refine aX (λx=>x=(ai,w,l)) ?_ ?_
    .refine aT (D5 I _ _) ?_;dsimp only;refine aO (λJ=>?_) λ_=>al rfl
     obtain⟨g1,M,g3⟩:=yR.1 J;refine aT (D5 I _ _) (al ?_);dsimp only;rw[yR.2 ⟨show i<j+1+k by omega,M,h3.trans I (by omega) (by omega) M g3⟩];rfl
    rintro x rfl;refine fh (al ?_);dsimp only;rw[gK (by omega)];rfl
   .rintro x rfl;refine aX (λx=>x=(ai,w,l)) (dc (al rfl)) ?_;rintro x rfl;exact fh (al rfl)
  .rintro x rfl;refine dc (al ?_);dsimp only;rw[gK (by omega)]
 .rintro x rfl;refine dc ?_;exact aT (x:=ah) (by rw[Tn];rfl) (al rfl)
theorem HBPartial_law (x:List Int×List Int×List Int) (w:TO (.st (.pr (.sl (.int .u8)) (.pr (.sl (.int .u8)) (.sl (.int .u8))))) x):kB x=aa ah:=by
 obtain⟨a,b,c⟩:=x;obtain⟨⟨l0,w0⟩,_,⟨l2,J⟩⟩:=w;obtain⟨y,h,rfl⟩:=FN a b c l0 (λz I=>UR (w0 z I)) l2 (λz I=>UR (J z I));exact h
def inert (f:FuncId):Bool:=aA f 72
theorem Oi:∃ I,Tryz.prog.underlying 20=aa (.interface I):=⟨#[],by kernel_rfl⟩
theorem X6 (w:World):(Op.equal 20 .nilIface .nilIface).run Tryz.prog w= .ok ah w:=by
 obtain⟨I,hu⟩:=Oi;have key:∀ d,(Op.equalIn (d+1) 20 .nilIface .nilIface).run Tryz.prog w= .ok ah w:=λd=>by simp[Op.equalIn,run_underlying hu]
 exact key 9999
theorem XL {P:Program} {ops:Array Oper} {Q:Exit->Act->List Frame->World->Prop} {i:Nat} {rest:List Nat} {a:Act} {cs:List Frame} {w w':World} {o:Oper} (J:ops[i]? =aa o) (I:o.guard=af) (hr:(execOp a.eval o).run P w= .ok .recover w') (hn:recoverD cs=af) (h:wpOpsS P ops Q rest (a.put o.dst .nilIface) cs w'):wpOpsS P ops Q (i::rest) a cs w:=by
 have I:iu o (yielded ops a.tmps)=ah:=by unfold iu;rw[I]
 simp only[wpOpsS,J,I,bB,hr,hn];exact h
theorem XK {P:Program} {ops:Array Oper} {Q:Exit->Act->List Frame->World->Prop} {i:Nat} {rest:List Nat} {a:Act} {cs:List Frame} {w w':World} {o:Oper} {v:Value} (J:ops[i]? =aa o) (I:o.guard=af) (hr:(execOp a.eval o).run P w= .ok (.value v) w') (h:wpOpsS P ops Q rest (a.put o.dst v) cs w'):wpOpsS P ops Q (i::rest) a cs w:=by
 have I:iu o (yielded ops a.tmps)=ah:=by unfold iu;rw[I]
 simp only[wpOpsS,J,I,bB,hr];exact h
theorem Oh:Jk Tryz.prog inert:=by
 intro f hf;have hf:f=72:=av hf;subst hf;refine ⟨⟨Tryz.f72,Tryz.func72,by kernel_rfl,by kernel_rfl⟩,λargs w=>?_⟩;refine callsD_of_wpS Tryz.func72 rfl λc₀ cs hu=>?_
 refine wpS_seq (wpS_region ?_);generalize ht:(args++nP (Tryz.f72.ntmps-args.size) undef)=T;have hs:5<=T.size:=by
  rw[<- ht];simp only[Array.size_append,Array.size_replicate];have:Tryz.f72.ntmps=5:=rfl;omega
 have hr:recoverD (c₀::cs)=af:=by simp[recoverD,hu]
 refine XL (i:=0) (rest:=[1]) rfl rfl (w':=w) ?_ hr ?_
 .simp[execOp,resolve,invoke,builtin]
 refine XK (v:=.bool ai) rfl rfl (w':=w) ?_ ?_
 .have hv:Act.eval (LN {tmps:=T,defers:=[]} (aa 2) .nilIface) (.tmp 2)= .nilIface:=by
   simp[Act.eval,LN,show 2<T.size by omega]
  have h2:=X6 w;have hcst:Act.eval (LN {tmps:=T,defers:=[]} (aa 2) .nilIface) (.const .nilIface)= .nilIface:=rfl;show (execOp (Act.eval (LN {tmps:=T,defers:=[]} (aa 2) .nilIface)) _).run _ w=_;simp[execOp,hv,hcst,eqGuard,binOp,h2]
 show Exit.thenS _ _ .normal _ _ _;refine wpS_cond (t:=ai) ?_ ?_
 .simp[Act.eval,LN,show 3<T.size by omega]
 refine wpS_of_wp (wp_skip ?_);have hres:Tryz.f72.results=#[]:=rfl;exact⟨rfl,c₀.mode,rfl,.tuple #[],by simp[results,hres],⟨_,rfl⟩,hu,rfl⟩
def dL {α:Type}:List (Nat×α)->PT α
 |[]=>.leaf
 |p::r=>(dL r).set p.1 (aa p.2)
noncomputable abbrev Pg:Program:=Tryz.prog
def cn (D:FT) (m:D.pre.ty.den->Option D.post.ty.den):cq:=⟨D.pre,D.post,m⟩
theorem ago:Pg.follows .mixedOrders=ah:=by kernel_rfl
theorem ac {f:FuncId} {c:cq} {l:List (FuncId×cq)} (h:aG Pg f c) (t:Q1 Pg l):Q1 Pg ((f,c)::l):=⟨h,t⟩
theorem an:Q1 Pg []:=trivial
inductive OI {R:Type}:Option R->Option R->Prop where
 |rfl {a:Option R}:OI a a
 |chk {b:Bool} {k k':Option R} (h:kL k k'):OI (chk b λ_=>k) (chk b λ_=>k')
 |bcase {b:Bool} {t f t' f':Option R} (h1:kL t t') (h2:kL f f'):OI (bcase b t f) (bcase b t' f')
 |lt {α:Type} {x:α} {k k':α->Option R} (h:∀ y,kL (k y) (k' y)):OI (lt x k) (lt x k')
 |jn {α:Type} {o o':Option (R⊕α)} {k k':α->Option R} (h:kL o o') (hk:∀ x,kL (k x) (k' x)):OI (jn o k) (jn o' k')
 |obind {α:Type} {o o':Option α} {k k':α->Option R} (h:kL o o') (hk:∀ x,kL (k x) (k' x)):OI (obind o k) (obind o' k')
 |iter {σ:Type} {f g:σ->Option (σ⊕R)} {x:σ} (h:∀ x,kL (f x) (g x)):OI (fZ f x) (iter g x)
theorem OI.o {R:Type} {a b:Option R} (h:OI a b):kL a b:=by
 cases h with
 |rfl=>exact kL.rfl
 |chk h=>exact kL.chk h
 |bcase h g=>exact kL.bcase h g
 |lt h=>exact kL.lt h
 |jn h g=>exact kL.jn h g
 |obind h g=>exact kL.obind h g
 |iter h=>exact kL.iter h
theorem mk {f:FuncId} (D:FT) (m:D.pre.ty.den->Option D.post.ty.den) {l:List (FuncId×cq)} (J:Q1 Pg l) (I:TypeId->Option Ty) (he:∀ x,Xr (SX l) I inert (yg Pg f) D x=m x:=by intro x;kernel_rfl) (hs:(yg Pg f).isSome=ah:=by kernel_rfl) (hb:eo D.pre.bs.length D.post.bs.length=ah:=by kernel_rfl):aG Pg f (cn D m):=(OQ ago Oh J hs he).toC hb
theorem xA {f:FuncId} (D:FT) (m n:D.pre.ty.den->Option D.post.ty.den) (J:∀ x,kL (m x) (n x)) {l:List (FuncId×cq)} (M:Q1 Pg l) (I:TypeId->Option Ty) (he:∀ x,Xr (SX l) I inert (yg Pg f) D x=n x:=by intro x;kernel_rfl) (hs:(yg Pg f).isSome=ah:=by kernel_rfl) (hb:eo D.pre.bs.length D.post.bs.length=ah:=by kernel_rfl):aG Pg f (cn D m):=((OQ ago Oh M hs he).sub J).toC hb
theorem Od {f:FuncId} (D:FT) (hs:(yg Pg f).isSome=ah:=by kernel_rfl) (hb:eo D.pre.bs.length D.post.bs.length=ah:=by kernel_rfl):aG Pg f (cn D λ_=>af):=(R3 hs).toC hb
abbrev tN:List PV:=[.d aM,.d aM,.d aM,.d aM,.d aM,.nil,.nil]
abbrev uD:List PV:=[.nil,.d aM,.nil,.nil,.nil,.nil,.nil]
abbrev acy:List PV:=[.ptr 1 0,.d aM,.d aM,.d .bool,.d .bool,.d .bool,.d .bool,.row 4]
abbrev ad2:List PV:=[.d aM,.d aM,.d .str,.d .str,.nil,.d aM,.d aM,.d .str,.nil,.nil,.nil]
abbrev Zd:List PB:=[.cells 192 acy,.cells 78 [.d xm],.gone,.cells 198 ad2,.rowsP 9 .str]
abbrev LD:List PV:=[.ptr 0 0,.ptr 1 0,.ptr 2 0,.ptr 3 0,.ptr 4 0,.ptr 5 0,.ptr 6 0,.ptr 7 0,.d .bool]
abbrev ZC:List PB:=[.cells 184 [.d (.sl j_),.d (.sl pZ),.d (.sl li),.d (.sl .str),.d (.sl .str),.d (.sl nO),.d (.sl .str),.row 2,.d aM,.d aM],.gone,.rows 188 ah pX]
abbrev ZB:List PB:=[.cells 184 [.d (.sl j_),.d (.sl pZ),.d (.sl li),.d (.sl .str),.d (.sl .str),.d (.sl nO),.d (.sl .str),.row 1,.d aM,.d aM],.rows 188 ah pX]
abbrev Zc:List PV:=[.d aM,.row 11,.row 12,.d aM]
abbrev La7:List PB:=[.cells 141 [.nil,.nil],.cells 192 [.ptr 5 0,.d aM,.d aM,.d .bool,.d .bool,.d .bool,.d .bool,.row 6],.cells 141 [.d (.sl Fe),.row 7],.rows 9 ai .str,.cells 182 [.d .str,.d aM,.row 8,.row 9],.cells 78 [.d xm],.rowsP 9 .str,.rows 182 ah rN,.rows 9 ai .str,.rows 198 ah .sm]
abbrev La8:List PB:=[.cells 225 [.d (.sl Fe),.d (.sl rN),.d aM,.row 1,.row 6,.row 7],.rowsP 198 .sm,.gone,.gone,.cells 198 [.d .sm],.cells 141 [.d LF],.rows 9 ah .str,.rows 9 ah .str]
abbrev La9:List PV:=[.d (.sl dO),.d aM,.d pf,.d (.sl gU),.row 8,.row 9,.csl 10 4 4]
abbrev abl:List PB:=[.cells 97 [.d (.sl dO),.d aM,.d pf,.d (.sl gU),.row 6,.row 7,.csl 8 4 4],.cells 144 [.d ir],.cells 97 uD,.cells 59 tN,.cells 59 [.d iK],.cells 175 [.d eH],.rows 2 ah aM,.rows 2 ah aM,.cells 175 [.d eH,.d eH,.d eH,.d eH]]
abbrev acz:List PV:=[.ptr 1 0,.d aM,.d aM,.d .bool,.d .bool,.d .bool,.d .bool,.row 2]
abbrev Nn:List PV:=[.d CJ,.d aM]
abbrev TB:List PB:=[.cells 192 acz,.cells 78 Nn,.rowsP 9 .str]
abbrev Kx:List PV:=[.ptr 0 0,.ptr 1 0,.ptr 2 0,.ptr 3 0,.ptr 4 0,.ptr 5 0,.ptr 6 0,.ptr 7 0,.d aM]
abbrev aey:List PV:=[.d (.sl dO),.d aM,.d pf,.d (.sl gU),.row 8,.row 9,.csl 10 4 3]
abbrev afi:List PB:=[.cells 102 [.d tB],.cells 97 aey,.cells 144 [.d ir],.cells 97 uD,.cells 59 tN,.cells 59 [.d iK],.cells 175 Zc,.cells 188 [.d pX],.rows 2 ah aM,.rows 2 ah aM,.cells 175 [.d aM,.row 11,.row 12,.d aM,.d eH,.d eH],.rows 2 ah aM,.rows 53 ah (.sl aM)]
abbrev afh:List PB:=[.cells 102 [.d tB],.cells 97 aey,.cells 144 [.d ir],.cells 97 uD,.cells 59 tN,.cells 59 [.d iK],.cells 175 Zc,.cells 188 [.d pX],.rows 2 ah aM,.rows 2 ah aM,.cells 175 [.d eH,.d aM,.row 11,.row 12,.d aM,.d eH],.rows 2 ah aM,.rows 53 ah (.sl aM)]
abbrev afg:List PB:=[.cells 102 [.d tB],.cells 97 aey,.cells 144 [.d ir],.cells 97 uD,.cells 59 tN,.cells 59 [.d iK],.cells 175 Zc,.cells 188 [.d pX],.rows 2 ah aM,.rows 2 ah aM,.cells 175 [.d eH,.d eH,.d aM,.row 11,.row 12,.d aM],.rows 2 ah aM,.rows 53 ah (.sl aM)]
abbrev ad1:List PV:=[.d (.sl dO),.d aM,.d pf,.d (.sl gU),.row 8,.row 9,.csl 10 4 2]
abbrev aff:List PB:=[.cells 102 [.d tB],.cells 97 ad1,.cells 144 [.d ir],.cells 97 uD,.cells 59 tN,.cells 59 [.d iK],.cells 175 Zc,.cells 188 [.d pX],.rows 2 ah aM,.rows 2 ah aM,.cells 175 [.d aM,.row 11,.row 12,.d aM,.d eH],.rows 2 ah aM,.rows 53 ah (.sl aM)]
abbrev afe:List PB:=[.cells 102 [.d tB],.cells 97 ad1,.cells 144 [.d ir],.cells 97 uD,.cells 59 tN,.cells 59 [.d iK],.cells 175 Zc,.cells 188 [.d pX],.rows 2 ah aM,.rows 2 ah aM,.cells 175 [.d eH,.d aM,.row 11,.row 12,.d aM],.rows 2 ah aM,.rows 53 ah (.sl aM)]
abbrev WN:List PB:=[.cells 225 [.d (.sl Fe),.d (.sl rN),.d aM,.row 1,.row 4,.row 5],.rowsP 198 .sm,.gone,.gone,.rows 9 ah .str,.rows 9 ah .str]
abbrev Kw:List PV:=[.ptr 0 0,.ptr 1 0,.ptr 2 0,.ptr 3 0,.ptr 4 0,.ptr 5 0,.ptr 6 0,.d .bool]
abbrev gx:List PV:=[.ptr 0 0,.d .bool]
abbrev WM:List PB:=[.cells 225 [.d (.sl Fe),.d (.sl rN),.d aM,.row 1,.row 2,.row 3],.rowsP 198 .sm,.rows 9 ah .str,.rows 9 ah .str]
abbrev afd:List PB:=[.cells 102 [.d tB],.cells 97 [.d (.sl dO),.d aM,.d pf,.d (.sl gU),.row 8,.row 9,.csl 10 4 1],.cells 144 [.d ir],.cells 97 uD,.cells 59 tN,.cells 59 [.d iK],.cells 175 Zc,.cells 188 [.d pX],.rows 2 ah aM,.rows 2 ah aM,.cells 175 Zc,.rows 2 ah aM,.rows 53 ah (.sl aM)]
abbrev Kv:List PV:=[.ptr 0 0,.ptr 1 0,.ptr 2 0,.ptr 3 0,.ptr 4 0,.ptr 5 0,.ptr 6 0]
abbrev afc:List PB:=[.cells 102 [.d tB],.cells 97 La9,.cells 144 [.d ir],.cells 97 uD,.cells 59 tN,.cells 59 [.d iK],.cells 175 Zc,.cells 188 [.d pX],.rows 2 ah aM,.rows 2 ah aM,.cells 175 [.d aM,.row 11,.row 12,.d aM,.d eH,.d eH,.d eH],.rows 2 ah aM,.rows 53 ah (.sl aM)]
abbrev afb:List PB:=[.cells 102 [.d tB],.cells 97 La9,.cells 144 [.d ir],.cells 97 uD,.cells 59 tN,.cells 59 [.d iK],.cells 175 Zc,.cells 188 [.d pX],.rows 2 ah aM,.rows 2 ah aM,.cells 175 [.d eH,.d aM,.row 11,.row 12,.d aM,.d eH,.d eH],.rows 2 ah aM,.rows 53 ah (.sl aM)]
abbrev afa:List PB:=[.cells 102 [.d tB],.cells 97 La9,.cells 144 [.d ir],.cells 97 uD,.cells 59 tN,.cells 59 [.d iK],.cells 175 Zc,.cells 188 [.d pX],.rows 2 ah aM,.rows 2 ah aM,.cells 175 [.d eH,.d eH,.d aM,.row 11,.row 12,.d aM,.d eH],.rows 2 ah aM,.rows 53 ah (.sl aM)]
abbrev af9:List PB:=[.cells 102 [.d tB],.cells 97 La9,.cells 144 [.d ir],.cells 97 uD,.cells 59 tN,.cells 59 [.d iK],.cells 175 Zc,.cells 188 [.d pX],.rows 2 ah aM,.rows 2 ah aM,.cells 175 [.d eH,.d eH,.d eH,.d aM,.row 11,.row 12,.d aM],.rows 2 ah aM,.rows 53 ah (.sl aM)]
abbrev Jj:List PB:=[.cells 31 [.d nE],.cells 87 [.d iz],.cells 59 [.d iK],.cells 87 uD]
abbrev Ku:List PV:=[.ptr 0 0,.ptr 1 0,.ptr 2 0,.ptr 3 0,.ptr 4 0,.ptr 5 0]
abbrev af8:List PB:=[.cells 97 [.d (.sl dO),.d aM,.d pf,.d (.sl gU),.row 6,.row 7,.csl 8 4 3],.cells 144 [.d ir],.cells 97 uD,.cells 59 tN,.cells 59 [.d iK],.cells 175 [.d eH],.rows 2 ah aM,.rows 2 ah aM,.cells 175 [.d eH,.d eH,.d eH]]
abbrev QE:List PV:=[.d (.sl dO),.d aM,.d pf,.d (.sl gU),.row 7,.row 8,.csl 9 4 4]
abbrev qI:List PV:=[.ptr 0 0,.ptr 1 0,.d .bool]
abbrev yo:List PV:=[.ptr 0 0,.ptr 1 0,.ptr 2 0,.ptr 3 0,.d .bool]
abbrev abd:List PV:=[.nil,.nil,.nil,.nil,.nil,.nil]
abbrev af7:List PB:=[.cells 141 [.d LF],.cells 31 abd,.cells 31 [.row 4,.row 5,.row 6,.row 7,.nil,.nil],.cells 228 [.d Fe],.rows 114 ah j_,.rows 49 ah pZ,.rows 118 ah li,.rows 9 ah .str]
abbrev WJ:List PV:=[.nil,.nil,.nil,.nil,.nil,.nil,.nil]
abbrev aht:List PV:=[.d (.sl j_),.d (.sl pZ),.d (.sl li),.d (.sl .str),.d (.sl .str),.d (.sl nO),.row 5]
abbrev ai5:List PB:=[.cells 141 [.d LF],.cells 102 WJ,.cells 102 aht,.cells 184 [.d (.sl j_),.d (.sl pZ),.d (.sl li),.d (.sl .str),.d (.sl .str),.d (.sl nO),.d (.sl .str),.row 6,.d aM,.d aM],.cells 171 [.d aM,.row 6],.rows 171 ah vE,.rows 188 ah pX]
abbrev FL:List PV:=[.row 0,.d aM,.row 1,.row 2]
abbrev af6:List PB:=[.cells 78 [.d xm],.cells 87 [.d iz],.cells 31 [.d nE],.rows 59 ah iK,.cells 53 [.row 5,.row 6,.row 7,.row 8],.rows 3 ah aM,.rows 3 ah aM,.rows 3 ah aM,.rows 3 ah aM]
abbrev DZ:List PV:=[.ptr 0 0,.ptr 1 0,.ptr 2 0,.d aM]
abbrev Ji:List PV:=[.d aM,.d (.sl aM),.d uE,.d aM]
abbrev WL:List PV:=[.d (.sl dO),.d aM,.d pf,.d (.sl gU),.row 7,.row 8,.csl 9 4 3]
abbrev af5:List PB:=[.cells 78 [.d xm],.cells 87 [.d iz],.cells 31 [.d nE],.cells 53 [.row 4,.row 5,.row 6,.row 7],.rows 3 ah aM,.rows 3 ah aM,.rows 3 ah aM,.rows 3 ah aM]
abbrev CI:List PV:=[.ptr 0 0,.ptr 1 0,.ptr 2 0,.d .bool]
abbrev uC:List PV:=[.ptr 0 0,.ptr 1 0,.d aM]
abbrev Jh:List PV:=[.d aM,.row 10,.row 11,.d aM]
abbrev abc:List PV:=[.d aM,.row 0,.row 1,.d aM]
abbrev U5:List PV:=[.d aM,.nil,.nil,.d aM]
abbrev af4:List PB:=[.rows 2 ah aM,.rows 53 ah (.sl aM),.cells 188 [.d pX],.cells 175 abc,.cells 175 U5]
abbrev af3:List PB:=[.cells 225 [.d (.sl Fe),.d (.sl rN),.d aM,.row 4,.row 5,.row 6],.gone,.gone,.gone,.rowsP 198 .sm,.rows 9 ah .str,.rows 9 ah .str]
abbrev AT:List PV:=[.nil,.d aM,.nil,.nil]
abbrev af2:List PB:=[.cells 84 [.row 2,.d aM,.row 3,.row 4],.cells 84 AT,.rows 153 ah dO,.rows 4 ah .bool,.rows 155 ah gU]
abbrev Jg:List PV:=[.ptr 0 0,.ptr 3 0,.d .bool]
abbrev ai4:List PB:=[.cells 34 WJ,.cells 78 [.d xm],.cells 34 aht,.cells 87 [.d iz],.rows 59 ai iK,.rows 59 ah iK]
abbrev pe:List PB:=[.cells 31 [.d nE]]
abbrev ai3:List PB:=[.cells 97 [.d (.sl dO),.d aM,.d pf,.d (.sl gU),.row 6,.row 7,.csl 8 4 2],.cells 144 [.d ir],.cells 97 uD,.cells 59 tN,.cells 59 [.d iK],.cells 175 [.d eH],.rows 2 ah aM,.rows 2 ah aM,.cells 175 [.d eH,.d eH]]
abbrev ai2:List PB:=[.cells 78 [.d xm],.cells 87 [.d iz],.cells 31 [.d nE],.rows 59 ah iK,.cells 53 [.row 7,.row 8,.row 9,.row 10],.cells 59 [.d iK],.cells 87 [.d iz],.rows 3 ah aM,.rows 3 ah aM,.rows 3 ah aM,.rows 3 ah aM]
abbrev abk:List PB:=[.cells 31 abd,.cells 31 [.row 2,.row 3,.row 4,.row 5,.row 6,.row 7],.rows 114 ai j_,.rows 49 ai pZ,.rows 118 ai li,.rows 9 ai .str,.rows 9 ai .str,.rows 120 ah nO]
abbrev tw:List PV:=[.ptr 0 0,.d aM]
abbrev Zb:List PV:=[.row 2,.row 3,.row 4,.row 5]
abbrev ai1:List PB:=[.cells 78 [.d xm],.cells 53 Zb,.rows 3 ah aM,.rows 3 ah aM,.rows 3 ah aM,.rows 3 ah aM,.cells 59 tN,.cells 59 [.d aM,.d aM,.d aM,.d aM,.d aM,.d (.sl aM),.nil]]
abbrev abj:List PV:=[.d (.sl dO),.d aM,.d pf,.d (.sl gU),.row 7,.row 8,.csl 9 4 2]
abbrev Kt:List PV:=[.d uF,.d iK,.d .bool]
abbrev ai0:List PB:=[.cells 78 [.d xm],.cells 53 Zb,.rows 3 ah aM,.rows 3 ah aM,.rows 3 ah aM,.rows 3 ah aM,.cells 87 [.d iz],.cells 31 [.d nE],.cells 59 tN,.cells 59 tN]
abbrev ahz:List PB:=[.cells 141 [.d LF],.cells 31 abd,.cells 31 [.row 3,.row 4,.row 5,.row 6,.nil,.nil],.rows 114 ah j_,.rows 49 ah pZ,.rows 118 ah li,.rows 9 ah .str]
abbrev af1:List PV:=[.d (.sl dO),.d aM,.d pf,.d (.sl gU),.row 3,.row 4,.row 5]
abbrev Ks:List PV:=[.d tB,.d uF,.d ir]
abbrev af0:List PB:=[.rows 153 ah dO,.rows 4 ah .bool,.rows 155 ah gU,.cells 84 FL,.rows 3 ah aM]
abbrev Ze:List PV:=[.row 3,.d aM,.row 4,.row 5]
abbrev ahy:List PB:=[.cells 31 [.d nE],.cells 84 Ze,.cells 84 AT,.rows 153 ah dO,.rows 4 ah .bool,.rows 155 ah gU]
abbrev uB:List PV:=[.d aM,.d aM]
abbrev ahx:List PB:=[.cells 171 [.d vE],.cells 175 [.d aM,.row 3,.row 4,.d aM],.cells 175 U5,.rows 2 ah aM,.rows 53 ah (.sl aM)]
abbrev ahw:List PB:=[.cells 192 acy,.cells 78 [.d xm],.gone,.rows 198 ah .sm,.rowsP 9 .str]
abbrev aez:List PB:=[.rows 59 ah iK,.cells 102 [.d tB],.cells 97 [.d uF],.cells 97 uD]
abbrev aex:List PV:=[.ptr 1 0,.d aM,.d aM,.d .bool,.d .bool,.d .bool,.d .bool,.row 3]
abbrev ahv:List PB:=[.cells 59 tN,.cells 175 [.d eH],.cells 188 [.d pX],.cells 59 [.d aM,.d aM,.d aM,.d aM,.d aM,.row 4,.nil],.rows 3 ah aM]
abbrev Nm:List PB:=[.cells 198 [.d .sm]]
abbrev abi:List PV:=[.agg [.agg FL,.row 3,.row 4,.csl 5 4 4]]
abbrev QD:List PB:=[.cells 141 [.d LF]]
abbrev aew:List PB:=[.cells 31 [.d nE],.cells 171 [.d vE],.cells 188 [.d pX]]
abbrev abh:List PB:=[.cells 141 [.d LF],.cells 182 [.d rN]]
abbrev abg:List PB:=[.cells 141 [.d LF],.cells 196 [.d .ex]]
abbrev aev:List PB:=[.cells 31 [.d nE],.rows 9 ah .str,.cells 114 [.d j_]]
abbrev aeu:List PB:=[.rows 153 ah dO,.rows 4 ah .bool,.rows 155 ah gU]
abbrev abf:List PB:=[.cells 31 [.d nE],.cells 188 [.d pX]]
abbrev abe:List PV:=[.ptr 0 0,.ptr 4 0,.ptr 5 0,.d .bool]
abbrev aet:List PV:=[.ptr 0 0,.ptr 1 0,.ptr 2 0,.ptr 3 0,.ptr 4 0,.d aM]
abbrev TA:List PB:=[.cells 31 [.d nE],.cells 84 [.d FM]]
abbrev aes:List PB:=[.cells 78 [.d xm],.rows 3 ah aM,.rows 3 ah aM]
abbrev WI:List PB:=[.cells 31 [.d nE],.rows 9 ah .str]
abbrev aer:List PB:=[.cells 59 [.d iK],.cells 87 uD,.cells 87 af1,.rows 2 ah aM,.rows 2 ah aM,.rows 3 ah aM]
abbrev ahu:List PB:=[.cells 78 Nn,.cells 53 Zb,.rows 3 ah aM,.rows 3 ah aM,.rows 3 ah aM,.rows 3 ah aM]
abbrev Kr:List PV:=[.d (.sl aM),.d aM]
abbrev Nl:List PV:=[.ptr 0 0,.row 1,.d aM]
abbrev WH:List PB:=[.cells 228 [.d Fe]]
abbrev WG:List PB:=[.cells 78 [.d xm]]
abbrev aeq:List PV:=[.agg [.agg FL,.row 3,.row 4,.csl 5 4 3]]
abbrev Qz:List PB:=[.cells 78 Nn]
abbrev Zj:List PB:=[.rows 2 ah aM,.rows 53 ah (.sl aM)]
abbrev Zi:List PB:=[.cells 31 [.d nE],.cells 171 [.d vE]]
abbrev Zh:List PB:=[.cells 102 [.d tB],.cells 97 [.d uF]]
abbrev qe:List PV:=[.d (.sl aM)]
abbrev Zg:List PV:=[.ptr 0 0,.ptr 1 0,.ptr 2 0,.ptr 3 0]
abbrev ad0:List PV:=[.d (.sl dO),.d aM,.d pf,.d (.sl gU),.row 7,.row 8,.csl 9 4 1]
abbrev Zf:List PB:=[.cells 84 [.d FM],.rows 3 ah aM]
abbrev QF:List PV:=[.ptr 0 0,.d aM,.d aM]
def tyT:PT Ty:=dL [(2,aM),(3,aM),(4,.bool),(9,.str),(47,ir),(49,pZ),(53,(.sl aM)),(55,ir),(59,iK),(81,pf),(114,j_),(118,li),(120,nO),(144,ir),(153,dO),(155,gU),(171,vE),(175,eH),(182,rN),(188,pX),(196,.ex),(198,.sm),(228,Fe)]
def bY (t:TypeId):Option Ty:=tyT.get t
def zI:FT:=⟨⟨[],[]⟩,⟨[.d (.sl .str)],[]⟩,.leaf⟩
def Ke:cq:=cn zI jW
def xW:FT:=⟨⟨[.d .str],[]⟩,⟨[.d .bool],[]⟩,dL [(8,(.j ⟨[0,3],[4],⟨[.d aM],[]⟩,[]⟩))]⟩
def IJ:cq:=cn xW jp
def E4:FT:=⟨⟨[.d (.int .u8)],[]⟩,⟨[.d .bool],[]⟩,dL [(2,(.j ⟨[],[2],⟨[.d .bool],[]⟩,[]⟩))]⟩
def P_:cq:=cn E4 kO
def Io:FT:=⟨⟨[.d (.int .u8)],[]⟩,⟨[.d .bool],[]⟩,dL [(2,(.j ⟨[],[2],⟨[.d .bool],[]⟩,[]⟩))]⟩
def SS:cq:=cn Io qr
def In:FT:=⟨⟨[.d (.int .u8)],[]⟩,⟨[.d .bool],[]⟩,dL [(2,(.j ⟨[],[2],⟨[.d .bool],[]⟩,[]⟩))]⟩
def SM:cq:=cn In oL
def E5:FT:=⟨⟨[.d .str],[]⟩,⟨[.d .bool],[]⟩,dL [(3,(.j ⟨[0],[21],⟨[.d .bool],[]⟩,[]⟩)),(14,(.j ⟨[0],[3],⟨[.d aM],[]⟩,[]⟩))]⟩
def P':cq:=cn E5 eR
def Ii:FT:=⟨⟨[.d .bool],[]⟩,⟨[.d aM],[]⟩,.leaf⟩
def Sy:cq:=cn Ii fG
def Ij:FT:=⟨⟨uB,[]⟩,⟨[.d aM,.d .bool],[]⟩,.leaf⟩
def Sz:cq:=cn Ij sU
def EY:FT:=⟨⟨[.d aM,.d aM,.d aM],[]⟩,⟨[.d aM,.d .bool],[]⟩,dL [(91,(.j ⟨[],[6,7],⟨[.d aM,.d .bool],[]⟩,[]⟩)),(97,(.j ⟨[],[6,7],⟨[.d aM,.d .bool],[]⟩,[]⟩))]⟩
def P3:cq:=cn EY re
def Ik:FT:=⟨⟨uB,[]⟩,⟨[.d aM],[]⟩,dL [(12,(.j ⟨[],[5],⟨[.d aM],[]⟩,[]⟩))]⟩
def SA:cq:=cn Ik qo
def zH:FT:=⟨⟨[.d aM],[]⟩,⟨[.d aM],[]⟩,dL [(4,(.j ⟨[0],[3],⟨[.d .bool],[]⟩,[]⟩)),(10,(.j ⟨[0],[10],⟨[.d .bool],[]⟩,[]⟩)),(16,(.j ⟨[],[17],⟨[.d .bool],[]⟩,[]⟩))]⟩
def Kd:cq:=cn zH lM
def oy:FT:=⟨⟨[.d .ex],[]⟩,⟨[.d .bool],[]⟩,dL [(2,(.j ⟨[],[1,3],⟨gx,[.cells 196 [.d .ex]]⟩,[]⟩)),(5,(.j ⟨[],[1,50],⟨gx,[.cells 196 [.d .ex]]⟩,[]⟩)),(16,(.j ⟨[],[1,4],⟨tw,[.cells 196 [.d .ex]]⟩,[]⟩))]⟩
def FB:cq:=cn oy iL
def Fo (n:Nat):cq:=cn oy (gR n)
def Im:FT:=⟨⟨[.d .ex],[]⟩,⟨[.d .bool],[]⟩,dL [(2,(.j ⟨[],[2],⟨[.d .bool],[]⟩,[]⟩))]⟩
def SK:cq:=cn Im oK
def rM:FT:=⟨⟨[.d .sm],[]⟩,⟨[.d .bool],[]⟩,dL [(3,(.j ⟨[],[1,13],⟨gx,Nm⟩,[]⟩)),(10,(.j ⟨[],[1,3],⟨gx,Nm⟩,[]⟩)),(13,(.j ⟨[],[1,47],⟨gx,Nm⟩,[]⟩)),(21,(.j ⟨[],[1,66],⟨gx,Nm⟩,[]⟩)),(29,(.j ⟨[],[1,95],⟨gx,Nm⟩,[]⟩)),(36,(.j ⟨[],[1,4],⟨gx,Nm⟩,[]⟩)),(39,(.j ⟨[],[1,130],⟨gx,Nm⟩,[]⟩)),(46,(.j ⟨[],[1,5],⟨gx,Nm⟩,[]⟩)),(49,(.j ⟨[],[1,157],⟨gx,Nm⟩,[]⟩)),(56,(.j ⟨[],[2],⟨[.d .bool],[]⟩,[]⟩))]⟩
def Fn (n:Nat):cq:=cn rM (dY n)
def ny:FT:=⟨⟨[.d (.sl .sm)],[]⟩,⟨[.d .bool],[]⟩,dL [(6,(.j ⟨[0],[3],⟨[.d aM],[]⟩,[]⟩))]⟩
def DK:cq:=cn ny m7
def Dc (n:Nat):cq:=cn ny (du n)
def wW:FT:=⟨⟨[.d Fe],[]⟩,⟨[.d .bool],[]⟩,dL [(3,(.j ⟨[],[1,31],⟨gx,WH⟩,[]⟩)),(11,(.j ⟨[],[1,50],⟨gx,WH⟩,[]⟩)),(18,(.j ⟨[],[2],⟨[.d .bool],[]⟩,[]⟩))]⟩
def FA:cq:=cn wW jJ
def E3:FT:=⟨⟨[.d LF],[]⟩,⟨[.d .bool],[]⟩,dL [(6,(.j ⟨[],[1,3],⟨tw,QD⟩,[]⟩)),(27,(.j ⟨[],[1,4],⟨tw,QD⟩,[]⟩)),(42,(.j ⟨[4],[1,5,6],⟨uC,abh⟩,[]⟩)),(59,(.j ⟨[4],[1,56],⟨gx,QD⟩,[]⟩))]⟩
def P9:cq:=cn E3 oZ
def UI:FT:=⟨⟨[.d (.sl .str),.d .str],[]⟩,⟨[.d aM],[]⟩,dL [(6,(.j ⟨[0,1],[5],⟨[.d aM],[]⟩,[]⟩))]⟩
def aan:cq:=cn UI iH
def E0:FT:=⟨⟨[.d (.sl Fe),.d .str],[]⟩,⟨[.d aM],[]⟩,dL [(6,(.j ⟨[0,1],[5],⟨[.d aM],[]⟩,[]⟩))]⟩
def P5:cq:=cn E0 gQ
def zG:FT:=⟨⟨[.d (.sl rN),.d .str],[]⟩,⟨[.d aM],[]⟩,dL [(6,(.j ⟨[0,1],[5],⟨[.d aM],[]⟩,[]⟩))]⟩
def Kc:cq:=cn zG gC
def EZ:FT:=⟨⟨[.d LF,.d aM,.d .str],[]⟩,⟨[.d aM],[]⟩,dL [(3,(.j ⟨[2],[3,27],⟨gx,QD⟩,[]⟩)),(52,(.j ⟨[7],[3,56],⟨gx,QD⟩,[]⟩))]⟩
def P4:cq:=cn EZ oY
def Lm:FT:=⟨⟨[.d LF,.d aM,.d .str,.d aM,.d aM],[]⟩,⟨[.d aM],[]⟩,dL [(13,(.j ⟨[],[25],⟨[.d .bool],[]⟩,[]⟩))]⟩
def V7:cq:=cn Lm gj
def wA:FT:=⟨⟨[.d .ex],[]⟩,⟨uB,[]⟩,dL [(8,(.j ⟨[],[1,4,5,6],⟨[.ptr 0 0,.d aM,.d aM,.d aM],[.cells 196 [.d .ex]]⟩,[]⟩))]⟩
def SH:cq:=cn wA Ar
def RA (n:Nat):cq:=cn wA (mK n)
def wz:FT:=⟨⟨[.d LF,.d aM,.d .ex],[]⟩,⟨[.d aM],[]⟩,dL [(7,(.j ⟨[1],[3,5,7],⟨uC,abg⟩,[]⟩)),(21,(.j ⟨[1],[3,5,7,8],⟨[.ptr 0 0,.ptr 1 0,.d aM,.d aM],abg⟩,[]⟩)),(23,(.j ⟨[1,7,8],[3,5,33],⟨qI,abg⟩,[]⟩))]⟩
def SD:cq:=cn wz Aq
def Rz (n:Nat):cq:=cn wz (mJ n)
def Ln:FT:=⟨⟨[.d LF,.d aM,.d .ex],[]⟩,⟨[.d aM],[]⟩,dL [(13,(.j ⟨[1],[3,5,22],⟨qI,abg⟩,[]⟩))]⟩
def V8:cq:=cn Ln lK
def Cg:FT:=⟨⟨[.d .bool],[]⟩,⟨[.d aM],[]⟩,.leaf⟩
def MY:cq:=cn Cg cS
def UH:FT:=⟨⟨uB,[]⟩,⟨[.d aM],[]⟩,.leaf⟩
def aam:cq:=cn UH iG
def vq:FT:=⟨⟨[.ptr 0 0,.d aM,.d aM,.d .str],WM⟩,⟨[.d .bool],WM⟩,dL [(6,(.j ⟨[1,2,3],[0,9],⟨tw,WM⟩,[]⟩)),(17,(.j ⟨[1,2,3,9],[0,46],⟨gx,WM⟩,[]⟩))]⟩
def DJ:cq:=cn vq dJ
def zF:FT:=⟨⟨[.ptr 0 0,.d .sm],WM⟩,⟨[.d aM],WN⟩,dL [(1,(.a [.ren 0 4,.ren 0 5])),(28,(.j ⟨[6,7,8,9,30],[0,3,5,67],⟨abe,La8⟩,[]⟩)),(41,(.j ⟨[],[4],⟨[.d aM],WN⟩,[]⟩)),(44,(.j ⟨[6,7,8,9,30],[0,3,5,91],⟨abe,La8⟩,[]⟩)),(51,(.j ⟨[],[4],⟨[.d aM],WN⟩,[]⟩)),(63,(.j ⟨[],[4],⟨[.d aM],WN⟩,[]⟩)),(66,(.j ⟨[6,7,8,9,30],[0,3,5,119],⟨abe,La8⟩,[]⟩)),(89,(.j ⟨[],[4],⟨[.d aM],WN⟩,[]⟩)),(108,(.j ⟨[],[0,3,187],⟨[.ptr 0 0,.ptr 4 0,.d .bool],[.cells 225 [.d (.sl Fe),.d (.sl rN),.d aM,.row 1,.row 5,.row 6],.rowsP 198 .sm,.gone,.gone,.cells 198 [.d .sm],.rows 9 ah .str,.rows 9 ah .str]⟩,[]⟩)),(131,(.j ⟨[],[4],⟨[.d aM],WN⟩,[]⟩)),(137,(.j ⟨[6],[0,3,5,14],⟨[.ptr 0 0,.ptr 4 0,.ptr 5 0,.d aM],La8⟩,[]⟩)),(139,(.j ⟨[6],[0,3,5,14],⟨[.ptr 0 0,.ptr 4 0,.ptr 5 0,.d aM],La8⟩,[]⟩)),(140,(.j ⟨[6,14],[0,3,5,253],⟨abe,La8⟩,[]⟩))]⟩
def Ka:cq:=cn zF lJ
def qT:FT:=⟨⟨[.ptr 0 0,.d (.sl .sm)],WM⟩,⟨uB,af3⟩,dL [(1,(.a [.ren 0 3,.ren 0 4,.ren 0 5])),(6,(.j ⟨[1],[0,6],⟨tw,af3⟩,[]⟩)),(19,(.j ⟨[1,6],[0,7,8],⟨[.ptr 0 0,.ptr 4 0,.d aM],[.cells 225 [.d (.sl Fe),.d (.sl rN),.d aM,.row 5,.row 6,.row 7],.gone,.gone,.gone,.cells 198 [.d .sm],.rowsP 198 .sm,.rows 9 ah .str,.rows 9 ah .str]⟩,[]⟩)),(37,(.j ⟨[1,6],[0,8,9],⟨QF,af3⟩,[]⟩))]⟩
def Kb:cq:=cn qT ut
def JL (n:Nat):cq:=cn qT (ij n)
def wB:FT:=⟨⟨[.d (.sl .sm)],[]⟩,⟨[.d aM],[]⟩,dL [(8,(.j ⟨[0],[3,4],⟨uB,[]⟩,[]⟩))]⟩
def SJ:cq:=cn wB As
def RB (n:Nat):cq:=cn wB (mL n)
def Il:FT:=⟨⟨[.d (.sl Fe)],[]⟩,⟨uB,[]⟩,dL [(8,(.j ⟨[0],[4,5,6,7,8],⟨[.d aM,.d aM,.d aM,.d aM,.d aM],[]⟩,[]⟩)),(16,(.j ⟨[0,8],[4,5,6,7],⟨[.d aM,.d aM,.d aM,.d aM],[]⟩,[]⟩)),(38,(.j ⟨[0,8],[4,5,6,7,9],⟨[.d aM,.d aM,.d aM,.d aM,.ptr 0 0],WH⟩,[]⟩)),(39,(.j ⟨[0,4,5,6,7,8,36],[9,39],⟨gx,WH⟩,[]⟩)),(47,(.j ⟨[0,4,5,6,7,8,36],[9,47],⟨gx,WH⟩,[]⟩)),(61,(.j ⟨[0,4,5,6,7,8],[9,69],⟨gx,WH⟩,[]⟩))]⟩
def SE:cq:=cn Il qp
def Cf:FT:=⟨⟨[.d LF],[]⟩,⟨uB,[]⟩,dL [(6,(.j ⟨[],[1,4],⟨tw,QD⟩,[]⟩)),(17,(.j ⟨[4],[1,5,37],⟨qI,abh⟩,[]⟩)),(29,(.j ⟨[],[1,6],⟨tw,QD⟩,[]⟩)),(51,(.j ⟨[6],[1,7,8],⟨uC,abh⟩,[]⟩)),(62,(.j ⟨[6,8],[1,7,90],⟨qI,abh⟩,[]⟩))]⟩
def MX:cq:=cn Cf m6
def Ch:FT:=⟨⟨[.d LF],[]⟩,⟨uB,[]⟩,dL [(44,(.j ⟨[],[1,8,9],⟨QF,QD⟩,[]⟩)),(67,(.a [.cel 10 3 198 .sm,.cel 10 4 9 .str,.cel 10 5 9 .str])),(69,(.j ⟨[],[1,10,11],⟨uC,[.cells 141 [.d LF],.cells 225 [.d (.sl Fe),.d (.sl rN),.d aM,.row 2,.row 3,.row 4],.rowsP 198 .sm,.rows 9 ah .str,.rows 9 ah .str]⟩,[]⟩))]⟩
def MZ:cq:=cn Ch eV
def wy:FT:=⟨⟨[.row 0,.d aM,.d aM,.d (.sl .sm)],[.rows 120 ah nO]⟩,⟨[.row 1,.d aM],[.gone,.rows 120 ah nO]⟩,dL [(1,(.a [.ren 0 0])),(6,(.j ⟨[1,3],[0,2,10],⟨[.row 1,.d aM,.d aM],[.gone,.rows 120 ah nO]⟩,[]⟩)),(25,(.a [.nil 8 120 nO]))]⟩
def Sr:cq:=cn wy G1
def Ry (n:Nat):cq:=cn wy (oR n)
def EU:FT:=⟨⟨[.d (.sl pZ),.d .str],[]⟩,⟨[.d aM],[]⟩,dL [(6,(.j ⟨[0,1],[5],⟨[.d aM],[]⟩,[]⟩))]⟩
def PZ:cq:=cn EU jP
def EX:FT:=⟨⟨[.d nE,.d .str],[]⟩,⟨[.d aM],[]⟩,dL [(6,(.j ⟨[1],[2,5],⟨tw,pe⟩,[]⟩))]⟩
def P1:cq:=cn EX kN
def Ig:FT:=⟨⟨[.d LF],[]⟩,⟨[.d nE],[]⟩,dL [(18,(.j ⟨[],[1,2,3,6],⟨DZ,ahz⟩,[.cel 3 0 114 j_,.cel 3 1 49 pZ,.cel 3 2 118 li,.cel 3 3 9 .str]⟩)),(31,(.j ⟨[6],[1,2,3],⟨[.ptr 0 0,.ptr 1 0,.ptr 2 0],ahz⟩,[]⟩)),(32,(.j ⟨[6,31],[1,2,3,7,39],⟨yo,af7⟩,[]⟩)),(42,(.j ⟨[6],[1,2,3,7,8],⟨[.ptr 0 0,.ptr 1 0,.ptr 2 0,.ptr 3 0,.d aM],af7⟩,[]⟩)),(53,(.j ⟨[6,31],[1,2,3,7,65],⟨yo,af7⟩,[]⟩)),(69,(.a [.cel 3 5 120 nO])),(71,(.j ⟨[],[1,2,3,9],⟨DZ,[.cells 141 [.d LF],.cells 31 abd,.cells 31 [.row 3,.row 4,.row 5,.row 6,.row 7,.row 8],.rows 114 ah j_,.rows 49 ah pZ,.rows 118 ah li,.rows 9 ah .str,.rows 9 ah .str,.rows 120 ah nO]⟩,[.cel 3 4 9 .str]⟩))]⟩
def Sv:cq:=cn Ig sT
def Ic:FT:=⟨⟨[.d nE],[]⟩,⟨[.d (.sl .str),.d .bool],[]⟩,dL [(8,(.j ⟨[],[1,4,5],⟨Nl,WI⟩,[.nil 4 9 .str]⟩)),(15,(.j ⟨[],[1,4,5],⟨Nl,WI⟩,[]⟩)),(37,(.j ⟨[5],[1,4,6,51],⟨[.ptr 0 0,.row 1,.ptr 2 0,.d .bool],aev⟩,[]⟩)),(48,(.j ⟨[5],[1,4,6,7],⟨[.ptr 0 0,.row 1,.ptr 2 0,.d aM],aev⟩,[]⟩)),(59,(.j ⟨[5,7],[1,4,6,93],⟨[.ptr 0 0,.row 1,.ptr 2 0,.d .bool],aev⟩,[]⟩)),(72,(.j ⟨[],[1,4,9],⟨Nl,WI⟩,[]⟩)),(87,(.j ⟨[],[1,4,10],⟨Nl,WI⟩,[]⟩))]⟩
def Ss:cq:=cn Ic oI
def wV:FT:=⟨⟨[.d nE],[]⟩,⟨[.d .bool],[]⟩,dL [(3,(.j ⟨[],[1,49],⟨gx,pe⟩,[]⟩)),(24,(.j ⟨[3],[1,5],⟨tw,pe⟩,[]⟩)),(33,(.j ⟨[3,5],[1,79],⟨gx,pe⟩,[]⟩)),(45,(.j ⟨[],[1,6],⟨tw,pe⟩,[]⟩)),(56,(.j ⟨[6],[1,109],⟨gx,pe⟩,[]⟩)),(68,(.j ⟨[],[1,8],⟨tw,pe⟩,[]⟩)),(76,(.j ⟨[8],[1],⟨[.ptr 0 0],pe⟩,[]⟩)),(80,(.j ⟨[8],[1,9,132],⟨qI,[.cells 31 [.d nE],.cells 120 [.d nO]]⟩,[]⟩)),(87,(.j ⟨[8],[1,9,146],⟨qI,[.cells 31 [.d nE],.cells 120 [.d nO]]⟩,[]⟩)),(90,(.j ⟨[8],[1,165],⟨gx,pe⟩,[]⟩))]⟩
def Fz:cq:=cn wV gP
def xV:FT:=⟨⟨[.d pX],[]⟩,⟨qe,[]⟩,dL [(6,(.j ⟨[4],[1,5],⟨gx,[.cells 188 [.d pX]]⟩,[]⟩)),(24,(.j ⟨[4],[1,13],⟨gx,[.cells 188 [.d pX]]⟩,[]⟩)),(46,(.j ⟨[4],[1,37],⟨gx,[.cells 188 [.d pX]]⟩,[]⟩))]⟩
def II:cq:=cn xV jm
def EW:FT:=⟨⟨[.d aM],[]⟩,⟨[.d .bool],[]⟩,dL [(2,(.j ⟨[],[2],⟨[.d .bool],[]⟩,[]⟩))]⟩
def P0:cq:=cn EW oX
def Ie:FT:=⟨⟨[.d (.sl pX),.d aM],[]⟩,⟨[.d .bool],[]⟩,dL [(6,(.j ⟨[0],[1,5],⟨uB,[]⟩,[]⟩)),(14,(.j ⟨[0,5],[1],⟨[.d aM],[]⟩,[]⟩)),(16,(.j ⟨[0,1,5],[19],⟨[.d .bool],[]⟩,[]⟩))]⟩
def St:cq:=cn Ie oJ
def UG:FT:=⟨⟨uB,[]⟩,⟨[.d .bool],[]⟩,dL [(2,(.j ⟨[],[4],⟨[.d .bool],[]⟩,[]⟩))]⟩
def aal:cq:=cn UG iV
def If:FT:=⟨⟨[.d nE,.d aM,.d aM],[]⟩,⟨[.d .bool],[]⟩,dL [(2,(.j ⟨[],[6],⟨[.d .bool],[]⟩,[]⟩))]⟩
def Su:cq:=cn If mE
def Cc:FT:=⟨⟨[.d nE,.d pX],[]⟩,⟨[.d .bool],[]⟩,dL [(9,(.j ⟨[],[4],⟨[.d .bool],[]⟩,[]⟩)),(15,(.j ⟨[],[4],⟨[.d .bool],[]⟩,[]⟩)),(30,(.j ⟨[6],[2,3,59],⟨qI,abf⟩,[]⟩)),(37,(.j ⟨[],[4],⟨[.d .bool],[]⟩,[]⟩)),(40,(.j ⟨[6],[2,3,78],⟨qI,abf⟩,[]⟩)),(55,(.j ⟨[],[4],⟨[.d .bool],[]⟩,[]⟩)),(58,(.j ⟨[6],[2,3,98],⟨qI,abf⟩,[]⟩)),(72,(.j ⟨[6],[2,3,108],⟨qI,abf⟩,[]⟩)),(97,(.j ⟨[],[4],⟨[.d .bool],[]⟩,[]⟩)),(103,(.j ⟨[],[4],⟨[.d .bool],[]⟩,[]⟩))]⟩
def MU:cq:=cn Cc kV
def vp:FT:=⟨⟨[.d nE,.d aM,.d vE],[]⟩,⟨[.d .bool],[]⟩,dL [(5,(.j ⟨[1,7],[3,5,26],⟨qI,Zi⟩,[]⟩)),(16,(.j ⟨[1,7],[3,5,8],⟨uC,Zi⟩,[]⟩)),(28,(.j ⟨[1,7,8],[3,5,9,67],⟨CI,aew⟩,[]⟩)),(36,(.j ⟨[1,7,8],[3,5,9,100],⟨CI,aew⟩,[]⟩)),(44,(.j ⟨[1,7,8],[3,5,9,122],⟨CI,aew⟩,[]⟩)),(56,(.j ⟨[1,7,8,10],[3,5,11],⟨uC,Zi⟩,[]⟩))]⟩
def DI:cq:=cn vp hP
def Ih:FT:=⟨⟨[.d tB],[]⟩,⟨[.d .bool],[]⟩,dL [(3,(.j ⟨[],[1,17],⟨gx,[.cells 102 [.d tB]]⟩,[]⟩)),(14,(.j ⟨[],[1,3],⟨tw,[.cells 102 [.d tB]]⟩,[]⟩))]⟩
def Sw:cq:=cn Ih jk
def Cd:FT:=⟨⟨[.ptr 0 0,.d pX],ZB⟩,⟨[],ZC⟩,.leaf⟩
def MV:cq:=cn Cd cr
def pM:FT:=⟨⟨[.ptr 0 0,.d .ex,.d aM],ZB⟩,⟨[],ZC⟩,dL [(2,(.j ⟨[],[],⟨[],ZC⟩,[]⟩))]⟩
def IG:cq:=cn pM im
def G_ (n:Nat):cq:=cn pM (io n)
def wU:FT:=⟨⟨[.ptr 0 0,.d .sm],ZB⟩,⟨[],ZC⟩,.leaf⟩
def Fy:cq:=cn wU lx
def zE:FT:=⟨⟨[.ptr 0 0,.d .str],ZB⟩,⟨[.d aM],ZB⟩,dL [(6,(.j ⟨[1],[0,5],⟨tw,ZB⟩,[]⟩))]⟩
def J_:cq:=cn zE iZ
def pN:FT:=⟨⟨[.ptr 0 0,.d (.sl .sm)],ZB⟩,⟨[],ZC⟩,dL [(1,(.a [.ren 0 7])),(3,(.j ⟨[1],[0,4],⟨tw,ZC⟩,[]⟩))]⟩
def IH:cq:=cn pN sS
def G' (n:Nat):cq:=cn pN (dA n)
def uy:FT:=⟨⟨[.ptr 0 0,.d .sm],ZB⟩,⟨[],ZC⟩,dL [(1,(.a [.ren 0 7])),(10,(.j ⟨[],[],⟨[],ZC⟩,[]⟩)),(15,(.j ⟨[4,25],[0,3,31],⟨[.ptr 0 0,.ptr 2 0,.d .bool],[.cells 184 [.d (.sl j_),.d (.sl pZ),.d (.sl li),.d (.sl .str),.d (.sl .str),.d (.sl nO),.d (.sl .str),.row 3,.d aM,.d aM],.gone,.cells 198 [.d .sm],.rows 188 ah pX]⟩,[]⟩))]⟩
def JK (n:Nat):cq:=cn uy (eB n)
def pO:FT:=⟨⟨[.ptr 0 0,.d .sm],ZB⟩,⟨[],ZC⟩,.leaf⟩
def BE (n:Nat):cq:=cn pO (cV n)
def rL:FT:=⟨⟨[.ptr 0 0,.d .sm,.d aM,.d aM,.d aM],ZB⟩,⟨[],ZC⟩,.leaf⟩
def Fm (n:Nat):cq:=cn rL (dw n)
def Ce:FT:=⟨⟨[.d LF],[]⟩,⟨[.d tB,.d aM,.d aM],[]⟩,dL [(20,(.j ⟨[],[1,2,7,8,9],⟨[.ptr 0 0,.ptr 1 0,.ptr 2 0,.d aM,.d aM],[.cells 141 [.d LF],.cells 102 WJ,.cells 102 [.d (.sl j_),.d (.sl pZ),.d (.sl li),.d (.sl .str),.d (.sl .str),.d (.sl nO),.row 3],.rows 171 ah vE]⟩,[.cel 7 6 171 vE]⟩)),(32,(.a [.cel 10 7 188 pX])),(45,(.j ⟨[8,9],[1,2,7,10,11,12],⟨aet,ai5⟩,[]⟩)),(59,(.j ⟨[8,9,12,13],[1,2,7,10,11,14],⟨aet,ai5⟩,[]⟩))]⟩
def MW:cq:=cn Ce pB
def Ph:FT:=⟨⟨Kr,[]⟩,⟨[.d .bool],[]⟩,dL [(6,(.j ⟨[0,1],[5],⟨[.d aM],[]⟩,[]⟩))]⟩
def Yz:cq:=cn Ph pA
def Pf:FT:=⟨⟨Kr,[]⟩,⟨qe,[]⟩,dL [(6,(.j ⟨[0,1],[5],⟨[.d aM],[]⟩,[]⟩)),(8,(.j ⟨[0,1,5],[18],⟨[.d .bool],[]⟩,[]⟩)),(16,(.j ⟨[0,1,5],[32],⟨[.d .bool],[]⟩,[]⟩))]⟩
def Yy:cq:=cn Pf uT
def Ib:FT:=⟨⟨[.d (.sl aM),.d (.sl aM)],[]⟩,⟨qe,[]⟩,dL [(8,(.j ⟨[0,1],[5,6],⟨Kr,[]⟩,[]⟩)),(23,(.j ⟨[1],[5,7],⟨Kr,[]⟩,[]⟩))]⟩
def Sq:cq:=cn Ib qn
def zD:FT:=⟨⟨[.d aM],[]⟩,⟨[.d aM],[]⟩,dL [(3,(.j ⟨[0],[8],⟨[.d .bool],[]⟩,[]⟩))]⟩
def J9:cq:=cn zD lI
def Ll:FT:=⟨⟨[.d eH],[]⟩,⟨[.agg abc],Zj⟩,dL [(8,(.j ⟨[],[1,2,3,4],⟨DZ,[.cells 175 [.d eH],.cells 175 U5,.cells 175 [.d aM,.row 3,.row 4,.d aM],.rows 2 ah aM,.rows 53 ah (.sl aM)]⟩,[.cel 3 2 53 (.sl aM)]⟩))]⟩
def V6:cq:=cn Ll ca
def Lk:FT:=⟨⟨[.d pX,.agg abc],Zj⟩,⟨[.agg abc,.d .bool],Zj⟩,dL [(8,(.j ⟨[6],[2,3,4,7],⟨[.ptr 2 0,.ptr 3 0,.ptr 4 0,.d aM],af4⟩,[]⟩)),(17,(.j ⟨[6,7],[2,3,4,33],⟨[.ptr 2 0,.ptr 3 0,.ptr 4 0,.d .bool],af4⟩,[]⟩)),(32,(.j ⟨[],[2,3,4,8,9,10],⟨[.ptr 2 0,.ptr 3 0,.ptr 4 0,.d aM,.d .bool,.d (.sl aM)],af4⟩,[]⟩))]⟩
def V5:cq:=cn Lk uS
def ES:FT:=⟨⟨[.d vE,.d eH],[]⟩,⟨[.d eH,.d .bool],[]⟩,dL [(3,(.j ⟨[],[2,3,4,23],⟨CI,[.cells 171 [.d vE],.cells 175 [.d eH],.cells 175 U5]⟩,[]⟩)),(16,(.j ⟨[],[2,3,4,6],⟨DZ,ahx⟩,[]⟩)),(26,(.j ⟨[6],[2,3,4,44],⟨CI,ahx⟩,[]⟩))]⟩
def PY:cq:=cn ES mD
def H_:FT:=⟨⟨[.d nE],[]⟩,⟨[.d FM],[]⟩,dL [(8,(.j ⟨[],[1,2,3,4],⟨DZ,[.cells 31 [.d nE],.cells 84 AT,.cells 84 [.row 3,.d aM,.nil,.nil],.rows 153 ah dO]⟩,[.cel 3 0 153 dO]⟩)),(23,(.j ⟨[],[1,2,3,5],⟨DZ,[.cells 31 [.d nE],.cells 84 AT,.cells 84 [.row 3,.d aM,.row 4,.nil],.rows 153 ah dO,.rows 4 ah .bool]⟩,[.cel 3 2 4 .bool]⟩)),(38,(.j ⟨[],[1,2,3,6],⟨DZ,[.cells 31 [.d nE],.cells 84 AT,.cells 84 Ze,.rows 153 ah dO,.rows 4 ah .bool,.rows 155 ah gU]⟩,[.cel 3 3 155 gU]⟩)),(49,(.j ⟨[6],[1,2,3,7],⟨Zg,[.cells 31 [.d nE],.cells 84 AT,.cells 84 [.row 4,.d aM,.row 5,.row 6],.cells 155 [.d gU],.rows 153 ah dO,.rows 4 ah .bool,.rows 155 ah gU]⟩,[]⟩))]⟩
def So:cq:=cn H_ ql
def Li:FT:=⟨⟨[.d nE,.d FM],[]⟩,⟨[.d .bool],[]⟩,dL [(6,(.j ⟨[],[2,3,5],⟨uC,TA⟩,[]⟩)),(15,(.j ⟨[5],[2,3,31],⟨qI,TA⟩,[]⟩)),(23,(.j ⟨[],[4],⟨[.d .bool],[]⟩,[]⟩))]⟩
def V3:cq:=cn Li qm
def UF:FT:=⟨⟨uB,[]⟩,⟨[.d .bool],[]⟩,dL [(2,(.j ⟨[],[4],⟨[.d .bool],[]⟩,[]⟩))]⟩
def aak:cq:=cn UF py
def H9:FT:=⟨⟨[.d nE,.d aM,.d aM],[]⟩,⟨[.d .bool],[]⟩,dL [(6,(.j ⟨[2,7],[3,8],⟨gx,pe⟩,[]⟩)),(36,(.j ⟨[2,7],[3,18],⟨gx,pe⟩,[]⟩)),(46,(.j ⟨[2,7],[3,26],⟨gx,pe⟩,[]⟩)),(53,(.j ⟨[],[6],⟨[.d .bool],[]⟩,[]⟩)),(56,(.j ⟨[2,7],[3,43],⟨gx,pe⟩,[]⟩)),(71,(.j ⟨[],[6],⟨[.d .bool],[]⟩,[]⟩)),(74,(.j ⟨[2,7],[3,61],⟨gx,pe⟩,[]⟩)),(92,(.j ⟨[2,7],[3,71],⟨gx,pe⟩,[]⟩)),(102,(.j ⟨[2],[3,79],⟨gx,pe⟩,[]⟩))]⟩
def Sn:cq:=cn H9 sR
def Cb:FT:=⟨⟨[.d nE,.d FM,.d aM,.d aM,.d aM],[]⟩,⟨[.d .bool],[]⟩,dL [(3,(.j ⟨[2,3,4],[5,6,30],⟨qI,TA⟩,[]⟩)),(25,(.j ⟨[],[10],⟨[.d .bool],[]⟩,[]⟩)),(50,(.j ⟨[],[10],⟨[.d .bool],[]⟩,[]⟩)),(56,(.j ⟨[],[10],⟨[.d .bool],[]⟩,[]⟩)),(59,(.j ⟨[2,4,70],[5,6,11,119],⟨CI,[.cells 31 [.d nE],.cells 84 [.d FM],.cells 155 [.d gU]]⟩,[]⟩)),(99,(.j ⟨[2,4,70],[5,6,160],⟨qI,TA⟩,[]⟩)),(116,(.j ⟨[],[10],⟨[.d .bool],[]⟩,[]⟩)),(122,(.j ⟨[],[10],⟨[.d .bool],[]⟩,[]⟩))]⟩
def MT:cq:=cn Cb jO
def Ca:FT:=⟨⟨[.d FM,.d aM],[]⟩,⟨qe,[]⟩,dL [(8,(.j ⟨[1],[2,5,6],⟨Nl,Zf⟩,[.nil 5 3 aM]⟩)),(16,(.j ⟨[1,6],[2,5],⟨[.ptr 0 0,.row 1],Zf⟩,[]⟩)),(17,(.j ⟨[1,6],[2,5,30],⟨[.ptr 0 0,.row 1,.d .bool],Zf⟩,[]⟩))]⟩
def MS:cq:=cn Ca mZ
def B':FT:=⟨⟨Kr,[]⟩,⟨qe,[]⟩,dL [(8,(.j ⟨[0,1],[5,6],⟨[.row 0,.d aM],[.rows 3 ah aM]⟩,[.nil 5 3 aM]⟩)),(16,(.j ⟨[0,1,6],[5],⟨[.row 0],[.rows 3 ah aM]⟩,[]⟩))]⟩
def MR:cq:=cn B' px
def Lj:FT:=⟨⟨[.d FM],[]⟩,⟨[.agg FL],aeu⟩,dL [(8,(.j ⟨[],[1,2,3,4],⟨DZ,[.cells 84 [.d FM],.cells 84 AT,.cells 84 Ze,.rows 153 ah dO,.rows 4 ah .bool,.rows 155 ah gU]⟩,[.cel 3 0 153 dO]⟩))]⟩
def V4:cq:=cn Lj g_
def lU:FT:=⟨⟨[.agg FL,.d aM],aeu⟩,⟨qe,aeu⟩,dL [(8,(.j ⟨[1],[2,5,6],⟨[.ptr 3 0,.row 4,.d aM],af0⟩,[.nil 5 3 aM]⟩)),(16,(.j ⟨[1,6],[2,5],⟨[.ptr 3 0,.row 4],af0⟩,[]⟩)),(17,(.j ⟨[1,6],[2,5,30],⟨[.ptr 3 0,.row 4,.d .bool],af0⟩,[]⟩))]⟩
def J8:cq:=cn lU lH
def IF:cq:=⟨lU.pre,⟨lU.post.vs,[]⟩,ji⟩
def Ia:FT:=⟨⟨[.d nE,.d FM,.d aM,.d aM,.d aM,.d aM],[]⟩,⟨[.d FM,.d aM,.d .bool],[]⟩,dL [(17,(.j ⟨[],[7,12,15],⟨uC,af2⟩,[]⟩)),(26,(.j ⟨[2,4,5,15,30],[6,7,12,45],⟨CI,ahy⟩,[]⟩)),(34,(.j ⟨[2,4,5,15,30],[6,7,12,54],⟨CI,ahy⟩,[]⟩)),(90,(.j ⟨[],[7,12,17],⟨uC,af2⟩,[]⟩)),(109,(.j ⟨[18],[7,12,19],⟨uC,af2⟩,[]⟩))]⟩
def Sp:cq:=cn Ia oH
def H8:FT:=⟨⟨[.d tB],[]⟩,⟨[.d uF],[]⟩,dL [(16,(.j ⟨[],[1,2,3,4],⟨DZ,[.cells 102 [.d tB],.cells 97 uD,.cells 97 [.d (.sl dO),.d aM,.d pf,.d (.sl gU),.row 3,.nil,.nil],.rows 2 ah aM]⟩,[.cel 3 4 2 aM]⟩)),(31,(.j ⟨[],[1,2,3,5],⟨DZ,[.cells 102 [.d tB],.cells 97 uD,.cells 97 [.d (.sl dO),.d aM,.d pf,.d (.sl gU),.row 3,.row 4,.nil],.rows 2 ah aM,.rows 2 ah aM]⟩,[.cel 3 5 2 aM]⟩)),(46,(.j ⟨[],[1,2,3,6],⟨DZ,[.cells 102 [.d tB],.cells 97 uD,.cells 97 af1,.rows 2 ah aM,.rows 2 ah aM,.rows 175 ah eH]⟩,[.cel 3 6 175 eH]⟩))]⟩
def Sm:cq:=cn H8 sQ
def Lh:FT:=⟨⟨[.d tB,.d uF],[]⟩,⟨[.d .bool],[]⟩,dL [(3,(.j ⟨[],[2,3,46],⟨qI,Zh⟩,[]⟩)),(14,(.j ⟨[],[2,3,5],⟨uC,Zh⟩,[]⟩)),(25,(.j ⟨[5],[2,3,97],⟨qI,Zh⟩,[]⟩))]⟩
def V0:cq:=cn Lh uR
def Lf:FT:=⟨⟨[.d aM],[]⟩,⟨[.d aM],[]⟩,dL [(5,(.j ⟨[0],[3,10],⟨[.row 0,.d .bool],[.rows 3 ai aM]⟩,[]⟩))]⟩
def VY:cq:=cn Lf uP
def Ev:FT:=⟨⟨[.d pX,.d eH],[]⟩,⟨[.d aM],[]⟩,dL [(6,(.j ⟨[6],[2,3,7],⟨qI,[.cells 188 [.d pX],.cells 175 [.d eH]]⟩,[]⟩)),(28,(.j ⟨[],[2,40],⟨gx,[.cells 188 [.d pX]]⟩,[]⟩))]⟩
def Pu:cq:=cn Ev rc
def B_:FT:=⟨⟨[.d tB,.d uF,.d aM],[]⟩,⟨[.d iK,.d .bool],[]⟩,dL [(3,(.j ⟨[2],[3,4,6,25],⟨CI,[.cells 102 [.d tB],.cells 97 [.d uF],.cells 59 tN]⟩,[]⟩)),(54,(.j ⟨[],[6,8,9,10],⟨Zg,ahv⟩,[.cel 10 5 3 aM]⟩)),(59,(.j ⟨[],[6,8,9,10,98],⟨yo,[.cells 59 tN,.cells 175 [.d eH],.cells 188 [.d pX],.cells 59 tN]⟩,[]⟩)),(68,(.j ⟨[],[6,10],⟨[.ptr 0 0,.ptr 1 0],[.cells 59 tN,.cells 59 [.d aM,.d aM,.d aM,.d aM,.d aM,.row 2,.row 3],.rows 3 ah aM,.rows 3 ah aM]⟩,[.cel 10 6 3 aM]⟩)),(69,(.j ⟨[],[6,8,9,10,123],⟨yo,ahv⟩,[]⟩))]⟩
def MQ:cq:=cn B_ mY
def H6:FT:=⟨⟨[.d nE],[]⟩,⟨[.d iz],[]⟩,dL [(8,(.j ⟨[],[1,2,3,4],⟨DZ,[.cells 31 [.d nE],.cells 87 uD,.cells 87 af1,.rows 2 ah aM,.rows 2 ai aM,.rows 3 ai aM]⟩,[.cel 3 4 2 aM]⟩))]⟩
def Sk:cq:=cn H6 mj
def Ld:FT:=⟨⟨[.d nE,.d iz],[]⟩,⟨[.d .bool],[]⟩,dL [(2,(.j ⟨[],[4],⟨[.d .bool],[]⟩,[]⟩))]⟩
def VX:cq:=cn Ld uO
def UE:FT:=⟨⟨uB,[]⟩,⟨[.d .bool],[]⟩,dL [(2,(.j ⟨[],[4],⟨[.d .bool],[]⟩,[]⟩))]⟩
def aaj:cq:=cn UE By
def B9:FT:=⟨⟨Kr,[]⟩,⟨[.d .bool],[]⟩,dL [(6,(.j ⟨[0,1],[5],⟨[.d aM],[]⟩,[]⟩)),(15,(.j ⟨[0,1,5],[40],⟨[.d .bool],[]⟩,[]⟩))]⟩
def MP:cq:=cn B9 mX
def H4:FT:=⟨⟨[.d iz,.d iK],[]⟩,⟨[.d .bool],[]⟩,dL [(21,(.j ⟨[],[4],⟨[.d .bool],[]⟩,[]⟩)),(24,(.j ⟨[7],[2,3,40],⟨qI,[.cells 87 [.d iz],.cells 59 [.d iK]]⟩,[]⟩)),(47,(.j ⟨[],[4],⟨[.d .bool],[]⟩,[]⟩))]⟩
def Si:cq:=cn H4 sO
def Lc:FT:=⟨⟨[.d nE,.d iz,.d iK],[]⟩,⟨[.d iz,.d .bool],[]⟩,dL [(3,(.j ⟨[],[3,4,5,6,46],⟨yo,Jj⟩,[]⟩)),(10,(.j ⟨[],[3,4,5,6],⟨Zg,Jj⟩,[]⟩)),(11,(.j ⟨[],[3,4,5,6,55],⟨yo,Jj⟩,[]⟩)),(21,(.j ⟨[],[3,4,5,6,78],⟨yo,Jj⟩,[]⟩)),(28,(.j ⟨[],[3,4,5,6,8],⟨yo,Jj⟩,[]⟩)),(31,(.j ⟨[],[3,4,5,6,110],⟨yo,Jj⟩,[]⟩)),(39,(.j ⟨[],[3,4,5,6,125],⟨yo,Jj⟩,[]⟩)),(47,(.j ⟨[],[3,4,5,6,154],⟨yo,Jj⟩,[]⟩)),(58,(.j ⟨[],[3,4,5,6,9,10],⟨aet,[.cells 31 [.d nE],.cells 87 [.d iz],.cells 59 [.d iK],.cells 87 uD,.cells 87 [.nil,.d aM,.nil,.nil,.row 5,.row 6,.row 7],.rows 2 ah aM,.rows 2 ah aM,.rows 3 ah aM]⟩,[]⟩)),(66,(.j ⟨[],[5,6,9],⟨[.ptr 0 0,.ptr 1 0,.ptr 2 0],aer⟩,[]⟩)),(72,(.j ⟨[],[5,6,9],⟨[.ptr 0 0,.ptr 1 0,.ptr 2 0],aer⟩,[]⟩))]⟩
def VW:cq:=cn Lc qk
def H5:FT:=⟨⟨[.d (.sl iK),.d aM,.d aM,.d (.sl aM)],[]⟩,⟨[.d .bool],[]⟩,dL [(6,(.j ⟨[0,1,2,3],[9],⟨[.d aM],[]⟩,[]⟩)),(23,(.j ⟨[0,1,2,3,9],[10,11,12],⟨[.d aM,.d .bool,.d aM],[]⟩,[]⟩)),(31,(.j ⟨[0,1,2,3,9,12],[10,11],⟨[.d aM,.d .bool],[]⟩,[]⟩)),(38,(.j ⟨[0,1,2,3,9,10,12],[11],⟨[.d .bool],[]⟩,[]⟩))]⟩
def Sj:cq:=cn H5 qj
def H7:FT:=⟨⟨[.d od],[]⟩,⟨uB,[]⟩,dL [(24,(.j ⟨[],[1,4,5],⟨uC,[.cells 34 [.d od],.cells 87 [.d iz]]⟩,[]⟩)),(38,(.j ⟨[5],[1,4,7,63],⟨CI,[.cells 34 [.d od],.cells 87 [.d iz],.cells 87 [.d iz]]⟩,[]⟩))]⟩
def Sl:cq:=cn H7 sP
def ER:FT:=⟨⟨[.d uF],[]⟩,⟨[.agg [.agg FL,.row 3,.row 4,.csl 5 4 1]],[.rows 153 ah dO,.rows 4 ah .bool,.rows 155 ah gU,.rows 2 ah aM,.rows 2 ah aM,.cells 175 [.d aM,.row 6,.row 7,.d aM],.rows 2 ah aM,.rows 53 ah (.sl aM)]⟩,dL [(8,(.u 2))]⟩
def PW:cq:=cn ER mC
def EG:FT:=⟨⟨Ks,[]⟩,⟨Kt,[]⟩,dL [(27,(.s 5 0 0 1)),(37,(.j ⟨[],[3,4,5,6,7,9,14,15,16],⟨Kx,afd⟩,[]⟩)),(38,(.j ⟨[16,77],[3,4,5,6,7,9,14,15,78],⟨LD,afd⟩,[]⟩)),(83,(.j ⟨[16],[3,4,5,6,7,9,14],⟨Kv,[.cells 102 [.d tB],.cells 97 ad0,.cells 144 [.d ir],.cells 97 uD,.cells 59 tN,.cells 59 [.d iK],.cells 175 Jh,.rows 2 ah aM,.rows 2 ah aM,.cells 175 Jh,.rows 2 ah aM,.rows 53 ah (.sl aM)]⟩,[]⟩)),(84,(.j ⟨[16],[3,4,5,6,7,9,14,15,154],⟨LD,afd⟩,[]⟩)),(95,(.j ⟨[],[4,5,6,7,9,14],⟨Ku,[.cells 97 [.d (.sl dO),.d aM,.d pf,.d (.sl gU),.row 6,.row 7,.csl 8 4 1],.cells 144 [.d ir],.cells 97 uD,.cells 59 tN,.cells 59 [.d iK],.cells 175 [.d eH],.rows 2 ah aM,.rows 2 ah aM,.cells 175 [.d eH]]⟩,[]⟩)),(96,(.j ⟨[],[3,4,5,6,7,9,14,183],⟨Kw,[.cells 102 [.d tB],.cells 97 ad0,.cells 144 [.d ir],.cells 97 uD,.cells 59 tN,.cells 59 [.d iK],.cells 175 Ji,.rows 2 ah aM,.rows 2 ah aM,.cells 175 Ji]⟩,[]⟩)),(102,(.s 5 0 0 1)),(104,(.a [.pk 4 6 eH]))]⟩
def PH:cq:=cn EG fK
def EQ:FT:=⟨⟨[.d uF],[]⟩,⟨[.agg [.agg FL,.row 3,.row 4,.csl 5 4 2]],[.rows 153 ah dO,.rows 4 ah .bool,.rows 155 ah gU,.rows 2 ah aM,.rows 2 ah aM,.cells 175 [.d aM,.row 6,.row 7,.d aM,.d eH],.rows 2 ah aM,.rows 53 ah (.sl aM)]⟩,dL [(8,(.u 3))]⟩
def PU:cq:=cn EQ mB
def EE:FT:=⟨⟨Ks,[]⟩,⟨Kt,[]⟩,dL [(27,(.s 5 0 0 1)),(37,(.j ⟨[],[3,4,5,6,7,9,14,15,16],⟨Kx,aff⟩,[]⟩)),(38,(.j ⟨[16,77],[3,4,5,6,7,9,14,15,78],⟨LD,aff⟩,[]⟩)),(83,(.j ⟨[16],[3,4,5,6,7,9,14],⟨Kv,[.cells 102 [.d tB],.cells 97 abj,.cells 144 [.d ir],.cells 97 uD,.cells 59 tN,.cells 59 [.d iK],.cells 175 Jh,.rows 2 ah aM,.rows 2 ah aM,.cells 175 [.d aM,.row 10,.row 11,.d aM,.d eH],.rows 2 ah aM,.rows 53 ah (.sl aM)]⟩,[]⟩)),(84,(.j ⟨[16],[3,4,5,6,7,9,14,15,154],⟨LD,aff⟩,[]⟩)),(95,(.j ⟨[],[4,5,6,7,9,14],⟨Ku,ai3⟩,[]⟩)),(96,(.j ⟨[],[3,4,5,6,7,9,14,183],⟨Kw,[.cells 102 [.d tB],.cells 97 abj,.cells 144 [.d ir],.cells 97 uD,.cells 59 tN,.cells 59 [.d iK],.cells 175 Ji,.rows 2 ah aM,.rows 2 ah aM,.cells 175 [.d aM,.d (.sl aM),.d uE,.d aM,.d eH]]⟩,[]⟩)),(102,(.s 5 0 0 1)),(104,(.a [.pk 4 6 eH]))]⟩
def PF:cq:=cn EE gi
def EP:FT:=⟨⟨[.d uF],[]⟩,⟨[.agg [.agg FL,.row 3,.row 4,.csl 5 4 2]],[.rows 153 ah dO,.rows 4 ah .bool,.rows 155 ah gU,.rows 2 ah aM,.rows 2 ah aM,.cells 175 [.d eH,.d aM,.row 6,.row 7,.d aM],.rows 2 ah aM,.rows 53 ah (.sl aM)]⟩,dL [(8,(.u 3))]⟩
def PR:cq:=cn EP mA
def ED:FT:=⟨⟨Ks,[]⟩,⟨Kt,[]⟩,dL [(27,(.s 5 0 1 1)),(37,(.j ⟨[],[3,4,5,6,7,9,14,15,16],⟨Kx,afe⟩,[]⟩)),(38,(.j ⟨[16,77],[3,4,5,6,7,9,14,15,78],⟨LD,afe⟩,[]⟩)),(83,(.j ⟨[16],[3,4,5,6,7,9,14],⟨Kv,[.cells 102 [.d tB],.cells 97 abj,.cells 144 [.d ir],.cells 97 uD,.cells 59 tN,.cells 59 [.d iK],.cells 175 Jh,.rows 2 ah aM,.rows 2 ah aM,.cells 175 [.d eH,.d aM,.row 10,.row 11,.d aM],.rows 2 ah aM,.rows 53 ah (.sl aM)]⟩,[]⟩)),(84,(.j ⟨[16],[3,4,5,6,7,9,14,15,154],⟨LD,afe⟩,[]⟩)),(95,(.j ⟨[],[4,5,6,7,9,14],⟨Ku,ai3⟩,[]⟩)),(96,(.j ⟨[],[3,4,5,6,7,9,14,183],⟨Kw,[.cells 102 [.d tB],.cells 97 abj,.cells 144 [.d ir],.cells 97 uD,.cells 59 tN,.cells 59 [.d iK],.cells 175 Ji,.rows 2 ah aM,.rows 2 ah aM,.cells 175 [.d eH,.d aM,.d (.sl aM),.d uE,.d aM]]⟩,[]⟩)),(102,(.s 5 0 1 1)),(104,(.a [.pk 4 6 eH]))]⟩
def PD:cq:=cn ED fJ
def EO:FT:=⟨⟨[.d uF],[]⟩,⟨aeq,[.rows 153 ah dO,.rows 4 ah .bool,.rows 155 ah gU,.rows 2 ah aM,.rows 2 ah aM,.cells 175 [.d aM,.row 6,.row 7,.d aM,.d eH,.d eH],.rows 2 ah aM,.rows 53 ah (.sl aM)]⟩,dL [(8,(.u 4))]⟩
def PQ:cq:=cn EO mz
def EC:FT:=⟨⟨Ks,[]⟩,⟨Kt,[]⟩,dL [(27,(.s 5 0 0 1)),(37,(.j ⟨[],[3,4,5,6,7,9,14,15,16],⟨Kx,afi⟩,[]⟩)),(38,(.j ⟨[16,77],[3,4,5,6,7,9,14,15,78],⟨LD,afi⟩,[]⟩)),(83,(.j ⟨[16],[3,4,5,6,7,9,14],⟨Kv,[.cells 102 [.d tB],.cells 97 WL,.cells 144 [.d ir],.cells 97 uD,.cells 59 tN,.cells 59 [.d iK],.cells 175 Jh,.rows 2 ah aM,.rows 2 ah aM,.cells 175 [.d aM,.row 10,.row 11,.d aM,.d eH,.d eH],.rows 2 ah aM,.rows 53 ah (.sl aM)]⟩,[]⟩)),(84,(.j ⟨[16],[3,4,5,6,7,9,14,15,154],⟨LD,afi⟩,[]⟩)),(95,(.j ⟨[],[4,5,6,7,9,14],⟨Ku,af8⟩,[]⟩)),(96,(.j ⟨[],[3,4,5,6,7,9,14,183],⟨Kw,[.cells 102 [.d tB],.cells 97 WL,.cells 144 [.d ir],.cells 97 uD,.cells 59 tN,.cells 59 [.d iK],.cells 175 Ji,.rows 2 ah aM,.rows 2 ah aM,.cells 175 [.d aM,.d (.sl aM),.d uE,.d aM,.d eH,.d eH]]⟩,[]⟩)),(102,(.s 5 0 0 1)),(104,(.a [.pk 4 6 eH]))]⟩
def PC:cq:=cn EC iY
def EM:FT:=⟨⟨[.d uF],[]⟩,⟨aeq,[.rows 153 ah dO,.rows 4 ah .bool,.rows 155 ah gU,.rows 2 ah aM,.rows 2 ah aM,.cells 175 [.d eH,.d aM,.row 6,.row 7,.d aM,.d eH],.rows 2 ah aM,.rows 53 ah (.sl aM)]⟩,dL [(8,(.u 4))]⟩
def PP:cq:=cn EM my
def EB:FT:=⟨⟨Ks,[]⟩,⟨Kt,[]⟩,dL [(27,(.s 5 0 1 1)),(37,(.j ⟨[],[3,4,5,6,7,9,14,15,16],⟨Kx,afh⟩,[]⟩)),(38,(.j ⟨[16,77],[3,4,5,6,7,9,14,15,78],⟨LD,afh⟩,[]⟩)),(83,(.j ⟨[16],[3,4,5,6,7,9,14],⟨Kv,[.cells 102 [.d tB],.cells 97 WL,.cells 144 [.d ir],.cells 97 uD,.cells 59 tN,.cells 59 [.d iK],.cells 175 Jh,.rows 2 ah aM,.rows 2 ah aM,.cells 175 [.d eH,.d aM,.row 10,.row 11,.d aM,.d eH],.rows 2 ah aM,.rows 53 ah (.sl aM)]⟩,[]⟩)),(84,(.j ⟨[16],[3,4,5,6,7,9,14,15,154],⟨LD,afh⟩,[]⟩)),(95,(.j ⟨[],[4,5,6,7,9,14],⟨Ku,af8⟩,[]⟩)),(96,(.j ⟨[],[3,4,5,6,7,9,14,183],⟨Kw,[.cells 102 [.d tB],.cells 97 WL,.cells 144 [.d ir],.cells 97 uD,.cells 59 tN,.cells 59 [.d iK],.cells 175 Ji,.rows 2 ah aM,.rows 2 ah aM,.cells 175 [.d eH,.d aM,.d (.sl aM),.d uE,.d aM,.d eH]]⟩,[]⟩)),(102,(.s 5 0 1 1)),(104,(.a [.pk 4 6 eH]))]⟩
def PA:cq:=cn EB il
def EL:FT:=⟨⟨[.d uF],[]⟩,⟨aeq,[.rows 153 ah dO,.rows 4 ah .bool,.rows 155 ah gU,.rows 2 ah aM,.rows 2 ah aM,.cells 175 [.d eH,.d eH,.d aM,.row 6,.row 7,.d aM],.rows 2 ah aM,.rows 53 ah (.sl aM)]⟩,dL [(8,(.u 4))]⟩
def PO:cq:=cn EL mw
def EA:FT:=⟨⟨Ks,[]⟩,⟨Kt,[]⟩,dL [(27,(.s 5 0 2 1)),(37,(.j ⟨[],[3,4,5,6,7,9,14,15,16],⟨Kx,afg⟩,[]⟩)),(38,(.j ⟨[16,77],[3,4,5,6,7,9,14,15,78],⟨LD,afg⟩,[]⟩)),(83,(.j ⟨[16],[3,4,5,6,7,9,14],⟨Kv,[.cells 102 [.d tB],.cells 97 WL,.cells 144 [.d ir],.cells 97 uD,.cells 59 tN,.cells 59 [.d iK],.cells 175 Jh,.rows 2 ah aM,.rows 2 ah aM,.cells 175 [.d eH,.d eH,.d aM,.row 10,.row 11,.d aM],.rows 2 ah aM,.rows 53 ah (.sl aM)]⟩,[]⟩)),(84,(.j ⟨[16],[3,4,5,6,7,9,14,15,154],⟨LD,afg⟩,[]⟩)),(95,(.j ⟨[],[4,5,6,7,9,14],⟨Ku,af8⟩,[]⟩)),(96,(.j ⟨[],[3,4,5,6,7,9,14,183],⟨Kw,[.cells 102 [.d tB],.cells 97 WL,.cells 144 [.d ir],.cells 97 uD,.cells 59 tN,.cells 59 [.d iK],.cells 175 Ji,.rows 2 ah aM,.rows 2 ah aM,.cells 175 [.d eH,.d eH,.d aM,.d (.sl aM),.d uE,.d aM]]⟩,[]⟩)),(102,(.s 5 0 2 1)),(104,(.a [.pk 4 6 eH]))]⟩
def Pz:cq:=cn EA gO
def EK:FT:=⟨⟨[.d uF],[]⟩,⟨abi,[.rows 153 ah dO,.rows 4 ah .bool,.rows 155 ah gU,.rows 2 ah aM,.rows 2 ah aM,.cells 175 [.d aM,.row 6,.row 7,.d aM,.d eH,.d eH,.d eH],.rows 2 ah aM,.rows 53 ah (.sl aM)]⟩,dL [(8,(.u 5))]⟩
def PN:cq:=cn EK mr
def dt:FT:=⟨⟨Ks,[]⟩,⟨Kt,[]⟩,dL [(27,(.s 5 0 0 1)),(37,(.j ⟨[],[3,4,5,6,7,9,14,15,16],⟨Kx,afc⟩,[]⟩)),(38,(.j ⟨[16,77],[3,4,5,6,7,9,14,15,78],⟨LD,afc⟩,[]⟩)),(83,(.j ⟨[16],[3,4,5,6,7,9,14],⟨Kv,[.cells 102 [.d tB],.cells 97 QE,.cells 144 [.d ir],.cells 97 uD,.cells 59 tN,.cells 59 [.d iK],.cells 175 Jh,.rows 2 ah aM,.rows 2 ah aM,.cells 175 [.d aM,.row 10,.row 11,.d aM,.d eH,.d eH,.d eH],.rows 2 ah aM,.rows 53 ah (.sl aM)]⟩,[]⟩)),(84,(.j ⟨[16],[3,4,5,6,7,9,14,15,154],⟨LD,afc⟩,[]⟩)),(95,(.j ⟨[],[4,5,6,7,9,14],⟨Ku,abl⟩,[]⟩)),(96,(.j ⟨[],[3,4,5,6,7,9,14,183],⟨Kw,[.cells 102 [.d tB],.cells 97 QE,.cells 144 [.d ir],.cells 97 uD,.cells 59 tN,.cells 59 [.d iK],.cells 175 Ji,.rows 2 ah aM,.rows 2 ah aM,.cells 175 [.d aM,.d (.sl aM),.d uE,.d aM,.d eH,.d eH,.d eH]]⟩,[]⟩)),(102,(.s 5 0 0 1)),(104,(.a [.pk 4 6 eH]))]⟩
def Py:cq:=cn dt mm
def EJ:FT:=⟨⟨[.d uF],[]⟩,⟨abi,[.rows 153 ah dO,.rows 4 ah .bool,.rows 155 ah gU,.rows 2 ah aM,.rows 2 ah aM,.cells 175 [.d eH,.d aM,.row 6,.row 7,.d aM,.d eH,.d eH],.rows 2 ah aM,.rows 53 ah (.sl aM)]⟩,dL [(8,(.u 5))]⟩
def PL:cq:=cn EJ mq
def Ez:FT:=⟨⟨Ks,[]⟩,⟨Kt,[]⟩,dL [(27,(.s 5 0 1 1)),(37,(.j ⟨[],[3,4,5,6,7,9,14,15,16],⟨Kx,afb⟩,[]⟩)),(38,(.j ⟨[16,77],[3,4,5,6,7,9,14,15,78],⟨LD,afb⟩,[]⟩)),(83,(.j ⟨[16],[3,4,5,6,7,9,14],⟨Kv,[.cells 102 [.d tB],.cells 97 QE,.cells 144 [.d ir],.cells 97 uD,.cells 59 tN,.cells 59 [.d iK],.cells 175 Jh,.rows 2 ah aM,.rows 2 ah aM,.cells 175 [.d eH,.d aM,.row 10,.row 11,.d aM,.d eH,.d eH],.rows 2 ah aM,.rows 53 ah (.sl aM)]⟩,[]⟩)),(84,(.j ⟨[16],[3,4,5,6,7,9,14,15,154],⟨LD,afb⟩,[]⟩)),(95,(.j ⟨[],[4,5,6,7,9,14],⟨Ku,abl⟩,[]⟩)),(96,(.j ⟨[],[3,4,5,6,7,9,14,183],⟨Kw,[.cells 102 [.d tB],.cells 97 QE,.cells 144 [.d ir],.cells 97 uD,.cells 59 tN,.cells 59 [.d iK],.cells 175 Ji,.rows 2 ah aM,.rows 2 ah aM,.cells 175 [.d eH,.d aM,.d (.sl aM),.d uE,.d aM,.d eH,.d eH]]⟩,[]⟩)),(102,(.s 5 0 1 1)),(104,(.a [.pk 4 6 eH]))]⟩
def Px:cq:=cn Ez ml
def EI:FT:=⟨⟨[.d uF],[]⟩,⟨abi,[.rows 153 ah dO,.rows 4 ah .bool,.rows 155 ah gU,.rows 2 ah aM,.rows 2 ah aM,.cells 175 [.d eH,.d eH,.d aM,.row 6,.row 7,.d aM,.d eH],.rows 2 ah aM,.rows 53 ah (.sl aM)]⟩,dL [(8,(.u 5))]⟩
def PK:cq:=cn EI mo
def Ey:FT:=⟨⟨Ks,[]⟩,⟨Kt,[]⟩,dL [(27,(.s 5 0 2 1)),(37,(.j ⟨[],[3,4,5,6,7,9,14,15,16],⟨Kx,afa⟩,[]⟩)),(38,(.j ⟨[16,77],[3,4,5,6,7,9,14,15,78],⟨LD,afa⟩,[]⟩)),(83,(.j ⟨[16],[3,4,5,6,7,9,14],⟨Kv,[.cells 102 [.d tB],.cells 97 QE,.cells 144 [.d ir],.cells 97 uD,.cells 59 tN,.cells 59 [.d iK],.cells 175 Jh,.rows 2 ah aM,.rows 2 ah aM,.cells 175 [.d eH,.d eH,.d aM,.row 10,.row 11,.d aM,.d eH],.rows 2 ah aM,.rows 53 ah (.sl aM)]⟩,[]⟩)),(84,(.j ⟨[16],[3,4,5,6,7,9,14,15,154],⟨LD,afa⟩,[]⟩)),(95,(.j ⟨[],[4,5,6,7,9,14],⟨Ku,abl⟩,[]⟩)),(96,(.j ⟨[],[3,4,5,6,7,9,14,183],⟨Kw,[.cells 102 [.d tB],.cells 97 QE,.cells 144 [.d ir],.cells 97 uD,.cells 59 tN,.cells 59 [.d iK],.cells 175 Ji,.rows 2 ah aM,.rows 2 ah aM,.cells 175 [.d eH,.d eH,.d aM,.d (.sl aM),.d uE,.d aM,.d eH]]⟩,[]⟩)),(102,(.s 5 0 2 1)),(104,(.a [.pk 4 6 eH]))]⟩
def Pw:cq:=cn Ey kM
def EH:FT:=⟨⟨[.d uF],[]⟩,⟨abi,[.rows 153 ah dO,.rows 4 ah .bool,.rows 155 ah gU,.rows 2 ah aM,.rows 2 ah aM,.cells 175 [.d eH,.d eH,.d eH,.d aM,.row 6,.row 7,.d aM],.rows 2 ah aM,.rows 53 ah (.sl aM)]⟩,dL [(8,(.u 5))]⟩
def PI:cq:=cn EH mn
def Ew:FT:=⟨⟨Ks,[]⟩,⟨Kt,[]⟩,dL [(27,(.s 5 0 3 1)),(37,(.j ⟨[],[3,4,5,6,7,9,14,15,16],⟨Kx,af9⟩,[]⟩)),(38,(.j ⟨[16,77],[3,4,5,6,7,9,14,15,78],⟨LD,af9⟩,[]⟩)),(83,(.j ⟨[16],[3,4,5,6,7,9,14],⟨Kv,[.cells 102 [.d tB],.cells 97 QE,.cells 144 [.d ir],.cells 97 uD,.cells 59 tN,.cells 59 [.d iK],.cells 175 Jh,.rows 2 ah aM,.rows 2 ah aM,.cells 175 [.d eH,.d eH,.d eH,.d aM,.row 10,.row 11,.d aM],.rows 2 ah aM,.rows 53 ah (.sl aM)]⟩,[]⟩)),(84,(.j ⟨[16],[3,4,5,6,7,9,14,15,154],⟨LD,af9⟩,[]⟩)),(95,(.j ⟨[],[4,5,6,7,9,14],⟨Ku,abl⟩,[]⟩)),(96,(.j ⟨[],[3,4,5,6,7,9,14,183],⟨Kw,[.cells 102 [.d tB],.cells 97 QE,.cells 144 [.d ir],.cells 97 uD,.cells 59 tN,.cells 59 [.d iK],.cells 175 Ji,.rows 2 ah aM,.rows 2 ah aM,.cells 175 [.d eH,.d eH,.d eH,.d aM,.d (.sl aM),.d uE,.d aM]]⟩,[]⟩)),(102,(.s 5 0 3 1)),(104,(.a [.pk 4 6 eH]))]⟩
def Pv:cq:=cn Ew jN
def V2:cq:=cn dt yH
def Lg:FT:=⟨⟨[.d tB,.d uF,.nil,.d (.sl ir)],[]⟩,⟨[.d (.sl iK),.d uF],[]⟩,dL [(1,(.a [.nil 2 59 iK])),(6,(.j ⟨[3],[2,4,5,9,10],⟨[.row 0,.ptr 1 0,.ptr 2 0,.ptr 3 0,.d aM],aez⟩,[]⟩)),(8,(.j ⟨[3,10],[2,4,5,9,22],⟨[.row 0,.ptr 1 0,.ptr 2 0,.ptr 3 0,.d .bool],aez⟩,[]⟩)),(14,(.j ⟨[3,10],[2,4,5,9],⟨[.row 0,.ptr 1 0,.ptr 2 0,.ptr 3 0],aez⟩,[]⟩))]⟩
def VZ:cq:=cn Lg uQ
def Pe:FT:=⟨⟨[.d tB,.d (.sl ir)],[]⟩,⟨[.d od,.d uF],[]⟩,.leaf⟩
def Yx:cq:=cn Pe xz
def w7:FT:=⟨⟨tw,Qz⟩,⟨[.d aM],Qz⟩,dL [(3,(.j ⟨[1],[0,18],⟨gx,WG⟩,[]⟩))]⟩
def FF:cq:=cn w7 bp
def Lo:FT:=⟨⟨[.d aM],[]⟩,⟨[.d .ex],[]⟩,.leaf⟩
def Wb:cq:=cn Lo qv
def Ip:FT:=⟨⟨[.d .str],[]⟩,⟨[.d .ex],[]⟩,.leaf⟩
def S4:cq:=cn Ip oM
def Cj:FT:=⟨⟨[.d aM,.d .ex,.d .ex],[]⟩,⟨[.d .ex],[]⟩,.leaf⟩
def M3:cq:=cn Cj m8
def Ck:FT:=⟨⟨[.d .str,.d .ex],[]⟩,⟨[.d .sm],[]⟩,.leaf⟩
def M4:cq:=cn Ck iW
def E6:FT:=⟨⟨[],[]⟩,⟨[.d (.sl Fe)],[]⟩,.leaf⟩
def Qe:cq:=cn E6 rf
def zO:FT:=⟨⟨[.d CJ],[]⟩,⟨[.d (.sl ir)],[]⟩,dL [(8,(.j ⟨[0],[3,4],⟨[.row 0,.d aM],[.rows 144 ah ir]⟩,[.nil 3 144 ir]⟩))]⟩
def Kl:cq:=cn zO n_
def nz:FT:=⟨⟨tw,TB⟩,⟨[.d .ex],TB⟩,dL [(8,(.j ⟨[1,6],[0,4,5,14],⟨[.ptr 0 0,.ptr 3 0,.row 4,.d .bool],[.cells 192 acz,.cells 78 [.d xm],.rowsP 9 .str,.cells 196 [.d aM,.d aM,.d .str,.nil],.rows 9 ai .str]⟩,[]⟩))]⟩
def DN:cq:=cn nz eQ
def De (n:Nat):cq:=cn nz (hY n)
def ue:FT:=⟨⟨[.ptr 0 0,.d .str],TB⟩,⟨[.d .bool],TB⟩,.leaf⟩
def Cy:cq:=cn ue eA
def mb:FT:=⟨⟨QF,TB⟩,⟨[.row 4],[.cells 192 aex,.cells 78 Nn,.gone,.rowsP 9 .str,.rows 198 ah .sm]⟩,dL [(1,(.a [.ren 0 7])),(8,(.j ⟨[1,2],[0,7,8],⟨[.ptr 0 0,.row 3,.d aM],ahw⟩,[.nil 7 198 .sm]⟩)),(10,(.j ⟨[1,2,8],[0,7,22],⟨[.ptr 0 0,.row 3,.d .bool],ahw⟩,[]⟩)),(21,(.a [.nil 6 198 .sm]))]⟩
def Cx:cq:=cn mb pC
def BF (n:Nat):cq:=cn mb (dx n)
def qE:FT:=⟨⟨tw,TB⟩,⟨[.d .sm],[.cells 192 aex,.cells 78 Nn,.gone,.rowsP 9 .str]⟩,dL [(1,(.a [.ren 0 7])),(6,(.j ⟨[1,5],[0,4,6],⟨Jg,Zd⟩,[]⟩)),(28,(.j ⟨[1,5,6],[0,4,74],⟨Jg,Zd⟩,[]⟩)),(33,(.j ⟨[],[4,7],⟨[.ptr 3 0,.ptr 4 0],[.cells 192 [.ptr 1 0,.d aM,.d aM,.d .bool,.d .bool,.d .bool,.d .bool,.row 5],.cells 78 [.d xm],.gone,.cells 198 ad2,.cells 198 [.d aM,.d aM,.d .str,.d .str,.nil,.d aM,.d aM,.d .str,.d (.sl .ex),.row 6,.row 7],.rowsP 9 .str,.rows 198 ah .sm,.rows 198 ah .sm]⟩,[.cel 7 10 198 .sm]⟩)),(42,(.j ⟨[1,5,6],[0,4,100],⟨Jg,Zd⟩,[]⟩)),(56,(.j ⟨[1,5,6],[0,4,133],⟨Jg,Zd⟩,[]⟩)),(64,(.j ⟨[1,5,6],[0,4,165],⟨Jg,Zd⟩,[]⟩)),(70,(.j ⟨[1,5,6],[0,4,188],⟨Jg,Zd⟩,[]⟩)),(82,(.j ⟨[1,5,6],[0,4,210],⟨Jg,Zd⟩,[]⟩)),(94,(.j ⟨[5,6],[0,4,235],⟨Jg,Zd⟩,[]⟩)),(100,(.j ⟨[5],[0,4,258],⟨Jg,Zd⟩,[]⟩)),(106,(.j ⟨[5],[0,4,278],⟨Jg,Zd⟩,[]⟩)),(114,(.j ⟨[],[0,4,308],⟨Jg,Zd⟩,[]⟩))]⟩
def Dd (n:Nat):cq:=cn qE (ec n)
def pP:FT:=⟨⟨[.ptr 0 0,.d .str,.d aM],TB⟩,⟨[.d (.sl .sm)],[.cells 192 aex,.cells 78 Nn,.gone,.rowsP 9 .str]⟩,.leaf⟩
def BG (n:Nat):cq:=cn pP (dM n)
def zN:FT:=⟨⟨[.d CJ],[]⟩,⟨[.d LF],[]⟩,dL [(5,(.a [.cel 3 7 9 .str])),(14,(.j ⟨[5],[2,3,4,6,7],⟨[.ptr 0 0,.ptr 1 0,.ptr 2 0,.row 3,.d aM],[.cells 141 [.nil,.nil],.cells 192 [.ptr 4 0,.d aM,.d aM,.d .bool,.d .bool,.d .bool,.d .bool,.row 5],.cells 141 [.d (.sl Fe),.row 6],.rows 9 ai .str,.cells 78 [.d xm],.rowsP 9 .str,.rows 182 ah rN]⟩,[.cel 4 1 182 rN]⟩)),(27,(.j ⟨[5,7],[2,3,4,6,8],⟨[.ptr 0 0,.ptr 1 0,.ptr 2 0,.row 3,.ptr 4 0],La7⟩,[.cel 8 3 198 .sm]⟩)),(34,(.j ⟨[5,7],[2,3,4,6,8,9],⟨[.ptr 0 0,.ptr 1 0,.ptr 2 0,.row 3,.ptr 4 0,.d aM],La7⟩,[.cel 8 3 198 .sm]⟩)),(48,(.j ⟨[5,7],[2,3,4,6,8],⟨[.ptr 0 0,.ptr 1 0,.ptr 2 0,.row 3,.ptr 4 0],La7⟩,[]⟩)),(49,(.j ⟨[5,7],[2,3,4,6,8,79],⟨[.ptr 0 0,.ptr 1 0,.ptr 2 0,.row 3,.ptr 4 0,.d .bool],La7⟩,[]⟩))]⟩
def Kk:cq:=cn zN nZ
def Iq:FT:=⟨⟨[.d CJ],[]⟩,⟨[.d tB],[]⟩,.leaf⟩
def S5:cq:=cn Iq vV
def E7:FT:=⟨⟨[.d CJ,.d CJ],[]⟩,⟨[.d od],[]⟩,.leaf⟩
def Qf:cq:=cn E7 rh
def B7:FT:=⟨⟨[],[]⟩,⟨[.d nE],[]⟩,dL [(8,(.j ⟨[21],[0,1,22],⟨uC,abk⟩,[.cel 1 5 120 nO]⟩)),(22,(.j ⟨[2,21,22],[0,1,3],⟨uC,abk⟩,[]⟩))]⟩
def MN:cq:=cn B7 mW
def xU:FT:=⟨⟨[.d iz],[]⟩,⟨qe,[]⟩,dL [(8,(.j ⟨[8,9],[3,10],⟨[.row 0,.d aM],[.rows 3 ah aM]⟩,[.nil 3 3 aM]⟩)),(16,(.j ⟨[8,9,10],[3],⟨[.row 0],[.rows 3 ah aM]⟩,[]⟩))]⟩
def ID:cq:=cn xU ky
def B5:FT:=⟨⟨[],[]⟩,⟨qe,[]⟩,.leaf⟩
def ML:cq:=cn B5 r8
def zC:FT:=⟨⟨QF,Qz⟩,⟨[.d aM],Qz⟩,dL [(6,(.j ⟨[2,7],[0,8],⟨gx,WG⟩,[]⟩)),(16,(.j ⟨[2,7],[0,16],⟨gx,WG⟩,[]⟩)),(26,(.j ⟨[2,7],[0,21],⟨gx,WG⟩,[]⟩)),(44,(.j ⟨[2,7],[0,26],⟨gx,WG⟩,[]⟩)),(70,(.j ⟨[2],[0,33],⟨gx,WG⟩,[]⟩))]⟩
def J7:cq:=cn zC nW
def B4:FT:=⟨⟨[.ptr 0 0,.d iz,.d aM,.d aM],Qz⟩,⟨[.d aM],Qz⟩,dL [(18,(.j ⟨[10],[0,5,24],⟨qI,[.cells 78 [.d xm],.cells 87 [.d iz]]⟩,[]⟩))]⟩
def MJ:cq:=cn B4 pt
def Et:FT:=⟨⟨[.ptr 0 0,.row 1],[.cells 78 Nn,.rows 3 ah aM]⟩,⟨qe,[.cells 78 Nn,.rows 3 ah aM]⟩,dL [(8,(.j ⟨[9],[0,1,5,8,10],⟨[.ptr 0 0,.row 1,.row 2,.row 1,.d aM],aes⟩,[.nil 5 3 aM]⟩)),(16,(.j ⟨[9,10],[0,1,5,8],⟨[.ptr 0 0,.row 1,.row 2,.row 1],aes⟩,[]⟩)),(19,(.j ⟨[7,9,10],[0,1,5,8,24],⟨[.ptr 0 0,.row 1,.row 2,.row 1,.d .bool],aes⟩,[]⟩))]⟩
def Ps:cq:=cn Et gh
def B6:FT:=⟨⟨[.ptr 0 0,.d iz,.d nE,.csl 1 1 4],ahu⟩,⟨[.d iK],ahu⟩,dL [(8,(.j ⟨[9],[0,3,5,6,8,11],⟨[.ptr 0 0,.csl 1 1 4,.ptr 6 0,.ptr 7 0,.ptr 8 0,.ptr 9 0],ai0⟩,[]⟩)),(9,(.j ⟨[9],[0,3,5,6,8,11,36],⟨[.ptr 0 0,.csl 1 1 4,.ptr 6 0,.ptr 7 0,.ptr 8 0,.ptr 9 0,.d .bool],ai0⟩,[]⟩)),(18,(.j ⟨[9],[0,3,8,11],⟨[.ptr 0 0,.csl 1 1 4,.ptr 6 0,.ptr 7 0],ai1⟩,[]⟩)),(19,(.j ⟨[9],[0,3,8,11,74],⟨[.ptr 0 0,.csl 1 1 4,.ptr 6 0,.ptr 7 0,.d .bool],[.cells 78 [.d xm],.cells 53 Zb,.rows 3 ah aM,.rows 3 ah aM,.rows 3 ah aM,.rows 3 ah aM,.cells 59 tN,.cells 59 tN]⟩,[]⟩)),(22,(.s 9 0 0 4)),(24,(.j ⟨[],[8,11],⟨[.ptr 6 0,.ptr 7 0],[.cells 78 [.d xm],.cells 53 Zb,.rows 3 ah aM,.rows 3 ah aM,.rows 3 ah aM,.rows 3 ah aM,.cells 59 tN,.cells 59 [.d aM,.d aM,.d aM,.d aM,.d aM,.d (.sl aM),.d (.sl aM)]]⟩,[]⟩)),(25,(.j ⟨[9],[0,3,8,11,89],⟨[.ptr 0 0,.csl 1 1 4,.ptr 6 0,.ptr 7 0,.d .bool],ai1⟩,[]⟩)),(28,(.s 9 0 0 4))]⟩
def MM:cq:=cn B6 pu
def Eu:FT:=⟨⟨[.ptr 0 0,.d iz,.d nE,.d aM,.d .bool],Qz⟩,⟨[.d (.sl iK)],Qz⟩,dL [(8,(.a [.cel 12 0 3 aM,.cel 12 1 3 aM,.cel 12 2 3 aM,.cel 12 3 3 aM])),(9,(.j ⟨[3,11],[0,6,7,12],⟨[.ptr 0 0,.ptr 1 0,.ptr 2 0,.csl 3 1 4],af5⟩,[]⟩)),(10,(.u 5)),(18,(.j ⟨[3,4,11,22,23],[0,6,7,12],⟨[.ptr 0 0,.ptr 1 0,.ptr 2 0,.csl 3 1 4],af5⟩,[]⟩)),(21,(.j ⟨[3,4,11,13,22,23],[0,6,7,12,39],⟨[.ptr 0 0,.ptr 1 0,.ptr 2 0,.csl 3 1 4,.d .bool],af5⟩,[]⟩)),(29,(.j ⟨[3],[0,6,7,11,12],⟨[.ptr 0 0,.ptr 1 0,.ptr 2 0,.row 3,.csl 4 1 4],af6⟩,[.nil 11 59 iK]⟩)),(31,(.j ⟨[3],[0,6,7,11,12,65],⟨[.ptr 0 0,.ptr 1 0,.ptr 2 0,.row 3,.csl 4 1 4,.d .bool],af6⟩,[]⟩)),(36,(.j ⟨[3],[0,6,7,11,12],⟨[.ptr 0 0,.ptr 1 0,.ptr 2 0,.row 3,.csl 4 1 4],af6⟩,[]⟩)),(47,(.j ⟨[3],[0,6,7,11,12,14,15],⟨[.ptr 0 0,.ptr 1 0,.ptr 2 0,.row 3,.csl 4 1 4,.ptr 5 0,.ptr 6 0],ai2⟩,[]⟩)),(48,(.j ⟨[3],[0,6,7,11,12,14,15,87],⟨[.ptr 0 0,.ptr 1 0,.ptr 2 0,.row 3,.csl 4 1 4,.ptr 5 0,.ptr 6 0,.d .bool],ai2⟩,[]⟩)),(51,(.s 14 0 0 4))]⟩
def Pt:cq:=cn Eu q_
def B8:FT:=⟨⟨Nn,[]⟩,⟨[.d od],[]⟩,dL [(2,(.j ⟨[1],[0,4],⟨[.d CJ,.ptr 0 0],[.cells 34 WJ]⟩,[]⟩)),(22,(.j ⟨[1,9],[4,5,6,7,8,10],⟨[.ptr 0 0,.ptr 1 0,.ptr 2 0,.ptr 3 0,.row 4,.d aM],[.cells 34 WJ,.cells 78 [.d xm],.cells 34 [.d (.sl j_),.d (.sl pZ),.d (.sl li),.d (.sl .str),.d (.sl .str),.d (.sl nO),.nil],.cells 87 [.d iz],.rows 59 ai iK]⟩,[]⟩)),(37,(.j ⟨[1,48],[4,5,6,7,47,49],⟨[.ptr 0 0,.ptr 1 0,.ptr 2 0,.ptr 3 0,.row 4,.d aM],ai4⟩,[.cel 6 6 59 iK]⟩)),(45,(.j ⟨[1,48,49],[4,5,6,7,47],⟨[.ptr 0 0,.ptr 1 0,.ptr 2 0,.ptr 3 0,.row 4],ai4⟩,[]⟩))]⟩
def MO:cq:=cn B8 pw
def vo:FT:=⟨⟨[.d (.st (.pr CJ (.pr CJ CJ))),.d aM],[]⟩,⟨[.d od],[]⟩,.leaf⟩
def DH:cq:=cn vo kz
theorem JV:aG Pg 154 Ke:=mk zI jW an bY
theorem Hp:aG Pg 124 IJ:=mk xW jp (ac JV an) bY
theorem Ej:aG Pg 123 P_:=mk E4 kO an bY
theorem R2:aG Pg 155 SS:=mk Io qr an bY
theorem R1:aG Pg 125 SM:=mk In oL (ac Ej (ac R2 an)) bY
theorem rk:aG Pg 92 P':=mk E5 eR (ac Ej (ac Hp (ac R1 an))) bY
theorem Ho:aG Pg 209 Sy:=mk Ii fG an bY
theorem RP:aG Pg 187 Sz:=mk Ij sU (ac Ho an) bY
theorem ON:aG Pg 189 P3:=mk EY re (ac Ho an) bY
theorem RQ:aG Pg 186 SA:=mk Ik qo an bY
theorem JU:aG Pg 221 Kd:=mk zH lM an bY
theorem ve:∀ n:Nat,aG Pg 210 (Fo n)
 |0=>Od oy
 |n+1=>mk oy (lA (gR n)) (ac rk (ac (ve n) (ac JU an))) bY
theorem wM:aG Pg 210 FB:=(ve fuel)
theorem RZ:aG Pg 211 SK:=mk Im oK an bY
theorem qA:∀ n:Nat,aG Pg 190 (Fn n)/\aG Pg 164 (Dc n)
 |0=>⟨Od rM,Od ny⟩
 |n+1=>⟨mk rM (jL (dY n) (du n)) (ac rk (ac (qA n).2 (ac wM (ac RZ an)))) bY,mk ny (jd (dY n) (du n)) (ac (qA n).1 an) bY⟩
theorem Do:aG Pg 164 DK:=(qA fuel).2
theorem Fr:aG Pg 163 FA:=mk wW jJ (ac rk an) bY
theorem OP:aG Pg 132 P9:=mk E3 oZ (ac rk (ac Fr (ac Do an))) bY
theorem t8:aG Pg 93 aan:=mk UI iH an bY
theorem t7:aG Pg 165 P5:=mk E0 gQ an bY
theorem uv:aG Pg 166 Kc:=mk zG gC an bY
theorem OO:aG Pg 212 P4:=mk EZ oY (ac t8 (ac t7 (ac uv an))) bY
theorem K4:aG Pg 193 V7:=mk Lm gj (ac OO an) bY
theorem Em:∀ n:Nat,aG Pg 213 (RA n)
 |0=>Od wA
 |n+1=>mk wA (s8 (mK n)) (ac (Em n) an) bY
theorem RX:aG Pg 213 SH:=(Em fuel)
theorem El:∀ n:Nat,aG Pg 214 (Rz n)
 |0=>Od wz
 |n+1=>mk wz (s7 (mJ n)) (ac K4 (ac (El n) an)) bY
theorem RU:aG Pg 214 SD:=(El fuel)
theorem Vw:aG Pg 194 V8:=mk Ln lK (ac wM (ac RX (ac RU an))) bY
theorem Mt:aG Pg 195 MY:=mk Cg cS an bY
theorem Z':aG Pg 192 aam:=mk UH iG an bY
theorem Dn:aG Pg 191 DJ:=mk vq dJ an bY
theorem JR:aG Pg 167 Ka:=mk zF lJ (ac t8 (ac t7 (ac uv (ac Dn (ac Z' (ac K4 (ac Vw (ac Mt an)))))))) bY
theorem xL:∀ n:Nat,aG Pg 136 (JL n)
 |0=>Od qT
 |n+1=>mk qT (lQ (ij n)) (ac (xL n) (ac JR an)) bY
theorem JS:aG Pg 136 Kb:=(xL fuel)
theorem Eo:∀ n:Nat,aG Pg 135 (RB n)
 |0=>Od wB
 |n+1=>mk wB (s9 (mL n)) (ac (Eo n) an) bY
theorem RY:aG Pg 135 SJ:=(Eo fuel)
theorem RW:aG Pg 133 SE:=mk Il qp (ac t7 an) bY
theorem Ms:aG Pg 134 MX:=mk Cf m6 (ac t8 (ac t7 (ac uv an))) bY
theorem v8:aG Pg 96 MZ:=mk Ch eV (ac OP (ac RW (ac Ms (ac RY (ac JS an))))) bY
theorem Ek:∀ n:Nat,aG Pg 138 (Ry n)
 |0=>Od wy
 |n+1=>mk wy (v9 (oR n)) (ac (Ek n) an) bY
theorem RK:aG Pg 138 Sr:=(Ek fuel)
theorem Eg:aG Pg 137 PZ:=mk EU jP an bY
theorem Ei:aG Pg 196 P1:=mk EX kN an bY
theorem RO:aG Pg 97 Sv:=mk Ig sT (ac v8 (ac Eg (ac RK an))) bY
theorem RL:aG Pg 91 Ss:=mk Ic oI an bY
theorem wL:aG Pg 61 Fz:=mk wV gP (ac RL (ac rk (ac t8 an))) bY
theorem s5:aG Pg 100 II:=mk xV jm an bY
theorem Eh:aG Pg 157 P0:=mk EW oX an bY
theorem RM:aG Pg 127 St:=mk Ie oJ (ac Eh an) bY
theorem Mq:aG Pg 128 aal:=mk UG iV an bY
theorem RN:aG Pg 156 Su:=mk If mE (ac Mq an) bY
theorem Mp:aG Pg 126 MU:=mk Cc kV (ac Mq (ac RN an)) bY
theorem Dm:aG Pg 94 DI:=mk vp hP (ac s5 (ac Mp (ac RM (ac Mq an)))) bY
theorem AC:aG Pg 63 Sw:=mk Ih jk (ac wL (ac Dm an)) bY
theorem nj:aG Pg 99 MV:=mk Cd cr an bY
theorem wO:∀ n:Nat,aG Pg 172 (G_ n)
 |0=>Od pM
 |n+1=>mk pM (pG (io n)) (ac t8 (ac nj (ac (wO n) (ac Ei an)))) bY
theorem sZ:aG Pg 172 IG:=(wO fuel)
theorem Fq:aG Pg 168 Fy:=mk wU lx (ac t8 (ac nj (ac sZ (ac Ei an)))) bY
theorem JQ:aG Pg 171 J_:=mk zE iZ an bY
theorem jK:∀ n:Nat,aG Pg 98 (G' n)/\aG Pg 139 (JK n)/\aG Pg 169 (BE n)/\aG Pg 170 (Fm n)
 |0=>⟨Od pN,Od uy,Od pO,Od rL⟩
 |n+1=>⟨mk pN (pH (dA n) (eB n) (cV n) (dw n)) (ac (jK n).2.1 an) bY,mk uy (qR (dA n) (eB n) (cV n) (dw n)) (ac t8 (ac nj (ac Eg (ac Fq (ac (jK n).2.2.1 (ac (jK n).2.2.2 (ac JQ (ac sZ an)))))))) bY,mk pO (l8 (dA n) (eB n) (cV n) (dw n)) (ac (jK n).1 (ac nj (ac sZ an))) bY,mk rL (ou (dA n) (eB n) (cV n) (dw n)) (ac (jK n).1 (ac nj an)) bY⟩
theorem Hn:aG Pg 98 IH:=(jK fuel).1
theorem Mr:aG Pg 66 MW:=mk Ce pB (ac v8 (ac RO (ac Hn (ac nj (ac s5 an))))) bY
theorem Hm:aG Pg 82 Yz:=mk Ph pA an bY
theorem Ya:aG Pg 121 Yy:=mk Pf uT an bY
theorem Hl:aG Pg 85 Sq:=mk Ib qn (ac Ya an) bY
theorem JP:aG Pg 188 J9:=mk zD lI an bY
theorem kE:aG Pg 161 V6:=mk Ll ca an bY
theorem Vv:aG Pg 162 V5:=mk Lk uS (ac Hl (ac s5 (ac RP (ac JP (ac ON an))))) bY
theorem i_:aG Pg 131 PY:=mk ES mD (ac Eh (ac kE (ac Vv an))) bY
theorem Hk:aG Pg 53 So:=mk H_ ql an bY
theorem Dl:aG Pg 79 V3:=mk Li qm an bY
theorem Ur:aG Pg 80 aak:=mk UF py an bY
theorem RJ:aG Pg 81 Sn:=mk H9 sR (ac Ur an) bY
theorem BK:aG Pg 56 MT:=mk Cb jO (ac Dl (ac Ur (ac RJ (ac Hm an)))) bY
theorem Mo:aG Pg 83 MS:=mk Ca mZ an bY
theorem Mn:aG Pg 86 MR:=mk B' px an bY
theorem kD:aG Pg 84 V4:=mk Lj g_ an bY
theorem JO:aG Pg 83 J8:=mk lU lH an bY
theorem Hj:aG Pg 83 IF:= @aG.ro Pg 83 lU.pre lU.post.vs lH ji (JO.holds rfl) rfl (λx _ h=>by rw[show ji x=obind (lH x) λy=>same y.2 x.2 (aa y.1) from rfl] at h;exact h)
theorem jr:aG Pg 59 Sp:=mk Ia oH (ac BK (ac Hm (ac Hj (ac kD (ac Hl (ac Mn an)))))) bY
theorem RI:aG Pg 65 Sm:=mk H8 sQ (ac Hk (ac AC an)) bY
theorem Vt:aG Pg 158 V0:=mk Lh uR (ac AC (ac Dl an)) bY
theorem Vr:aG Pg 159 VY:=mk Lf uP an bY
theorem On:aG Pg 160 Pu:=mk Ev rc (ac RQ an) bY
theorem ii:aG Pg 129 MQ:=mk B_ mY (ac Vt (ac Vr (ac On an))) bY
theorem Hi:aG Pg 36 Sk:=mk H6 mj (ac Hk an) bY
theorem Vq:aG Pg 54 VX:=mk Ld uO (ac Dl an) bY
theorem Z_:aG Pg 55 aaj:=mk UE By an bY
theorem Mm:aG Pg 57 MP:=mk B9 mX an bY
theorem RF:aG Pg 58 Si:=mk H4 sO (ac Hm (ac Mo an)) bY
theorem Dk:aG Pg 38 VW:=mk Lc qk (ac Vq (ac Z_ (ac BK (ac Mm (ac RF (ac jr an)))))) bY
theorem RG:aG Pg 62 Sj:=mk H5 qj an bY
theorem RH:aG Pg 40 Sl:=mk H7 sP (ac Hi (ac Dk (ac wL (ac RG an)))) bY
def KB (t:TypeId):Option Ty:=if aA t 175 then aa (.pr .un eH) else bY t
theorem OM:aG Pg 130 PW:=mk ER mC (ac kD (ac kE an)) KB
theorem OA:aG Pg 95 PH:=mk EG fK (ac jr (ac ii (ac OM (ac i_ an)))) KB
theorem OL:aG Pg 130 PU:=mk EQ mB (ac kD (ac kE an)) KB
theorem Oz:aG Pg 95 PF:=mk EE gi (ac jr (ac ii (ac OL (ac i_ an)))) KB
theorem OK:aG Pg 130 PR:=mk EP mA (ac kD (ac kE an)) KB
theorem Oy:aG Pg 95 PD:=mk ED fJ (ac jr (ac ii (ac OK (ac i_ an)))) KB
theorem OJ:aG Pg 130 PQ:=mk EO mz (ac kD (ac kE an)) KB
theorem Ox:aG Pg 95 PC:=mk EC iY (ac jr (ac ii (ac OJ (ac i_ an)))) KB
theorem OH:aG Pg 130 PP:=mk EM my (ac kD (ac kE an)) KB
theorem Ow:aG Pg 95 PA:=mk EB il (ac jr (ac ii (ac OH (ac i_ an)))) KB
theorem OG:aG Pg 130 PO:=mk EL mw (ac kD (ac kE an)) KB
theorem Ov:aG Pg 95 Pz:=mk EA gO (ac jr (ac ii (ac OG (ac i_ an)))) KB
theorem OF:aG Pg 130 PN:=mk EK mr (ac kD (ac kE an)) KB
theorem Ou:aG Pg 95 Py:=mk dt mm (ac jr (ac ii (ac OF (ac i_ an)))) KB
theorem OE:aG Pg 130 PL:=mk EJ mq (ac kD (ac kE an)) KB
theorem Ot:aG Pg 95 Px:=mk Ez ml (ac jr (ac ii (ac OE (ac i_ an)))) KB
theorem OD:aG Pg 130 PK:=mk EI mo (ac kD (ac kE an)) KB
theorem Oq:aG Pg 95 Pw:=mk Ey kM (ac jr (ac ii (ac OD (ac i_ an)))) KB
theorem OC:aG Pg 130 PI:=mk EH mn (ac kD (ac kE an)) KB
theorem Oo:aG Pg 95 Pv:=mk Ew jN (ac jr (ac ii (ac OC (ac i_ an)))) KB
theorem Vu:aG Pg 95 V2:=(aG.orE (pre:=dt.pre) (post:=dt.post) (m:=mm) (m':=(λx=>orE (ml x) ((λx=>orE (kM x) ((λx=>orE (jN x) ((λx=>orE (iY x) ((λx=>orE (il x) ((λx=>orE (gO x) ((λx=>orE (gi x) ((λx=>orE (fJ x) (fK x)) x)) x)) x)) x)) x)) x)) x))) rfl Ou (aG.orE (pre:=dt.pre) (post:=dt.post) (m:=ml) (m':=(λx=>orE (kM x) ((λx=>orE (jN x) ((λx=>orE (iY x) ((λx=>orE (il x) ((λx=>orE (gO x) ((λx=>orE (gi x) ((λx=>orE (fJ x) (fK x)) x)) x)) x)) x)) x)) x))) rfl Ot (aG.orE (pre:=dt.pre) (post:=dt.post) (m:=kM) (m':=(λx=>orE (jN x) ((λx=>orE (iY x) ((λx=>orE (il x) ((λx=>orE (gO x) ((λx=>orE (gi x) ((λx=>orE (fJ x) (fK x)) x)) x)) x)) x)) x))) rfl Oq (aG.orE (pre:=dt.pre) (post:=dt.post) (m:=jN) (m':=(λx=>orE (iY x) ((λx=>orE (il x) ((λx=>orE (gO x) ((λx=>orE (gi x) ((λx=>orE (fJ x) (fK x)) x)) x)) x)) x))) rfl Oo (aG.orE (pre:=dt.pre) (post:=dt.post) (m:=iY) (m':=(λx=>orE (il x) ((λx=>orE (gO x) ((λx=>orE (gi x) ((λx=>orE (fJ x) (fK x)) x)) x)) x))) rfl Ox (aG.orE (pre:=dt.pre) (post:=dt.post) (m:=il) (m':=(λx=>orE (gO x) ((λx=>orE (gi x) ((λx=>orE (fJ x) (fK x)) x)) x))) rfl Ow (aG.orE (pre:=dt.pre) (post:=dt.post) (m:=gO) (m':=(λx=>orE (gi x) ((λx=>orE (fJ x) (fK x)) x))) rfl Ov (aG.orE (pre:=dt.pre) (post:=dt.post) (m:=gi) (m':=(λx=>orE (fJ x) (fK x))) rfl Oz (aG.orE (pre:=dt.pre) (post:=dt.post) (m:=fJ) (m':=fK) rfl Oy OA)))))))))
theorem Vs:aG Pg 64 VZ:=mk Lg uQ (ac Vu an) bY
theorem X':aG Pg 41 Yx:=mk Pe xz (ac AC (ac Vs (ac RI an))) bY
theorem fe:aG Pg 37 FF:=mk w7 bp an bY
theorem Dq:aG Pg 104 Wb:=mk Lo qv an bY
theorem Hw:aG Pg 175 S4:=mk Ip oM an bY
theorem BR:aG Pg 174 M3:=mk Cj m8 an bY
theorem BS:aG Pg 103 M4:=mk Ck iW an bY
theorem OR:aG Pg 101 Qe:=mk E6 rf an bY
theorem J1:aG Pg 43 Kl:=mk zO n_ an bY
theorem t_:∀ n:Nat,aG Pg 173 (De n)
 |0=>Od nz
 |n+1=>mk nz (nl (hY n)) (ac fe (ac Dq (ac (t_ n) (ac BR (ac Hw an))))) bY
theorem Dr:aG Pg 173 DN:=(t_ fuel)
theorem BQ:aG Pg 176 Cy:=mk ue eA (ac t8 an) bY
theorem js:∀ n:Nat,aG Pg 102 (BF n)/\aG Pg 140 (Dd n)/\aG Pg 177 (BG n)
 |0=>⟨Od mb,Od qE,Od pP⟩
 |n+1=>⟨mk mb (l_ (dx n) (ec n) (dM n)) (ac (js n).2.1 an) bY,mk qE (nk (dx n) (ec n) (dM n)) (ac fe (ac (js n).1 (ac BS (ac Dq (ac Dr (ac BR (ac Hw (ac BQ (ac (js n).2.2 an))))))))) bY,mk pP (ma (dx n) (ec n) (dM n)) (ac fe (ac (js n).1 an)) bY⟩
theorem BP:aG Pg 102 Cx:=(js fuel).1
theorem J0:aG Pg 67 Kk:=mk zN nZ (ac fe (ac v8 (ac OR (ac BP (ac BS (ac Dq an)))))) bY
theorem R4:aG Pg 42 S5:=mk Iq vV (ac Mr (ac J0 an)) bY
theorem OT:aG Pg 18 Qf:=mk E7 rh (ac X' (ac R4 (ac J1 an))) bY
theorem Mk:aG Pg 35 MN:=mk B7 mW an bY
theorem Hf:aG Pg 122 ID:=mk xU ky an bY
theorem Mi:aG Pg 87 ML:=mk B5 r8 an bY
theorem JN:aG Pg 88 J7:=mk zC nW (ac fe an) bY
theorem Mh:aG Pg 89 MJ:=mk B4 pt (ac fe (ac Hf an)) bY
theorem Oj:aG Pg 90 Ps:=mk Et gh (ac fe an) bY
theorem Mj:aG Pg 60 MM:=mk B6 pu (ac fe (ac Mi (ac JN (ac Mh (ac Oj an))))) bY
def tv1 (t:TypeId):Option Ty:=if aA t 53 then aa (.pr .un (.pr .un (.pr .un (.pr .un (.pr .un (.sl aM)))))) else bY t
theorem Ol:aG Pg 39 Pt:=mk Eu q_ (ac fe (ac Dk (ac Mj an))) tv1
theorem Ml:aG Pg 17 MO:=mk B8 pw (ac Mk (ac Hi (ac fe (ac Dk (ac Ol (ac RH an)))))) bY
theorem Dj:aG Pg 7 DH:=mk vo kz (ac Ml (ac OT an)) bY
abbrev aep:List PV:=[.row 1,.row 2,.row 3,.row 4,.row 5,.row 6,.d (.sl aM),.row 7,.row 8]
abbrev Ld0:List PB:=[.cells 107 aep,.rows 53 ai (.sl aM),.rows 53 ai (.sl aM),.rows 53 ai (.sl aM),.rows 53 ai (.sl aM),.rows 53 ai (.sl aM),.rows 53 ai (.sl aM),.rows 53 ai (.sl aM),.rows 3 ah aM,.rows 3 ai aM]
abbrev Ld4:List PV:=[.d aM,.d aM,.d aM,.d aM,.d aM,.d (.sl aM),.d (.sl aM)]
abbrev Ld3:List PV:=[.d (.sl j_),.d (.sl pZ),.d (.sl li),.d (.sl .str),.d (.sl .str),.d (.sl nO)]
abbrev Ld1:List PB:=[.cells 59 Ld4,.cells 107 [.row 3,.row 4,.row 5,.row 6,.row 7,.row 8,.d (.sl aM),.row 9,.row 10],.cells 31 Ld3,.rows 53 ai (.sl aM),.rows 53 ai (.sl aM),.rows 53 ai (.sl aM),.rows 53 ai (.sl aM),.rows 53 ai (.sl aM),.rows 53 ai (.sl aM),.rows 53 ai (.sl aM),.rows 3 ah aM]
abbrev Ld2:List PB:=[.cells 107 aep,.rows 53 ai (.sl aM),.rows 53 ai (.sl aM),.rows 53 ai (.sl aM),.rows 53 ai (.sl aM),.rows 53 ai (.sl aM),.rows 53 ai (.sl aM),.rows 53 ai (.sl aM),.rows 3 ah aM,.rows 3 ai aM,.cells 59 Ld4]
abbrev Ld5:List PB:=[.rows 153 ai dO,.rows 4 ah .bool,.rows 155 ah gU,.cells 84 FL]
abbrev Ld6:List PB:=[.rows 153 ai dO,.rows 4 ah .bool,.rows 155 ah gU]
abbrev U4:List PB:=[.rows 3 ah aM]
abbrev Ld8:List PB:=[.cells 87 [.d iz],.cells 59 [.d iK],.cells 235 [.d Kd1]]
abbrev Ld9:List PB:=[.rows 3 ah aM,.cells 3 [.d aM]]
abbrev ahr:List PB:=[.cells 31 [.d nE],.cells 84 [.row 4,.d aM,.row 5,.row 6],.cells 3 [.d aM],.cells 84 AT,.rows 153 ai dO,.rows 4 ah .bool,.rows 155 ah gU]
abbrev Nk:List PB:=[.rows 3 ai aM]
abbrev ahq:List PB:=[.cells 84 AT,.cells 84 [.row 2,.d aM,.row 3,.row 4],.rows 153 ai dO,.rows 4 ai .bool,.rows 155 ai gU]
abbrev abb:List PB:=[.cells 34 [.d od],.rows 47 ah ir]
abbrev Qy:List PV:=[.row 0,.d aM]
abbrev Za:List PB:=[.rows 53 ai (.sl aM)]
abbrev aeo:List PB:=[.rows 53 ai (.sl aM),.rows 3 ai aM]
abbrev WF:List PB:=[.cells 59 [.d iK]]
abbrev aen:List PV:=[.ptr 0 0,.ptr 1 0,.ptr 2 0]
def Lt:FT:=⟨⟨Kr,[]⟩,⟨[.d aM],[]⟩,dL [(3,(.j ⟨[0,1],[12],⟨[.d .bool],[]⟩,[]⟩))]⟩
def Wi:cq:=cn Lt jb
def E9:FT:=⟨⟨[.d (.sl aM),.d (.sl aM)],[]⟩,⟨qe,[]⟩,dL [(8,(.j ⟨[0,1,14],[5,15],⟨Qy,Nk⟩,[]⟩))]⟩
def Qj:cq:=cn E9 kP
def UK:FT:=⟨⟨qe,[]⟩,⟨qe,[]⟩,.leaf⟩
def CA:cq:=cn UK Mc
def adx:cq:=⟨CA.pre,CA.post,Av⟩
def Iu:FT:=⟨⟨[.d uE],[]⟩,⟨[.row 0],Za⟩,dL [(8,(.j ⟨[9,10],[3,11],⟨Qy,Za⟩,[]⟩))]⟩
def S9:cq:=cn Iu hX
def Pq:FT:=⟨⟨qe,[]⟩,⟨[.row 0],U4⟩,dL [(8,(.a [.nil 2 3 aM])),(12,(.a [.nil 2 3 aM]))]⟩
def yi:cq:=cn Pq G5
def aav:cq:=⟨yi.pre,yi.post,oq⟩
def Iv:FT:=⟨⟨[.d Kd0],[]⟩,⟨[.agg [.row 0,.row 1,.row 2,.row 3,.row 4,.row 5,.d (.sl aM),.row 6,.row 7]],[.rows 53 ai (.sl aM),.rows 53 ai (.sl aM),.rows 53 ai (.sl aM),.rows 53 ai (.sl aM),.rows 53 ai (.sl aM),.rows 53 ai (.sl aM),.rows 53 ai (.sl aM),.rows 3 ah aM]⟩,.leaf⟩
def S_:cq:=cn Iv sW
def Lp:FT:=⟨⟨Qy,Za⟩,⟨qe,Za⟩,dL [(3,(.j ⟨[1],[0,12],⟨[.row 0,.d .bool],Za⟩,[]⟩))]⟩
def Wc:cq:=cn Lp sA
def Ix:FT:=⟨⟨aen,Ld1⟩,⟨[.d uE],Ld1⟩,dL [(18,(.j ⟨[6],[0,1,2,25],⟨CI,Ld1⟩,[]⟩))]⟩
def Tb:cq:=cn Ix sX
def Lr:FT:=⟨⟨[.d nE],[]⟩,⟨[.d Kd0],[]⟩,dL [(8,(.j ⟨[40],[2,3,41],⟨uC,[.cells 107 [.nil,.nil,.nil,.nil,.nil,.nil,.nil,.nil,.nil],.cells 107 [.row 2,.row 3,.row 4,.row 5,.row 6,.row 7,.nil,.row 8,.row 9],.rows 53 ai (.sl aM),.rows 53 ai (.sl aM),.rows 53 ai (.sl aM),.rows 53 ai (.sl aM),.rows 53 ai (.sl aM),.rows 53 ai (.sl aM),.rows 53 ai (.sl aM),.rows 3 ai aM]⟩,[]⟩))]⟩
def We:cq:=cn Lr o6
def E8:FT:=⟨⟨Kr,[]⟩,⟨[.row 0],Nk⟩,dL [(4,(.j ⟨[0,1,5],[6],⟨[.d .bool],[]⟩,[]⟩)),(6,(.j ⟨[0,1,6],[5],⟨[.d aM],[]⟩,[]⟩)),(16,(.j ⟨[],[7],⟨[.row 0],Nk⟩,[]⟩)),(17,(.j ⟨[1],[7,33],⟨[.row 0,.d .bool],Nk⟩,[]⟩))]⟩
def Qi:cq:=cn E8 rj
def vx:FT:=⟨⟨[.row 0],Nk⟩,⟨qe,Nk⟩,.leaf⟩
def YM:cq:=cn vx uZ
def aau:cq:=⟨vx.pre,⟨vx.post.vs,[]⟩,tW⟩
def yQ:FT:=⟨⟨[.d (.sl aM),.row 0],Nk⟩,⟨qe,Nk⟩,dL [(8,(.j ⟨[0,14],[1,5,15],⟨[.row 0,.row 1,.d aM],[.rows 3 ai aM,.rows 3 ai aM]⟩,[]⟩))]⟩
def aas:cq:=cn yQ sa
def adw:cq:=⟨yQ.pre,⟨yQ.post.vs,[]⟩,Au⟩
def Is:FT:=⟨⟨[.row 0,.d aM,.row 1],aeo⟩,⟨[],aeo⟩,dL [(0,(.j ⟨[1],[0,2,13],⟨[.row 0,.row 1,.d .bool],aeo⟩,[]⟩))]⟩
def S7:cq:=cn Is kW
def Pj:FT:=⟨⟨[.ptr 0 0,.d aM,.row 9],Ld0⟩,⟨[],Ld0⟩,.leaf⟩
def YH:cq:=cn Pj uU
def Lq:FT:=⟨⟨[.d nE,.ptr 0 0,.d iK,.row 9],Ld0⟩,⟨[],Ld0⟩,dL [(6,(.j ⟨[],[],⟨[],Ld0⟩,[]⟩)),(11,(.j ⟨[20],[1,3,4,6,32],⟨[.ptr 0 0,.row 9,.ptr 10 0,.ptr 11 0,.d .bool],[.cells 107 aep,.rows 53 ai (.sl aM),.rows 53 ai (.sl aM),.rows 53 ai (.sl aM),.rows 53 ai (.sl aM),.rows 53 ai (.sl aM),.rows 53 ai (.sl aM),.rows 53 ai (.sl aM),.rows 3 ah aM,.rows 3 ai aM,.cells 31 Ld3,.cells 59 Ld4]⟩,[]⟩)),(48,(.j ⟨[],[1,3,6,129],⟨[.ptr 0 0,.row 9,.ptr 10 0,.d .bool],Ld2⟩,[]⟩)),(59,(.j ⟨[141],[1,3,6,140,142],⟨[.ptr 0 0,.row 9,.ptr 10 0,.row 8,.d aM],Ld2⟩,[]⟩)),(67,(.j ⟨[141,142],[1,3,6,140],⟨[.ptr 0 0,.row 9,.ptr 10 0,.row 8],Ld2⟩,[]⟩))]⟩
def Wd:cq:=cn Lq qw
def Pk:FT:=⟨⟨[.d nE,.d Kd0,.d iK],[]⟩,⟨[.d Kd0,.row 0],Nk⟩,dL [(14,(.j ⟨[22,23],[3,5,6,7,24],⟨[.ptr 0 0,.ptr 1 0,.ptr 2 0,.ptr 3 0,.d aM],[.cells 31 Ld3,.cells 59 Ld4,.cells 107 [.row 4,.row 5,.row 6,.row 7,.row 8,.row 9,.d (.sl aM),.row 10,.row 11],.cells 53 qe,.rows 53 ai (.sl aM),.rows 53 ai (.sl aM),.rows 53 ai (.sl aM),.rows 53 ai (.sl aM),.rows 53 ai (.sl aM),.rows 53 ai (.sl aM),.rows 53 ai (.sl aM),.rows 3 ah aM]⟩,[]⟩))]⟩
def YI:cq:=cn Pk ri
def vn:FT:=⟨⟨[.d .str],[]⟩,⟨[.d .bool],[]⟩,dL [(6,(.j ⟨[0,5],[6],⟨[.d aM],[]⟩,[]⟩))]⟩
def DG:cq:=cn vn kx
def zB:FT:=⟨⟨[.d .str],[]⟩,⟨[.d .bool],[]⟩,dL [(3,(.j ⟨[0],[16],⟨[.d .bool],[]⟩,[]⟩)),(14,(.j ⟨[],[18],⟨[.ptr 0 0],[.mp li .un]⟩,[]⟩)),(24,(.j ⟨[],[18],⟨[.ptr 0 0],[.mp li .un]⟩,[]⟩)),(25,(.j ⟨[3,4],[18,23],⟨gx,[.mp li .un]⟩,[]⟩)),(29,(.j ⟨[],[18,38],⟨gx,[.mp li .un]⟩,[]⟩))]⟩
def J6:cq:=cn zB nV
def IA:FT:=⟨⟨Kr,[]⟩,⟨[.d aM],[]⟩,dL [(6,(.j ⟨[0,1,7],[8],⟨[.d aM],[]⟩,[]⟩))]⟩
def Th:cq:=cn IA qx
def zR:FT:=⟨⟨Kr,[]⟩,⟨[.d .bool],[]⟩,.leaf⟩
def Kp:cq:=cn zR jY
def zQ:FT:=⟨⟨[.d (.sl aM),.d ir],[]⟩,⟨[.d .bool],[]⟩,.leaf⟩
def Ko:cq:=cn zQ lP
def Iw:FT:=⟨⟨[.d iK],[]⟩,⟨[.d .bool],[]⟩,dL [(2,(.j ⟨[],[2],⟨[.d .bool],[]⟩,[]⟩))]⟩
def Ta:cq:=cn Iw vY
def Cn:FT:=⟨⟨[.d od,.d aM,.d aM],[]⟩,⟨[.d .bool],[]⟩,dL [(5,(.j ⟨[],[3,7,8,30],⟨CI,[.cells 34 [.d od],.cells 59 [.d iK],.cells 59 [.d iK]]⟩,[]⟩)),(13,(.j ⟨[],[7,8,48],⟨qI,[.cells 59 [.d iK],.cells 59 [.d iK]]⟩,[]⟩)),(20,(.j ⟨[],[6],⟨[.d .bool],[]⟩,[]⟩))]⟩
def M7:cq:=cn Cn vX
def It:FT:=⟨⟨[.d (.sl iK)],[]⟩,⟨[.d (.sl ir)],[]⟩,dL [(10,(.j ⟨[11,12],[3,4,13],⟨[.mp 0,.row 1,.d aM],[.mp aM aM,.rows 55 ai ir]⟩,[.mpt 3 aM aM]⟩))]⟩
def S8:cq:=cn It mG
def w9:FT:=⟨⟨uB,[]⟩,⟨[.d .bool],[]⟩,dL [(2,(.j ⟨[],[4],⟨[.d .bool],[]⟩,[]⟩))]⟩
def FG:cq:=cn w9 rE
def w_:FT:=⟨⟨[.d nE,.d aM,.d .bool],[]⟩,⟨[.d .bool],[]⟩,dL [(2,(.j ⟨[],[6],⟨[.d .bool],[]⟩,[]⟩))]⟩
def FH:cq:=cn w_ rF
def rV:FT:=⟨⟨[.d (.sl j_)],[]⟩,⟨[.d (.sl .str),.d .bool],[]⟩,dL [(8,(.j ⟨[0],[4,5],⟨Qy,[.rows 9 ah .str]⟩,[.nil 4 9 .str]⟩)),(15,(.j ⟨[0],[4,5],⟨Qy,[.rows 9 ah .str]⟩,[]⟩)),(37,(.j ⟨[0,5],[4,6,49],⟨[.row 0,.ptr 1 0,.d .bool],[.rows 9 ah .str,.cells 114 [.d j_]]⟩,[]⟩)),(48,(.j ⟨[0,5,51],[4,6,52],⟨[.row 0,.ptr 1 0,.d aM],[.rows 9 ah .str,.cells 114 [.d j_]]⟩,[]⟩))]⟩
def zl:cq:=cn rV gL
def rU:FT:=⟨⟨[.d nE,.d (.sl .str)],[]⟩,⟨[.d .bool],[]⟩,dL [(10,(.j ⟨[17,18],[2,5,19],⟨Nl,WI⟩,[]⟩)),(27,(.j ⟨[30,31],[2,5,32],⟨Nl,WI⟩,[]⟩)),(50,(.j ⟨[52],[10,51,53],⟨[.mp 0,.row 1,.d aM],[.mp .str .bool,.rows 9 ah .str]⟩,[.mpt 10 .str .bool]⟩)),(62,(.j ⟨[12,52,53],[10,51,64],⟨[.mp 0,.row 1,.d .bool],[.mp .str .bool,.rows 9 ah .str]⟩,[.mpt 10 .str .bool]⟩))]⟩
def zk:cq:=cn rU dC
def rT:FT:=⟨⟨[.d nE],[]⟩,⟨[.d .bool],[]⟩,dL [(8,(.j ⟨[8,9],[1,3,4,10],⟨[.ptr 0 0,.d aM,.d aM,.d aM],pe⟩,[]⟩)),(20,(.j ⟨[3,4,8,9,10],[1,6,25],⟨qI,[.cells 31 [.d nE],.cells 120 [.d nO]]⟩,[]⟩)),(27,(.j ⟨[8,9,10],[1,3,4,6],⟨[.ptr 0 0,.d aM,.d aM,.ptr 1 0],[.cells 31 [.d nE],.cells 120 [.d nO]]⟩,[]⟩))]⟩
def zj:cq:=cn rT fH
def rW:FT:=⟨⟨[.d nE],[]⟩,⟨[.d .bool],[]⟩,dL [(3,(.j ⟨[],[1,34],⟨gx,pe⟩,[]⟩)),(11,(.j ⟨[],[1,44],⟨gx,pe⟩,[]⟩)),(21,(.j ⟨[],[1,58],⟨gx,pe⟩,[]⟩)),(32,(.j ⟨[60,61],[1,62],⟨tw,pe⟩,[]⟩))]⟩
def zm:cq:=cn rW dD
def zM:FT:=⟨⟨[.d nE],[]⟩,⟨[.d FM],[]⟩,dL [(8,(.j ⟨[20],[2,3,21],⟨uC,ahq⟩,[]⟩)),(21,(.j ⟨[],[2,3],⟨[.ptr 0 0,.ptr 1 0],ahq⟩,[]⟩))]⟩
def Ki:cq:=cn zM nY
def uc:FT:=⟨⟨[.d nE],[]⟩,⟨[.d iz],[]⟩,dL [(8,(.j ⟨[22,23],[2,3,24],⟨uC,[.cells 87 uD,.cells 87 [.d (.sl dO),.d aM,.d pf,.d (.sl gU),.row 2,.row 3,.row 4],.rows 2 ai aM,.rows 2 ai aM,.rows 3 ai aM]⟩,[]⟩))]⟩
def Cr:cq:=cn uc c4
def rx:FT:=⟨⟨[.d pf,.d iK],[]⟩,⟨[.d .bool],[]⟩,dL [(6,(.j ⟨[0,13],[14],⟨[.d aM],[]⟩,[]⟩)),(20,(.j ⟨[0,13,14,17,18],[19],⟨[.d aM],[]⟩,[]⟩)),(31,(.j ⟨[0,13,14,17,18,19],[37],⟨[.d .bool],[]⟩,[]⟩))]⟩
def ye:cq:=cn rx b_
def xX:FT:=⟨⟨uB,[]⟩,⟨[.d .bool],[]⟩,dL [(2,(.j ⟨[],[4],⟨[.d .bool],[]⟩,[]⟩))]⟩
def IK:cq:=cn xX eM
def wX:FT:=⟨⟨[.d nE,.d aM,.d aM],[]⟩,⟨[.d .bool],[]⟩,dL [(6,(.j ⟨[2,7],[3,8],⟨gx,pe⟩,[]⟩)),(36,(.j ⟨[2,7],[3,18],⟨gx,pe⟩,[]⟩)),(46,(.j ⟨[2,7],[3,26],⟨gx,pe⟩,[]⟩)),(53,(.j ⟨[],[6],⟨[.d .bool],[]⟩,[]⟩)),(56,(.j ⟨[2,7],[3,43],⟨gx,pe⟩,[]⟩)),(71,(.j ⟨[],[6],⟨[.d .bool],[]⟩,[]⟩)),(74,(.j ⟨[2,7],[3,61],⟨gx,pe⟩,[]⟩)),(92,(.j ⟨[2,7],[3,71],⟨gx,pe⟩,[]⟩)),(102,(.j ⟨[2],[3,79],⟨gx,pe⟩,[]⟩))]⟩
def FC:cq:=cn wX ly
def Ci:FT:=⟨⟨[.d nE,.d FM],[]⟩,⟨[.d .bool],[]⟩,dL [(3,(.j ⟨[],[2,31],⟨gx,pe⟩,[]⟩)),(14,(.j ⟨[33,34],[2,35],⟨tw,pe⟩,[]⟩))]⟩
def M0:cq:=cn Ci jQ
def zK:FT:=⟨⟨[.d nE,.d FM,.d aM,.d aM,.d aM],[]⟩,⟨[.d .bool],[]⟩,dL [(15,(.j ⟨[],[10],⟨[.d .bool],[]⟩,[]⟩)),(21,(.j ⟨[],[10],⟨[.d .bool],[]⟩,[]⟩)),(24,(.j ⟨[2,4,11],[5,6,60],⟨qI,TA⟩,[]⟩)),(64,(.j ⟨[2,4,11],[5,6,109],⟨qI,TA⟩,[]⟩)),(81,(.j ⟨[],[10],⟨[.d .bool],[]⟩,[]⟩)),(87,(.j ⟨[],[10],⟨[.d .bool],[]⟩,[]⟩))]⟩
def Kg:cq:=cn zK nX
def wY:FT:=⟨⟨[.d nE,.d FM,.d aM,.d aM,.d aM],[]⟩,⟨[.d .bool],[]⟩,dL [(3,(.j ⟨[2,3,4],[5,6,30],⟨qI,TA⟩,[]⟩)),(25,(.j ⟨[],[10],⟨[.d .bool],[]⟩,[]⟩)),(29,(.j ⟨[],[10],⟨[.d .bool],[]⟩,[]⟩))]⟩
def FD:cq:=cn wY iM
def vk:FT:=⟨⟨[.d nE,.d iz],[]⟩,⟨[.d .bool],[]⟩,dL [(2,(.j ⟨[],[4],⟨[.d .bool],[]⟩,[]⟩))]⟩
def DE:cq:=cn vk kw
def tf:FT:=⟨⟨[.d nE,.d iK],[]⟩,⟨[.d .bool],[]⟩,dL [(3,(.j ⟨[],[2,3,12],⟨qI,[.cells 31 [.d nE],.cells 59 [.d iK]]⟩,[]⟩)),(10,(.j ⟨[],[4],⟨[.d .bool],[]⟩,[]⟩))]⟩
def AG:cq:=cn tf jh
def pL:FT:=⟨⟨[.d nE,.d iz,.d iK],[]⟩,⟨[.d .bool],[]⟩,dL [(2,(.j ⟨[],[4,5,7],⟨qI,[.cells 87 [.d iz],.cells 59 [.d iK]]⟩,[]⟩)),(4,(.j ⟨[],[4,5,8],⟨aen,Ld8⟩,[]⟩)),(10,(.j ⟨[51],[4,5,8,52],⟨DZ,Ld8⟩,[]⟩)),(22,(.j ⟨[10,51,52],[4,5,8,64],⟨CI,Ld8⟩,[]⟩)),(34,(.j ⟨[51,52,65,66],[4,5,8,11,67],⟨[.ptr 0 0,.ptr 1 0,.ptr 2 0,.d aM,.d aM],Ld8⟩,[]⟩)),(46,(.j ⟨[13,51,52,65,66,67],[4,5,8,83],⟨CI,Ld8⟩,[]⟩))]⟩
def wE:cq:=cn pL eJ
def te:FT:=⟨⟨[.d iz,.d iK],[]⟩,⟨[.d .bool],[]⟩,dL [(21,(.j ⟨[],[4],⟨[.d .bool],[]⟩,[]⟩)),(24,(.j ⟨[13],[2,3,46],⟨qI,[.cells 87 [.d iz],.cells 59 [.d iK]]⟩,[]⟩)),(43,(.j ⟨[53,54],[3,5,6,55],⟨[.ptr 0 0,.d aM,.d .bool,.d aM],WF⟩,[]⟩)),(51,(.j ⟨[53,54,55],[3,5,6],⟨[.ptr 0 0,.d aM,.d .bool],WF⟩,[]⟩)),(54,(.j ⟨[5,6,7,53,54,55],[3,69],⟨gx,WF⟩,[]⟩)),(62,(.j ⟨[],[4],⟨[.d .bool],[]⟩,[]⟩)),(74,(.j ⟨[94,95],[3,9,96],⟨QF,WF⟩,[]⟩)),(82,(.j ⟨[94,95,96],[3,9],⟨tw,WF⟩,[]⟩)),(85,(.j ⟨[9,94,95,96],[3,109],⟨gx,WF⟩,[]⟩))]⟩
def AF:cq:=cn te gd
def zJ:FT:=⟨⟨[.d gU,.d aM],[]⟩,⟨[.d .bool],[]⟩,dL [(2,(.j ⟨[],[4],⟨[.d .bool],[]⟩,[]⟩))]⟩
def Kf:cq:=cn zJ lO
def Pr:FT:=⟨⟨[.d pf],[]⟩,⟨[.d pf],[]⟩,.leaf⟩
def yk:cq:=cn Pr G7
def aaw:cq:=⟨yk.pre,yk.post,Mb⟩
def Lx:FT:=⟨⟨[.d pf],[]⟩,⟨[.row 0],[.rows 4 ah .bool]⟩,dL [(8,(.a [.nil 2 4 .bool])),(12,(.a [.nil 2 4 .bool]))]⟩
def vC:cq:=cn Lx Db
def YO:cq:=⟨vC.pre,vC.post,G6⟩
def Pp:FT:=⟨⟨[.d (.sl gU)],[]⟩,⟨[.d (.sl gU)],[]⟩,.leaf⟩
def yh:cq:=cn Pp G4
def aat:cq:=⟨yh.pre,yh.post,Ma⟩
def Lv:FT:=⟨⟨[.d (.sl gU)],[]⟩,⟨[.row 0],[.rows 155 ah gU]⟩,dL [(8,(.a [.nil 2 155 gU])),(12,(.a [.nil 2 155 gU]))]⟩
def vA:cq:=cn Lv C'
def YL:cq:=⟨vA.pre,vA.post,G3⟩
def Lw:FT:=⟨⟨qe,[]⟩,⟨[.row 0],[.rows 2 ah aM]⟩,dL [(8,(.a [.nil 2 2 aM])),(12,(.a [.nil 2 2 aM]))]⟩
def vB:cq:=cn Lw Da
def YN:cq:=⟨vB.pre,vB.post,xC⟩
def zL:FT:=⟨⟨[.d FM],[]⟩,⟨[.agg FL],Ld6⟩,dL [(8,(.j ⟨[11,12],[1,2,3,13],⟨[.ptr 0 0,.ptr 1 0,.row 2,.d aM],[.cells 84 [.d FM],.cells 84 AT,.rows 153 ai dO]⟩,[]⟩))]⟩
def Kh:cq:=cn zL jX
def xY:FT:=⟨⟨[.agg FL,.d aM,.d aM],Ld6⟩,⟨[.d aM],Ld6⟩,dL [(8,(.j ⟨[1,2,12],[3,7,11,13],⟨[.ptr 3 0,.d aM,.row 2,.d aM],Ld5⟩,[]⟩)),(16,(.j ⟨[1,2,12,13],[3,7,11],⟨[.ptr 3 0,.d aM,.row 2],Ld5⟩,[]⟩)),(19,(.j ⟨[1,2,7,8,12,13],[3,11,29],⟨[.ptr 3 0,.row 2,.d .bool],Ld5⟩,[]⟩)),(25,(.j ⟨[7],[],⟨[],Ld6⟩,[]⟩))]⟩
def IL:cq:=cn xY jq
def ud:FT:=⟨⟨[.agg FL,.d aM],Ld6⟩,⟨[.d aM],Ld6⟩,dL [(8,(.j ⟨[1,10],[2,5,9,11],⟨[.ptr 3 0,.d aM,.row 2,.d aM],Ld5⟩,[]⟩)),(16,(.j ⟨[1,10,11],[2,5,9],⟨[.ptr 3 0,.d aM,.row 2],Ld5⟩,[]⟩))]⟩
def Cv:cq:=cn ud gF
def yc:FT:=⟨⟨[.d aM],[]⟩,⟨[.d .bool],[]⟩,.leaf⟩
def IY:cq:=cn yc pD
def zP:FT:=⟨⟨uB,[]⟩,⟨[.d .bool],[]⟩,dL [(2,(.j ⟨[],[4],⟨[.d .bool],[]⟩,[]⟩))]⟩
def Kn:cq:=cn zP uu
def vu:FT:=⟨⟨[.d (.int .u64)],[]⟩,⟨[.d aM],[]⟩,.leaf⟩
def DM:cq:=cn vu qu
def ya:FT:=⟨⟨[.d (.int .u64)],[]⟩,⟨[.d aM],[]⟩,.leaf⟩
def IR:cq:=cn ya sV
def nD:FT:=⟨⟨[.row 0,.d aM,.d aM],U4⟩,⟨[],U4⟩,dL [(3,(.j ⟨[1,2],[0,6],⟨Qy,U4⟩,[]⟩)),(15,(.j ⟨[1,2,6],[0,7],⟨Qy,U4⟩,[]⟩)),(17,(.j ⟨[1,2,6,7],[0,30],⟨[.row 0,.d .bool],U4⟩,[]⟩))]⟩
def tK:cq:=cn nD fA
def rS:FT:=⟨⟨[.row 0,.d aM,.d aM,.d aM],U4⟩,⟨[],U4⟩,dL [(5,(.j ⟨[],[0,1,2,3,8,9],⟨[.row 0,.d aM,.d aM,.d aM,.d .bool,.d .bool],U4⟩,[]⟩))]⟩
def zh:cq:=cn rS iQ
def Lu:FT:=⟨⟨[.row 0],U4⟩,⟨[],U4⟩,.leaf⟩
def Wj:cq:=cn Lu uY
def Cq:FT:=⟨⟨[.row 0],U4⟩,⟨[.row 0],U4⟩,dL [(14,(.j ⟨[],[0,3],⟨Qy,U4⟩,[]⟩))]⟩
def M':cq:=cn Cq kX
def wZ:FT:=⟨⟨[.d aM,.ptr 0 0],[.cells 3 [.d aM]]⟩,⟨[.d .bool],[.cells 3 [.d aM]]⟩,.leaf⟩
def FE:cq:=cn wZ oo
def yd:FT:=⟨⟨[.row 0,.clo 151 1 0],Ld9⟩,⟨[.d aM],Ld9⟩,dL [(6,(.j ⟨[7],[0,1,8],⟨[.row 0,.clo 151 1 0,.d aM],Ld9⟩,[]⟩))]⟩
def IZ:cq:=cn yd mI
def xa:FT:=⟨⟨[.row 0,.clo 151 1 0],Ld9⟩,⟨[.row 2],[.gone,.cells 3 [.d aM],.rows 3 ai aM]⟩,dL [(16,(.j ⟨[],[0,1,5,6],⟨[.row 0,.clo 151 1 0,.d aM,.d aM],Ld9⟩,[]⟩)),(24,(.j ⟨[6],[0,1,5],⟨[.row 0,.clo 151 1 0,.d aM],Ld9⟩,[]⟩))]⟩
def FI:cq:=cn xa iN
def mN:FT:=⟨⟨[.d nE,.d FM,.d aM,.d aM,.d aM,.d aM],[]⟩,⟨[.d FM,.d aM,.d .bool],[]⟩,dL [(17,(.j ⟨[],[7,12,15],⟨uC,[.cells 84 [.row 2,.d aM,.row 3,.row 4],.cells 84 AT,.rows 153 ai dO,.rows 4 ah .bool,.rows 155 ah gU]⟩,[]⟩)),(26,(.j ⟨[4,5,15,27],[6,7,8,12,42],⟨yo,ahr⟩,[]⟩)),(34,(.j ⟨[4,5,15,27],[6,7,8,12,51],⟨yo,ahr⟩,[]⟩))]⟩
def IQ:cq:=cn mN gG
def xZ:FT:=⟨⟨[.d FM],[]⟩,⟨[.agg [.csl 0 2 3,.d aM,.d pf,.d (.sl gU)]],[.cells 153 [.d aM,.row 1,.d aM,.row 2,.d aM,.row 3],.rows 3 ah aM,.rows 3 ah aM,.rows 3 ah aM]⟩,dL [(7,(.j ⟨[],[1,2,3],⟨[.ptr 0 0,.ptr 1 0,.csl 2 2 3],[.cells 84 [.d FM],.cells 84 AT,.cells 153 [.d aM,.row 3,.d aM,.row 4,.d aM,.row 5],.rows 3 ah aM,.rows 3 ah aM,.rows 3 ah aM]⟩,[.cel 3 1 3 aM,.cel 3 3 3 aM,.cel 3 5 3 aM]⟩)),(8,(.u 4))]⟩
def IN:cq:=cn xZ mF
def x_:FT:=⟨⟨[.d nE,.d FM,.d aM,.d aM,.d aM,.d aM],[]⟩,⟨[.d FM,.d aM,.d .bool],[]⟩,dL [(17,(.j ⟨[],[7,12,15],⟨uC,[.cells 84 [.csl 2 2 3,.d aM,.d pf,.d (.sl gU)],.cells 84 AT,.cells 153 [.d dO,.d dO,.d aM,.row 3],.rowsP 3 aM]⟩,[]⟩)),(26,(.j ⟨[4,5,15,27],[6,7,8,12,42],⟨yo,[.cells 31 [.d nE],.cells 84 [.csl 4 2 3,.d aM,.d pf,.d (.sl gU)],.cells 3 [.d aM],.cells 84 AT,.cells 153 [.d aM,.row 5,.d aM,.row 6,.d aM,.row 7],.rows 3 ah aM,.rows 3 ah aM,.rows 3 ah aM]⟩,[]⟩)),(33,(.s 4 0 0 0)),(34,(.j ⟨[4,5,15,27],[6,7,8,12,51],⟨yo,[.cells 31 [.d nE],.cells 84 [.csl 4 2 3,.d aM,.d pf,.d (.sl gU)],.cells 3 [.d aM],.cells 84 AT,.cells 153 [.d aM,.d (.sl aM),.d aM,.d (.sl aM),.d aM,.row 5],.rows 3 ah aM]⟩,[]⟩)),(41,(.s 4 0 0 0)),(46,(.s 4 0 0 3)),(53,(.s 4 0 0 3)),(74,(.s 4 0 0 0)),(80,(.s 4 0 0 0)),(100,(.a [.pk 7 0 dO]))]⟩
def IP:cq:=cn x_ kA
def Kj:cq:=cn mN qO
def vm:FT:=⟨⟨[.d nE,.d iz,.d iK],[]⟩,⟨[.d iz,.d .bool],[]⟩,dL [(3,(.j ⟨[],[3,4,5,6,39],⟨yo,Jj⟩,[]⟩)),(11,(.j ⟨[],[3,4,5,6,70],⟨yo,Jj⟩,[]⟩)),(20,(.j ⟨[],[3,4,5,6,8],⟨[.ptr 0 0,.ptr 1 0,.ptr 2 0,.ptr 3 0,.d aM],Jj⟩,[]⟩)),(41,(.j ⟨[],[5,6,12],⟨aen,aer⟩,[]⟩))]⟩
def DF:cq:=cn vm fw
def tu:FT:=⟨⟨[.d od],[]⟩,⟨uB,[]⟩,dL [(26,(.j ⟨[27,28],[1,4,5,29],⟨[.ptr 0 0,.ptr 1 0,.csl 2 1 1,.d aM],[.cells 34 [.d od],.cells 87 [.d iz],.cells 81 [.row 3],.rows 4 ah .bool]⟩,[.cel 5 0 4 .bool]⟩)),(40,(.j ⟨[6,27,28,29],[1,4,5,7,8,53],⟨[.ptr 0 0,.ptr 1 0,.csl 2 1 1,.ptr 3 0,.ptr 4 0,.d .bool],[.cells 34 [.d od],.cells 87 [.d iz],.cells 81 [.row 5],.cells 59 [.d iK],.cells 87 [.d iz],.rows 4 ah .bool]⟩,[]⟩)),(41,(.s 7 0 0 1)),(47,(.j ⟨[27,28,29],[1,4,5,8],⟨[.ptr 0 0,.ptr 1 0,.csl 2 1 1,.ptr 3 0],[.cells 34 [.d od],.cells 87 [.d iz],.cells 81 [.row 4],.cells 87 [.d iz],.rows 4 ah .bool]⟩,[]⟩)),(48,(.s 7 0 0 1))]⟩
def AL:cq:=cn tu dU
def tm:FT:=⟨⟨[.d od],[]⟩,⟨uB,[]⟩,dL [(26,(.j ⟨[27,28],[1,4,5,29],⟨[.ptr 0 0,.ptr 1 0,.csl 2 1 2,.d aM],[.cells 34 [.d od],.cells 87 [.d iz],.cells 81 [.row 3,.row 4],.rows 4 ah .bool,.rows 4 ah .bool]⟩,[.cel 5 0 4 .bool,.cel 5 1 4 .bool]⟩)),(40,(.j ⟨[6,27,28,29],[1,4,5,7,8,53],⟨[.ptr 0 0,.ptr 1 0,.csl 2 1 2,.ptr 3 0,.ptr 4 0,.d .bool],[.cells 34 [.d od],.cells 87 [.d iz],.cells 81 [.row 5,.row 6],.cells 59 [.d iK],.cells 87 [.d iz],.rows 4 ah .bool,.rows 4 ah .bool]⟩,[]⟩)),(41,(.s 7 0 0 2)),(47,(.j ⟨[27,28,29],[1,4,5,8],⟨[.ptr 0 0,.ptr 1 0,.csl 2 1 2,.ptr 3 0],[.cells 34 [.d od],.cells 87 [.d iz],.cells 81 [.row 4,.row 5],.cells 87 [.d iz],.rows 4 ah .bool,.rows 4 ah .bool]⟩,[]⟩)),(48,(.s 7 0 0 2))]⟩
def AK:cq:=cn tm c5
def tj:FT:=⟨⟨[.d od],[]⟩,⟨uB,[]⟩,dL [(26,(.j ⟨[27,28],[1,4,5,29],⟨[.ptr 0 0,.ptr 1 0,.csl 2 1 3,.d aM],[.cells 34 [.d od],.cells 87 [.d iz],.cells 81 [.row 3,.row 4,.row 5],.rows 4 ah .bool,.rows 4 ah .bool,.rows 4 ah .bool]⟩,[.cel 5 0 4 .bool,.cel 5 1 4 .bool,.cel 5 2 4 .bool]⟩)),(40,(.j ⟨[6,27,28,29],[1,4,5,7,8,53],⟨[.ptr 0 0,.ptr 1 0,.csl 2 1 3,.ptr 3 0,.ptr 4 0,.d .bool],[.cells 34 [.d od],.cells 87 [.d iz],.cells 81 [.row 5,.row 6,.row 7],.cells 59 [.d iK],.cells 87 [.d iz],.rows 4 ah .bool,.rows 4 ah .bool,.rows 4 ah .bool]⟩,[]⟩)),(41,(.s 7 0 0 3)),(47,(.j ⟨[27,28,29],[1,4,5,8],⟨[.ptr 0 0,.ptr 1 0,.csl 2 1 3,.ptr 3 0],[.cells 34 [.d od],.cells 87 [.d iz],.cells 81 [.row 4,.row 5,.row 6],.cells 87 [.d iz],.rows 4 ah .bool,.rows 4 ah .bool,.rows 4 ah .bool]⟩,[]⟩)),(48,(.s 7 0 0 3))]⟩
def AJ:cq:=cn tj dz
def eK:FT:=⟨⟨[.d od],[]⟩,⟨uB,[]⟩,dL [(26,(.j ⟨[27,28],[1,4,5,29],⟨[.ptr 0 0,.ptr 1 0,.csl 2 1 4,.d aM],[.cells 34 [.d od],.cells 87 [.d iz],.cells 81 [.row 3,.row 4,.row 5,.row 6],.rows 4 ah .bool,.rows 4 ah .bool,.rows 4 ah .bool,.rows 4 ah .bool]⟩,[.cel 5 0 4 .bool,.cel 5 1 4 .bool,.cel 5 2 4 .bool,.cel 5 3 4 .bool]⟩)),(40,(.j ⟨[6,27,28,29],[1,4,5,7,8,53],⟨[.ptr 0 0,.ptr 1 0,.csl 2 1 4,.ptr 3 0,.ptr 4 0,.d .bool],[.cells 34 [.d od],.cells 87 [.d iz],.cells 81 [.row 5,.row 6,.row 7,.row 8],.cells 59 [.d iK],.cells 87 [.d iz],.rows 4 ah .bool,.rows 4 ah .bool,.rows 4 ah .bool,.rows 4 ah .bool]⟩,[]⟩)),(41,(.s 7 0 0 4)),(47,(.j ⟨[27,28,29],[1,4,5,8],⟨[.ptr 0 0,.ptr 1 0,.csl 2 1 4,.ptr 3 0],[.cells 34 [.d od],.cells 87 [.d iz],.cells 81 [.row 4,.row 5,.row 6,.row 7],.cells 87 [.d iz],.rows 4 ah .bool,.rows 4 ah .bool,.rows 4 ah .bool,.rows 4 ah .bool]⟩,[]⟩)),(48,(.s 7 0 0 4))]⟩
def AH:cq:=cn eK dT
def Ct:cq:=cn eK lZ
def Iy:FT:=⟨⟨[.d od],[]⟩,⟨[.d uE,.d aM],[]⟩,dL [(20,(.j ⟨[25,26],[1,6,7,27],⟨[.ptr 0 0,.ptr 1 0,.row 2,.d aM],[.cells 34 [.d od],.cells 107 [.d Kd0],.rows 53 ai (.sl aM)]⟩,[]⟩))]⟩
def Tc:cq:=cn Iy mH
def Ls:FT:=⟨⟨[.d od],[]⟩,⟨[.d (.sl ir),.d aM],[]⟩,dL [(20,(.j ⟨[4,6,23],[1,7,24],⟨Nl,abb⟩,[.nil 7 47 ir]⟩)),(34,(.j ⟨[4,6,8,23,24,27],[1,7,28],⟨Nl,abb⟩,[]⟩)),(42,(.j ⟨[4,6,8,23,24,27,28],[1,7],⟨[.ptr 0 0,.row 1],abb⟩,[]⟩)),(45,(.j ⟨[4,6,8,9,23,24,27,28],[1,7,46],⟨[.ptr 0 0,.row 1,.d .bool],abb⟩,[]⟩))]⟩
def Wf:cq:=cn Ls sB
def UJ:FT:=⟨⟨[],[]⟩,⟨[.d nE],[]⟩,dL [(8,(.j ⟨[21],[0,1,22],⟨uC,abk⟩,[.cel 1 5 120 nO]⟩)),(22,(.j ⟨[2,21,22],[0,1,3],⟨uC,abk⟩,[]⟩))]⟩
def aar:cq:=cn UJ BA
def Ir:FT:=⟨⟨[.d .bool],[]⟩,⟨[.d od],[]⟩,dL [(6,(.j ⟨[],[2,3],⟨[.ptr 0 0,.ptr 1 0],[.cells 34 WJ,.cells 34 [.d (.sl j_),.d (.sl pZ),.d (.sl li),.d (.sl .str),.d (.sl .str),.d (.sl nO),.row 2],.rows 59 ai iK]⟩,[]⟩))]⟩
def S6:cq:=cn Ir vW
def Cl:FT:=⟨⟨[],[]⟩,⟨[.d .bool],[]⟩,dL [(6,(.j ⟨[],[0],⟨[.d .bool],[]⟩,[]⟩))]⟩
def M5:cq:=cn Cl r9
theorem Ds:aG Pg 48 Wi:=mk Lt jb an bY
theorem Oa x:kL (kP x) (xy x):=by
 unfold kP xy ua ck bu bD aW cK aD cz;with_reducible repeat' first|(refine OI.o ?_;constructor)|intro _
theorem OV:aG Pg 76 Qj:=xA E9 kP xy Oa (ac Ds an) bY
theorem aa4:aG Pg 117 CA:=mk UK Mc an bY
theorem Yl:aG Pg 117 adx:= @aG.sub Pg 117 CA.pre CA.post Mc Av aa4 rfl (λx y h=>qG (b:=8) x y h)
theorem Rp x:kL (hX x) (An x):=by
 unfold hX An wa ck bu vO bD aW cK aD cz;with_reducible repeat' first|(refine OI.o ?_;constructor)|intro _
theorem R7:aG Pg 118 S9:=xA Iu hX An Rp (ac Yl an) bY
theorem Yh:aG Pg 117 yi:=mk Pq G5 an bY
theorem Mx:aG Pg 117 aav:= @aG.sub Pg 117 yi.pre yi.post G5 oq Yh rfl (λx y h=>qG (b:=8) x y h)
theorem R8:aG Pg 73 S_:=mk Iv sW (ac Mx (ac R7 an)) bY
theorem Vx:aG Pg 75 Wc:=mk Lp sA an bY
theorem R_:aG Pg 74 Tb:=mk Ix sX (ac Vx an) bY
theorem Vg x:kL (o6 x) (C7 x):=by
 unfold o6 C7 yM aU bk bt ct em ka pg ck bu bD aW cK aD cz;with_reducible repeat' first|(refine OI.o ?_;constructor)|intro _
theorem Vz:aG Pg 45 We:=xA Lr o6 C7 Vg an bY
theorem OU:aG Pg 77 Qi:=mk E8 rj an bY
theorem Yg:aG Pg 117 YM:=mk vx uZ an bY
theorem Us:aG Pg 117 aau:= @aG.ro Pg 117 vx.pre vx.post.vs uZ tW (Yg.holds rfl) rfl (λx _ h=>by rw[show tW x=obind (uZ x) λy=>same y.2 x (aa y.1) from gA (obind _) (funext λ_=>NR ..)] at h;exact h)
theorem ZX x:kL (sa x) (L_ x):=by
 unfold sa L_ Ga ck bu bD aW cK aD cz;with_reducible repeat' first|(refine OI.o ?_;constructor)|intro _
theorem aa1:aG Pg 76 aas:=xA yQ sa L_ ZX (ac Ds an) bY
theorem Yd:aG Pg 76 adw:= @aG.ro Pg 76 yQ.pre yQ.post.vs sa Au (aa1.holds rfl) rfl (λx _ h=>by rw[show Au x=obind (sa x) λy=>same y.2 x.2 (aa y.1) from gA (obind _) (funext λ_=>NR ..)] at h;exact h)
theorem R6:aG Pg 119 S7:=mk Is kW (ac Yd an) bY
theorem Yb:aG Pg 120 YH:=mk Pj uU (ac Us an) bY
theorem Vf x:kL (qw x) (C6 x):=by
 unfold qw C6 yL CM Prod.p11 Prod.p12 Prod.p13 Prod.p14 Prod.p15 Prod.p16 Prod.p17 aU bk bt ct em ka yz Ba Prod.q10 Prod.q16 Prod.q17 Prod.q18 cQ lY Prod.q9 ck bc bu jg vO bD aW cK aD cz;with_reducible repeat' first|(refine OI.o ?_;constructor)|intro _
theorem Vy:aG Pg 78 Wd:=xA Lq qw C6 Vf (ac Yd (ac Us (ac R6 (ac Yb an)))) bY
theorem XO x:kL (ri x) (G0 x):=by
 unfold ri G0 BT CM Prod.p11 aU bk bt ct em ka yz Ba Prod.q11 Prod.q12 cQ eU pg Prod.q9 ck bu vO bD aW cK cz;with_reducible repeat' first|(refine OI.o ?_;constructor)|intro _
theorem Yc:aG Pg 46 YI:=xA Pk ri G0 XO (ac R8 (ac R_ (ac OV (ac OU (ac Vy an))))) bY
theorem C4 x:kL (kx x) (qi x):=by
 unfold kx qi qB CM Prod.p11 Prod.p12 Prod.p13 Prod.p14 Prod.p15 Prod.p16 Prod.p17 Prod.p18 Prod.p19 aU Prod.p20 bk bt ct em ka yz Ba Prod.q21 bu bD cK aD cz;with_reducible repeat' first|(refine OI.o ?_;constructor)|intro _
theorem Di:aG Pg 178 DG:=xA vn kx qi C4 an bY
theorem JC x:kL (nV x) (uo x):=by
 unfold nV uo uw bc bu jg bD aW cK aD;with_reducible repeat' first|(refine OI.o ?_;constructor)|intro _
theorem JM:aG Pg 141 J6:=xA zB nV uo JC (ac Di an) bY
theorem Rs x:kL (qx x) (Ap x):=by
 unfold qx Ap wq bc bu bF aW cK aD cz;with_reducible repeat' first|(refine OI.o ?_;constructor)|intro _
theorem Sb:aG Pg 197 Th:=xA IA qx Ap Rs an bY
theorem J3:aG Pg 179 Kp:=mk zR jY (ac Sb an) bY
theorem zu:aG Pg 22 Ko:=mk zQ lP (ac Ds an) bY
theorem R9:aG Pg 47 Ta:=mk Iw vY an bY
theorem Mv:aG Pg 21 M7:=mk Cn vX (ac R9 an) bY
theorem Ro x:kL (mG x) (Am x):=by
 unfold mG Am v_ ck bu bD bF aW cK aD cz;with_reducible repeat' first|(refine OI.o ?_;constructor)|intro _
theorem Hx:aG Pg 20 S8:=xA It mG Am Ro an bY
theorem Ft:aG Pg 142 FG:=mk w9 rE an bY
theorem Fu:aG Pg 107 FH:=mk w_ rF (ac Ft an) bY
theorem yY x:kL (gL x) (nI x):=by
 unfold gL nI nM aU bk bt ct dh eU bc bu iO bD bF aW cK aD cz;with_reducible repeat' first|(refine OI.o ?_;constructor)|intro _
theorem zf:aG Pg 105 zl:=xA rV gL nI yY an bY
theorem yX x:kL (dC x) (nH x):=by
 unfold dC nH nL aU bk bt bu bD bF kK aW cK aD cz;with_reducible repeat' first|(refine OI.o ?_;constructor)|intro _
theorem ze:aG Pg 106 zk:=xA rU dC nH yX (ac JM an) bY
theorem yW x:kL (fH x) (nG x):=by
 unfold fH nG kj aU bk ct cQ bu iO bF aW cK aD cz;with_reducible repeat' first|(refine OI.o ?_;constructor)|intro _
theorem zd:aG Pg 108 zj:=xA rT fH nG yW an bY
theorem yZ x:kL (dD x) (nJ x):=by
 unfold dD nJ kl aU bk ct cQ bu bF aW cK aD cz;with_reducible repeat' first|(refine OI.o ?_;constructor)|intro _
theorem ki:aG Pg 68 zm:=xA rW dD nJ yZ (ac zf (ac ze (ac Fu (ac zd an)))) bY
theorem JF x:kL (nY x) (ur x):=by
 unfold nY ur ux aU bk bt bI dh cQ ck bu bD aW cK aD cz;with_reducible repeat' first|(refine OI.o ?_;constructor)|intro _
theorem JY:aG Pg 109 Ki:=xA zM nY ur JF an bY
theorem Bw x:kL (c4 x) (po x):=by
 unfold c4 po pF aU bk bt dh bu bD bF aW cK aD cz;with_reducible repeat' first|(refine OI.o ?_;constructor)|intro _
theorem l7:aG Pg 69 Cr:=xA uc c4 po Bw (ac JY an) bY
theorem xu x:kL (b_ x) (mi x):=by
 unfold b_ mi jS em lY bu jg bD bF aW cK aD cz;with_reducible repeat' first|(refine OI.o ?_;constructor)|intro _
theorem jR:aG Pg 71 ye:=xA rx b_ mi xu an bY
theorem s6:aG Pg 144 IK:=mk xX eM an bY
theorem Fs:aG Pg 145 FC:=mk wX ly (ac s6 an) bY
theorem L4 x:kL (jQ x) (vT x):=by
 unfold jQ vT sh aU bk bt dh bu iO bF aW cK aD cz;with_reducible repeat' first|(refine OI.o ?_;constructor)|intro _
theorem BO:aG Pg 143 M0:=xA Ci jQ vT L4 (ac s6 an) bY
theorem JW:aG Pg 146 Kg:=mk zK nX (ac J3 an) bY
theorem rG:aG Pg 111 FD:=mk wY iM (ac BO (ac s6 (ac Fs (ac JW an)))) bY
theorem Dh:aG Pg 110 DE:=mk vk kw (ac BO an) bY
theorem Ax:aG Pg 112 AG:=mk tf jh an bY
theorem vS x:kL (eJ x) (kT x):=by
 unfold eJ kT iX aU bk bt ct bI dh eU bc bu jg bD bF aW cK aD cz;with_reducible repeat' first|(refine OI.o ?_;constructor)|intro _
theorem v7:aG Pg 113 wE:=xA pL eJ kT vS an bY
theorem Af x:kL (gd x) (oB x):=by
 unfold gd oB kY aU bk bt ct bI bc bu bF aW cK aD cz;with_reducible repeat' first|(refine OI.o ?_;constructor)|intro _
theorem Aw:aG Pg 114 AF:=xA te gd oB Af an bY
theorem zq:aG Pg 185 Kf:=mk zJ lO an bY
theorem Yk:aG Pg 180 yk:=mk Pr G7 an bY
theorem aa3:aG Pg 180 aaw:= @aG.sub Pg 180 yk.pre yk.post G7 Mb Yk rfl (λx y h=>qG (b:=1) x y h)
theorem VH:aG Pg 180 vC:=mk Lx Db an bY
theorem Yj:aG Pg 180 YO:= @aG.sub Pg 180 vC.pre vC.post Db G6 VH rfl (λx y h=>qG (b:=1) x y h)
theorem Yf:aG Pg 181 yh:=mk Pp G4 an bY
theorem aa2:aG Pg 181 aat:= @aG.sub Pg 181 yh.pre yh.post G4 Ma Yf rfl (λx y h=>qG (b:=24) x y h)
theorem VF:aG Pg 181 vA:=mk Lv C' an bY
theorem Ye:aG Pg 181 YL:= @aG.sub Pg 181 vA.pre vA.post C' G3 VF rfl (λx y h=>qG (b:=24) x y h)
theorem VG:aG Pg 116 vB:=mk Lw Da an bY
theorem Yi:aG Pg 116 YN:= @aG.sub Pg 116 vB.pre vB.post Da xC VG rfl (λx y h=>qG (b:=8) x y h)
theorem JE x:kL (jX x) (uq x):=by
 unfold jX uq qS aU bI ck bu bD bF aW cK cz;with_reducible repeat' first|(refine OI.o ?_;constructor)|intro _
theorem JX:aG Pg 147 Kh:=xA zL jX uq JE (ac Yl (ac Yj (ac Ye an))) bY
theorem GU x:kL (jq x) (sM x):=by
 unfold jq sM pI aU bk bI ck bu jg kK aW cK aD cz;with_reducible repeat' first|(refine OI.o ?_;constructor)|intro _
theorem Hq:aG Pg 152 IL:=xA xY jq sM GU (ac zq an) bY
theorem Bx x:kL (gF x) (pq x):=by
 unfold gF pq l9 aU bk bI dh ck bu kK aW cK aD cz;with_reducible repeat' first|(refine OI.o ?_;constructor)|intro _
theorem BN:aG Pg 153 Cv:=xA ud gF pq Bx (ac zq an) bY
theorem Hz:aG Pg 220 IY:=mk yc pD an bY
theorem J2:aG Pg 204 Kn:=mk zP uu (ac Hz an) bY
theorem Dp:aG Pg 208 DM:=mk vu qu an bY
theorem Hu:aG Pg 183 IR:=mk ya sV (ac Dp an) bY
theorem tG x:kL (fA x) (jF x):=by
 unfold fA jF jG ck bu kK cK aD cz;with_reducible repeat' first|(refine OI.o ?_;constructor)|intro _
theorem tH:aG Pg 198 tK:=xA nD fA jF tG (ac J2 an) bY
theorem yV x:kL (iQ x) (nF x):=by
 unfold iQ nF nK aU bk bc jg bD aD;with_reducible repeat' first|(refine OI.o ?_;constructor)|intro _
theorem za:aG Pg 182 zh:=xA rS iQ nF yV (ac tH an) bY
theorem VD:aG Pg 148 Wj:=mk Lu uY (ac za (ac Hu an)) bY
theorem L7 x:kL (kX x) (vU x):=by
 unfold kX vU wu bc bu bD kK aW cK aD cz;with_reducible repeat' first|(refine OI.o ?_;constructor)|intro _
theorem Mw:aG Pg 149 M':=xA Cq kX vU L7 an bY
theorem wN:aG Pg 151 FE:=mk wZ oo an bY
theorem GY x:kL (mI x) (sN x):=by
 unfold mI sN tb bu kK aW cK aD cz;with_reducible repeat' first|(refine OI.o ?_;constructor)|intro _
theorem HA:aG Pg 184 IZ:=xA yd mI sN GY (ac wN an) bY
theorem Fj x:kL (iN x) (rD x):=by
 unfold iN rD rI ck bc bu bD kK aW cK aD cz;with_reducible repeat' first|(refine OI.o ?_;constructor)|intro _
theorem Fv:aG Pg 150 FI:=xA xa iN rD Fj (ac wN (ac HA an)) bY
theorem Ht:aG Pg 115 IQ:=mk mN gG (ac rG (ac JX (ac Hq (ac BN an)))) bY
def tv2 (t:TypeId):Option Ty:=if aA t 153 then aa (.pr .un (.pr .un (.pr .un (.pr .un dO)))) else bY t
theorem Hr:aG Pg 147 IN:=mk xZ mF (ac Mx (ac aa3 (ac aa2 an))) tv2
theorem Hs:aG Pg 115 IP:=mk x_ kA (ac rG (ac Hr (ac VD (ac Mw (ac Fv an))))) tv2
theorem JZ:aG Pg 115 Kj:=(aG.orE (pre:=mN.pre) (post:=mN.post) (m:=gG) (m':=kA) rfl Ht Hs)
theorem nh:aG Pg 70 DF:=mk vm fw (ac Dh (ac rG (ac Ax (ac v7 (ac Aw (ac JZ (ac Yi (ac Mx an)))))))) bY
def tv3 (t:TypeId):Option Ty:=if aA t 81 then aa (.pr .un (.pr .un pf)) else bY t
theorem Aj x:kL (dU x) (oF x):=by
 unfold dU oF kZ aU bk bt bI cQ bc bu bD bF aW cK aD cz;with_reducible repeat' first|(refine OI.o ?_;constructor)|intro _
theorem AB:aG Pg 44 AL:=xA tu dU oF Aj (ac ki (ac l7 (ac nh (ac jR an)))) tv3
def tv4 (t:TypeId):Option Ty:=if aA t 81 then aa (.pr .un (.pr .un (.pr .un pf))) else bY t
theorem Ai x:kL (c5 x) (oE x):=by
 unfold c5 oE jv aU bk bt ct bI dh eU bc bu bD bF aW cK aD cz;with_reducible repeat' first|(refine OI.o ?_;constructor)|intro _
theorem AA:aG Pg 44 AK:=xA tm c5 oE Ai (ac ki (ac l7 (ac nh (ac jR an)))) tv4
def tv5 (t:TypeId):Option Ty:=if aA t 81 then aa (.pr .un (.pr .un (.pr .un (.pr .un pf)))) else bY t
theorem Ah x:kL (dz x) (oD x):=by
 unfold dz oD ju aU bk bt ct em bI cQ eU lY bc bu bD bF aW cK aD cz;with_reducible repeat' first|(refine OI.o ?_;constructor)|intro _
theorem Az:aG Pg 44 AJ:=xA tj dz oD Ah (ac ki (ac l7 (ac nh (ac jR an)))) tv5
def tv6 (t:TypeId):Option Ty:=if aA t 81 then aa (.pr .un (.pr .un (.pr .un (.pr .un (.pr .un pf))))) else bY t
theorem Ag x:kL (dT x) (oC x):=by
 unfold dT oC jt aU bk bt ct em ka bI eU lY pg bc bu bD bF aW cK aD cz;with_reducible repeat' first|(refine OI.o ?_;constructor)|intro _
theorem Ay:aG Pg 44 AH:=xA eK dT oC Ag (ac ki (ac l7 (ac nh (ac jR an)))) tv6
theorem BJ:aG Pg 44 Ct:=(aG.orE (pre:=eK.pre) (post:=eK.post) (m:=dT) (m':=(λx=>orE (dz x) ((λx=>orE (c5 x) (dU x)) x))) rfl Ay (aG.orE (pre:=eK.pre) (post:=eK.post) (m:=dz) (m':=(λx=>orE (c5 x) (dU x))) rfl Az (aG.orE (pre:=eK.pre) (post:=eK.post) (m:=c5) (m':=dU) rfl AA AB)))
theorem Rq x:kL (mH x) (Ao x):=by
 unfold mH Ao wg aU bI ck bu iO bD bF aW cK aD cz;with_reducible repeat' first|(refine OI.o ?_;constructor)|intro _
theorem Hy:aG Pg 19 Tc:=xA Iy mH Ao Rq (ac BJ (ac Vz (ac Yc an))) bY
theorem Vh x:kL (sB x) (C8 x):=by
 unfold sB C8 Dt bu iO bD bF aW cK aD cz;with_reducible repeat' first|(refine OI.o ?_;constructor)|intro _
theorem VB:aG Pg 8 Wf:=xA Ls sB C8 Vh (ac Hy (ac Hx (ac Mv (ac zu an)))) bY
theorem ZW x:kL (BA x) (L9 x):=by
 unfold BA L9 MA aU bk bt ct eU bu bD cK aD cz;with_reducible repeat' first|(refine OI.o ?_;constructor)|intro _
theorem aa0:aG Pg 35 aar:=xA UJ BA L9 ZW an bY
theorem R5:aG Pg 30 S6:=mk Ir vW (ac aa0 an) bY
theorem Mu:aG Pg 12 M5:=mk Cl r9 (ac VB (ac R5 an)) bY
abbrev Le0:List PB:=[.cells 34 [.d od]]
def Iz:FT:=⟨⟨[.d od,.d aM,.d aM],[]⟩,⟨[.d .bool],[]⟩,dL [(3,(.j ⟨[1,2],[3,22],⟨gx,Le0⟩,[]⟩))]⟩
def Td:cq:=cn Iz oO
def vw:FT:=⟨⟨[.d Ke0],[]⟩,⟨[.d .bool],[]⟩,dL [(10,(.j ⟨[4],[3,5],⟨tw,Le0⟩,[]⟩)),(22,(.j ⟨[4,5],[3,6],⟨tw,Le0⟩,[]⟩)),(34,(.j ⟨[4,5,6,7],[3,57],⟨gx,Le0⟩,[]⟩)),(44,(.j ⟨[4,5,6,7],[3,8],⟨tw,Le0⟩,[]⟩)),(46,(.j ⟨[4,5,6,7,8],[3,65],⟨gx,Le0⟩,[]⟩)),(53,(.j ⟨[4,5,6,7,8],[3,78],⟨gx,Le0⟩,[]⟩))]⟩
def DO:cq:=cn vw kB
theorem Sa:aG Pg 14 Td:=mk Iz oO (ac Hy (ac Hx (ac zu an))) bY
theorem hlaw23_HBPartial:aG Pg 6 DO:=mk vw kB (ac Dj (ac Mu (ac Sa an))) bY
theorem run_law {P:Program} {f:FuncId} {pre:Tm} {m:pre.ty.den->Option (Tm.ty ⟨[.d .bool],[]⟩).den} (sp:o_ P f ⟨pre,⟨[.d .bool],[]⟩,m⟩) (h0:pre.bs.length=0) {x:pre.ty.den} (M:m x=aa ah) {vs:List TV} {hp:bd} (hi:BI pre x=aa (vs,hp)) {la:List AV} (hla:cF hp vs=aa la)
 {W:World} {us:List Value} (hg:∀ g cells,G g=aa cells->mP (λ_=>False) W (.ptr cells 0) (.pointer (aa ⟨g,0,af⟩))) (hrel:jH (λ_=>af) (λ_=>False) W la us):
 Calls P f us.toArray W λe w'=>e= .returned (.bool ah)/\Below W.heap.size W w':=by
 obtain⟨l1,I⟩:=u_ hi;obtain⟨l2,J⟩:=u_ (t:=⟨[.d .bool],[]⟩) (x:=ah) (vs:=[.f .bool ah]) (h1:=PT.leaf) rfl;have hn:bw hp=λ_=>af:=by
  funext n;cases hb:bw hp n with
  |none=>rfl
  |some b=>
   obtain⟨i,c,rfl,h1,_⟩:=je hb;have:=I.lt_len h1;omega
 have own0:∀ (φ:PM) k,¬own φ (bw hp) k:=by rintro φ k ⟨i,b,h1,_⟩;rw[hn] at h1;cases h1
 have htot:tot (λ_=>False) (λ_=>af) (bw hp)=λ_=>False:=by
  funext k;exact propext ⟨λh=>h.elim id λh=>cX h (own0 _ k),λh=>h.elim⟩
 refine Calls.mono (sp.calls x ah M vs hp l1 _ PT.leaf l2 la _ I J hla rfl (λ_=>af) (λ_=>False) W us ⟨(λi j b b' k h1=>by rw[hn] at h1;cases h1),(λi b h1=>by rw[hn] at h1;cases h1),(λk h=>h.elim),(λg cells h=>by rw[htot];exact hg g cells h)⟩ (by rw[htot];exact hrel) (λn k h=>by cases h)) ?_;rintro en w' ⟨v,φ',rfl,he,_,_,_,hv⟩;refine ⟨?_,⟨he.os,he.tape,he.output,he.size,λk hk=>he.blk k hk (own0 _ k)⟩⟩;have hv:cG φ' _ w' (.f (.raw (.bool ah))) v:=hv;cases hv with
 |f h=>cases h;rfl
theorem gKw:Tryz.prog.globalNamed "interleave/token.keywords" =aa 0:=by kernel_rfl
theorem tKw:(Tryz.prog.globals[0]?).map (·.type)=aa 276:=by kernel_rfl
theorem kw_of_laid {W:World} (h:laidMetH Tryz.prog [("interleave/token.keywords",Rows.laid_interleave_token_keywords)] W):∀ g cells,G g=aa cells→mP (λ_=>False) W (.ptr cells 0) (.pointer (aa ⟨g,0,af⟩)):=by
 intro g cells U;unfold G at U;split at U
 .rename_i hg;have hg:=eq_of_beq hg;subst hg;cases U;rw[MakeChecks.laidMetH_plain _ _ _ (by kernel_rfl)] at h;obtain⟨ps,⟨g0,t0,cs0,f0,p0,q0,M,Z,Y,hd0,_,_⟩,_,_⟩:=h;obtain rfl:=jD (gKw.symm.trans M);obtain rfl:=jD (tKw.symm.trans Z);obtain⟨xs,m1,rfl,J,hlen,hn,hel⟩:=DataW.trod_array Tryz.underlying276 hd0;have c1:Tryz.prog.cellsOf 9=1:=by kernel_rfl
  have c22:Tryz.prog.cellsOf 276=22:=by kernel_rfl
  rw[c22] at hlen;simp only[aB,Rows.laid_interleave_token_keywords,DataW.agg.injEq] at J;have hxs:=J.1;have hcell:∀ j,j<22→∃ l,(xs.map (·.1))[j]? =aa (.lit (.string l))∧W.cell? ⟨0,j,af⟩=aa (.string ⟨l.toArray⟩):=λj hj=>by
   have h1:=hel j hj;rw[c1,Nat.mul_one] at h1;rw[ay (by omega)] at h1;obtain⟨s,e1,e2,_⟩:=DataW.trod_string Tryz.underlying9 h1;refine ⟨s.data.toList,?_,?_⟩
   .rw[a8,ay (by omega),b7,e2]
   .have:=World.var?_cell M Y j;rw[this];have h2:cs0.toList[j]? =aa (.string s):=by
     have:((cs0.toList.drop j).take 1)[0]? =aa (.string s):=by rw[e1];rfl
     rw[cH,aJ (by omega),gJ] at this;simpa using this
    rw[← cC,h2]
  have hb:0<W.heap.size:=by
   obtain⟨l,_,h2⟩:=hcell 0 (by omega);exact World.block_lt_of_cell? W _ h2
  refine .ptr BD 0 0 0 (λj=>(W.cell? ⟨0,j,af⟩).getD undef) (λh=>h) hb (λx I=>?_) (λj hj=>?_) (λj x I=>?_)
  .simp only[BD,bh,cj,fM] at I;rcases I with rfl|rfl|rfl|rfl|rfl|rfl|rfl|rfl|rfl|rfl|rfl|rfl|rfl|rfl|rfl|rfl|rfl|rfl|rfl|rfl|rfl|rfl<;>rfl
  .obtain⟨l,_,h2⟩:=hcell j hj;rw[bJ,h2];rfl
  .have hj:j<22:=(be.1 I).1;obtain⟨l,h1,h2⟩:=hcell j hj;rw[← hxs] at h1;have:x= .raw (.string ⟨l.toArray⟩):=by
    rcases j with _|_|_|_|_|_|_|_|_|_|_|_|_|_|_|_|_|_|_|_|_|_|j;all_goals first|(simp only[pW,List.getElem?_cons_succ,aj,DataW.lit.injEq,Lit.string.injEq,BD] at h1 I;subst h1;subst I;rfl)|omega
   rw[this,h2];exact .raw _
 .cases U
end
end Go.Proofs.YthehadcddfilhaaGreatDoor.AI
