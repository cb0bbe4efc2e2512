/-
  Texts of the proof, part 6 of 6: what is used to prove the statement. No condition.
-/
import Derived.Test.YtecomllighcieaaGreatDoorHBStepsQ4
import Derived.Deep.Slices
import Derived.OpenShut
import Derived.Below
import Derived.Test.YtecomllighcieaaGreatDoorProg
import Derived.KernelRfl
import Derived.Recover
import Derived.Test.YtecomllighcieaaGreatDoorRows
import Derived.LaidMore
namespace Go.Proofs.YtecomllighcieaaGreatDoor.AI
open Go.RowKit
set_option maxRecDepth 100000
set_option maxHeartbeats 4000000
set_option linter.unusedVariables false
set_option linter.unusedSimpArgs false
open Act renaming put→xR
open _root_.Array renaming getElem?_eq_some_iff→b6,getElem?_toList→b8,getD_eq_getD_getElem?→dS,replicate→jt,ext'→wV
open _root_.Bool renaming and_eq_true→ak,false_eq_true→bW,not_true→cu,not_eq_true'→cV,or_eq_true→eO,and_self→gw,false_and→iN,and_eq_true_iff→nR
open Call renaming operands→dj
open _root_.Int renaming ofNat→ah
open _root_.List renaming length→aa,getElem?_eq_getElem→aw,mem_singleton→aH,getD_eq_getElem?_getD→aN,getElem?_map→aY,mem_of_getElem?→bc,getElem?_eq_some_iff→bg,mem_cons→bo,mem_append→bD,getElem?_eq_none→bU,getElem?_append_left→bV,not_mem_nil→cf,getElem?_append_right→co,getElem?_take→cr,length_map→cK,mem_map→cQ,mem_cons_of_mem→cS,getElem?_of_mem→db,length_singleton→dM,getElem?_drop→dY,mem_cons_self→eU,mem_of_mem_take→fa,mem_append_left→fb,cons_append→fc,mem_append_right→gh,length_eq_zero_iff→gO,length_nil→gY,getElem?_toArray→iP,nil_append→jr,mem_range→k9,getElem?_cons_zero→lh,all_eq_true→li,mem_flatMap→nX,take_succ_cons→oI,drop_succ_cons→oJ,size_toArray→qw
open _root_.Nat renaming eq_of_beq_eq_true→au,beq→av,testBit→aI,le_of_ble_eq_true→aW,testBit_or→bh,zero_add→bw,ble_eq_true_of_le→bB,lt_or_ge→cA,le_refl→cD,lt_of_lt_of_le→cI,le_trans→cO,add_zero→cP,ble→cZ,blt→eg,le_succ_of_le→eC,or_assoc→gr,beq_refl→nW,add_assoc→pi,lt_succ_of_lt→qv,lt_succ_self→rL,zero_or→s6,mul_comm→uT
open Oper renaming wp→uS
open _root_.Option renaming bind_some→aC,map_some→bN,isSome_iff_exists→eK,map→gX,getD_some→rK
open _root_.Option.some renaming injEq→ae,inj→fI
open _root_.Prod.mk renaming injEq→ay
open Region renaming wanted→eJ
open Result renaming andThen_ok→ca
open Sem renaming run_bind→cY,run_pure→jL
open _root_.Sum renaming inr→af,inl→aO
open Value renaming okWide→uQ
open World renaming cell?→xP
mutual
def FV.fl:FV→Bool
 |.raw _=>true
 |.agg l=>FV.flL l
 |.sl _ _=>false
 |.ptr _ _=>false
def FV.flL:List FV→Bool
 |[]=>true
 |x::r=>x.fl&&FV.flL r
end
theorem flL_mem:∀ {l:List FV},FV.flL l=true→∀ x∈l,x.fl=true
 |[],_,x,hx=>by cases hx
 |y::l,h,x,hx=>by
  simp only[FV.flL,ak] at h;rcases bo.1 hx with rfl|hx
  ·exact h.1
  ·exact flL_mem h.2 x hx
theorem flL_of:∀ {l:List FV},(∀ x∈l,x.fl=true)→FV.flL l=true
 |[],_=>rfl
 |y::l,h=>by simp only[FV.flL,ak];exact⟨h y (by simp),flL_of fun x hx=>h x (by simp[hx])⟩
theorem iM.flat {O O':Nat→Prop} {w w':World} {x:FV} {v:Value} (h:iM O w x v):x.fl=true→iM O' w' x v:=by
 induction h with
 |raw v=>intro _;exact .raw v
 |nil a c hc=>intro h;cases h
 |sl cells n c b off us hn hc hO hb hcl hu hr ih=>intro h;cases h
 |ptr cells o b off us hO hb hcl hu hr ih=>intro h;cases h
 |agg cells vs hl hcl hr ih=>intro h;exact .agg cells vs hl hcl fun j x v hx hv=>ih j x v hx hv (flL_mem h x (bc hx))
mutual
def AV.fl:AV→Bool
 |.f x=>x.fl
 |.emp=>true
 |.anyb=>true
 |.agg l=>AV.flL l
 |.tup l=>AV.flL l
 |.ptr _ _=>false
 |.sl _ _ _=>false
 |.row _ _ _=>false
 |.mp _=>false
 |.clo _ _=>false
def AV.flL:List AV→Bool
 |[]=>true
 |x::r=>x.fl&&AV.flL r
end
theorem aflL_mem:∀ {l:List AV},AV.flL l=true→∀ x∈l,x.fl=true
 |[],_,x,hx=>by cases hx
 |y::l,h,x,hx=>by
  simp only[AV.flL,ak] at h;rcases bo.1 hx with rfl|hx
  ·exact h.1
  ·exact aflL_mem h.2 x hx
theorem aflL_of:∀ {l:List AV},(∀ x∈l,x.fl=true)→AV.flL l=true
 |[],_=>rfl
 |y::l,h=>by simp only[AV.flL,ak];exact⟨h y (by simp),aflL_of fun x hx=>h x (by simp[hx])⟩
theorem cg.flat {φ φ':PM} {O O':Nat→Prop} {w w':World} {x:AV} {v:Value} (h:cg φ O w x v):x.fl=true→cg φ' O' w' x v:=by
 induction h with
 |f h=>intro hf;exact .f (h.flat hf)
 |ptr h=>intro hf;cases hf
 |sl h hn hc=>intro hf;cases hf
 |row h hn hc hsh=>intro hf;cases hf
 |emp=>intro _;exact .emp
 |anyb=>intro _;exact .anyb
 |mp h=>intro hf;cases hf
 |agg hl hcl hr ih=>intro hf;exact .agg hl hcl fun j x v hx hv=>ih j x v hx hv (aflL_mem hf x (bc hx))
 |tup hl hr ih=>intro hf;exact .tup hl fun j x v hx hv=>ih j x v hx hv (aflL_mem hf x (bc hx))
 |clo hl hr ih=>intro hf;cases hf
mutual
theorem Gf (γ:Nat→Nat):∀ x:AV,x.fl=true→x.ren γ=x
 |.f x,_=>rfl
 |.emp,_=>rfl
 |.anyb,_=>rfl
 |.agg l,h=>by simp only[AV.ren];rw[vh γ l h]
 |.tup l,h=>by simp only[AV.ren];rw[vh γ l h]
 |.ptr _ _,h=>by cases h
 |.sl _ _ _,h=>by cases h
 |.row _ _ _,h=>by cases h
 |.mp _,h=>by cases h
 |.clo _ _,h=>by cases h
theorem vh (γ:Nat→Nat):∀ l:List AV,AV.flL l=true→AV.renL γ l=l
 |[],_=>rfl
 |x::r,h=>by
  simp only[AV.flL,ak] at h;rw[AV.renL,Gf γ x h.1,vh γ r h.2]
end
theorem encC_fl:∀ (T:Ty),T.flat=true→∀ x:T.den,∀ y∈encC T x,y.fl=true
 |.int _,_,x,y,hy=>by simp only[encC,aH] at hy;subst hy;rfl
 |.bool,_,x,y,hy=>by simp only[encC,aH] at hy;subst hy;rfl
 |.str,_,x,y,hy=>by simp only[encC,aH] at hy;subst hy;rfl
 |.sl _,h,x,y,hy=>by cases h
 |.st t,h,x,y,hy=>encC_fl t h x y hy
 |.pr a b,h,x,y,hy=>by
  simp only[Ty.flat,ak] at h;simp only[encC,bD] at hy;exact hy.elim (encC_fl a h.1 x.1 y) (encC_fl b h.2 x.2 y)
 |.un,_,x,y,hy=>by simp[encC] at hy
 |.ex,h,_,_,_=>by cases h
 |.sm,h,_,_,_=>by cases h
theorem Fg (T:Ty) (h:T.flat=true) (x:T.den):(enc1 T x).fl=true:=by
 cases ho:T.one with
 |true=>
  have:=encC_fl T h x (enc1 T x) (by rw[(encC_one T x ho).1];simp);exact this
 |false=>rw[enc1_agg T x ho];exact flL_of (encC_fl T h x)
theorem za (a b:Ty):(spr a b).flat=(a.flat&&b.flat):=by
 cases a<;>cases b<;>simp[spr,uB,Ty.flat]
theorem vW {n:Nat}:∀ {a b:List TV},mN n (a++b)=true→mN n a=true∧mN n b=true
 |[],b,h=>⟨rfl,h⟩
 |x::r,b,h=>by
  simp only[fc,mN,ak] at h ⊢;obtain⟨h1,h2⟩:=vW h.2;exact⟨⟨h.1,h1⟩,h2⟩
mutual
theorem EU {g:Nat→Nat} {h:THeap}:∀ (p:PV) (x:p.ty.den) (cs:List TV) (l:List AV),p.ty.flat=true→ly g p x=some cs→mN 0 cs=true→ci h cs=some l→∀ y∈l,y.fl=true
 |.d T,x,cs,l,hf,hp,_,hl,y,hy=>by
  have:=(gU h 40 T x cs hp).1;rw[hl] at this;cases this;obtain⟨q,hq,rfl⟩:=cQ.1 hy;exact encC_fl T hf x q hq
 |.ptr i q,x,cs,l,hf,hp,hlt,hl,y,hy=>by
  simp only[ly,ae] at hp;subst hp;simp[mN,yQ] at hlt
 |.csl i q z,x,cs,l,hf,hp,hlt,hl,y,hy=>by
  simp only[ly,ae] at hp;subst hp;simp[mN,yQ] at hlt
 |.row i,x,cs,l,hf,hp,hlt,hl,y,hy=>by
  simp only[ly,ae] at hp;subst hp;simp[mN,yQ] at hlt
 |.mp i,x,cs,l,hf,hp,hlt,hl,y,hy=>by
  simp only[ly,ae] at hp;subst hp;simp[mN,yQ] at hlt
 |.nil,x,cs,l,hf,hp,hlt,hl,y,hy=>by
  simp only[ly,ae] at hp;subst hp;simp only[ci,bS,ae] at hl;subst hl;simp only[aH] at hy;subst hy;rfl
 |.emp,x,cs,l,hf,hp,hlt,hl,y,hy=>by
  simp only[ly,ae] at hp;subst hp;simp only[ci,bS,ae] at hl;subst hl;simp only[aH] at hy;subst hy;rfl
 |.agg ps,x,cs,l,hf,hp,hlt,hl,y,hy=>vC ps x cs l hf hp hlt hl y hy
theorem vC {g:Nat→Nat} {h:THeap}:∀ (ps:List PV) (x:(PV.tyL ps).den) (cs:List TV) (l:List AV),(PV.tyL ps).flat=true→ll g ps x=some cs→mN 0 cs=true→ci h cs=some l→∀ y∈l,y.fl=true
 |[],x,cs,l,hf,hp,hlt,hl,y,hy=>by
  simp only[ll,ae] at hp;subst hp;simp only[ci,ae] at hl;subst hl;cases hy
 |p::ps,x,cs,l,hf,hp,hlt,hl,y,hy=>by
  simp only[PV.tyL] at hf;rw[za,ak] at hf;simp only[ll] at hp;split at hp
  ·rename_i a ha;split at hp
   ·rename_i b hb;simp only[ae] at hp;subst hp;obtain⟨a',b',rfl,e1,e2⟩:=rG hl;have hsp:=vW hlt;rcases bD.1 hy with hy|hy
    ·exact EU p _ a a' hf.1 ha hsp.1 e1 y hy
    ·exact vC ps _ b b' hf.2 hb hsp.2 e2 y hy
   ·cases hp
  ·cases hp
end
theorem ER {g:Nat→Nat} {h:THeap} {p:PV} {x:p.ty.den} {u:TV} {y:AV} (hf:p.ty.flat=true) (hp:nS g p x=some u) (hlt:yQ 0 u=true) (hy:bS h u=some y):y.fl=true:=by
 cases p with
 |d T=>
  simp only[nS,ae] at hp;subst hp;simp only[bS,ae] at hy;subst hy;exact Fg T hf x
 |agg ps=>
  simp only[nS] at hp;split at hp
  ·rename_i l hl;simp only[ae] at hp;subst hp;simp only[bS] at hy;split at hy
   ·rename_i l' hl';simp only[ae] at hy;subst hy;exact aflL_of (vC ps _ l l' hf hl hlt hl')
   ·cases hy
  ·cases hp
 |ptr i q=>simp only[nS,ae] at hp;subst hp;simp[yQ] at hlt
 |csl i q z=>simp only[nS,ae] at hp;subst hp;simp[yQ] at hlt
 |row i=>simp only[nS,ae] at hp;subst hp;simp[yQ] at hlt
 |mp i=>simp only[nS,ae] at hp;subst hp;simp[yQ] at hlt
 |nil=>simp only[nS,ae] at hp;subst hp;simp only[bS,ae] at hy;subst hy;rfl
 |emp=>simp only[nS,ae] at hp;subst hp;simp only[bS,ae] at hy;subst hy;rfl
theorem zn {g:Nat→Nat} {h:THeap}:∀ (ps:List PV) (x:(PV.tyL ps).den) (us:List TV) (l:List AV),(PV.tyL ps).flat=true→ky g ps x=some us→mN 0 us=true→ci h us=some l→AV.flL l=true
 |[],x,us,l,hf,hp,hlt,hl=>by
  simp only[ky,ae] at hp;subst hp;simp only[ci,ae] at hl;subst hl;rfl
 |p::ps,x,us,l,hf,hp,hlt,hl=>by
  simp only[PV.tyL] at hf;rw[za,ak] at hf;simp only[ky] at hp;split at hp
  ·rename_i a ha;split at hp
   ·rename_i b hb;simp only[ae] at hp;subst hp;obtain⟨y,l2,rfl,e1,e2⟩:=ct hl;simp only[mN,ak] at hlt;simp only[AV.flL,ak];exact⟨ER hf.1 ha hlt.1 e1,zn ps _ b l2 hf.2 hb hlt.2 e2⟩
   ·cases hp
  ·cases hp
theorem tupA_fl:∀ {l:List AV},AV.flL l=true→(tupA l).fl=true
 |[],_=>rfl
 |[x],h=>by simp only[AV.flL,ak] at h;exact h.1
 |x::y::r,h=>h
theorem Fi {P:Program} {o:Oper} {e:TEnv} {h:THeap} {nx:Nat} {f:FuncId} {c:bR} {l:List TV} (hinv:ib h nx) (sp:kw P f c) {x:c.pre.ty.den} {m:Nat} {σ:PT Nat} {sm:Nat} (M:vk 0 c.pre l h x m σ sm) {vs:List TV} {hp:THeap} {l1:List (Option ey)} (I:kY c.pre x vs hp l1) {y:c.post.ty.den} (hm:c.m x=some y) {rs:List TV} {hq:THeap} {l2:List (Option ey)} (J:kY c.post y rs hq l2) (hp0:c.pre.bs.length=0) (hq0:c.post.bs.length=0) (hfl:(PV.tyL c.post.vs).flat=true)
 (g:Nat→Nat) {la:List AV} (hla:ci h l=some la)
 (hexec:∀ (φ:PM) (E:Nat→Prop) (h':HF) (w:World) (a:Act),(∀ t,.tmp t∈o.op.operands→∀ y,dC e h t=some y→cg φ (tot E φ h') w y (a.tmps.getD t undef))→lm φ E h' w→∃ us:List Value,(execOp a.eval o).run P w= .ok (.enter f us.toArray) w∧fP φ (tot E φ h') w la us):
 fq P o false e h nx (resT (gp g rs)) m 0 h nx:=by
 obtain⟨x1,m1,x2,m2,hx,hmm,gv,gb⟩:=M.ex;have hmr:cR h m:=by rw[hmm];exact (uZ _ _ _ _ gv).or (vb _ _ _ _ gb)
 have pvg:ky (eh σ) c.pre.vs x1=some (gp (eh σ) vs):=by
  have h3:=m7 (eh σ) c.pre.vs x1;have h4:=I.pv;rw[hx,mX] at h4;rw[h3,h4];rfl
 obtain⟨lr,hlr⟩:=dx hq rs J.ok;obtain⟨lp,hlp⟩:=dx hp vs I.ok;have hfl':AV.flL lr=true:=zn c.post.vs _ rs lr hfl J.pv (by rw[← hq0];exact J.lt) hlr;have hpe:∀ i,hp.get i=none:=fun i=>by
  cases hb:hp.get i with
  |none=>rfl
  |some b=>have:=I.lt_len hb;omega
 have hqe:∀ i,hq.get i=none:=fun i=>by
  cases hb:hq.get i with
  |none=>rfl
  |some b=>have:=J.lt_len hb;omega
 have rows_hp:∀ i r,dg hp i=some r→dg (c7 m h) (eh σ i)=some r:=fun i r hr=>by rw[bF,hpe] at hr;cases hr
 have rows_hq:∀ i r,dg hq i=some r→dg h (g i)=some r:=fun i r hr=>by rw[bF,hqe] at hr;cases hr
 have rows_in:pP (c7 m h) h:=fun j r hr=>by
  rw[bF] at hr ⊢;rw[eR] at hr;split at hr
  ·rename_i ht;obtain⟨ty,p,T,xs,hb⟩:=hmr j ht;rw[hb] at hr ⊢;exact hr
  ·exact hr
 have hOpT:dX P o (dC e h) (bp h) ⟨tupA lr,uu m,[],fun _=>none,[]⟩:=by
  intro φ E h' w a hrd hwr hops hrep hN;obtain⟨us,hrun,hrel⟩:=hexec φ E h' w a hops hrep
  let Hv:HF:=fun n=>if n∈uu m then none else h' n
  have Hv_in:∀ n,n∈uu m→Hv n=none:=fun n hn=>by simp only[Hv,hn,if_true]
  have Hv_out:∀ n,n∉uu m→Hv n=h' n:=fun n hn=>by simp only[Hv,hn,if_false]
  have hd:ov h' Hv:=fun n b hb=>by
   by_cases hn:n∈uu m
   ·rw[Hv_in n hn] at hb;cases hb
   ·rw[Hv_out n hn] at hb;exact⟨b,hb⟩
  have gvv:td h h' Hv m:=fun i hi=>⟨hrd _ (gQ.2 hi),Hv_in _ (gQ.2 hi)⟩
  have V:wI h' Hv:=⟨hd,fun n b b' hb hb'=>by
   by_cases hn:n∈uu m
   ·rw[Hv_in n hn] at hb';cases hb'
   ·rw[Hv_out n hn,hb] at hb';cases hb';exact gk.refl hd b⟩
  have hrepv:=V.rep hrep;have hlpg:ci (c7 m h) (gp (eh σ) vs)=some (AV.renL (ve (eh σ)) lp):=kV rows_hp vs lp hlp;have hrel1:fP φ (tot E φ Hv) w (AV.renL (ve (eh σ)) lp) us:=
   fP.le hrep (sK hd rows_in c.pre.vs l x1 m1 _ la _ gv pvg hla hlpg (fun i hi=>gvv i (by rw[hmm,bh,hi];rfl))) hrel
  let E':Nat→Prop:=fun k=>E k∨∃ n b,Hv n=some b∧φ n=some k
  have T:Fm c.pre x vs hp (eh σ) φ E E' Hv w:=by
   refine lm.toId I (fun a b ha=>by omega) hrepv (fun i b yb hb=>by rw[hpe] at hb;cases hb) ?_ (fun i k b hi=>by omega) ?_
   ·rintro k (hE|⟨n,b,h1,h3⟩)
    ·exact .inl hE
    ·exact .inr ⟨n,b,h1,h3⟩
   ·rintro k (hE|⟨n,b,h1,h3⟩)
    ·exact hrepv.el k hE
    ·obtain⟨k',q1,_,ob,q3,_⟩:=hrepv.at_ n b h1;rw[h3] at q1;cases q1;exact (b6.1 q3).1
  have hcalls:=sp.calls x y hm vs hp l1 rs hq l2 lp lr I J hlp hlr (φ1 c.pre.bs.length (eh σ) φ) E' w us T.rep (fP.toId T.val (mU vs lp I.lt hlp) hrel1) (fun n k hk=>by
   obtain⟨i,hi,rfl,_⟩:=pj hk;rw[cU];exact hi)
  unfold uS;rw[hrun];refine Calls.mono hcalls ?_;rintro en w' ⟨v,φc',rfl,hext,hown,hnm,rp,rv'⟩;have hno:∀ k,¬own (φ1 c.pre.bs.length (eh σ) φ) (bp hp) k:=by
   rintro k ⟨n,b,h1,_⟩;obtain⟨i,bb,_,h3,_⟩:=fo h1;rw[hpe] at h3;cases h3
  have mv:eT φ φ h' h' w w':=⟨fun _ _ h=>h,hext.mono fun k hk=>absurd hk (hno k),fun _ _ h=>h⟩
  refine ⟨v,φ,rfl,?_,fun _ _ h=>.inl h,?_,?_⟩
  ·rw[nh];exact mv
  ·rw[nh];refine hrep.moved mv fun k hk=>?_
   obtain⟨n,b,h1,h3⟩:=hk;obtain⟨k',q1,_,ob,q3,_⟩:=hrep.at_ n b h1;rw[h3] at q1;cases q1;exact hext.blk k (b6.1 q3).1 (hno k)
  ·exact rv'.flat (tupA_fl hfl')
 have hrsg:ci h (gp g rs)=some (AV.renL (ve g) lr):=kV rows_hq rs lr hlr;refine ⟨⟨_,hOpT,fun z hz=>?_,?_,fun n hn=>?_,by simp,by simp⟩,fun _ _ h=>h,hinv,cD _,fun hs=>by cases hs⟩
 ·rw[BR hrsg,vh _ lr hfl'] at hz;cases hz;rfl
 ·exact nh _ _
 ·obtain⟨i,rfl,hi⟩:=jb.1 hn;rw[cU];exact hi
def bR.full (c:bR):bR:=⟨c.pre,⟨c.post.vs,c.pre.bs⟩,fun x=>obind (c.m x) fun y=>some (mkp (PV.tyL c.post.vs) (PB.tyL c.pre.bs) (fsp _ _ y) (snp _ _ x))⟩
def aD (P:Program) (f:FuncId) (c:bR):Prop:=if cZ c.pre.bs.length c.post.bs.length=true then kw P f c else kw P f c.full
theorem kw.toC {P:Program} {f:FuncId} {c:bR} (h:kw P f c) (hb:cZ c.pre.bs.length c.post.bs.length=true):aD P f c:=by
 unfold aD;rw[if_pos hb];exact h
theorem aD.holds {P:Program} {f:FuncId} {c:bR} (h:aD P f c) (hb:cZ c.pre.bs.length c.post.bs.length=true):kw P f c:=by
 unfold aD at h;rw[if_pos hb] at h;exact h
theorem E3 (a b:Ty) (z:(spr a b).den):mkp a b (fsp a b z) (snp a b z)=z:=by cases a<;>cases b<;>rfl
open Classical in
noncomputable def roM {pre:Tm} {vs:List PV} (m:pre.ty.den→Option (Tm.ty ⟨vs,pre.bs⟩).den) (x:pre.ty.den):Option (Tm.ty ⟨vs,[]⟩).den:=
 obind (m x) fun y=>if snp (PV.tyL vs) (PB.tyL pre.bs) y=snp _ _ x then some (mkp (PV.tyL vs) (PB.tyL []) (fsp (PV.tyL vs) (PB.tyL pre.bs) y) ()) else none
theorem aD.ro {P:Program} {f:FuncId} {pre:Tm} {vs:List PV} {m:pre.ty.den→Option (Tm.ty ⟨vs,pre.bs⟩).den} {m':pre.ty.den→Option (Tm.ty ⟨vs,[]⟩).den} (h:kw P f ⟨pre,⟨vs,pre.bs⟩,m⟩) (hb:cZ pre.bs.length 0=false) (hs:∀ x y,m' x=some y→roM m x=some y):aD P f ⟨pre,⟨vs,[]⟩,m'⟩:=by
 unfold aD;rw[if_neg (by show ¬cZ pre.bs.length 0=true;rw[hb];exact Bool.false_ne_true)];refine ⟨h.callable,fun x y hxy=>?_⟩;refine h.calls x y ?_;have hxy:obind (m' x) (fun y=>some (mkp (PV.tyL vs) (PB.tyL pre.bs) (fsp (PV.tyL vs) (PB.tyL []) y) (snp _ _ x)))=some y:=hxy;obtain⟨z,hz,hzy⟩:=cL hxy;have h1:=hs x z hz;unfold roM at h1;obtain⟨y0,hy0,h2⟩:=cL h1;split at h2
 ·rename_i heq;have h2:=fI h2;have hzy:=fI hzy;subst h2;have hz2:mkp (PV.tyL vs) (PB.tyL pre.bs) (fsp (PV.tyL vs) (PB.tyL pre.bs) y0) (snp (PV.tyL pre.vs) (PB.tyL pre.bs) x)=y:=(congrArg (fun q=>mkp (PV.tyL vs) (PB.tyL pre.bs) q (snp (PV.tyL pre.vs) (PB.tyL pre.bs) x)) (mX (PV.tyL vs) (PB.tyL []) _ ()).symm).trans hzy;rw[← heq] at hz2;have:=(E3 (PV.tyL vs) (PB.tyL pre.bs) y0).symm.trans hz2;exact hy0.trans (congrArg some this)
 ·cases h2
theorem fq.drop {P:Program} {o:Oper} {e:TEnv} {h h':THeap} {nx nx':Nat} {v:TV} {rd wr W wr':Nat} (t:fq P o false e h nx v rd wr h' nx') (hW:∀ i,aI W i=true→bp h' (nm i)=bp h (nm i)∧aI rd i=true) (hw:∀ i,aI wr i=true→aI W i=true∨aI wr' i=true):fq P o false e h nx v rd wr' h' nx':=by
 obtain⟨⟨f,h1,h2,h3,h4,h5,h6⟩,r,i,g,st⟩:=t;have hs:∀ n,aI W (ow n)=true→bp h' n=bp h n:=fun n hn=>by
  by_cases ho:∃ i,n=nm i
  ·obtain⟨i,rfl⟩:=ho;rw[cU] at hn;exact (hW i hn).1
  ·rw[pa h ho,pa h' ho]
 have hup:∀ H:HF,(∀ n∈f.wr,H n=bp h n)→c5 H (f.wr.filter fun n=> !(aI W (ow n))) f.nw=c5 H f.wr f.nw:=fun H hH=>by
  funext n;unfold c5;by_cases hn:n∈f.wr
  ·by_cases hb:aI W (ow n)=true
   ·rw[if_neg (by simp[hb]),if_pos hn];have:=congrFun h3 n;unfold c5 at this;rw[if_pos hn,hs n hb] at this;rw[this,hH n hn]
   ·rw[if_pos (by simp[hn,hb]),if_pos hn]
  ·rw[if_neg (by simp[hn]),if_neg hn]
 refine ⟨⟨⟨f.val,f.rd++(f.wr.filter fun n=>aI W (ow n)),f.wr.filter fun n=> !(aI W (ow n)),f.nw,f.N⟩,?_,h2,?_,fun n hn=>?_,fun n hn=>?_,h6⟩,r,i,g,fun hs=>by cases hs⟩
 ·intro φ E H w a hrd hwr hops hrep hN;have k1:∀ i∈f.rd,H i=bp h i:=fun i hi=>hrd i (fb _ hi)
  have k2:∀ i∈f.wr,H i=bp h i:=fun i hi=>by
   cases hb:aI W (ow i) with
   |true=>exact hrd i (gh _ (by simp[hi,hb]))
   |false=>exact hwr i (by simp[hi,hb])
  have:=h1 φ E H w a k1 k2 hops hrep hN;simp only[hup H k2];exact this
 ·simp only[hup (bp h) (fun _ _=>rfl)];exact h3
 ·rcases bD.1 hn with hn|hn
  ·exact h4 n hn
  ·simp only[List.mem_filter] at hn;exact (hW _ hn.2).2
 ·simp only[List.mem_filter,cV] at hn;rcases hw _ (h5 n hn.1) with hh|hh
  ·rw[hn.2] at hh;cases hh
  ·exact hh
mutual
theorem D2 {n n':Nat} (hle:n≤n'):∀ (v:TV),yQ n v=true→yQ n' v=true
 |.row id,h=>by simp only[yQ,Nat.blt_eq] at h ⊢;omega
 |.pel id _ _ _,h=>by simp only[yQ,Nat.blt_eq] at h ⊢;omega
 |.ptr id _,h=>by simp only[yQ,Nat.blt_eq] at h ⊢;omega
 |.csl id _ _,h=>by simp only[yQ,Nat.blt_eq] at h ⊢;omega
 |.mp id,h=>by simp only[yQ,Nat.blt_eq] at h ⊢;omega
 |.agg l,h=>oZ hle l h
 |.tup l,h=>oZ hle l h
 |.clo _ l,h=>oZ hle l h
 |.f _ _,_=>rfl
 |.fel _ _ _ _ _,_=>rfl
 |.emp,_=>rfl
 |.nil,_=>rfl
 |.undef,_=>rfl
 |.np,_=>rfl
 |.anyb,_=>rfl
theorem oZ {n n':Nat} (hle:n≤n'):∀ (l:List TV),mN n l=true→mN n' l=true
 |[],_=>rfl
 |x::r,h=>by
  simp only[mN,ak] at h ⊢;exact⟨D2 hle x h.1,oZ hle r h.2⟩
end
theorem xB {g g':Nat→Nat} {h:THeap}:∀ (bs:List PB) (i:Nat) (x:(PB.tyL bs).den) (m:Nat),allRows bs=true→qY g h i bs=some (x,m)→∃ l,jv g' bs x=some l∧l.length=bs.length∧∀ j,j<bs.length→∃ ty p T xs,l[j]? =some (some (.rows ty p T xs))∧h.get (g (i+j))=some (.rows ty p T xs)
 |[],i,x,m,_,hg=>⟨[],rfl,rfl,fun j hj=>by simp at hj⟩
 |.rows ty p T::r,i,x,m,ha,hg=>by
  simp only[qY] at hg;split at hg
  ·rename_i x1 m1 h1;split at hg
   ·rename_i x2 m2 h2;simp only[ae,ay] at hg;obtain⟨rfl,rfl⟩:=hg;obtain⟨l,q1,q2,q3⟩:=xB (g:=g) (g':=g') (h:=h) r (i+1) x2 m2 ha h2;simp only[tT] at h1;split at h1
    ·rename_i ty' p' S xs hb;split at h1
     ·rename_i hc;simp only[ak,beq_iff_eq] at hc;obtain⟨rfl,rfl⟩:=hc;split at h1
      ·rename_i z hz;simp only[ae] at h1;obtain⟨rfl,_⟩:=h1;obtain⟨es,ez⟩:=eZ hz;cases es;subst ez;refine ⟨some (.rows ty p T x1)::l,?_,by simp[q2],fun j hj=>?_⟩
       ·simp only[jv];rw[mX,n8,q1];rfl
       ·cases j with
        |zero=>exact⟨ty,p,T,_,rfl,hb⟩
        |succ j=>
         obtain⟨a,b,c,d,w1,w2⟩:=q3 j (by simpa using hj);exact⟨a,b,c,d,by simpa using w1,by rw[show i+(j+1)=i+1+j from by omega];exact w2⟩
      ·cases h1
     ·cases h1
    ·cases h1
   ·cases hg
  ·cases hg
 |.rowsP _ _::r,i,x,m,ha,hg=>by cases ha
 |.cells _ _::r,i,x,m,ha,hg=>by cases ha
 |.mp _ _::r,i,x,m,ha,hg=>by cases ha
 |.gone::r,i,x,m,ha,hg=>by cases ha
theorem noGone_rows:∀ {bs:List PB},allRows bs=true→noGone bs=true
 |[],_=>rfl
 |.rows _ _ _::r,h=>noGone_rows (bs:=r) h
 |.rowsP _ _::r,h=>by cases h
 |.cells _ _::r,h=>by cases h
 |.mp _ _::r,h=>by cases h
 |.gone::r,h=>by cases h
theorem uo {h h2:THeap} {g:Nat→Nat}:∀ (n:Nat),(∀ i,i<n→h2.get (g i)=h.get (g i))→nj h h2 g n=true
 |0,_=>rfl
 |n+1,hs=>by
  simp only[nj,ak];refine ⟨?_,uo n fun i hi=>hs i (by omega)⟩;have:dg h2 (g n)=dg h (g n):=by rw[bF,bF,hs n (by omega)]
  rw[this];cases dg h (g n) with
  |none=>rfl
  |some q=>obtain⟨p,s,k⟩:=q;simp
def wS (P:Program) (con:FuncId→Option bR):Prop:=∀ f c,con f=some c→aD P f c
theorem B9 {R:Type} {P:Program} {con:FuncId→Option bR} (hcon:wS P con) {o:Oper} {e:TEnv} {h:THeap} {nx:Nat} {f:FuncId} {l:List TV} {K:KO R} {r:R} (hinv:ib h nx) (hk:Ca con f l h nx K=some r) {la:List AV} (hla:ci h l=some la)
 (hexec:∀ (φ:PM) (E:Nat→Prop) (h':HF) (w:World) (a:Act),sZ P f→(∀ t,.tmp t∈o.op.operands→∀ y,dC e h t=some y→cg φ (tot E φ h') w y (a.tmps.getD t undef))→lm φ E h' w→∃ us:List Value,(execOp a.eval o).run P w= .ok (.enter f us.toArray) w∧fP φ (tot E φ h') w la us):gI P o false e h nx K r:=by
 unfold Ca at hk;split at hk
 ·rename_i c hc;have spc:=hcon f c hc;split at hk
  ·rename_i x m σ sm hM;split at hk
   ·rename_i q hq;obtain⟨vs,hp⟩:=q;obtain⟨l1,I⟩:=o6 hq;obtain⟨y,hy,hk⟩:=cL hk;split at hk
    ·rename_i q2 hq2;obtain⟨rs1,hq1⟩:=q2;obtain⟨l2,J⟩:=o6 hq2;split at hk
     ·rename_i hcond;simp only[ak] at hcond;have hle:=aW hcond.1;have sp:=spc.holds hcond.1;simp only at hk;split at hk
      ·rename_i rs hrs;have hrs':=hrs;rw[m7,J.pv] at hrs';simp only[bN,ae] at hrs';split at hk
       ·rename_i hb;simp only[ak] at hb;have hq0:=au hb.1.2;refine ⟨_,_,_,_,_,hk,?_⟩;rw[← hrs'];exact Fi hinv sp (oX hM) I hy J (by omega) hq0 hb.2 _ hla fun φ E h' w a=>hexec φ E h' w a sp.callable
       ·split at hk
        ·rename_i h2 hh2;obtain⟨hsr,hk⟩:=c8 hk;refine ⟨_,_,_,_,_,hk,?_⟩;rw[← hrs'];unfold xq at hh2;rw[oO,J.pb] at hh2;simp only[bN,ae] at hh2;exact Ep hinv sp (oX hM) I hcond.2 hy J hle (fun i hi=>by
          have:eg i c.pre.bs.length=true:=bB hi;simp only[this,if_true]) (fun i hi=>by
          have:eg i c.pre.bs.length=false:=by
           cases hb:eg i c.pre.bs.length with
           |false=>rfl
           |true=>have:=aW hb;omega
          simp only[this];rfl) hh2.symm hsr hla fun φ E h' w a=>hexec φ E h' w a sp.callable
        ·cases hk
      ·cases hk
     ·rename_i hcond;split at hk
      ·rename_i hro;simp only[ak] at hro;have hq0:=au hro.1;have hng:=noGone_rows hro.2;have sp:kw P f c.full:=by
        unfold aD at spc
        rwa [if_neg (fun hb=>hcond (by rw[hb,hng];rfl))] at spc
       simp only at hk;split at hk
       ·rename_i rs hrs;split at hk
        ·rename_i h2 hh2;have hrs':=hrs;rw[m7,J.pv] at hrs';simp only[bN,ae] at hrs';refine ⟨_,_,_,_,_,hk,?_⟩;rw[← hrs'];have M:=oX hM;unfold xq at hh2;rw[oO,I.pb] at hh2;simp only[bN,ae] at hh2;have hqe:∀ i,hq1.get i=none:=fun i=>by
          cases hb:hq1.get i with
          |none=>rfl
          |some b=>have:=J.lt_len hb;omega
         have J':kY c.full.post (mkp (PV.tyL c.post.vs) (PB.tyL c.pre.bs) (fsp _ _ y) (snp _ _ x)) rs1 hp l1:=
          ⟨by show ky idf c.post.vs (fsp (PV.tyL c.post.vs) (PB.tyL c.pre.bs) _)=_;rw[mX];exact J.pv,by show jv idf c.pre.bs (snp (PV.tyL c.post.vs) (PB.tyL c.pre.bs) _)=_;rw[n8];exact I.pb,I.len,I.at_,eP (fun i r hr=>by rw[bF,hqe] at hr;cases hr) _ J.ok,oZ (by omega) _ J.lt,I.cells⟩
         obtain⟨x1,m1,x2,m2,hx,hmm,gv,gb⟩:=M.ex;obtain⟨l,q1,q2,q3⟩:=xB (g':=idf) c.pre.bs 0 x2 m2 hro.2 gb;have hl1:l1=l:=by
          have:=I.pb;rw[hx,n8,q1] at this;cases this;rfl
         subst hl1;have hgi:∀ i,i<c.pre.bs.length→(if eg i c.pre.bs.length then eh σ i else nx+(i-c.pre.bs.length))=eh σ i:=fun i hi=>by
          have:eg i c.pre.bs.length=true:=bB hi;simp only[this,if_true]
         have hsame:∀ i,i<c.pre.bs.length→h2.get (eh σ i)=h.get (eh σ i):=fun i hi=>by
          obtain⟨ty,p,T,xs,w1,w2⟩:=q3 i hi;rw[bw] at w2;have:=oe (fun i=>if eg i c.pre.bs.length then eh σ i else nx+(i-c.pre.bs.length)) (l1.map (gX (hP (fun i=>if eg i c.pre.bs.length then eh σ i else nx+(i-c.pre.bs.length))))) 0 (c7 m h) (fun a b ha hb e=>by
           simp only[cK,q2] at ha hb;rw[bw,bw,hgi a ha,hgi b hb] at e;exact M.inj a b ha hb e) i (some (.rows ty p T xs)) (by rw[aY,w1];rfl)
          rw[bw,hgi i hi] at this;rw[← hh2,this,w2]
         have t:=Ep (o:=o) (e:=e) hinv sp M I hng (y:=mkp (PV.tyL c.post.vs) (PB.tyL c.pre.bs) (fsp _ _ y) (snp _ _ x)) (by show obind (c.m x) _=_;rw[hy];rfl) J' (cD _) (g:=fun i=>if eg i c.pre.bs.length then eh σ i else nx+(i-c.pre.bs.length)) hgi (fun i hi=>by
          have:eg i c.pre.bs.length=false:=by
           cases hb:eg i c.pre.bs.length with
           |false=>rfl
           |true=>have:=aW hb;have hi:c.pre.bs.length≤i:=hi;omega
          simp only[this];rfl) hh2.symm (uo _ fun i hi=>by rw[hgi i hi];exact hsame i hi) hla fun φ E h' w a=>hexec φ E h' w a sp.callable
         have t':fq P o false e h nx (resT (gp (fun i=>if eg i c.pre.bs.length then eh σ i else nx+(i-c.pre.bs.length)) rs1)) (sm|||m) (sm|||m|||(((1<<<(c.pre.bs.length-c.pre.bs.length))-1)<<<nx)) h2 (nx+(c.pre.bs.length-c.pre.bs.length)):=t;rw[Nat.sub_self,cP] at t';refine t'.drop (W:=sm) (fun i hi=>?_) (fun i hi=>?_)
         ·refine ⟨?_,by rw[bh,hi];rfl⟩;obtain⟨k,hk,rfl⟩:=(M.sig i).1 hi;obtain⟨ty,p,T,xs,_,w2⟩:=q3 k hk;rw[bw] at w2;rw[bu,bu,hsame k hk,w2];rfl
         ·simp only[Nat.shiftLeft_zero,Nat.sub_self,Nat.zero_shiftLeft,Nat.or_zero,bh,eO] at hi;exact hi
        ·cases hk
       ·cases hk
      ·cases hk
    ·cases hk
   ·cases hk
  ·cases hk
 ·cases hk
theorem F1 {R:Type} {P:Program} {con:FuncId→Option bR} (hcon:wS P con) {bH:TypeId→Option Ty} {o:Oper} {e:TEnv} {h:THeap} {nx:Nat} {i:SI} {K:KO R} {r:R} (hinv:ib h nx) (hi:m6 e h) (hc:pT P o.op=i) (hk:cN con bH i e h nx K=some r):gI P o i.still e h nx K r:=by
 have callOps:∀ (c:Call),o.op= .call c→∀ x,x∈c.operands→x∈o.op.operands:=fun c ho x hx=>by rw[ho];exact hx
 cases i with
 |call f args=>
  simp only[cN] at hk;split at hk
  ·rename_i l hl;have ho:∃ c:Call,o.op= .call c∧c.callee= .value (.func f)∧c.args.toList=args:=by
    unfold pT at hc;split at hc
    ·rename_i i hi;subst hc;unfold callOf at hi;split at hi
     ·rename_i c ho;split at hi
      ·rename_i g hg;simp only[ae,SI.call.injEq] at hi;exact⟨c,ho,by rw[hg,hi.1],hi.2⟩
      ·simp at hi
      ·cases hi
     ·cases hi
    ·split at hc<;>cases hc
   obtain⟨c,ho,h1,h2⟩:=ho;obtain⟨la,g1,g2⟩:=qc hi hl;refine B9 hcon hinv hk g2 fun φ E h' w a hcb hops hrep=>?_
   have hp:BF φ E h' w a (xh e h) o:=fun x y hx hy=>mY hrep (by rw[om];exact hops) hx hy
   refine ⟨args.map a.eval,?_,yD hp args la (fun x hx=>callOps c ho x (by simp[dj,h1,←h2] at hx ⊢;exact .inr hx)) g1⟩;unfold execOp;rw[ho];have hm:c.args.map a.eval=(args.map a.eval).toArray:=by rw[← h2];apply wV;simp
   simp[resolve,h1,Act.eval,Deferred.ofValue,invoke,hm,pm hcb]
  ·cases hk
 |callv x args=>
  simp only[cN] at hk;split at hk
  ·rename_i f cap l hx hl;have ho:∃ c:Call,o.op= .call c∧c.callee= .value x∧c.args.toList=args:=by
    unfold pT at hc;split at hc
    ·rename_i i hi;subst hc;unfold callOf at hi;split at hi
     ·rename_i c ho;split at hi
      ·simp at hi
      ·rename_i g hg;simp only[ae,SI.callv.injEq] at hi;exact⟨c,ho,by rw[hg,hi.1],hi.2⟩
      ·cases hi
     ·cases hi
    ·split at hc<;>cases hc
   obtain⟨c,ho,h1,h2⟩:=ho;obtain⟨la,g1,g2⟩:=qc hi hl;obtain⟨yx,g3,g4⟩:=bx hi hx;simp only[bS] at g4;split at g4
   ·rename_i lc hlc;simp only[ae] at g4;subst g4;refine B9 hcon hinv hk (iL g2 hlc) fun φ E h' w a hcb hops hrep=>?_
    have hp:BF φ E h' w a (xh e h) o:=fun x y hx hy=>mY hrep (by rw[om];exact hops) hx hy
    have hxv:=hp x _ (callOps c ho x (by simp[dj,h1])) g3;have hlv:=yD hp args la (fun x hx=>callOps c ho x (by simp[dj,h1,←h2] at hx ⊢;exact .inr hx)) g1;generalize hz:a.eval x=z at hxv;cases hxv with
    |@clo _ _ vs hvl hvr=>
     refine ⟨args.map a.eval++vs,?_,hlv.append (fP.of hvl hvr)⟩;unfold execOp;rw[ho];have hm:c.args.map a.eval=(args.map a.eval).toArray:=by rw[← h2];apply wV;simp
     simp[resolve,h1,hz,Deferred.ofValue,invoke,hm,pm hcb]
   ·cases g4
  ·cases hk
 |op s=>
  have hc:s= .bad∨cE P o.op=some s:=by
   unfold pT at hc;split at hc
   ·rename_i i hi;subst hc;unfold callOf at hi;split at hi
    ·split at hi<;>simp at hi
    ·cases hi
   ·split at hc
    ·rename_i q hq;simp only[SI.op.injEq] at hc;subst hc;exact .inr hq
    ·simp only[SI.op.injEq] at hc;exact .inl hc.symm
  rcases hc with rfl|hc
  ·simp[cN] at hk
  ·exact K_op hinv hi hc hk
def dL (am:Nat) (e e':TEnv):Prop:=∀ k,aI am k=false→∀ v',e'.get k=some v'→∃ v,e.get k=some v∧(idFree v=true→v'=v)
theorem dL.refl (am:Nat) (e:TEnv):dL am e e:=fun _ _ v' h=>⟨v',h,fun _=>rfl⟩
theorem dL.trans {am:Nat} {a b c:TEnv} (h1:dL am a b) (h2:dL am b c):dL am a c:=fun k hk v' hv=>by
 obtain⟨v1,g1,g2⟩:=h2 k hk v' hv;obtain⟨v,g3,g4⟩:=h1 k hk v1 g1;refine ⟨v,g3,fun hf=>?_⟩;have:=g4 hf;subst this;exact g2 hf
theorem dL.mono {am am':Nat} {a b:TEnv} (h:dL am a b) (hm:∀ k,aI am k=true→aI am' k=true):dL am' a b:=fun k hk=>h k (by
 cases hx:aI am k with
 |false=>rfl
 |true=>rw[hm k hx] at hk;cases hk)
structure Ey (P:Program) (ops:Array Oper) (rest:List Oper) (sl:List mI) (am:Nat) (s s':TS) (fs:List EH) (l:List (Oper×q9)):Prop where
 ops_:l.map (·.1)=rest
 chain:qr P ops l (dC s.e s.h) (bp s.h) (dC s'.e s'.h) (bp s'.h)
 fsl:fs.length=l.length
 sll:sl.length=l.length
 fp:∀ (j:Nat) o f q,l[j]? =some (o,f)→fs[j]? =some q→(∀ n∈f.rd,aI q.rd (ow n)=true)∧∀ n∈f.wr,aI q.wr (ow n)=true
 still:∀ (j:Nat) o f so,l[j]? =some (o,f)→sl[j]? =some so→so.op.still=true→f.rd=[]∧f.wr=[]
 names:∀ (j:Nat) o f,l[j]? =some (o,f)→∀ n∈f.N,s.nx≤ow n∧ow n<s'.nx
 apart_:∀ (i j:Nat) oi fi oj fj,i<j→l[i]? =some (oi,fi)→l[j]? =some (oj,fj)→∀ n∈fi.N,n∉fj.N
 grows:s.nx≤s'.nx
 invH:ib s'.h s'.nx
 invE:m6 s'.e s'.h
 keeps:dL am s.e s'.e
theorem ES {e:TEnv} {h h':THeap} (hi:m6 e h) (hr:bQ h h') (d:Option Nat) {v:TV} {y:AV} (hv:bS h' v=some y):r9 (dC e h) d y=dC (tj e d v) h':=by
 funext t;have old:(e.get t).bind (bS h)=(e.get t).bind (bS h'):=by
  cases ht:e.get t with
  |none=>rfl
  |some x=>
   obtain⟨z,hz⟩:=kA h x (hi t x ht);simp only[aC,hz,dW hr x z hz]
 cases d with
 |none=>simp only[r9,tj,dC];rw[if_neg (by simp)];exact old
 |some d=>
  simp only[r9,tj,dC,PT.get_set,ae];by_cases hd:d=t
  ·subst hd;simp[hv]
  ·rw[if_neg hd,if_neg (fun e=>hd e.symm)];exact old
theorem m6.put {e:TEnv} {h h':THeap} (hi:m6 e h) (hr:bQ h h') (d:Option Nat) {v:TV} (hv:yP h' v=true):m6 (tj e d v) h':=fun t x hx=>by
 cases d with
 |none=>exact jw hr x (hi t x hx)
 |some d=>
  simp only[tj,PT.get_set] at hx;split at hx
  ·cases hx;exact hv
  ·exact jw hr x (hi t x hx)
theorem zT {e:TEnv} {h:THeap} {t:Nat} {v:TV} (ht:e.get t=some v):dC (e.set t (some v)) h=dC e h:=by
 funext k;simp only[dC,PT.get_set];by_cases hk:k=t
 ·subst hk;simp[ht]
 ·rw[if_neg hk]
theorem m6.set {e:TEnv} {h:THeap} {t:Nat} {v:TV} (hi:m6 e h) (ht:e.get t=some v):m6 (e.set t (some v)) h:=fun k x hx=>by
 rw[PT.get_set] at hx;split at hx
 ·rename_i hk;subst hk;cases hx;exact hi _ _ ht
 ·exact hi k x hx
theorem AJ {R:Type} {e:TEnv} {g:Option (Nat×Bool)} {K:Bool→TEnv→Option R} {r:R} (h:Ds e g K=some r):
 (g=none∧K true e=some r)∨(∃ t want b,g=some (t,want)∧e.get t=some (.f .bool b)∧K (b==want) (e.set t (some (.f .bool b)))=some r)∨∃ t want,g=some (t,want)∧e.get t=some .undef∧K false e=some r:=by
 unfold Ds at h;split at h
 ·exact .inl ⟨rfl,h⟩
 ·rename_i t want;split at h
  ·rename_i b hb;refine .inr (.inl ⟨t,want,b,rfl,hb,?_⟩);cases want with
   |true=>rcases kf h with ⟨rfl,h⟩|⟨rfl,h⟩<;>exact h
   |false=>rcases kf h with ⟨rfl,h⟩|⟨rfl,h⟩<;>exact h
  ·rename_i hb;exact .inr (.inr ⟨t,want,rfl,hb,h⟩)
  ·cases h
theorem vE {R:Type} {P:Program} {con:FuncId→Option bR} (hcon:wS P con) {bH:TypeId→Option Ty} {ops:Array Oper} {am:Nat} (ham:∀ (j:Nat) (o:Oper) (d:Nat),ops[j]? =some o→o.dst=some d→aI am d=true):
 ∀ (rest:List Oper) (sl:List mI) (s:TS) (fs:List EH) (K:TS→List EH→Option R) (r:R),(∀ o∈rest,∃ j:Nat,ops[j]? =some o)→mm P ops rest=some sl→w9 con bH sl s fs K=some r→ib s.h s.nx→m6 s.e s.h→∃ s' fs' l,K s' (fs.reverse++fs')=some r∧Ey P ops rest sl am s s' fs' l
 |[],sl,s,fs,K,r,hin,hc,hk,hH,hE=>by
  simp only[mm,ae] at hc;subst hc;simp only[w9] at hk;exact⟨s,[],[],by simpa using hk,rfl,.nil _ _,rfl,rfl,by simp,by simp,by simp,by simp,cD _,hH,hE,dL.refl _ _⟩
 |o::rest,sl,s,fs,K,r,hin,hc,hk,hH,hE=>by
  simp only[mm] at hc;split at hc
  ·rename_i sl' hsl';have hso:∃ g,sl=⟨o.dst,pT P o.op,g⟩::sl'∧((g=none∧o.guard=none)∨∃ j want t,g=some (t,want)∧o.guard=some (j,want)∧(ops[j]?).bind (·.dst)=some t):=by
    split at hc
    ·rename_i hg;simp only[ae] at hc;exact⟨none,hc.symm,.inl ⟨rfl,hg⟩⟩
    ·rename_i j want hg;split at hc
     ·rename_i t ht;simp only[ae] at hc;exact⟨some (t,want),hc.symm,.inr ⟨j,want,t,rfl,hg,ht⟩⟩
     ·cases hc
   obtain⟨g,rfl,hg⟩:=hso;simp only[w9] at hk;have hdst:∀ d,o.dst=some d→aI am d=true:=fun d hd=>by
    obtain⟨j,hj⟩:=hin o (eU ..);exact ham j o d hj hd
   have hgs:∀ t want,g=some (t,want)→aI am t=true:=fun t want hgt=>by
    rcases hg with ⟨h1,_⟩|⟨j,want',t',h1,_,h3⟩
    ·rw[h1] at hgt;cases hgt
    ·rw[h1] at hgt;cases hgt;cases hj:ops[j]? with
     |none=>rw[hj] at h3;cases h3
     |some oj=>rw[hj] at h3;exact ham j oj t hj h3
   have kput:∀ (e:TEnv) (v:TV),dL am s.e e→dL am s.e (tj e o.dst v):=fun e v hke k hk v' hv=>by
    cases hd:o.dst with
    |none=>rw[hd] at hv;exact hke k hk v' hv
    |some d=>
     rw[hd] at hv;simp only[tj,PT.get_set] at hv;split at hv
     ·rename_i e2;rw[e2,hdst d hd] at hk;cases hk
     ·exact hke k hk v' hv
   have done:∀ (f:q9) (v:TV) (h':THeap) (nx' rd wr:Nat) (e:TEnv),dC e s.h=dC s.e s.h→m6 e s.h→dL am s.e e→wK P ops o f (dC s.e s.h) (bp s.h)→(∃ y,bS h' v=some y∧f.val=y)→c5 (bp s.h) f.wr f.nw=bp h'→(∀ n∈f.rd,aI rd (ow n)=true)→(∀ n∈f.wr,aI wr (ow n)=true)→(∀ n∈f.N,s.nx≤ow n∧ow n<nx')→bQ s.h h'→ib h' nx'→s.nx≤nx'→((pT P o.op).still=true→f.rd=[]∧f.wr=[])→
    w9 con bH sl' ⟨tj e o.dst v,h',nx'⟩ (⟨rd,wr⟩::fs) K=some r→∃ s' fs' l,K s' (fs.reverse++fs')=some r∧Ey P ops (o::rest) (⟨o.dst,pT P o.op,g⟩::sl') am s s' fs' l:=by
    intro f v h' nx' rd wr e hee hiE hke hst hval hheap hrd hwr hN hrows hinv' hgr hstill hrun;obtain⟨y,hy1,hy2⟩:=hval;obtain⟨s',fs',l,hK,L⟩:=vE hcon ham rest sl' _ _ K r (fun o' ho'=>hin o' (cS _ ho')) hsl' hrun hinv' (hiE.put hrows o.dst (tX _ _ _ hy1));have hg2:nx'≤s'.nx:=L.grows;refine ⟨s',⟨rd,wr⟩::fs',(o,f)::l,by simpa using hK,by simp[L.ops_],.cons hst ?_,by simp[L.fsl],by simp[L.sll],?_,?_,?_,?_,cO hgr hg2,L.invH,L.invE,(kput e v hke).trans L.keeps⟩
    ·have e1:r9 (dC s.e s.h) o.dst f.val=dC (tj e o.dst v) h':=by rw[← hee,hy2];exact ES hiE hrows o.dst hy1
     rw[e1,hheap];exact L.chain
    ·intro j o' f' q' h1 h2;cases j with
     |zero=>simp at h1 h2;obtain⟨rfl,rfl⟩:=h1;subst h2;exact⟨hrd,hwr⟩
     |succ j=>exact L.fp j o' f' q' (by simpa using h1) (by simpa using h2)
    ·intro j o' f' so h1 h2 h3;cases j with
     |zero=>simp at h1 h2;obtain⟨rfl,rfl⟩:=h1;subst h2;exact hstill h3
     |succ j=>exact L.still j o' f' so (by simpa using h1) (by simpa using h2) h3
    ·intro j o' f' h1 n hn;cases j with
     |zero=>
      simp at h1;obtain⟨rfl,rfl⟩:=h1;have:=hN n hn;exact⟨this.1,by omega⟩
     |succ j=>
      have:=L.names j o' f' (by simpa using h1) n hn;exact⟨cO hgr this.1,this.2⟩
    ·intro i j oi fi oj fj hij h1 h2 n hn hn';cases j with
     |zero=>omega
     |succ j=>
      have hj:=L.names j oj fj (by simpa using h2) n hn';cases i with
      |zero=>
       simp at h1;obtain⟨rfl,rfl⟩:=h1;have h3:=(hN n hn).2;have h4:nx'≤ow n:=hj.1;omega
      |succ i=>exact L.apart_ i j oi fi oj fj (by omega) (by simpa using h1) (by simpa using h2) n hn hn'
   have runs:∀ (e:TEnv),dC e s.h=dC s.e s.h→m6 e s.h→dL am s.e e→(∀ f,dX P o (dC s.e s.h) (bp s.h) f→wK P ops o f (dC s.e s.h) (bp s.h))→cN con bH (pT P o.op) e s.h s.nx (fun v rd wr h nx=>if yP h v then w9 con bH sl' ⟨tj e o.dst v,h,nx⟩ (⟨rd,wr⟩::fs) K else none)=some r→∃ s' fs' l,K s' (fs.reverse++fs')=some r∧Ey P ops (o::rest) (⟨o.dst,pT P o.op,g⟩::sl') am s s' fs' l:=by
    intro e hee hiE hke hstep hk;obtain⟨v,rd,wr,h',nx',hK,T⟩:=F1 hcon hH hiE rfl hk;simp only[] at hK;split at hK
    ·rename_i hok;obtain⟨f,t1,t2,t3,t4,t5,t6⟩:=T.ex;rw[hee] at t1;obtain⟨y,hy⟩:=kA h' v hok;refine done f v h' nx' rd wr e hee hiE hke (hstep f t1) ⟨y,hy,t2 y hy⟩ t3 t4 t5 t6 T.rows T.inv T.grows (fun hs=>?_) hK;obtain⟨r0,w0⟩:=T.st hs;subst r0;subst w0;constructor
     ·cases hl:f.rd with
      |nil=>rfl
      |cons n q=>have:=t4 n (by rw[hl];simp);simp at this
     ·cases hl:f.wr with
      |nil=>rfl
      |cons n q=>have:=t5 n (by rw[hl];simp);simp at this
    ·cases hK
   have skips:∀ (e:TEnv),dC e s.h=dC s.e s.h→m6 e s.h→dL am s.e e→wK P ops o skipEff (dC s.e s.h) (bp s.h)→w9 con bH sl' ⟨tj e o.dst .undef,s.h,s.nx⟩ (⟨0,0⟩::fs) K=some r→∃ s' fs' l,K s' (fs.reverse++fs')=some r∧Ey P ops (o::rest) (⟨o.dst,pT P o.op,g⟩::sl') am s s' fs' l:=by
    intro e hee hiE hke hstep hk;exact done skipEff .undef s.h s.nx 0 0 e hee hiE hke hstep ⟨_,rfl,rfl⟩ (by funext i;simp[c5,skipEff]) (by simp[skipEff]) (by simp[skipEff]) (by simp[skipEff]) (bQ.refl _) hH (cD _) (fun _=>⟨rfl,rfl⟩) hk
   rcases AJ hk with ⟨h1,hk⟩|⟨t,want,b,h1,hb,hk⟩|⟨t,want,h1,hb,hk⟩
   ·refine runs s.e rfl hE (dL.refl _ _) (fun f hf=>?_) hk;rcases hg with ⟨_,hg⟩|⟨j,want,t,h2,_,_⟩
    ·exact .run hg hf
    ·rw[h1] at h2;cases h2
   ·rcases hg with ⟨h2,_⟩|⟨j,want',t',h2,h3,h4⟩
    ·rw[h1] at h2;cases h2
    ·rw[h1] at h2;cases h2;have hgt:=hgs t want h1;have heb:dC s.e s.h t=some (.f (.raw (.bool b))):=by simp only[dC,hb,aC,bS];rfl
     have hke:dL am s.e (s.e.set t (some (.f .bool b))):=fun k hk v' hv=>by
      rw[PT.get_set] at hv;split at hv
      ·rename_i ek;rw[ek,hgt] at hk;cases hk
      ·exact⟨v',hv,fun _=>rfl⟩
     cases hbw:(b==want) with
     |true=>
      rw[hbw] at hk;have:b=want:=by simpa using hbw
      subst this;exact runs _ (zT hb) (hE.set hb) hke (fun f hf=>.runG j t b h3 h4 heb hf) hk
     |false=>
      rw[hbw] at hk;refine skips _ (zT hb) (hE.set hb) hke (.skip j t want h3 h4 (.bool b) heb ?_ rfl) hk;intro hv;cases hv;simp at hbw
   ·rcases hg with ⟨h2,_⟩|⟨j,want',t',h2,h3,h4⟩
    ·rw[h1] at h2;cases h2
    ·rw[h1] at h2;cases h2;exact skips _ rfl hE (dL.refl _ _) (.skip j t want h3 h4 undef (by simp only[dC,hb,aC,bS]) (by unfold undef;simp) rfl) hk
  ·cases hc
theorem E0 {P:Program} {ops:Array Oper} {sl:List mI} {am:Nat} {s s':TS} {fs:List EH} {l:List (Oper×q9)} {prs:List (Nat×Nat)} (hl:Ey P ops ops.toList sl am s s' fs l) (hp:xr ops sl=some prs) (hok:uq fs prs=true):HA ops l:=by
 unfold xr at hp;simp only[] at hp;split at hp
 ·rename_i hall;simp only[li,k9,ak] at hall;simp only[ae] at hp;have hop:∀ (j:Nat) o f,l[j]? =some (o,f)→ops[j]? =some o:=fun j o f hj=>by
   have h1:(l.map (·.1))[j]? =some o:=by rw[aY,hj];rfl
   rw[hl.ops_] at h1;simpa using h1
  have hsize:∀ (j:Nat) o,ops[j]? =some o→j<ops.size:=fun j o h=>(b6.1 h).1
  have hprs:∀ i j,(i,j)∈prs→∃ a b,fs[i]? =some a∧fs[j]? =some b∧sQ a.wr b.rd=true∧sQ a.wr b.wr=true∧sQ b.wr a.rd=true:=by
   clear hp hall;induction prs with
   |nil=>intro i j h;cases h
   |cons p prs ih=>
    obtain⟨i0,j0⟩:=p;simp only[uq,ak,fpAt_eq] at hok;intro i j hm;rcases bo.1 hm with h|h
    ·cases h;have h1:=hok.1;split at h1
     ·rename_i a b ha hb;simp only[ak] at h1;exact⟨a,b,ha,hb,h1.1.1,h1.1.2,h1.2⟩
     ·cases h1
    ·exact ih hok.2 i j h
  refine ⟨fun j o ho e he hb=>?_,fun i j oi fi oj fj hij hi hj=>?_,hl.apart_⟩
  ·have:=(hall j (hsize j o ho)).1;rw[ho] at this;simp only[Option.all_some,li] at this;have:=this e (by simpa using he);simp[hb] at this;exact this
  ·have h1:=hop i oi fi hi;have h2:=hop j oj fj hj;have hcase:=(hall j (hsize j oj h2)).2 i hij;rw[h1,h2] at hcase;simp only[eO] at hcase;by_cases hB:aI ((befsGo ops.toList []).getD j 0) i=true
   ·left;rw[aN] at hB;cases hx:(befsGo ops.toList [])[j]? with
    |none=>rw[hx] at hB;simp at hB
    |some B=>
     rw[hx] at hB;exact xH (ops:=ops) ops.toList [] (fun j o hj=>by simpa using hj) (fun j B hj=>by simp at hj) j B hx i (by simpa using hB)
   ·right;have hap:=hcase.resolve_left hB;refine ⟨hap,?_⟩;have hil:i<l.length:=(bg.1 hi).1;have hjl:j<l.length:=(bg.1 hj).1;have hsi:=aw (show i<sl.length by rw[hl.sll];exact hil);have hsj:=aw (show j<sl.length by rw[hl.sll];exact hjl);by_cases hst:(sl[i]'(by rw[hl.sll];exact hil)).op.still=true
    ·obtain⟨q1,q2⟩:=hl.still i oi fi _ hi hsi hst;rw[q1,q2];exact⟨(fun x hx=>by cases hx),(fun x _ hx=>by cases hx)⟩
    ·by_cases hst2:(sl[j]'(by rw[hl.sll];exact hjl)).op.still=true
     ·obtain⟨q1,q2⟩:=hl.still j oj fj _ hj hsj hst2;rw[q1,q2];exact⟨(fun x hx=>⟨(by simp),(by simp)⟩),(fun x hx=>by cases hx)⟩
     ·have hmem:(i,j)∈prs:=by
       rw[← hp,nX];refine ⟨j,k9.2 (hsize j oj h2),?_⟩;rw[List.mem_filterMap];refine ⟨i,k9.2 hij,?_⟩;rw[if_neg];rw[hsi,hsj];simp only[eO,not_or];exact⟨hB,hst,hst2⟩
      obtain⟨a,b,ha,hb,d1,d2,d3⟩:=hprs i j hmem;obtain⟨f1,f2⟩:=hl.fp i oi fi a hi ha;obtain⟨g1,g2⟩:=hl.fp j oj fj b hj hb;refine ⟨fun x hx=>⟨fun hx'=>?_,fun hx'=>?_⟩,fun x hx hx'=>?_⟩
      ·have:=pM d1 (ow x) (f2 x hx);rw[g1 x hx'] at this;cases this
      ·have:=pM d2 (ow x) (f2 x hx);rw[g2 x hx'] at this;cases this
      ·have:=pM d3 (ow x) (g2 x hx);rw[f1 x hx'] at this;cases this
 ·cases hp
structure jK (P:Program) (E:Nat→Prop) (nt np:Nat) (φ:PM) (s:TS) (a:Act) (w:World):Prop where
 rep:lm φ E (bp s.h) w
 env:xM φ (tot E φ (bp s.h)) w (dC s.e s.h) a
 dom:∀ n k,φ n=some k→ow n<s.nx
 low:np≤s.nx
 invH:ib s.h s.nx
 invE:m6 s.e s.h
 inert:∀ d∈a.defers,EE P d
 size:a.tmps.size=nt
structure rO (np:Nat) (φ φ':PM) (H H':HF) (w w':World):Prop where
 ext:wQ (own φ H) w w'
 own_:∀ k,k<w.heap.size→own φ' H' k→own φ H k
 par:∀ i,i<np→φ' (nm i)=φ (nm i)
theorem rO.refl (np:Nat) (φ:PM) (H:HF) (w:World):rO np φ φ H H w w:=⟨wQ.refl _ _,fun _ _ h=>h,fun _ _=>rfl⟩
theorem rO.trans {np:Nat} {φ φ' φ'':PM} {H H' H'':HF} {w w' w'':World} (a:rO np φ φ' H H' w w') (b:rO np φ' φ'' H' H'' w' w''):rO np φ φ'' H H'' w w'' where
 ext:=⟨b.ext.os.trans a.ext.os,b.ext.tape.trans a.ext.tape,b.ext.output.trans a.ext.output,cO a.ext.size b.ext.size,
  fun k hk ho=>(b.ext.blk k (cI hk a.ext.size) (fun h=>ho (a.own_ k hk h))).trans (a.ext.blk k hk ho),
  fun k hk=>(b.ext.shp k (cI hk a.ext.size)).trans (a.ext.shp k hk)⟩
 own_:=fun k hk h=>a.own_ k hk (b.own_ k (cI hk a.ext.size) h)
 par:=fun i hi=>(b.par i hi).trans (a.par i hi)
theorem DH {R:Type} {P:Program} {E:Nat→Prop} {nt np:Nat} {φ:PM} {s:TS} {a:Act} {w:World} {con:FuncId→Option bR} {bH:TypeId→Option Ty} (hm:P.follows .mixedOrders=true) (hcon:wS P con) (c:jK P E nt np φ s a w) {id:Nat} {ops:Array Oper} {draw:Bool} {sl:List mI} {prs:List (Nat×Nat)} {am:Nat} (ham:∀ (j:Nat) (o:Oper) (d:Nat),ops[j]? =some o→o.dst=some d→aI am d=true)
 (hd:(ops.toList.all fun o=>match o.dst with|some d=>decide (d<nt)|none=>true)=true) (hc:mm P ops ops.toList=some sl) (hp:xr ops sl=some prs) {K:TS→Option R} {r:R} (hr:w9 con bH sl s [] (fun s' fs=>if uq fs prs then K s' else none)=some r) {Q:Exit→Act→World→Prop}
 (hQ:∀ a' w' s' φ',K s'=some r→jK P E nt np φ' s' a' w'→rO np φ φ' (bp s.h) (bp s'.h) w w'→dL am s.e s'.e→Q .normal a' w'):(Code.region id ops draw).wp P Q a w:=by
 obtain⟨s',fs',l,hK,L⟩:=vE hcon ham ops.toList sl s [] _ r (fun o ho=>by
  obtain⟨j,hj⟩:=db ho;exact⟨j,by simpa using hj⟩) hc hr c.invH c.invE
 have hK:(if uq fs' prs then K s' else none)=some r:=hK;by_cases hok:uq fs' prs=true
 ·rw[if_pos hok] at hK;refine zk (φ0:=φ) (E:=E) hm L.ops_ L.chain (E0 L hp hok) ?_ ?_ c.rep c.env ?_
  ·intro n hn;obtain⟨p,hp',hn⟩:=nX.1 hn;obtain⟨j,hj⟩:=db hp';have:=L.names j p.1 p.2 hj n hn;cases hx:φ n with
   |none=>rfl
   |some k=>have:=c.dom n k hx;omega
  ·intro j o ho d hd';have:=li.1 hd o (by have:=Array.mem_of_getElem? ho;simpa using this);rw[hd'] at this;rw[c.size];simpa using this
  ·rintro a' w' ⟨φ',m',d',r',en',df',sz'⟩;have hnm:∀ n k,φ' n=some k→φ n=some k∨(s.nx≤ow n∧ow n<s'.nx):=fun n k hik=>by
    rcases d' n k hik with h|h
    ·exact .inl h
    ·obtain⟨p,hp',hn⟩:=nX.1 h;obtain⟨j,hj⟩:=db hp';exact .inr (L.names j p.1 p.2 hj n hn)
   have hg:=L.grows;have hlow:=c.low;refine hQ a' w' s' φ' hK ⟨r',en',fun n k hik=>?_,by omega,L.invH,L.invE,by rw[df'];exact c.inert,by rw[sz'];exact c.size⟩ ⟨m'.ext,m'.own_,fun i hi=>?_⟩ L.keeps
   ·rcases hnm n k hik with h|h
    ·have:=c.dom n k h;omega
    ·exact h.2
   ·cases hx:φ (nm i) with
    |some k=>exact m'.sub _ _ hx
    |none=>
     cases hy:φ' (nm i) with
     |none=>rfl
     |some k=>
      rcases hnm (nm i) k hy with h|h
      ·rw[hx] at h;cases h
      ·rw[cU] at h;omega
 ·rw[if_neg hok] at hK;cases hK
theorem asgO_acc:∀ (l:List mI) (acc:Nat),asgO l acc=acc|||asgO l 0
 |[],acc=>by simp[asgO]
 |o::r,acc=>by
  simp only[asgO];cases o.dst with
  |none=>exact asgO_acc r acc
  |some d=>simp only[];rw[asgO_acc r (acc|||gZ d),asgO_acc r (0|||gZ d),s6,gr]
theorem ksB_acc:∀ (l:List Nat) (acc:Nat),ksB l acc=acc|||ksB l 0
 |[],acc=>by simp[ksB]
 |k::r,acc=>by simp only[ksB];rw[ksB_acc r (acc|||gZ k),ksB_acc r (0|||gZ k),s6,gr]
theorem adjB_acc:∀ (l:List EK) (acc:Nat),adjB l acc=acc|||adjB l 0
 |[],acc=>by simp[adjB]
 |.nil k _ _::r,acc=>by simp only[adjB];rw[adjB_acc r (acc|||gZ k),adjB_acc r (0|||gZ k),s6,gr]
 |.cel _ _ _ _::r,acc=>by simp only[adjB];exact adjB_acc r acc
 |.mpt _ _ _::r,acc=>by simp only[adjB];exact adjB_acc r acc
 |.ren k _::r,acc=>by simp only[adjB];rw[adjB_acc r (acc|||gZ k),adjB_acc r (0|||gZ k),s6,gr]
 |.pk _ _ _::r,acc=>by simp only[adjB];exact adjB_acc r acc
theorem asg_acc:∀ (c:TC) (acc:Nat),c.asg acc=acc|||c.asg 0
 |.reg ops _,acc=>asgO_acc ops acc
 |.seq a b,acc=>by simp only[TC.asg];rw[asg_acc b (a.asg acc),asg_acc b (a.asg 0),asg_acc a acc,gr]
 |.jseq A a b,acc=>by simp only[TC.asg];rw[asg_acc b (a.asg _),asg_acc b (a.asg (ksB A.ks 0)),asg_acc a (ksB A.ks acc),asg_acc a (ksB A.ks 0),ksB_acc A.ks acc,gr,gr,gr]
 |.cond _ a b,acc=>by simp only[TC.asg];rw[asg_acc b (a.asg acc),asg_acc b (a.asg 0),asg_acc a acc,gr]
 |.block _ b,acc=>asg_acc b acc
 |.jblock A _ b,acc=>by simp only[TC.asg];rw[asg_acc b (ksB A.ks acc),asg_acc b (ksB A.ks 0),ksB_acc A.ks acc,gr]
 |.loop A b,acc=>by simp only[TC.asg];rw[asg_acc b (ksB A.ks acc),asg_acc b (ksB A.ks 0),ksB_acc A.ks acc,gr]
 |.defer _ _ t,acc=>by simp[TC.asg]
 |.adj l c,acc=>by simp only[TC.asg];rw[asg_acc c (adjB l acc),asg_acc c (adjB l 0),adjB_acc l acc,gr]
 |.split _ _ _ _ c,acc=>asg_acc c acc
 |.unl _ b,acc=>asg_acc b acc
 |.skip,acc=>by simp[TC.asg]
 |.exit _,acc=>by simp[TC.asg]
 |.ret,acc=>by simp[TC.asg]
 |.bad,acc=>by simp[TC.asg]
theorem ou {c:TC} {acc k:Nat} (h:aI (c.asg 0) k=true):aI (c.asg acc) k=true:=by rw[asg_acc,bh,h];simp
theorem gg {c:TC} {acc k:Nat} (h:aI acc k=true):aI (c.asg acc) k=true:=by rw[asg_acc,bh,h];rfl
theorem ksB_mem:∀ {l:List Nat} {acc k:Nat},k∈l→aI (ksB l acc) k=true
 |[],_,_,h=>by cases h
 |x::r,acc,k,h=>by
  simp only[ksB];rcases bo.1 h with rfl|h
  ·rw[ksB_acc,bh,bh,bI.2 rfl];simp
  ·exact ksB_mem h
theorem asgO_mem:∀ {l:List mI} {acc:Nat} {o:mI} {d:Nat},o∈l→o.dst=some d→aI (asgO l acc) d=true
 |[],_,_,_,h,_=>by cases h
 |x::r,acc,o,d,h,hd=>by
  simp only[asgO];rcases bo.1 h with rfl|h
  ·rw[hd];simp only[];rw[asgO_acc,bh,bh,bI.2 rfl];simp
  ·exact asgO_mem h hd
theorem gets_ok:∀ {e:TEnv} {ks:List Nat} {vs:List TV},jf e ks=some vs→vs.length=ks.length∧∀ (j k:Nat),ks[j]? =some k→∃ v,vs[j]? =some v∧e.get k=some v
 |e,[],vs,h=>by simp only[jf,ae] at h;subst h;exact⟨rfl,by simp⟩
 |e,k::r,vs,h=>by
  simp only[jf] at h;split at h
  ·rename_i v hv;split at h
   ·rename_i l hl;simp only[ae] at h;subst h;obtain⟨h1,h2⟩:=gets_ok hl;refine ⟨by simp[h1],fun j k' hj=>?_⟩;cases j with
    |zero=>simp at hj;subst hj;exact⟨v,rfl,hv⟩
    |succ j=>simpa using h2 j k' (by simpa using hj)
   ·cases h
  ·cases h
theorem vH {e:TEnv} {h:THeap} (hi:m6 e h):∀ {ks:List Nat} {vs:List TV},jf e ks=some vs→gz h vs=true
 |[],vs,hg=>by simp only[jf,ae] at hg;subst hg;rfl
 |k::r,vs,hg=>by
  simp only[jf] at hg;split at hg
  ·rename_i v hv;split at hg
   ·rename_i l hl;simp only[ae] at hg;subst hg;simp only[gz,ak];exact⟨hi k v hv,vH hi hl⟩
   ·cases hg
  ·cases hg
theorem sets_get:∀ {e:TEnv} {ks:List Nat} {vs:List TV},vs.length=ks.length→∀ t v,(Cq e ks vs).get t=some v→(∃ j:Nat,ks[j]? =some t∧vs[j]? =some v)∨(t∉ks∧e.get t=some v)
 |e,[],[],_,t,v,h=>.inr ⟨by simp,h⟩
 |e,[],_::_,hl,t,v,h=>by simp at hl
 |e,_::_,[],hl,t,v,h=>by simp at hl
 |e,k::r,u::l,hl,t,v,h=>by
  simp only[Cq,PT.get_set] at h;split at h
  ·rename_i ek;subst ek;cases h;exact .inl ⟨0,rfl,rfl⟩
  ·rename_i ek;rcases sets_get (by simpa using hl) t v h with ⟨j,h1,h2⟩|⟨h1,h2⟩
   ·exact .inl ⟨j+1,by simpa using h1,by simpa using h2⟩
   ·exact .inr ⟨by simp[ek,h1],h2⟩
theorem nc {am:Nat} {e:TEnv}:∀ {ks:List Nat} {k:Nat} {v:TV},(sC am e ks).get k=some v→k∈ks∧e.get k=some v∧idFree v=true∧aI am k=false
 |[],k,v,h=>by simp[sC,PT.get] at h
 |x::r,k,v,h=>by
  simp only[sC] at h;split at h
  ·rename_i u hu;split at h
   ·rename_i hc;simp only[ak,cV] at hc;rw[PT.get_set] at h;split at h
    ·rename_i ek;subst ek;cases h;exact⟨by simp,hu,hc.1,hc.2⟩
    ·obtain⟨h1,h2⟩:=nc h;exact⟨by simp[h1],h2⟩
   ·obtain⟨h1,h2⟩:=nc h;exact⟨by simp[h1],h2⟩
  ·obtain⟨h1,h2⟩:=nc h;exact⟨by simp[h1],h2⟩
theorem v7 {am:Nat} {e0 e:TEnv}:∀ {ks:List Nat},uY am e0 e ks=true→∀ k v,k∈ks→e0.get k=some v→idFree v=true→aI am k=false→∃ v',e.get k=some v'
 |[],_,k,v,h,_,_,_=>by cases h
 |x::r,hc,k,v,h,hv,hf,ha=>by
  simp only[uY,ak] at hc;rcases bo.1 h with rfl|h
  ·have h1:=hc.1;rw[hv] at h1;simp only[hf,ha,cu,Bool.false_or] at h1;cases hx:e.get k with
   |none=>rw[hx] at h1;cases h1
   |some u=>exact⟨u,rfl⟩
  ·exact v7 hc.2 k v h hv hf ha
section walk
variable {P:Program} {E:Nat→Prop} {nt np:Nat}
theorem zR {h:THeap} {v:TV} {y:AV} (hn:isNl v=true) (hy:bS h v=some y):Le y .emp:=by
 cases v with
 |nil=>simp only[bS,ae] at hy;subst hy;exact Le.nilEmp
 |emp=>simp only[bS,ae] at hy;subst hy;exact Le.refl _
 |_=>cases hn
theorem Cf {φ:PM} {s:TS} {a:Act} {w:World} (c:jK P E nt np φ s a w) (ty:TypeId) (T:Ty):jK P E nt np φ ⟨s.e,s.h.set s.nx (some (.rows ty true T [])),s.nx+1⟩ a w∧bp (s.h.set s.nx (some (.rows ty true T [])))=bp s.h∧bQ s.h (s.h.set s.nx (some (.rows ty true T []))):=by
 have hfr:=c.invH.fresh;have hr:bQ s.h (s.h.set s.nx (some (.rows ty true T []))):=bQ.set fun r hr=>by rw[bF,hfr] at hr;cases hr
 have hH:bp (s.h.set s.nx (some (.rows ty true T [])))=bp s.h:=by
  funext n;by_cases hn:n=nm s.nx
  ·subst hn;rw[bu,bu,PT.get_set,if_pos rfl,hfr];rfl
  ·refine gx c.invH hr fun i e=>?_
   subst e;rw[PT.get_set,if_neg (fun e=>hn (by rw[e]))]
 refine ⟨⟨by rw[hH];exact c.rep,?_,fun n k hk=>qv (c.dom n k hk),eC c.low,c.invH.set hr (rL _) (Nat.le_succ _) (fun _ _ he=>by cases he),?_,c.inert,c.size⟩,hH,hr⟩
 ·intro t x hx;rw[hH];simp only[dC] at hx;cases he:s.e.get t with
  |none=>rw[he] at hx;cases hx
  |some q=>
   rw[he] at hx;obtain⟨z,hz⟩:=kA s.h q (c.invE t q he);simp only[aC,dW hr q z hz,ae] at hx;subst hx;exact c.env t _ (by simp only[dC,he,aC,hz])
 ·intro t x hx;exact jw hr x (c.invE t x hx)
theorem qd {h:THeap}:∀ {a b:List TV},gz h a=true→gz h b=true→gz h (a++b)=true
 |[],_,_,hb=>hb
 |x::r,b,ha,hb=>by
  simp only[gz,ak] at ha;simp only[fc,gz,ak];exact⟨ha.1,qd ha.2 hb⟩
theorem xt {h:THeap}:∀ {a:List TV} (n:Nat),gz h a=true→gz h (a.take n)=true
 |[],n,_=>by simp[gz]
 |x::r,0,_=>rfl
 |x::r,n+1,ha=>by
  simp only[gz,ak] at ha;simp only[oI,gz,ak];exact⟨ha.1,xt n ha.2⟩
theorem xu {h:THeap}:∀ {a:List TV} (n:Nat),gz h a=true→gz h (a.drop n)=true
 |[],n,_=>by simp[gz]
 |x::r,0,ha=>ha
 |x::r,n+1,ha=>by
  simp only[gz,ak] at ha;simp only[oJ];exact xu n ha.2
theorem pY {α:Type} {l:List α} {j:Nat} {x:α} (h:l[j]? =some x):splice l j [x]=l:=by
 have hl:j<l.length:=by
  rcases cA j l.length with h'|h'
  ·exact h'
  ·rw[bU h'] at h;cases h
 rw[aw hl,ae] at h;unfold splice;subst h;simp
theorem Ev {φ:PM} {s:TS} {a:Act} {w:World} (c:jK P E nt np φ s a w) {id cty j:Nat} {l:List TV} {v u:TV} (hb:s.h.get id=some (.cells cty l)) (hv:l[j]? =some v) (hn:isNl v=true) (hu:bS s.h u=some .emp) (huo:yP s.h u=true):
 jK P E nt np φ ⟨s.e,s.h.set id (some (.cells cty (splice l j [u]))),s.nx⟩ a w∧rO np φ φ (bp s.h) (bp (s.h.set id (some (.cells cty (splice l j [u]))))) w w:=by
 have hr:bQ s.h (s.h.set id (some (.cells cty (splice l j [u])))):=bQ.set fun r hr=>by rw[bF,hb] at hr;cases hr
 have hlo:=c.invH.cells id cty l hb;obtain⟨l',hl'⟩:=dx s.h l hlo;have hsp:ci s.h (splice l j [u])=some (splice l' j [.emp]):=ol j hl' (by simp only[ci,hu]);have hsp':ci (s.h.set id (some (.cells cty (splice l j [u])))) (splice l j [u])=some (splice l' j [.emp]):=eS hr _ _ hsp;obtain⟨y,hy,hey⟩:=hZ hl' j v hv;have hold:bp s.h (nm id)=some ⟨cty,.mx l'⟩:=by rw[bu,hb];simp only[aC,gH,hl']
 have hnew:bp (s.h.set id (some (.cells cty (splice l j [u])))) (nm id)=some ⟨cty,.mx (splice l' j [.emp])⟩:=by
  rw[bu,PT.get_set,if_pos rfl];simp only[aC,gH,hsp']
 have hoth:∀ n,n≠nm id→bp (s.h.set id (some (.cells cty (splice l j [u])))) n=bp s.h n:=fun n hn'=>by
  refine gx c.invH hr fun i e=>?_
  subst e;rw[PT.get_set,if_neg (fun e=>hn' (by rw[e]))]
 have hdom:ov (bp s.h) (bp (s.h.set id (some (.cells cty (splice l j [u]))))):=fun n b hb'=>by
  by_cases e:n=nm id
  ·subst e;exact⟨_,hold⟩
  ·rw[hoth n e] at hb';exact⟨b,hb'⟩
 have hcell:∀ x∈l',x.isCell=true:=fun x hx=>by
  obtain⟨k,hk⟩:=db hx;obtain⟨q,_,_,hat⟩:=c.rep.at_ _ _ hold;unfold Ck at hat;obtain⟨ob,_,hob⟩:=hat;rw[km rfl] at hob;obtain⟨arr,_,hca⟩:=hob;exact (hca.2 k x hk).1
 have hV:wI (bp s.h) (bp (s.h.set id (some (.cells cty (splice l j [u]))))):=⟨hdom,fun n b b' h1 h2=>by
  by_cases e:n=nm id
  ·subst e;rw[hold] at h1;cases h1;rw[hnew] at h2;cases h2;refine gk.cells rfl rfl ?_ fun x hx=>?_
   ·show eA _ _ l' (splice l' j [.emp]);have:=eA.splice j (eA.refl hdom l') (b:=[y]) (b':=[.emp]) ⟨(zR hn hey).toH hdom,trivial⟩;rw[pY hy] at this;exact this
   ·have hx:x∈splice l' j [.emp]:=hx;unfold splice at hx;rw[bD,bD,aH] at hx;rcases hx with (hx|hx)|hx
    ·exact hcell x (fa hx)
    ·subst hx;rfl
    ·exact hcell x (List.mem_of_mem_drop hx)
  ·rw[hoth n e,h1] at h2;cases h2;exact gk.refl hdom b⟩
 refine ⟨⟨hV.rep c.rep,?_,c.dom,c.low,c.invH.set hr (c.invH.low id _ hb) (cD _) (fun ty l2 he=>?_),?_,c.inert,c.size⟩,⟨wQ.refl _ _,fun k _ ho=>hdom.own ho,fun _ _=>rfl⟩⟩
 ·intro t x hx;simp only[dC] at hx;cases he:s.e.get t with
  |none=>rw[he] at hx;cases hx
  |some q=>
   rw[he] at hx;obtain⟨z,hz⟩:=kA s.h q (c.invE t q he);simp only[aC,dW hr q z hz,ae] at hx;subst hx;exact (c.env t _ (by simp only[dC,he,aC,hz])).dom hdom
 ·simp only[ey.cells.injEq] at he;obtain⟨_,rfl⟩:=he;refine eP hr _ ?_;unfold splice;exact qd (qd (xt _ hlo) (by simp only[gz,huo,gw])) (xu _ hlo)
 ·intro t x hx;exact jw hr x (c.invE t x hx)
theorem jK.congr {φ:PM} {s s':TS} {a:Act} {w:World} (c:jK P E nt np φ s a w) (he:∀ t,s'.e.get t=s.e.get t) (hh:∀ i,s'.h.get i=s.h.get i) (hn:s'.nx=s.nx):jK P E nt np φ s' a w∧bp s'.h=bp s.h:=by
 have hr:bQ s.h s'.h:=fun i r hi=>by rw[bF] at hi ⊢;rw[hh];exact hi
 have hH:bp s'.h=bp s.h:=by funext n;exact gx c.invH hr fun i _=>hh i
 refine ⟨⟨by rw[hH];exact c.rep,?_,by rw[hn];exact c.dom,by rw[hn];exact c.low,⟨fun i ty l hg=>?_,fun i b hg=>?_⟩,fun t v hv=>?_,c.inert,c.size⟩,hH⟩
 ·intro t x hx;rw[hH];simp only[dC,he] at hx;cases hg:s.e.get t with
  |none=>rw[hg] at hx;cases hx
  |some v=>
   rw[hg] at hx;obtain⟨z,hz⟩:=kA s.h v (c.invE t v hg);simp only[aC,dW hr v z hz,ae] at hx;subst hx;exact c.env t _ (by simp only[dC,hg,aC,hz])
 ·rw[hh] at hg;exact eP hr l (c.invH.cells i ty l hg)
 ·rw[hh] at hg;rw[hn];exact c.invH.low i b hg
 ·rw[he] at hv;exact jw hr v (c.invE t v hv)
theorem zd {R:Type} {v:Int} {f:Nat→Option R} {r:R}:∀ {m i:Nat},spl v f i m=some r→∃ j,v=ah j∧f j=some r
 |0,i,h=>by cases h
 |m+1,i,h=>by
  simp only[spl] at h;rcases kf h with ⟨h1,h2⟩|⟨_,h2⟩
  ·exact⟨i,of_decide_eq_true h1,h2⟩
  ·exact zd h2
theorem DE {φ:PM} {s s':TS} {a:Act} {w:World} (c:jK P E nt np φ s a w) {k off:Nat} {kd:IntKind} {v:Int} (h1:D9 s k off=some (kd,v)) (h2:AS s k off kd v=some s'):jK P E nt np φ s' a w∧bp s'.h=bp s.h∧∀ t,s'.e.get t=s.e.get t:=by
 unfold D9 at h1;unfold AS at h2;cases hk:s.e.get k with
 |none=>rw[hk] at h1;cases h1
 |some x=>
  rw[hk] at h1 h2;cases x with
  |f T q=>
   cases T with
   |int kd'=>
    simp only[ae,ay] at h1;obtain⟨rfl,rfl⟩:=h1;simp only[ae] at h2;subst h2;have he:∀ t,(s.e.set k (some (.f (.int kd') q))).get t=s.e.get t:=fun t=>by
     rw[PT.get_set];split
     ·rename_i e;subst e;exact hk.symm
     ·rfl
    obtain⟨g1,g2⟩:=c.congr (s':=⟨s.e.set k (some (.f (.int kd') q)),s.h,s.nx⟩) he (fun _=>rfl) rfl;exact⟨g1,g2,he⟩
   |_=>cases h1
  |ptr a0 o0=>
   simp only[] at h1 h2;cases hb:s.h.get a0 with
   |none=>rw[hb] at h1;cases h1
   |some b=>
    rw[hb] at h1 h2;cases b with
    |cells ty l=>
     simp only[] at h1 h2;cases hl:l[o0+off]? with
     |none=>rw[hl] at h1;cases h1
     |some y=>
      rw[hl] at h1;cases y with
      |f T q=>
       cases T with
       |int kd'=>
        simp only[ae,ay] at h1;obtain⟨rfl,rfl⟩:=h1;simp only[ae] at h2;subst h2;have hh:∀ i,(s.h.set a0 (some (.cells ty (splice l (o0+off) [.f (.int kd') q])))).get i=s.h.get i:=fun i=>by
         rw[PT.get_set];split
         ·rename_i e;subst e;rw[hb,pY hl]
         ·rfl
        obtain⟨g1,g2⟩:=c.congr (s':=⟨s.e,s.h.set a0 (some (.cells ty (splice l (o0+off) [.f (.int kd') q]))),s.nx⟩) (fun _=>rfl) hh rfl;exact⟨g1,g2,fun _=>rfl⟩
       |_=>cases h1
      |_=>cases h1
    |_=>cases h1
  |_=>cases h1
mutual
theorem xm (id sz n:Nat):∀ v:TV,idFree v=true→wX id sz n v=v
 |.f _ _,_=>rfl
 |.fel _ _ _ _ _,_=>rfl
 |.emp,_=>rfl
 |.nil,_=>rfl
 |.undef,_=>rfl
 |.np,_=>rfl
 |.anyb,_=>rfl
 |.agg l,h=>by simp only[wX];rw[re id sz n l h]
 |.tup l,h=>by simp only[wX];rw[re id sz n l h]
 |.pel _ _ _ _,h=>by cases h
 |.ptr _ _,h=>by cases h
 |.csl _ _ _,h=>by cases h
 |.row _,h=>by cases h
 |.mp _,h=>by cases h
 |.clo _ _,h=>by cases h
theorem re (id sz n:Nat):∀ l:List TV,idFrees l=true→rU id sz n l=l
 |[],_=>rfl
 |x::r,h=>by
  simp only[idFrees,ak] at h;simp only[rU];rw[xm id sz n x h.1,re id sz n r h.2]
end
section subs
variable {id sz n:Nat} {h h':THeap}
mutual
theorem xW (hr:bQ h h') (hid:dg h' id=some (false,sz,n)):∀ (v:TV) (y:AV),bS h v=some y→bS h' (wX id sz n v)=some y
 |.csl i s m,y,he=>by
  simp only[bS,ae] at he;subst he;simp only[wX];split
  ·rename_i hq;simp only[ak] at hq;have e1:=au hq.1.1;have e2:=au hq.1.2;have e3:=au hq.2;subst e1;subst e2;subst e3;simp only[bS,hid,du,iN,bW,if_false]
  ·rfl
 |.agg l,y,he=>by
  simp only[bS] at he;cases hl:ci h l with
  |none=>rw[hl] at he;cases he
  |some l'=>rw[hl] at he;simp only[wX,bS,oL hr hid l l' hl];exact he
 |.tup l,y,he=>by
  simp only[bS] at he;cases hl:ci h l with
  |none=>rw[hl] at he;cases he
  |some l'=>rw[hl] at he;simp only[wX,bS,oL hr hid l l' hl];exact he
 |.clo g l,y,he=>by
  simp only[bS] at he;cases hl:ci h l with
  |none=>rw[hl] at he;cases he
  |some l'=>rw[hl] at he;simp only[wX,bS,oL hr hid l l' hl];exact he
 |.f T v,y,he=>dW hr _ _ he
 |.fel T xs j hj off,y,he=>dW hr _ _ he
 |.pel _ _ _ _,y,he=>dW hr _ _ he
 |.ptr _ _,y,he=>dW hr _ _ he
 |.row _,y,he=>dW hr _ _ he
 |.emp,y,he=>dW hr _ _ he
 |.nil,y,he=>dW hr _ _ he
 |.mp _,y,he=>dW hr _ _ he
 |.undef,y,he=>dW hr _ _ he
 |.np,y,he=>dW hr _ _ he
 |.anyb,y,he=>dW hr _ _ he
theorem oL (hr:bQ h h') (hid:dg h' id=some (false,sz,n)):∀ (l:List TV) (l':List AV),ci h l=some l'→ci h' (rU id sz n l)=some l'
 |[],l',he=>by simp only[ci,ae] at he;subst he;rfl
 |x::r,l',he=>by
  obtain⟨y,l2,rfl,h1,h2⟩:=ct he;simp only[rU];exact jT (xW hr hid x y h1) (oL hr hid r l2 h2)
end
end subs
theorem G5 {φ:PM} {s:TS} {a:Act} {w:World} (c:jK P E nt np φ s a w) {T:Ty} {id sz n:Nat} {s':TS} (hp:pkS s T id sz n=some s'):jK P E nt np φ s' a w∧rO np φ φ (bp s.h) (bp s'.h) w w∧dL 0 s.e s'.e:=by
 unfold pkS at hp;split at hp
 ·rename_i ty l hb;split at hp
  ·rename_i hs;have hs:=au hs;subst hs;split at hp
   ·rename_i xs m hpk;split at hp
    ·cases hp
    ·rename_i hmid;simp only[ae] at hp;subst hp;have hm:cR s.h m:=yd n l xs m hpk;obtain⟨l',hl⟩:=dx s.h l (c.invH.cells id ty l hb);have hidlt:=c.invH.low id _ hb;have jf:∀ i,((PT.updI (fun _ b=>Co id T.size n b) 1 0 (c7 m s.h)).set id (some (.rows ty false T xs))).get i=if i=id then some (.rows ty false T xs) else if aI m i then (s.h.get i).map killB else (s.h.get i).map (Co id T.size n):=fun i=>by
      rw[PT.get_set];by_cases e:i=id
      ·rw[if_pos e,if_pos e]
      ·rw[if_neg e,if_neg e,PT.get_updI,eR];split
       ·cases hg:s.h.get i with
        |none=>rfl
        |some b=>cases b<;>rfl
       ·rfl
     generalize hH2:((PT.updI (fun _ b=>Co id T.size n b) 1 0 (c7 m s.h)).set id (some (.rows ty false T xs)))=h2 at jf ⊢;have hr:bQ s.h h2:=fun i r hi=>by
      rw[bF] at hi ⊢;rw[jf];by_cases e:i=id
      ·subst e;rw[hb] at hi;cases hi
      ·rw[if_neg e];cases hg:s.h.get i with
       |none=>rw[hg] at hi;cases hi
       |some b=>
        rw[hg] at hi;split
        ·exact xo hi
        ·cases b<;>first|exact hi|cases hi
     have hnone:∀ i,aI m i=true→bp h2 (nm i)=none:=fun i hi=>by
      have e:i≠id:=fun e=>by subst e;exact hmid hi
      obtain⟨ty',p',T',xs',hx⟩:=hm i hi;rw[bu,jf,if_neg e,if_pos hi,hx];rfl
     have hdom:ov (bp s.h) (bp h2):=fun q b hq=>by
      obtain⟨i,cc,rfl,h3,h4⟩:=fo hq;rw[bu];rw[jf] at h3;by_cases e:i=id
      ·subst e;rw[hb];simp only[aC,gH,hl];exact⟨_,rfl⟩
      ·rw[if_neg e] at h3;cases hg:s.h.get i with
       |none=>rw[hg] at h3;split at h3<;>cases h3
       |some b0=>
        rw[hg] at h3;split at h3
        ·simp only[bN,ae] at h3;subst h3;cases b0<;>simp[killB,gH] at h4
        ·simp only[bN,ae] at h3;subst h3;simp only[aC];cases b0 with
         |cells ty0 l0=>
          obtain⟨l0',hl0⟩:=dx s.h l0 (c.invH.cells i ty0 l0 hg);exact⟨⟨ty0,.mx l0'⟩,by simp only[gH,hl0]⟩
         |rows=>exact⟨_,h4⟩
         |dead=>exact⟨_,h4⟩
         |mp=>exact⟨_,h4⟩
     have giv:td s.h (bp s.h) (bp h2) m:=fun i hi=>⟨rfl,hnone i hi⟩
     obtain⟨hle,hlen⟩:=sg hdom n l xs m l' hpk hl giv;have hrow:dg h2 id=some (false,T.size,n):=by rw[bF,jf,if_pos rfl,←hlen];rfl
     have hV:wI (bp s.h) (bp h2):=⟨hdom,fun q b b' h3 h4=>by
      obtain⟨i,cc,rfl,h5,h6⟩:=fo h4;rw[bu] at h3;rw[jf] at h5;by_cases e:i=id
      ·subst e;rw[if_pos rfl] at h5;cases h5;rw[hb] at h3;simp only[aC,gH,hl,ae] at h3;subst h3;simp only[gH,iN,bW,if_false,ae] at h6;subst h6;refine gk.cells rfl rfl hle fun x hx=>?_
       simp only[BC.toMx] at hx;obtain⟨q,hq,rfl⟩:=cQ.1 hx;exact ne T _ q hq
      ·rw[if_neg e] at h5;cases hg:s.h.get i with
       |none=>rw[hg] at h5;split at h5<;>cases h5
       |some b0=>
        rw[hg] at h5 h3;split at h5
        ·simp only[bN,ae] at h5;subst h5;cases b0<;>simp[killB,gH] at h6
        ·simp only[bN,ae] at h5;subst h5;have:b=b':=by
          simp only[aC] at h3;cases b0 with
          |cells ty0 l0=>
           obtain⟨l0',hl0⟩:=dx s.h l0 (c.invH.cells i ty0 l0 hg);simp only[gH,hl0,ae] at h3;simp only[Co,gH,oL hr hrow l0 l0' hl0,ae] at h6;rw[← h3,←h6]
          |rows ty1 p1 T1 xs1=>
           have h3':gH h2 (.rows ty1 p1 T1 xs1)=some b:=h3;exact fI (h3'.symm.trans h6)
          |dead p1 s1 n1=>
           have h3':gH h2 (.dead p1 s1 n1)=some b:=h3;exact fI (h3'.symm.trans h6)
          |mp K1 V1 es1=>
           have h3':gH h2 (.mp K1 V1 es1)=some b:=h3;exact fI (h3'.symm.trans h6)
         subst this;exact gk.refl hdom b⟩
     refine ⟨⟨hV.rep c.rep,?_,c.dom,c.low,⟨fun i ty' l2 hg=>?_,fun i b hg=>?_⟩,?_,c.inert,c.size⟩,⟨wQ.refl _ _,fun k _ hk=>hdom.own hk,fun _ _=>rfl⟩,?_⟩
     ·intro t x hx;simp only[dC,PT.get_updI] at hx;cases he:s.e.get t with
      |none=>rw[he] at hx;cases hx
      |some v=>
       rw[he] at hx;obtain⟨z,hz⟩:=kA s.h v (c.invE t v he);simp only[bN,aC,xW hr hrow v z hz,ae] at hx;subst hx;exact (c.env t _ (by simp only[dC,he,aC,hz])).dom hdom
     ·rw[jf] at hg;by_cases e:i=id
      ·rw[if_pos e] at hg;cases hg
      ·rw[if_neg e] at hg;cases hg0:s.h.get i with
       |none=>rw[hg0] at hg;split at hg<;>cases hg
       |some b0=>
        rw[hg0] at hg;split at hg
        ·simp only[bN,ae] at hg;cases b0<;>simp[killB] at hg
        ·simp only[bN,ae] at hg;cases b0 with
         |cells ty0 l0=>
          simp only[Co,ey.cells.injEq] at hg;obtain⟨_,rfl⟩:=hg;obtain⟨l0',hl0⟩:=dx s.h l0 (c.invH.cells i ty0 l0 hg0);exact gT _ _ _ (oL hr hrow l0 l0' hl0)
         |_=>cases hg
     ·rw[jf] at hg;by_cases e:i=id
      ·subst e;exact hidlt
      ·rw[if_neg e] at hg;cases hg0:s.h.get i with
       |none=>rw[hg0] at hg;split at hg<;>cases hg
       |some b0=>exact c.invH.low i b0 hg0
     ·intro t x hx;simp only[PT.get_updI] at hx;cases he:s.e.get t with
      |none=>rw[he] at hx;cases hx
      |some v=>
       rw[he] at hx;simp only[bN,ae] at hx;subst hx;obtain⟨z,hz⟩:=kA s.h v (c.invE t v he);exact tX _ _ _ (xW hr hrow v z hz)
     ·intro k _ v' hv';simp only[PT.get_updI] at hv';cases he:s.e.get k with
      |none=>rw[he] at hv';cases hv'
      |some v=>
       rw[he] at hv';simp only[bN,ae] at hv';subst hv';exact⟨v,rfl,fun hf=>xm _ _ _ v hf⟩
   ·cases hp
  ·cases hp
 ·cases hp
theorem G2 {φ:PM} {s:TS} {a:Act} {w:World} (c:jK P E nt np φ s a w) {k off:Nat} {s':TS} (h:yK s (.ren k off)=some s'):∃ φ',jK P E nt np φ' s' a w∧rO np φ φ' (bp s.h) (bp s'.h) w w∧dL (adjB [.ren k off] 0) s.e s'.e:=by
 simp only[yK] at h;split at h
 ·rename_i b o hk;split at h
  ·rename_i cty l hb;split at h
   ·rename_i id hv;split at h
    ·rename_i ty p T xs hr0;simp only[ae] at h;subst h;have hfr:=c.invH.fresh;have hidlt:=c.invH.low id _ hr0;have hblt:=c.invH.low b _ hb;have hbid:b≠id:=fun e=>by rw[e,hr0] at hb;cases hb
     have hbn:b≠s.nx:=by omega
     have hin:id≠s.nx:=by omega
     generalize hh2:(((s.h.set id (some (.dead p T.size xs.length))).set s.nx (some (.rows ty p T xs))).set b (some (.cells cty (splice l (o+off) [.row s.nx]))))=h2;have jf:∀ i,h2.get i=if i=b then some (.cells cty (splice l (o+off) [.row s.nx])) else if i=s.nx then some (.rows ty p T xs) else if i=id then some (.dead p T.size xs.length) else s.h.get i:=fun i=>by
      rw[← hh2,PT.get_set,PT.get_set,PT.get_set]
     have hr:bQ s.h h2:=fun i r hi=>by
      rw[bF] at hi ⊢;rw[jf];by_cases e1:i=b
      ·subst e1;rw[hb] at hi;cases hi
      ·rw[if_neg e1];by_cases e2:i=s.nx
       ·subst e2;rw[hfr] at hi;cases hi
       ·rw[if_neg e2];by_cases e3:i=id
        ·subst e3;rw[if_pos rfl];rw[hr0] at hi;exact hi
        ·rw[if_neg e3];exact hi
     have hlo:=c.invH.cells b cty l hb;obtain⟨l',hl'⟩:=dx s.h l hlo;have hrow:bS h2 (.row s.nx)=some (du p s.nx T.size xs.length):=by
      simp only[bS,bF,jf];rw[if_neg hbn.symm];simp only[if_true,aC,rowB]
     have hsp:ci h2 (splice l (o+off) [.row s.nx])=some (splice l' (o+off) [du p s.nx T.size xs.length]):=ol _ (eS hr _ _ hl') (by simp only[ci,hrow]);obtain⟨y,hy,hey⟩:=hZ hl' _ _ hv;have hy0:y=du p id T.size xs.length:=by
      simp only[bS,bF,hr0,aC,rowB,ae] at hey;exact hey.symm
     subst hy0;have hold:bp s.h (nm b)=some ⟨cty,.mx l'⟩:=by rw[bu,hb];simp only[aC,gH,hl']
     have hnew:bp h2 (nm b)=some ⟨cty,.mx (splice l' (o+off) [du p s.nx T.size xs.length])⟩:=by
      rw[bu,jf,if_pos rfl];simp only[aC,gH,hsp]
     have hdead:bp h2 (nm id)=none:=by rw[bu,jf,if_neg hbid.symm,if_neg hin,if_pos rfl];rfl
     have hnx2:bp h2 (nm s.nx)=if p&&xs.length==0 then none else some ⟨ty,.fz (xs.flatMap (encC T))⟩:=by rw[bu,jf,if_neg hbn.symm,if_pos rfl];rfl
     have hid0:bp s.h (nm id)=if p&&xs.length==0 then none else some ⟨ty,.fz (xs.flatMap (encC T))⟩:=by rw[bu,hr0];rfl
     have hoth:∀ n,n≠nm b→n≠nm s.nx→n≠nm id→bp h2 n=bp s.h n:=fun n e1 e2 e3=>gx c.invH hr fun i e=>by
      subst e;rw[jf,if_neg (fun e=>e1 (by rw[e])),if_neg (fun e=>e2 (by rw[e])),if_neg (fun e=>e3 (by rw[e]))]
     have hnb:nm b≠nm s.nx:=fun e=>hbn (gA e)
     have hbi:nm b≠nm id:=fun e=>hbid (gA e)
     have hni:nm s.nx≠nm id:=fun e=>hin (gA e).symm
     have hinv:ib h2 (s.nx+1):=by
      refine ⟨fun i ty2 l2 hil=>?_,fun i q hiq=>?_⟩
      ·rw[jf] at hil;split at hil
       ·simp only[ae,ey.cells.injEq] at hil;obtain⟨_,rfl⟩:=hil;exact gT _ _ _ hsp
       ·split at hil
        ·cases hil
        ·split at hil
         ·cases hil
         ·exact eP hr l2 (c.invH.cells i ty2 l2 hil)
      ·rw[jf] at hiq;split at hiq
       ·omega
       ·split at hiq
        ·omega
        ·split at hiq
         ·omega
         ·have:=c.invH.low i q hiq;omega
     have hE:∀ t x,dC s.e h2 t=some x→dC s.e s.h t=some x:=fun t x hx=>by
      simp only[dC] at hx ⊢;cases he:s.e.get t with
      |none=>rw[he] at hx;cases hx
      |some q=>
       rw[he] at hx;obtain⟨z,hz⟩:=kA s.h q (c.invE t q he);simp only[aC,dW hr q z hz,ae] at hx;subst hx;simp only[aC,hz]
     by_cases hp:(p&&xs.length==0)=true
     ·
      have hH:bp h2=bp s.h:=by
       funext n;by_cases e1:n=nm b
       ·subst e1;rw[hold,hnew];have:du p s.nx T.size xs.length=du p id T.size xs.length:=by unfold du;rw[if_pos hp,if_pos hp]
        rw[this,pY hy]
       ·by_cases e2:n=nm s.nx
        ·subst e2;rw[hnx2,if_pos hp,bu,hfr];rfl
        ·by_cases e3:n=nm id
         ·subst e3;rw[hdead,hid0,if_pos hp]
         ·exact hoth n e1 e2 e3
      refine ⟨φ,⟨by rw[hH];exact c.rep,fun t x hx=>by rw[hH];exact c.env t x (hE t x hx),fun n q hq=>qv (c.dom n q hq),eC c.low,hinv,fun t x hx=>jw hr x (c.invE t x hx),c.inert,c.size⟩,by rw[hH];exact rO.refl _ _ _ _,dL.refl _ _⟩
     ·have hid1:bp s.h (nm id)=some ⟨ty,.fz (xs.flatMap (encC T))⟩:=by rw[hid0,if_neg hp]
      obtain⟨kk,k1,k2,ob,k3,k4⟩:=c.rep.at_ _ _ hid1;have hφn:φ (nm s.nx)=none:=by
       cases hq:φ (nm s.nx) with
       |none=>rfl
       |some q=>have:=c.dom _ q hq;rw[cU] at this;omega
      let nw:HF:=fun n=>if n=nm s.nx then some ⟨ty,.fz (xs.flatMap (encC T))⟩ else none
      have hsh:uP w w kk ob:=⟨rfl,rfl,rfl,rfl,k3,fun _ _=>rfl,fun _=>rfl⟩
      obtain⟨φ',p1,p2,p3,p4⟩:=c.rep.wren hid1 k1 hφn hsh k4 nw (by simp[nw]) (by simp only[nw];rw[if_neg hni.symm]);have hb1:c5 (bp s.h) [nm s.nx,nm id] nw (nm b)=some ⟨cty,.mx l'⟩:=by
       unfold c5;rw[if_neg (by simp[hnb,hbi]),hold]
      obtain⟨kb,b1,b2,ob2,b3,b4⟩:=p4.at_ _ _ hb1;have hlt:o+off<l'.length:=by
       rcases cA (o+off) l'.length with h'|h'
       ·exact h'
       ·rw[bU h'] at hy;cases hy
      have hob:fm φ' (tot E φ' (c5 (bp s.h) [nm s.nx,nm id] nw)) w ⟨cty,.mx (splice l' (o+off) [du p s.nx T.size xs.length])⟩ ob2:=by
       rw[km rfl] at b4 ⊢;obtain⟨arr,a1,a2⟩:=b4;refine ⟨arr,a1,?_⟩;unfold ox at a2 ⊢;refine ⟨by simp only[BC.len] at a2 ⊢;rw[md (by simp;omega)];exact a2.1,fun j x hx=>?_⟩;simp only[BC.get] at hx a2;rw[lw (by simp;omega)] at hx;split at hx
       ·exact a2.2 j x hx
       ·split at hx
        ·rename_i h3 h4;simp only[dM] at h4;have hj:j=o+off:=by omega
         subst hj;simp only[Nat.sub_self,lh,ae] at hx;subst hx;obtain⟨_,v,a3,a4⟩:=a2.2 _ _ hy;unfold du at a4 ⊢;rw[if_neg hp] at a4 ⊢;refine ⟨rfl,v,a3,?_⟩;cases a4 with
         |@row _ _ _ cc q hφq hn hc hs2=>
          have:=p2.sub _ _ k1;rw[this,ae] at hφq;subst hφq;exact .row p1 hn hc hs2
        ·exact a2.2 j x hx
      obtain⟨q1,q2⟩:=p4.wset hb1 b1 (⟨rfl,rfl,rfl,rfl,b3,fun _ _=>rfl,fun _=>rfl⟩:uP w w kb ob2) hob (fun n=>if n=nm b then some ⟨cty,.mx (splice l' (o+off) [du p s.nx T.size xs.length])⟩ else none) (by simp);have hH:c5 (c5 (bp s.h) [nm s.nx,nm id] nw) [nm b] (fun n=>if n=nm b then some ⟨cty,.mx (splice l' (o+off) [du p s.nx T.size xs.length])⟩ else none)=bp h2:=by
       funext n;by_cases e1:n=nm b
       ·subst e1;rw[hnew];simp[c5]
       ·by_cases e2:n=nm s.nx
        ·subst e2;rw[hnx2,if_neg hp];simp[c5,nw,hnb.symm]
        ·by_cases e3:n=nm id
         ·subst e3;rw[hdead];simp[c5,nw,hbi.symm,hni.symm]
         ·rw[hoth n e1 e2 e3];simp[c5,e1,e2,e3]
      rw[hH] at q1 q2;have m:=p2.trans q1;refine ⟨φ',⟨q2,fun t x hx=>m.keep (c.env t x (hE t x hx)),fun n q hq=>?_,eC c.low,hinv,fun t x hx=>jw hr x (c.invE t x hx),c.inert,c.size⟩,⟨wQ.refl _ _,m.own_,fun i hi=>?_⟩,dL.refl _ _⟩
      ·rcases p3 n q hq with h4|h4
       ·exact qv (c.dom n q h4)
       ·simp only[aH] at h4;subst h4;rw[cU];exact rL _
      ·cases hq:φ' (nm i) with
       |none=>
        cases hq2:φ (nm i) with
        |none=>rfl
        |some z=>rw[p2.sub _ _ hq2] at hq;cases hq
       |some z=>
        rcases p3 _ _ hq with h4|h4
        ·exact h4.symm
        ·simp only[aH] at h4;have:=gA h4;have:=c.low;omega
    ·cases h
   ·cases h
  ·cases h
 ·rename_i id hk;split at h
  ·rename_i ty p T xs hr0;simp only[ae] at h;subst h;have hfr:=c.invH.fresh;have hidlt:=c.invH.low id _ hr0;have hin:id≠s.nx:=by omega
   generalize hh2:((s.h.set id (some (.dead p T.size xs.length))).set s.nx (some (.rows ty p T xs)))=h2;have jf:∀ i,h2.get i=if i=s.nx then some (.rows ty p T xs) else if i=id then some (.dead p T.size xs.length) else s.h.get i:=fun i=>by
    rw[← hh2,PT.get_set,PT.get_set]
   have hr:bQ s.h h2:=fun i r hi=>by
    rw[bF] at hi ⊢;rw[jf];by_cases e2:i=s.nx
    ·subst e2;rw[hfr] at hi;cases hi
    ·rw[if_neg e2];by_cases e3:i=id
     ·subst e3;rw[if_pos rfl];rw[hr0] at hi;exact hi
     ·rw[if_neg e3];exact hi
   have hrow:bS h2 (.row s.nx)=some (du p s.nx T.size xs.length):=by
    simp only[bS,bF,jf,if_true,aC,rowB]
   have hrow0:bS s.h (.row id)=some (du p id T.size xs.length):=by
    simp only[bS,bF,hr0,aC,rowB]
   have hdead:bp h2 (nm id)=none:=by rw[bu,jf,if_neg hin,if_pos rfl];rfl
   have hnx2:bp h2 (nm s.nx)=if p&&xs.length==0 then none else some ⟨ty,.fz (xs.flatMap (encC T))⟩:=by rw[bu,jf,if_pos rfl];rfl
   have hid0:bp s.h (nm id)=if p&&xs.length==0 then none else some ⟨ty,.fz (xs.flatMap (encC T))⟩:=by rw[bu,hr0];rfl
   have hoth:∀ n,n≠nm s.nx→n≠nm id→bp h2 n=bp s.h n:=fun n e2 e3=>gx c.invH hr fun i e=>by
    subst e;rw[jf,if_neg (fun e=>e2 (by rw[e])),if_neg (fun e=>e3 (by rw[e]))]
   have hni:nm s.nx≠nm id:=fun e=>hin (gA e).symm
   have hinv:ib h2 (s.nx+1):=by
    refine ⟨fun i ty2 l2 hil=>?_,fun i q hiq=>?_⟩
    ·rw[jf] at hil;split at hil
     ·cases hil
     ·split at hil
      ·cases hil
      ·exact eP hr l2 (c.invH.cells i ty2 l2 hil)
    ·rw[jf] at hiq;split at hiq
     ·omega
     ·split at hiq
      ·omega
      ·have:=c.invH.low i q hiq;omega
   have hE:∀ t x,t≠k→dC (s.e.set k (some (.row s.nx))) h2 t=some x→dC s.e s.h t=some x:=fun t x ht hx=>by
    simp only[dC,PT.get_set] at hx ⊢;rw[if_neg ht] at hx;cases he:s.e.get t with
    |none=>rw[he] at hx;cases hx
    |some q=>
     rw[he] at hx;obtain⟨z,hz⟩:=kA s.h q (c.invE t q he);simp only[aC,dW hr q z hz,ae] at hx;subst hx;simp only[aC,hz]
   have hIE:m6 (s.e.set k (some (.row s.nx))) h2:=fun t x hx=>by
    simp only[PT.get_set] at hx;split at hx
    ·cases hx;exact tX _ _ _ hrow
    ·exact jw hr x (c.invE t x hx)
   have hKp:dL (adjB [.ren k off] 0) s.e (s.e.set k (some (.row s.nx))):=fun t ht v' hv'=>by
    simp only[PT.get_set] at hv';split at hv'
    ·rename_i et;subst et;simp only[adjB] at ht;rw[bh,bI.2 rfl] at ht;simp at ht
    ·exact⟨v',hv',fun _=>rfl⟩
   have hk0:=c.env k (du p id T.size xs.length) (by simp only[dC,hk,aC,hrow0]);by_cases hp:(p&&xs.length==0)=true
   ·have hH:bp h2=bp s.h:=by
     funext n;by_cases e2:n=nm s.nx
     ·subst e2;rw[hnx2,if_pos hp,bu,hfr];rfl
     ·by_cases e3:n=nm id
      ·subst e3;rw[hdead,hid0,if_pos hp]
      ·exact hoth n e2 e3
    have hsame:du p s.nx T.size xs.length=du p id T.size xs.length:=by unfold du;rw[if_pos hp,if_pos hp]
    refine ⟨φ,⟨by rw[hH];exact c.rep,fun t x hx=>?_,fun n q hq=>qv (c.dom n q hq),eC c.low,hinv,hIE,c.inert,c.size⟩,by rw[hH];exact rO.refl _ _ _ _,hKp⟩;rw[hH];by_cases ht:t=k
    ·subst ht;simp only[dC,PT.get_set,if_true,aC,hrow,ae] at hx;subst hx;rw[hsame];exact hk0
    ·exact c.env t x (hE t x ht hx)
   ·have hid1:bp s.h (nm id)=some ⟨ty,.fz (xs.flatMap (encC T))⟩:=by rw[hid0,if_neg hp]
    obtain⟨kk,k1,k2,ob,k3,k4⟩:=c.rep.at_ _ _ hid1;have hφn:φ (nm s.nx)=none:=by
     cases hq:φ (nm s.nx) with
     |none=>rfl
     |some q=>have:=c.dom _ q hq;rw[cU] at this;omega
    let nw:HF:=fun n=>if n=nm s.nx then some ⟨ty,.fz (xs.flatMap (encC T))⟩ else none
    have hsh:uP w w kk ob:=⟨rfl,rfl,rfl,rfl,k3,fun _ _=>rfl,fun _=>rfl⟩
    obtain⟨φ',p1,p2,p3,p4⟩:=c.rep.wren hid1 k1 hφn hsh k4 nw (by simp[nw]) (by simp only[nw];rw[if_neg hni.symm]);have hH:c5 (bp s.h) [nm s.nx,nm id] nw=bp h2:=by
     funext n;by_cases e2:n=nm s.nx
     ·subst e2;rw[hnx2,if_neg hp];simp[c5,nw]
     ·by_cases e3:n=nm id
      ·subst e3;rw[hdead];simp[c5,nw,hni.symm]
      ·rw[hoth n e2 e3];simp[c5,e2,e3]
    rw[hH] at p2 p4;refine ⟨φ',⟨p4,fun t x hx=>?_,fun n q hq=>?_,eC c.low,hinv,hIE,c.inert,c.size⟩,⟨wQ.refl _ _,p2.own_,fun i hi=>?_⟩,hKp⟩
    ·by_cases ht:t=k
     ·subst ht;simp only[dC,PT.get_set,if_true,aC,hrow,ae] at hx;subst hx;unfold du at hk0 ⊢;rw[if_neg hp] at hk0 ⊢;generalize a.tmps.getD t undef=z at hk0;cases hk0 with
      |@row _ _ _ cc q hφq hn hc hs2=>
       rw[k1,ae] at hφq;subst hφq;exact .row p1 hn hc hs2
     ·exact p2.keep (c.env t x (hE t x ht hx))
    ·rcases p3 n q hq with h4|h4
     ·exact qv (c.dom n q h4)
     ·simp only[aH] at h4;subst h4;rw[cU];exact rL _
    ·cases hq:φ' (nm i) with
     |none=>
      cases hq2:φ (nm i) with
      |none=>rfl
      |some z=>rw[p2.sub _ _ hq2] at hq;cases hq
     |some z=>
      rcases p3 _ _ hq with h4|h4
      ·exact h4.symm
      ·simp only[aH] at h4;have:=gA h4;have:=c.low;omega
  ·cases h
 ·cases h
theorem Gm {φ:PM} {s:TS} {a:Act} {w:World} (c:jK P E nt np φ s a w) {ad:EK} {s':TS} (h:yK s ad=some s') (hnr:∀ k off,ad≠ .ren k off):jK P E nt np φ s' a w∧rO np φ φ (bp s.h) (bp s'.h) w w∧dL (adjB [ad] 0) s.e s'.e:=by
 cases ad with
 |ren k off=>exact absurd rfl (hnr k off)
 |nil k ty T=>
  simp only[yK] at h;split at h
  ·rename_i v hv;split at h
   ·rename_i hn;simp only[ae] at h;subst h;obtain⟨c1,hH,hr⟩:=Cf c ty T;refine ⟨⟨c1.rep,?_,c1.dom,c1.low,c1.invH,?_,c1.inert,c1.size⟩,by rw[hH];exact rO.refl _ _ _ _,?_⟩
    ·intro t x hx;simp only[dC,PT.get_set] at hx;split at hx
     ·rename_i et;subst et;simp only[aC,bS,bF,PT.get_set,if_true,rowB,du,gY,beq_self_eq_true,gw,ae] at hx;subst hx;obtain⟨z,hz⟩:=kA s.h v (c.invE _ v hv);rw[hH];exact zR hn hz _ _ _ _ (c.env _ _ (by simp only[dC,hv,aC,hz]))
     ·exact c1.env t x hx
    ·intro t x hx;simp only[PT.get_set] at hx;split at hx
     ·cases hx;simp only[yP,bF,PT.get_set,if_true];rfl
     ·exact c1.invE t x hx
    ·intro t ht v' hv';simp only[PT.get_set] at hv';split at hv'
     ·rename_i et;subst et;simp only[adjB] at ht;rw[bh,bI.2 rfl] at ht;simp at ht
     ·exact⟨v',hv',fun _=>rfl⟩
   ·simp only[ae] at h;subst h;exact⟨c,rO.refl _ _ _ _,dL.refl _ _⟩
  ·cases h
 |cel k off ty T=>
  simp only[yK] at h;split at h
  ·rename_i id o hk;split at h
   ·rename_i cty l hb;split at h
    ·rename_i v hv;split at h
     ·rename_i hn;simp only[ae] at h;subst h;obtain⟨c1,hH,hr⟩:=Cf c ty T;have hid:id≠s.nx:=fun e=>by have:=c.invH.low id _ hb;omega
      obtain⟨c2,t2⟩:=Ev c1 (id:=id) (cty:=cty) (l:=l) (v:=v) (u:=.row s.nx) (by show (s.h.set s.nx _).get id=_;rw[PT.get_set,if_neg hid];exact hb) hv hn (by simp only[bS,bF,PT.get_set,if_true,aC,rowB,du,gY,beq_self_eq_true,gw]) (by simp only[yP,bF,PT.get_set,if_true];rfl);exact⟨c2,by rw[← hH];exact t2,dL.refl _ _⟩
     ·simp only[ae] at h;subst h;exact⟨c,rO.refl _ _ _ _,dL.refl _ _⟩
    ·cases h
   ·cases h
  ·cases h
 |mpt k K V=>
  simp only[yK] at h;split at h
  ·rename_i id hk;split at h
   ·rename_i K' V' es hb;split at h
    ·rename_i hE;simp only[ae] at h;subst h;have hr:bQ s.h (s.h.set id (some (.mp K V []))):=bQ.set fun r hr=>by rw[bF,hb] at hr;cases hr
     have hH:bp (s.h.set id (some (.mp K V [])))=bp s.h:=by
      funext n;by_cases hn:n=nm id
      ·subst hn;rw[bu,bu,PT.get_set,if_pos rfl,hb];simp only[aC,gH,ry (F6 (nR.1 hE).1),ry (nR.1 hE).2,Bc (nR.1 hE).1,List.map_nil]
      ·refine gx c.invH hr fun i e=>?_
       subst e;rw[PT.get_set,if_neg (fun e=>hn (by rw[e]))]
     refine ⟨⟨by rw[hH];exact c.rep,?_,c.dom,c.low,c.invH.set hr (c.invH.low id _ hb) (cD _) (fun _ _ he=>by cases he),fun t x hx=>jw hr x (c.invE t x hx),c.inert,c.size⟩,by rw[hH];exact rO.refl _ _ _ _,dL.refl _ _⟩;intro t x hx;rw[hH];simp only[dC] at hx;cases he:s.e.get t with
     |none=>rw[he] at hx;cases hx
     |some q=>
      rw[he] at hx;obtain⟨z,hz⟩:=kA s.h q (c.invE t q he);simp only[aC,dW hr q z hz,ae] at hx;subst hx;exact c.env t _ (by simp only[dC,he,aC,hz])
    ·simp only[ae] at h;subst h;exact⟨c,rO.refl _ _ _ _,dL.refl _ _⟩
   ·cases h
  ·cases h
 |pk k off T=>
  simp only[yK] at h;split at h
  ·obtain⟨h1,h2,h3⟩:=G5 c h;exact⟨h1,h2,h3.mono fun k hk=>by simp at hk⟩
  ·cases h
theorem Gl {φ:PM} {s:TS} {a:Act} {w:World} (c:jK P E nt np φ s a w) {ad:EK} {s':TS} (h:yK s ad=some s'):∃ φ',jK P E nt np φ' s' a w∧rO np φ φ' (bp s.h) (bp s'.h) w w∧dL (adjB [ad] 0) s.e s'.e:=by
 by_cases hn:∃ k off,ad= .ren k off
 ·obtain⟨k,off,rfl⟩:=hn;exact G2 c h
 ·exact⟨φ,Gm c h fun k off e=>hn ⟨k,off,e⟩⟩
theorem Bz {φ:PM} {a:Act} {w:World}:∀ {l:List EK} {s s':TS},jK P E nt np φ s a w→CU s l=some s'→∃ φ',jK P E nt np φ' s' a w∧rO np φ φ' (bp s.h) (bp s'.h) w w∧dL (adjB l 0) s.e s'.e
 |[],s,s',c,h=>by simp only[CU,ae] at h;subst h;exact⟨φ,c,rO.refl _ _ _ _,dL.refl _ _⟩
 |ad::r,s,s',c,h=>by
  simp only[CU] at h;split at h
  ·rename_i s1 h1;obtain⟨φ1,c1,t1,k1⟩:=Gl c h1;obtain⟨φ2,c2,t2,k2⟩:=Bz c1 h;refine ⟨φ2,c2,t1.trans t2,(k1.mono ?_).trans (k2.mono ?_)⟩
   ·intro k hk;cases ad with
    |nil q ty T=>simp only[adjB] at hk ⊢;rw[adjB_acc,bh,hk];rfl
    |cel q off ty T=>simp[adjB] at hk
    |mpt q K V=>simp[adjB] at hk
    |pk q off T=>simp[adjB] at hk
    |ren q off=>simp only[adjB] at hk ⊢;rw[adjB_acc,bh,hk];rfl
   ·intro k hk;cases ad with
    |nil q ty T=>simp only[adjB];rw[adjB_acc,bh,hk];simp
    |cel q off ty T=>simp only[adjB];exact hk
    |mpt q K V=>simp only[adjB];exact hk
    |pk q off T=>simp only[adjB];exact hk
    |ren q off=>simp only[adjB];rw[adjB_acc,bh,hk];simp
  ·cases h
mutual
theorem zK {h:THeap}:∀ (v:TV) (y:AV),idFree v=true→bS h v=some y→y.all (fun _=>false)=true
 |.f _ _,y,_,he=>by simp only[bS,ae] at he;subst he;rfl
 |.fel _ _ _ _ _,y,_,he=>by simp only[bS,ae] at he;subst he;rfl
 |.emp,y,_,he=>by simp only[bS,ae] at he;subst he;rfl
 |.nil,y,_,he=>by simp only[bS,ae] at he;subst he;rfl
 |.undef,y,_,he=>by simp only[bS,ae] at he;subst he;rfl
 |.np,y,_,he=>by simp only[bS,ae] at he;subst he;rfl
 |.anyb,y,_,he=>by simp only[bS,ae] at he;subst he;rfl
 |.agg l,y,hl,he=>by
  simp only[bS] at he;split at he
  ·rename_i l' hl';simp only[ae] at he;subst he;exact tU l l' hl hl'
  ·cases he
 |.tup l,y,hl,he=>by
  simp only[bS] at he;split at he
  ·rename_i l' hl';simp only[ae] at he;subst he;exact tU l l' hl hl'
  ·cases he
 |.pel _ _ _ _,_,h,_=>by cases h
 |.ptr _ _,_,h,_=>by cases h
 |.csl _ _ _,_,h,_=>by cases h
 |.row _,_,h,_=>by cases h
 |.mp _,_,h,_=>by cases h
 |.clo _ _,_,h,_=>by cases h
theorem tU {h:THeap}:∀ (l:List TV) (l':List AV),idFrees l=true→ci h l=some l'→AV.allL (fun _=>false) l'=true
 |[],l',_,he=>by simp only[ci,ae] at he;subst he;rfl
 |x::r,l',hl,he=>by
  obtain⟨y,l2,rfl,e1,e2⟩:=ct he;simp only[idFrees,ak] at hl;simp only[AV.allL,ak];exact⟨zK x y hl.1 e1,tU r l2 hl.2 e2⟩
end
mutual
theorem B5 (h:THeap):∀ (v:TV),idFree v=true→yP h v=true
 |.f _ _,_=>rfl
 |.fel _ _ _ _ _,_=>rfl
 |.emp,_=>rfl
 |.nil,_=>rfl
 |.undef,_=>rfl
 |.np,_=>rfl
 |.anyb,_=>rfl
 |.agg l,hl=>wl h l hl
 |.tup l,hl=>wl h l hl
 |.pel _ _ _ _,h=>by cases h
 |.ptr _ _,h=>by cases h
 |.csl _ _ _,h=>by cases h
 |.row _,h=>by cases h
 |.mp _,h=>by cases h
 |.clo _ _,h=>by cases h
theorem wl (h:THeap):∀ (l:List TV),idFrees l=true→gz h l=true
 |[],_=>rfl
 |x::r,hl=>by
  simp only[idFrees,ak] at hl;simp only[gz,ak];exact⟨B5 h x hl.1,wl h r hl.2⟩
end
structure Seen (np:Nat) (t:Tm) (x:t.ty.den) (us:List TV) (h1:THeap) (φ φ':PM) (H:HF) (E:Nat→Prop) (w:World) (la lu:List AV):Prop where
 rep:lm φ' E (bp h1) w
 val:∀ (j:Nat) y v,lu[j]? =some y→∃ z,la[j]? =some z∧(cg φ (tot E φ H) w z v→cg φ' (tot E φ' (bp h1)) w y v)
 len:lu.length=la.length
 tot_:∀ k,tot E φ' (bp h1) k→tot E φ H k
 own_:∀ k,own φ' (bp h1) k→own φ H k
 dom:∀ n k,φ' n=some k→ow n<t.bs.length
 par:∀ i,i<np→i<t.bs.length→φ' (nm i)=φ (nm i)
theorem wZ {t:Tm} {x:t.ty.den} {us:List TV} {h1:THeap} {l1:List (Option ey)} (I:kY t x us h1 l1) {h:THeap} {nx:Nat} (hinv:ib h nx) {vs:List TV} {m:Nat} {σ:PT Nat} {sm:Nat} (M:vk np t vs h x m σ sm) {la:List AV} (hla:ci h vs=some la) {φ:PM} {w:World} (r:lm φ E (bp h) w):∃ φ' lu,ci h1 us=some lu∧Seen np t x us h1 φ φ' (bp h) E w la lu:=by
 obtain⟨x1,m1,x2,m2,hx,hmm,gv,gb⟩:=M.ex;have hmr:cR h m:=by rw[hmm];exact (uZ _ _ _ _ gv).or (vb _ _ _ _ gb)
 have pvg:ky (eh σ) t.vs x1=some (gp (eh σ) us):=by
  have h3:=m7 (eh σ) t.vs x1;have h4:=I.pv;rw[hx,mX] at h4;rw[h3,h4];rfl
 have pbg:jv (eh σ) t.bs x2=some (l1.map (gX (hP (eh σ)))):=by
  have h3:=oO (eh σ) t.bs x2;have h4:=I.pb;rw[hx,n8] at h4;rw[h3,h4];rfl
 have hbm:∀ i b,l1[i]? =some (some b)→∃ b0,h.get (eh σ i)=some b0∧BM (eh σ) h m b0 (hP (eh σ) b):=fun i b hb=>by
  obtain⟨b0,q1,q2⟩:=getBs_ok t.bs 0 x2 m2 _ gb pbg i (hP (eh σ) b) (by rw[aY,hb];rfl);rw[bw] at q1;exact⟨b0,q1,q2.mono fun j hj=>by rw[hmm,bh,hj];simp⟩
 let hv:THeap:=qV (eh σ) 0 (l1.map (gX (hP (eh σ)))) PT.leaf
 have hv_at:∀ i b,l1[i]? =some (some b)→hv.get (eh σ i)=some (hP (eh σ) b):=fun i b hb=>by
  have:=oe (eh σ) (l1.map (gX (hP (eh σ)))) 0 PT.leaf (fun a b ha hb=>by
   simp only[cK,I.len] at ha hb;simp only[bw];exact M.inj a b ha hb) i (some (hP (eh σ) b)) (by rw[aY,hb];rfl)
  rw[bw] at this;exact this
 have hv_ex:∀ j c,hv.get j=some c→∃ i b,l1[i]? =some (some b)∧j=eh σ i∧c=hP (eh σ) b:=fun j c hj=>by
  by_cases hex:∃ i,i<l1.length∧j=eh σ i
  ·obtain⟨i,hi,rfl⟩:=hex;have hcc:=aw hi;cases hcv:l1[i] with
   |some b=>rw[hcv] at hcc;rw[hv_at i b hcc] at hj;cases hj;exact⟨i,b,hcc,rfl,rfl⟩
   |none=>
    rw[hcv] at hcc;have:=oe (eh σ) (l1.map (gX (hP (eh σ)))) 0 PT.leaf (fun a b ha hb=>by
     simp only[cK,I.len] at ha hb;simp only[bw];exact M.inj a b ha hb) i none (by rw[aY,hcc];rfl)
    rw[bw] at this;have hj':(qV (eh σ) 0 (l1.map (gX (hP (eh σ)))) PT.leaf).get (eh σ i)=some c:=hj;rw[this] at hj';simp[PT.get] at hj'
  ·have:hv.get j=(PT.leaf:THeap).get j:=od (eh σ) _ 0 _ j fun k hk=>by
    simp only[cK] at hk;rw[bw];exact fun e=>hex ⟨k,hk,e⟩
   rw[this] at hj;simp[PT.get] at hj
 have rows_in:pP hv h:=fun j q hq=>by
  rw[bF] at hq ⊢;cases hc:hv.get j with
  |none=>rw[hc] at hq;cases hq
  |some c=>
   rw[hc] at hq;obtain⟨i,b,q1,rfl,rfl⟩:=hv_ex j c hc;obtain⟨b0,q2,q3⟩:=hbm i b q1;rw[q2];simp only[aC] at hq ⊢;rw[← q3.row];exact hq
 have rows_h1:∀ i q,dg h1 i=some q→dg hv (eh σ i)=some q:=fun i q hq=>by
  rw[bF] at hq ⊢;cases hb:h1.get i with
  |none=>rw[hb] at hq;cases hq
  |some b=>
   rw[hb] at hq;rw[hv_at i b ((I.at_ i b).1 hb)];simp only[aC,vw] at hq ⊢;exact hq
 have hd:ov (bp h) (bp hv):=fun n y hy=>by
  obtain⟨j,c,rfl,h3,h4⟩:=fo hy;obtain⟨i,b,q1,rfl,rfl⟩:=hv_ex j c h3;obtain⟨b0,q2,q3⟩:=hbm i b q1;obtain⟨y0,hy0⟩:=BM.erB_some hinv q2 q3 h4;exact⟨y0,by rw[bu,q2];exact hy0⟩
 have gvv:td h (bp h) (bp hv) m:=fun i hi=>⟨rfl,by
  cases hc:bp hv (nm i) with
  |none=>rfl
  |some y=>
   obtain⟨j,c,e,h3,h4⟩:=fo hc;have:=gA e;subst this;obtain⟨k,b,q1,rfl,rfl⟩:=hv_ex i c h3;have hk:k<t.bs.length:=by rw[← I.len];exact (bg.1 q1).1
   have h5:=M.disj _ hi;rw[(M.sig _).2 ⟨k,hk,rfl⟩] at h5;cases h5⟩
 have V:wI (bp h) (bp hv):=⟨hd,fun n b b' hb hb'=>by
  obtain⟨j,c,rfl,h3,h4⟩:=fo hb';obtain⟨i,bb,q1,rfl,rfl⟩:=hv_ex j c h3;obtain⟨b0,q2,q3⟩:=hbm i bb q1;rw[bu,q2] at hb;exact BM.view hd gvv rows_in q3 hb h4⟩
 have rv:=V.rep r;have T:Fm t x us h1 (eh σ) φ E E (bp hv) w:=by
  refine lm.toId I M.inj rv (fun i b yb hb hyb=>?_) (fun k hk=>.inl hk) (fun i k b hi h3 h4 hE=>?_) rv.el
  ·rw[bu,hv_at i b ((I.at_ i b).1 hb)];exact sN rows_h1 hyb
  ·obtain⟨k',p1,p2,_⟩:=rv.at_ _ _ h3;rw[h4] at p1;cases p1;exact p2 hE
 obtain⟨lu,hlu⟩:=dx h1 us I.ok;have hlug:ci hv (gp (eh σ) us)=some (AV.renL (ve (eh σ)) lu):=kV rows_h1 us lu hlu;have hle:=sK hd rows_in t.vs vs x1 m1 _ la _ gv pvg hla hlug (fun i hi=>gvv i (by rw[hmm,bh,hi];rfl));have hall:=mU us lu I.lt hlu;refine ⟨_,lu,hlu,T.rep,fun j y v hy=>?_,?_,fun k hk=>hd.tot (T.tot_ k hk),fun k hk=>hd.own (T.own_ k hk),fun n k hk=>?_,fun i hi hb=>?_⟩
 ·rw[ju] at hle;obtain⟨z,hz,hlz⟩:=hle.get j (y.ren (ve (eh σ))) (by rw[aY,hy];rfl);exact⟨z,hz,fun hr=>T.val y v (ia hall y (bc hy)) (hlz _ _ _ _ r hr)⟩
 ·have:=hle.length;rw[ju,cK] at this;exact this
 ·obtain⟨i,hi,rfl,_⟩:=pj hk;rw[cU];exact hi
 ·rw[Do hb,M.fix i hi]
theorem yp {φ:PM} {s':TS} {a:Act} {w:World} (c:jK P E nt np φ s' a w) {A:Dn} {am:Nat} {s0 s1:TS} {x:A.D} (hx:xg np A am s0 s'=some x) (hs:uC A am s0 x=some s1)
 (hk:∀ k,k∈A.keep→k∉A.ks→∀ v,s0.e.get k=some v→idFree v=true→aI am k=false→∀ v',s'.e.get k=some v'→v'=v):∃ φ',jK P E nt np φ' s1 a w∧rO np φ φ' (bp s'.h) (bp s1.h) w w:=by
 unfold xg at hx;split at hx
 ·rename_i hc;simp only[ak] at hc;have hnp:=aW hc.1;split at hx
  ·rename_i s2 h2;obtain⟨φ2,c2,t2,_⟩:=Bz c h2;split at hx
   ·rename_i vs hvs;split at hx
    ·rename_i z m σ sm hM;simp only[ae] at hx;subst hx;have M:=oX hM;unfold uC at hs;split at hs
     ·rename_i us h1 hi;obtain⟨l1,I⟩:=o6 hi;split at hs
      ·rename_i hlen;have hlen:=au hlen;simp only[ae] at hs;subst hs;obtain⟨g1,g2⟩:=gets_ok hvs;have hvok:gz s2.h vs=true:=vH c2.invE hvs;obtain⟨la,hla⟩:=dx s2.h vs hvok;obtain⟨φ',lu,hlu,S⟩:=wZ (E:=E) I c2.invH M hla c2.rep;refine ⟨φ',⟨S.rep,?_,S.dom,hnp,⟨fun i ty l hl=>(I.cells i ty l hl).1,fun i b hb=>I.lt_len hb⟩,?_,c.inert,c.size⟩,t2.trans ⟨wQ.refl _ _,fun k _ h=>S.own_ k h,fun i hi=>S.par i hi (by omega)⟩⟩
       ·intro t y hy;simp only[dC] at hy;cases ht:(Cq (sC am s0.e A.keep) A.ks us).get t with
        |none=>rw[ht] at hy;cases hy
        |some v=>
         rw[ht] at hy;simp only[aC] at hy;rcases sets_get hlen t v ht with ⟨j,q1,q2⟩|⟨q1,q2⟩
         ·obtain⟨y',p1,p2⟩:=hZ hlu j v q2;rw[hy] at p2;cases p2;obtain⟨z,p3,p4⟩:=S.val j y (a.tmps.getD t undef) p1;refine p4 ?_;obtain⟨v0,p5,p6⟩:=g2 j t q1;obtain⟨z',p7,p8⟩:=hZ hla j v0 p5;rw[p3] at p7;cases p7;exact c2.env t _ (by simp only[dC,p6,aC,p8])
         ·obtain⟨k1,k2,k3,k4⟩:=nc q2;obtain⟨v',k5⟩:=v7 hc.2 t v k1 k2 k3 k4;have:=hk t k1 q1 v k2 k3 k4 v' k5;subst this;have h3:=c.env t y (by simp only[dC,k5,aC];rw[zS s'.h h1 v' k3];exact hy);exact h3.restrict (p:=fun _=>false) (fun i k hi _=>by cases hi) (fun k hk=>by
           have h4:=S.tot_ k hk;rcases h4 with h4|h4
           ·exact .inl h4
           ·exact .inr (by
             have hkl:k<w.heap.size:=by
              obtain⟨n,b,e1,e2⟩:=h4;obtain⟨k',p1,_,ob,p3,_⟩:=c2.rep.at_ n b e1;rw[e2] at p1;cases p1;exact (b6.1 p3).1
             exact t2.own_ k hkl h4)) (zK v' y k3 hy)
       ·intro t v hv;rcases sets_get hlen t v hv with ⟨j,q1,q2⟩|⟨q1,q2⟩
        ·obtain⟨y',_,p2⟩:=hZ hlu j v q2;exact tX _ _ _ p2
        ·exact B5 _ v (nc q2).2.2.1
      ·cases hs
     ·cases hs
    ·cases hx
   ·cases hx
  ·cases hx
 ·cases hx
theorem tg {A:Dn} {am:Nat} {s0 s1:TS} {x:A.D} (hs:uC A am s0 x=some s1):dL (ksB A.ks 0) s0.e s1.e∧∀ k,k∉A.ks→∀ v,s1.e.get k=some v→s0.e.get k=some v:=by
 unfold uC at hs;split at hs
 ·rename_i us h1 hi;split at hs
  ·rename_i hlen;have hlen:=au hlen;simp only[ae] at hs;subst hs;have key:∀ k,k∉A.ks→∀ v,(Cq (sC am s0.e A.keep) A.ks us).get k=some v→s0.e.get k=some v:=fun k hk v hv=>by
    rcases sets_get hlen k v hv with ⟨j,q1,_⟩|⟨_,q2⟩
    ·exact absurd (bc q1) hk
    ·exact (nc q2).2.1
   refine ⟨fun k hk v' hv=>?_,key⟩;have hnk:k∉A.ks:=fun hm=>by rw[ksB_mem hm] at hk;cases hk
   exact⟨v',key k hnk v' hv,fun _=>rfl⟩
  ·cases hs
 ·cases hs
end walk
inductive Er:TC→SC→Prop
 |skip:Er .skip .skip
 |reg (ops:List mI) (prs:List (Nat×Nat)):Er (.reg ops prs) (.reg ops prs)
 |seq {a b:TC} {a' b':SC}:Er a a'→Er b b'→Er (.seq a b) (.seq a' b')
 |jseq (A:Dn) {a b:TC} {a' b':SC}:Er a a'→Er b b'→Er (.jseq A a b) (.seq a' b')
 |cond (c:Nat) {a b:TC} {a' b':SC}:Er a a'→Er b b'→Er (.cond c a b) (.cond c a' b')
 |block (id:Nat) {b:TC} {b':SC}:Er b b'→Er (.block id b) (.block id b')
 |jblock (A:Dn) (id:Nat) {b:TC} {b':SC}:Er b b'→Er (.jblock A id b) (.block id b')
 |loop (A:Dn) {b:TC} {b':SC}:Er b b'→Er (.loop A b) (.loop b')
 |exit (id:Nat):Er (.exit id) (.exit id)
 |ret:Er .ret .ret
 |defer (f:FuncId) (c:List Operand) (t:Nat):Er (.defer f c t) (.defer f c t)
 |adj (l:List EK) {c:TC} {c':SC}:Er c c'→Er (.adj l c) c'
 |split (k off lo n:Nat) {c:TC} {c':SC}:Er c c'→Er (.split k off lo n c) c'
 |unl (n:Nat) {b:TC} {b':SC}:Er b b'→Er (.unl n b) (.loop b')
 |bad (c:SC):Er .bad c
theorem rP {H:PT EG} {n:Nat} {c:TC} {c':SC} (h:Er c c'):Er (vo H n c) c':=by
 unfold vo;split
 ·exact .adj _ h
 ·exact .split _ _ _ _ h
 ·exact h
theorem pN (H:PT EG):∀ (c:SC) (n:Nat),Er (sS H c n).1 c
 |.skip,n=>rP .skip
 |.reg o p,n=>rP (.reg o p)
 |.seq a b,n=>by
  have h1:=pN H a (n+1);have h2:=pN H b (sS H a (n+1)).2;simp only[sS];split
  ·exact .jseq _ h1 h2
  ·exact .seq h1 h2
 |.cond c a b,n=>by
  have h1:=pN H a (n+1);have h2:=pN H b (sS H a (n+1)).2;simp only[sS];exact rP (.cond c h1 h2)
 |.block id b,n=>by
  have h1:=pN H b (n+1);simp only[sS];split
  ·exact .jblock _ id h1
  ·exact .block id h1
 |.loop b,n=>by
  have h1:=pN H b (n+1);simp only[sS];split
  ·exact .loop _ h1
  ·exact .unl _ h1
  ·exact .bad _
 |.exit id,n=>rP (.exit id)
 |.ret,n=>rP .ret
 |.defer f c t,n=>.defer f c t
 |.bad,n=>.bad _
theorem CF {σ R:Type} {step:σ→Option (σ⊕R)} {x:σ} {r:R} (h:iter step x=some r):∃ n,iterN step n x=some r:=by
 unfold iter at h;split at h
 ·exact⟨_,h⟩
 ·cases h
theorem B1 {α R:Type} {o:Option (R⊕α)} {k:α→Option R} {r:R} (h:jn o k=some r):(∃ x,o=some (.inr x)∧k x=some r)∨o=some (.inl r):=by
 unfold jn at h;split at h
 ·exact .inl ⟨_,rfl,h⟩
 ·cases h;exact .inr rfl
 ·cases h
section inv
variable {P:Program} {nt:Nat}
theorem qn (id:Nat) (ops:Array Oper) (dr:Bool):bM P nt (.region id ops dr)= .bad∨
 ((ops.toList.all fun o=>match o.dst with|some d=>decide (d<nt)|none=>true)=true∧
   ((∃ f caps t,sR ops dr=some (f,caps,t)∧bM P nt (.region id ops dr)= .defer f caps t)∨
    ∃ l prs,mm P ops ops.toList=some l∧xr ops l=some prs∧bM P nt (.region id ops dr)= .reg l prs)):=by
 simp only[bM];split
 ·rename_i hd;split
  ·rename_i f caps t h;exact .inr ⟨hd,.inl ⟨f,caps,t,h,rfl⟩⟩
  ·split
   ·rename_i l hl;split
    ·rename_i prs hp;exact .inr ⟨hd,.inr ⟨l,prs,hl,hp,rfl⟩⟩
    ·exact .inl rfl
   ·exact .inl rfl
 ·exact .inl rfl
theorem E7 {c:Code} {sl:List mI} {prs:List (Nat×Nat)} (h:bM P nt c= .reg sl prs):∃ id ops dr,c= .region id ops dr∧(ops.toList.all fun o=>match o.dst with|some d=>decide (d<nt)|none=>true)=true∧mm P ops ops.toList=some sl∧xr ops sl=some prs:=by
 cases c with
 |region id ops dr=>
  rcases qn (P:=P) (nt:=nt) id ops dr with h1|⟨hd,⟨f,caps,t,_,h1⟩|⟨l,p,h2,h3,h1⟩⟩
  ·rw[h1] at h;cases h
  ·rw[h1] at h;cases h
  ·rw[h1] at h;cases h;exact⟨id,ops,dr,rfl,hd,h2,h3⟩
 |cond o x y=>cases o<;>simp[bM] at h
 |_=>simp[bM] at h
theorem CG {c:Code} {f:FuncId} {caps:List Operand} {t:Nat} (h:bM P nt c= .defer f caps t):∃ id ops dr,c= .region id ops dr∧(ops.toList.all fun o=>match o.dst with|some d=>decide (d<nt)|none=>true)=true∧sR ops dr=some (f,caps,t):=by
 cases c with
 |region id ops dr=>
  rcases qn (P:=P) (nt:=nt) id ops dr with h1|⟨hd,⟨f',caps',t',h2,h1⟩|⟨l,p,h2,h3,h1⟩⟩
  ·rw[h1] at h;cases h
  ·rw[h1] at h;cases h;exact⟨id,ops,dr,rfl,hd,h2⟩
  ·rw[h1] at h;cases h
 |cond o x y=>cases o<;>simp[bM] at h
 |_=>simp[bM] at h
theorem jW {c:Code} {sc:SC} (h:bM P nt c=sc) (h1:sc≠ .bad) (h2:∀ a b,sc≠ .reg a b) (h3:∀ a b t,sc≠ .defer a b t):∀ id ops dr,c≠ .region id ops dr:=by
 rintro id ops dr rfl;rcases qn (P:=P) (nt:=nt) id ops dr with h4|⟨_,⟨f,caps,t,_,h4⟩|⟨l,p,_,_,h4⟩⟩<;>rw[h4] at h
 ·exact h1 h.symm
 ·exact h3 _ _ _ h.symm
 ·exact h2 _ _ h.symm
theorem D6 {c:Code} (h:bM P nt c= .skip):c= .skip:=by
 have nr:=jW h (by simp) (by simp) (by simp);cases c with
 |skip=>rfl
 |region id ops dr=>exact absurd rfl (nr id ops dr)
 |cond o x y=>cases o<;>simp[bM] at h
 |_=>simp[bM] at h
theorem E6 {c:Code} (h:bM P nt c= .ret):c= .ret:=by
 have nr:=jW h (by simp) (by simp) (by simp);cases c with
 |ret=>rfl
 |region id ops dr=>exact absurd rfl (nr id ops dr)
 |cond o x y=>cases o<;>simp[bM] at h
 |_=>simp[bM] at h
theorem D7 {c:Code} {i:Nat} (h:bM P nt c= .exit i):c= .exit i:=by
 have nr:=jW h (by simp) (by simp) (by simp);cases c with
 |exit id=>simp[bM] at h;rw[h]
 |region id ops dr=>exact absurd rfl (nr id ops dr)
 |cond o x y=>cases o<;>simp[bM] at h
 |_=>simp[bM] at h
theorem B2 {c:Code} {a b:SC} (h:bM P nt c= .seq a b):∃ x y,c= .seq x y∧bM P nt x=a∧bM P nt y=b:=by
 have nr:=jW h (by simp) (by simp) (by simp);cases c with
 |seq x y=>simp[bM] at h;exact⟨x,y,rfl,h.1,h.2⟩
 |region id ops dr=>exact absurd rfl (nr id ops dr)
 |cond o x y=>cases o<;>simp[bM] at h
 |_=>simp[bM] at h
theorem D8 {c:Code} {t:Nat} {a b:SC} (h:bM P nt c= .cond t a b):∃ x y,c= .cond (.tmp t) x y∧bM P nt x=a∧bM P nt y=b:=by
 have nr:=jW h (by simp) (by simp) (by simp);cases c with
 |cond o x y=>
  cases o with
  |tmp q=>simp[bM] at h;obtain⟨rfl,h1,h2⟩:=h;exact⟨x,y,rfl,h1,h2⟩
  |_=>simp[bM] at h
 |region id ops dr=>exact absurd rfl (nr id ops dr)
 |_=>simp[bM] at h
theorem xz {c:Code} {id:Nat} {b:SC} (h:bM P nt c= .block id b):∃ y,c= .block id y∧bM P nt y=b:=by
 have nr:=jW h (by simp) (by simp) (by simp);cases c with
 |block i y=>simp[bM] at h;obtain⟨rfl,h1⟩:=h;exact⟨y,rfl,h1⟩
 |region id ops dr=>exact absurd rfl (nr id ops dr)
 |cond o x y=>cases o<;>simp[bM] at h
 |_=>simp[bM] at h
theorem zG {c:Code} {b:SC} (h:bM P nt c= .loop b):∃ y,c= .loop y∧bM P nt y=b:=by
 have nr:=jW h (by simp) (by simp) (by simp);cases c with
 |loop y=>simp[bM] at h;exact⟨y,rfl,h⟩
 |region id ops dr=>exact absurd rfl (nr id ops dr)
 |cond o x y=>cases o<;>simp[bM] at h
 |_=>simp[bM] at h
end inv
def FR {R:Type} (P:Program) (E:Nat→Prop) (nt np:Nat) (φ:PM) (s:TS) (w:World) (am:Nat) (K:Ex→TS→Option R) (r:R):Exit→Act→World→Prop:=
 fun e a' w'=>∃ ex s' φ',e=ex.to∧K ex s'=some r∧jK P E nt np φ' s' a' w'∧rO np φ φ' (bp s.h) (bp s'.h) w w'∧dL am s.e s'.e
theorem jK.bool {P:Program} {E:Nat→Prop} {nt np:Nat} {φ:PM} {s:TS} {a:Act} {w:World} (c:jK P E nt np φ s a w) {t:Nat} {b:Bool} (ht:s.e.get t=some (.f .bool b)):a.eval (.tmp t)= .bool b:=
 dl (c.env t _ (by simp only[dC,ht,aC,bS];rfl))
theorem jK.anyb {P:Program} {E:Nat→Prop} {nt np:Nat} {φ:PM} {s:TS} {a:Act} {w:World} (c:jK P E nt np φ s a w) {t:Nat} (ht:s.e.get t=some .anyb):∃ b,a.eval (.tmp t)= .bool b:=by
 have:=c.env t .anyb (by simp only[dC,ht,aC,bS]);show ∃ b,a.tmps.getD t undef= .bool b;generalize a.tmps.getD t undef=z at this;cases this with
 |anyb=>exact⟨_,rfl⟩
theorem CS {R:Type} {a b:Option R} {r:R} (h:wD a b=some r):a=some r∧b=some r:=by
 unfold wD at h;split at h
 ·rename_i e;exact⟨h,by rw[← e];exact h⟩
 ·cases h
theorem F0 {P:Program} {E:Nat→Prop} {nt np:Nat} {con:FuncId→Option bR} {bH:TypeId→Option Ty} {inert:FuncId→Bool} (hm:P.follows .mixedOrders=true) (hcon:wS P con) (hin:wP P inert):
 ∀ {tc:TC} {sc:SC},Er tc sc→∀ (c:Code),bM P nt c=sc→∀ (R:Type) (s:TS) (K:Ex→TS→Option R) (r:R),jU np con bH inert tc s K=some r→∀ (φ:PM) (a:Act) (w:World),jK P E nt np φ s a w→c.wp P (FR P E nt np φ s w (tc.asg 0) K r) a w:=by
 intro tc sc hE;induction hE with
 |skip=>
  intro c hc R s K r h φ a w g;rw[D6 hc];exact wp_skip ⟨.normal,s,φ,rfl,h,g,rO.refl _ _ _ _,dL.refl _ _⟩
 |reg ops prs=>
  intro c hc R s K r h φ a w g;obtain⟨id,os,dr,rfl,h1,h2,h3⟩:=E7 hc;simp only[jU] at h;refine DH (K:=fun s'=>K .normal s') hm hcon g (am:=asgO ops 0) (fun j o d ho hd=>?_) h1 h2 h3 h fun a' w' s' φ' q1 q2 q3 q4=>⟨.normal,s',φ',rfl,q1,q2,q3,q4⟩
  have hmem:o∈os.toList:=by have:=Array.mem_of_getElem? ho;simpa using this
  have key:∀ (rest:List Oper) (sl:List mI),mm P os rest=some sl→∀ o∈rest,∃ so∈sl,so.dst=o.dst:=by
   intro rest;induction rest with
   |nil=>intro sl _ o ho;cases ho
   |cons x rest ih=>
    intro sl hsl o ho;simp only[mm] at hsl;split at hsl
    ·rename_i l hl;have:∃ so,sl=so::l∧so.dst=x.dst:=by
      split at hsl
      ·simp only[ae] at hsl;exact⟨_,hsl.symm,rfl⟩
      ·split at hsl
       ·simp only[ae] at hsl;exact⟨_,hsl.symm,rfl⟩
       ·cases hsl
     obtain⟨so,rfl,hso⟩:=this;rcases bo.1 ho with rfl|ho
     ·exact⟨so,by simp,hso⟩
     ·obtain⟨q,hq,hq2⟩:=ih l hl o ho;exact⟨q,by simp[hq],hq2⟩
    ·cases hsl
  obtain⟨so,hso,hd2⟩:=key os.toList ops h2 o hmem;exact asgO_mem hso (by rw[hd2];exact hd)
 |@seq x y x' y' _ _ ihx ihy=>
  intro c hc R s K r h φ a w g;obtain⟨cx,cy,rfl,h1,h2⟩:=B2 hc;simp only[jU] at h;refine wp_seq (wp_mono (ihx cx h1 R s _ r h φ a w g) ?_);rintro e a' w' ⟨ex,s',φ',rfl,hk,g',st,kp⟩;have kp':dL ((TC.seq x y).asg 0) s.e s'.e:=kp.mono fun k hk=>by simp only[TC.asg];exact gg hk
  cases ex with
  |normal=>
   refine wp_mono (ihy cy h2 R s' K r hk φ' a' w' g') ?_;rintro e2 a2 w2 ⟨ex2,s2,φ2,rfl,hk2,g2,st2,kp2⟩;exact⟨ex2,s2,φ2,rfl,hk2,g2,st.trans st2,kp'.trans (kp2.mono fun k hk=>by simp only[TC.asg];exact ou hk)⟩
  |exit id=>exact⟨.exit id,s',φ',rfl,hk,g',st,kp'⟩
  |ret=>exact⟨.ret,s',φ',rfl,hk,g',st,kp'⟩
 |@jseq A x y x' y' _ _ ihx ihy=>
  intro c hc R s K r h φ a w g;obtain⟨cx,cy,rfl,h1,h2⟩:=B2 hc;simp only[jU] at h;have sub1:∀ k,aI (x.asg 0) k=true→aI ((TC.jseq A x y).asg 0) k=true:=fun k hk=>by simp only[TC.asg];exact gg (ou hk)
  have sub2:∀ k,aI (y.asg 0) k=true→aI ((TC.jseq A x y).asg 0) k=true:=fun k hk=>by simp only[TC.asg];exact ou hk
  have sub3:∀ k,aI (ksB A.ks 0) k=true→aI ((TC.jseq A x y).asg 0) k=true:=fun k hk=>by simp only[TC.asg];exact gg (gg hk)
  rcases B1 h with ⟨d,h3,h4⟩|h3
  ·refine wp_seq (wp_mono (ihx cx h1 _ s _ _ h3 φ a w g) ?_);rintro e a' w' ⟨ex,s',φ',rfl,hk,g',st,kp⟩;cases ex with
   |normal=>
    simp only[] at hk;obtain⟨d',q1,q2⟩:=cL hk;simp only[ae,Sum.inr.injEq] at q2;subst q2;split at h4
    ·rename_i s1 hs1;obtain⟨φ1,g1,st1⟩:=yp g' q1 hs1 fun k _ _ v hv hf ha v' hv'=>by
      obtain⟨v0,e1,e2⟩:=kp k ha v' hv';rw[hv] at e1;cases e1;exact e2 hf
     refine wp_mono (ihy cy h2 R s1 K r h4 φ1 a' w' g1) ?_;rintro e2 a2 w2 ⟨ex2,s2,φ2,rfl,hk2,g2,st2,kp2⟩;exact⟨ex2,s2,φ2,rfl,hk2,g2,(st.trans st1).trans st2,((tg hs1).1.mono sub3).trans (kp2.mono sub2)⟩
    ·cases h4
   |exit id=>simp only[] at hk;obtain⟨_,_,q2⟩:=cL hk;simp at q2
   |ret=>simp only[] at hk;obtain⟨_,_,q2⟩:=cL hk;simp at q2
  ·refine wp_seq (wp_mono (ihx cx h1 _ s _ _ h3 φ a w g) ?_);rintro e a' w' ⟨ex,s',φ',rfl,hk,g',st,kp⟩;cases ex with
   |normal=>simp only[] at hk;obtain⟨_,_,q2⟩:=cL hk;simp at q2
   |exit id=>
    simp only[] at hk;obtain⟨r',q1,q2⟩:=cL hk;simp only[ae,Sum.inl.injEq] at q2;subst q2;exact⟨.exit id,s',φ',rfl,q1,g',st,kp.mono sub1⟩
   |ret=>
    simp only[] at hk;obtain⟨r',q1,q2⟩:=cL hk;simp only[ae,Sum.inl.injEq] at q2;subst q2;exact⟨.ret,s',φ',rfl,q1,g',st,kp.mono sub1⟩
 |@cond t x y x' y' _ _ ihx ihy=>
  intro c hc R s K r h φ a w g;obtain⟨cx,cy,rfl,h1,h2⟩:=D8 hc;simp only[jU] at h;split at h
  ·rename_i b hb;rcases kf h with ⟨rfl,h⟩|⟨rfl,h⟩
   ·refine wp_cond_true (g.bool hb) (wp_mono (ihx cx h1 R s K r h φ a w g) ?_);rintro e a' w' ⟨ex,s',φ',rfl,hk,g',st,kp⟩;exact⟨ex,s',φ',rfl,hk,g',st,kp.mono fun k hk=>by simp only[TC.asg];exact gg hk⟩
   ·refine wp_cond_false (g.bool hb) (wp_mono (ihy cy h2 R s K r h φ a w g) ?_);rintro e a' w' ⟨ex,s',φ',rfl,hk,g',st,kp⟩;exact⟨ex,s',φ',rfl,hk,g',st,kp.mono fun k hk=>by simp only[TC.asg];exact ou hk⟩
  ·rename_i hb;obtain⟨ha,hbb⟩:=CS h;obtain⟨bv,hbv⟩:=g.anyb hb;cases bv with
   |true=>
    refine wp_cond_true hbv (wp_mono (ihx cx h1 R s K r ha φ a w g) ?_);rintro e a' w' ⟨ex,s',φ',rfl,hk,g',st,kp⟩;exact⟨ex,s',φ',rfl,hk,g',st,kp.mono fun k hk=>by simp only[TC.asg];exact gg hk⟩
   |false=>
    refine wp_cond_false hbv (wp_mono (ihy cy h2 R s K r hbb φ a w g) ?_);rintro e a' w' ⟨ex,s',φ',rfl,hk,g',st,kp⟩;exact⟨ex,s',φ',rfl,hk,g',st,kp.mono fun k hk=>by simp only[TC.asg];exact ou hk⟩
  ·cases h
 |@block id b b' _ ih=>
  intro c hc R s K r h φ a w g;obtain⟨cb,rfl,h1⟩:=xz hc;simp only[jU] at h;refine wp_block (wp_mono (ih cb h1 R s _ r h φ a w g) ?_);rintro e a' w' ⟨ex,s',φ',rfl,hk,g',st,kp⟩;cases ex with
  |normal=>exact⟨.normal,s',φ',rfl,hk,g',st,kp⟩
  |ret=>exact⟨.ret,s',φ',rfl,hk,g',st,kp⟩
  |exit i=>
   simp only[Ex.to,Exit.inBlock];simp only[] at hk;split at hk
   ·rename_i hb;rw[if_pos (au hb)];exact⟨.normal,s',φ',rfl,hk,g',st,kp⟩
   ·rename_i hb;rw[if_neg (fun e=>hb (by rw[e];exact nW id))];exact⟨.exit i,s',φ',rfl,hk,g',st,kp⟩
 |@jblock A id b b' _ ih=>
  intro c hc R s K r h φ a w g;obtain⟨cb,rfl,h1⟩:=xz hc;simp only[jU] at h;have sub1:∀ k,aI (b.asg 0) k=true→aI ((TC.jblock A id b).asg 0) k=true:=fun k hk=>by simp only[TC.asg];exact ou hk
  have sub3:∀ k,aI (ksB A.ks 0) k=true→aI ((TC.jblock A id b).asg 0) k=true:=fun k hk=>by simp only[TC.asg];exact gg hk
  rcases B1 h with ⟨d,h3,h4⟩|h3
  ·refine wp_block (wp_mono (ih cb h1 _ s _ _ h3 φ a w g) ?_);rintro e a' w' ⟨ex,s',φ',rfl,hk,g',st,kp⟩;have fin:obind (xg np A (b.asg 0) s s') (fun x=>some (af (α:=R) x))=some (af d)→FR P E nt np φ s w ((TC.jblock A id b).asg 0) K r .normal a' w':=by
    intro hk;obtain⟨d',q1,q2⟩:=cL hk;simp only[ae,Sum.inr.injEq] at q2;subst q2;split at h4
    ·rename_i s1 hs1;obtain⟨φ1,g1,st1⟩:=yp g' q1 hs1 fun k _ _ v hv hf ha v' hv'=>by
      obtain⟨v0,e1,e2⟩:=kp k ha v' hv';rw[hv] at e1;cases e1;exact e2 hf
     exact⟨.normal,s1,φ1,rfl,h4,g1,st.trans st1,(tg hs1).1.mono sub3⟩
    ·cases h4
   cases ex with
   |normal=>exact fin hk
   |ret=>simp only[] at hk;obtain⟨_,_,q2⟩:=cL hk;simp at q2
   |exit i=>
    simp only[Ex.to,Exit.inBlock];simp only[] at hk;split at hk
    ·rename_i hb;rw[if_pos (au hb)];exact fin hk
    ·obtain⟨_,_,q2⟩:=cL hk;simp at q2
  ·refine wp_block (wp_mono (ih cb h1 _ s _ _ h3 φ a w g) ?_);rintro e a' w' ⟨ex,s',φ',rfl,hk,g',st,kp⟩;cases ex with
   |normal=>simp only[] at hk;obtain⟨_,_,q2⟩:=cL hk;simp at q2
   |ret=>
    simp only[] at hk;obtain⟨r',q1,q2⟩:=cL hk;simp only[ae,Sum.inl.injEq] at q2;subst q2;exact⟨.ret,s',φ',rfl,q1,g',st,kp.mono sub1⟩
   |exit i=>
    simp only[Ex.to,Exit.inBlock];simp only[] at hk;split at hk
    ·obtain⟨_,_,q2⟩:=cL hk;simp at q2
    ·rename_i hb;rw[if_neg (fun e=>hb (by rw[e];exact nW id))];obtain⟨r',q1,q2⟩:=cL hk;simp only[ae,Sum.inl.injEq] at q2;subst q2;exact⟨.exit i,s',φ',rfl,q1,g',st,kp.mono sub1⟩
 |@loop A b b' _ ih=>
  intro c hc R s K r h φ a w g;obtain⟨cb,rfl,h1⟩:=zG hc;simp only[jU] at h;obtain⟨x0,hx0,h⟩:=cL h;obtain⟨n,hn⟩:=CF h;have sub1:∀ k,aI (b.asg 0) k=true→aI ((TC.loop A b).asg 0) k=true:=fun k hk=>by simp only[TC.asg];exact ou hk
  have sub3:∀ k,aI (ksB A.ks 0) k=true→aI ((TC.loop A b).asg 0) k=true:=fun k hk=>by simp only[TC.asg];exact gg hk
  obtain⟨step,hstep⟩:∃ step:A.D→Option (A.D⊕R),step=fun x=>(match uC A (b.asg 0) s x with
   |some s'=>jU np con bH inert b s' fun ex s'=>(match ex with
    |.normal=>obind (xg np A (b.asg 0) s s') fun y=>some (aO y)
    |ex=>obind (K ex s') fun r=>some (af r))
   |none=>none):=⟨_,rfl⟩
  have hn:iterN step n x0=some r:=by rw[hstep];exact hn
  have stepEq:∀ x,step x=(match uC A (b.asg 0) s x with
   |some s'=>jU np con bH inert b s' fun ex s'=>(match ex with
    |.normal=>obind (xg np A (b.asg 0) s s') fun y=>some (aO y)
    |ex=>obind (K ex s') fun r=>some (af r))
   |none=>none):=fun x=>by rw[hstep]
  let Inv:Nat→Act→World→Prop:=fun n a w'=>∃ x s1 φ1,iterN step n x=some r∧uC A (b.asg 0) s x=some s1∧jK P E nt np φ1 s1 a w'∧rO np φ φ1 (bp s.h) (bp s1.h) w w'
  have head:∀ (n:Nat) (x:A.D),iterN step n x=some r→∃ s1,uC A (b.asg 0) s x=some s1:=by
   intro n x hn;cases n with
   |zero=>cases hn
   |succ n=>
    simp only[iterN] at hn;cases hr:uC A (b.asg 0) s x with
    |some s1=>exact⟨s1,rfl⟩
    |none=>rw[stepEq,hr] at hn;cases hn
  refine rQ Inv ?_ (n:=n) ?_
  ·rintro n a1 w1 ⟨x,s1,φ1,hi,hr,g1,st1⟩;cases n with
   |zero=>cases hi
   |succ n=>
    simp only[iterN] at hi;have hse:=stepEq x;rw[hr] at hse;simp only[] at hse;obtain⟨kp1,kp1'⟩:=tg hr;split at hi
    ·rename_i y hy;rw[hy] at hse;refine wp_mono (ih cb h1 _ s1 _ _ hse.symm φ1 a1 w1 g1) ?_;rintro e a' w' ⟨ex,s',φ',rfl,hk,g',st,kp⟩;cases ex with
     |normal=>
      simp only[] at hk;obtain⟨d',q1,q2⟩:=cL hk;simp only[ae,Sum.inl.injEq] at q2;subst q2;obtain⟨s2,hs2⟩:=head n d' hi;obtain⟨φ2,g2,st2⟩:=yp g' q1 hs2 fun k hkk hks v hv hf ha v' hv'=>by
       obtain⟨v0,e1,e2⟩:=kp k ha v' hv';have:=kp1' k hks v0 e1;rw[hv] at this;cases this;exact e2 hf
      exact⟨n,by omega,d',s2,φ2,hi,hs2,g2,(st1.trans st).trans st2⟩
     |exit id=>simp only[] at hk;obtain⟨_,_,q2⟩:=cL hk;simp at q2
     |ret=>simp only[] at hk;obtain⟨_,_,q2⟩:=cL hk;simp at q2
    ·rename_i r' hy;cases hi;rw[hy] at hse;refine wp_mono (ih cb h1 _ s1 _ _ hse.symm φ1 a1 w1 g1) ?_;rintro e a' w' ⟨ex,s',φ',rfl,hk,g',st,kp⟩;cases ex with
     |normal=>simp only[] at hk;obtain⟨_,_,q2⟩:=cL hk;simp at q2
     |exit id=>
      simp only[] at hk;obtain⟨r',q1,q2⟩:=cL hk;simp only[ae,Sum.inr.injEq] at q2;subst q2;exact⟨.exit id,s',φ',rfl,q1,g',st1.trans st,(kp1.mono sub3).trans (kp.mono sub1)⟩
     |ret=>
      simp only[] at hk;obtain⟨r',q1,q2⟩:=cL hk;simp only[ae,Sum.inr.injEq] at q2;subst q2;exact⟨.ret,s',φ',rfl,q1,g',st1.trans st,(kp1.mono sub3).trans (kp.mono sub1)⟩
    ·cases hi
  ·obtain⟨s1,hs1⟩:=head n x0 hn;obtain⟨φ1,g1,st1⟩:=yp g hx0 hs1 fun k _ _ v hv _ _ v' hv'=>by rw[hv] at hv';cases hv';rfl
   exact⟨x0,s1,φ1,hn,hs1,g1,st1⟩
 |exit id=>
  intro c hc R s K r h φ a w g;rw[D7 hc];exact wp_exit ⟨.exit id,s,φ,rfl,h,g,rO.refl _ _ _ _,dL.refl _ _⟩
 |ret=>
  intro c hc R s K r h φ a w g;rw[E6 hc];exact wp_ret ⟨.ret,s,φ,rfl,h,g,rO.refl _ _ _ _,dL.refl _ _⟩
 |defer f caps t=>
  intro c hc R s K r h φ a w g;obtain⟨id,ops,dr,rfl,h1,h2⟩:=CG hc;simp only[jU] at h;split at h
  ·rename_i l hl;split at h
   ·rename_i hi;obtain⟨l',e1,e2⟩:=qc g.invE hl;obtain⟨H,hH⟩:=fO s.h;have lowN:∀ n k,φ n=some k→n<2*s.nx+2:=fun n k hk=>by have:=g.dom n k hk;unfold ow at this;omega
    have cfg:H3 P ⟨2*s.nx+2,φ,E,bp s.h,w⟩ nt ⟨xh s.e s.h,H,2*s.nx+2,0⟩ a w:=by
     refine ⟨⟨φ,?_,?_,?_,lowN,fun i k hk=>.inl hk⟩,cD _,g.inert,g.size⟩
     ·rw[hH];exact eT.refl _ _ _
     ·rw[hH];exact g.rep
     ·rw[hH,om];exact g.env
    refine zZ hin cfg h1 h2 e1 hi fun a' w' c'=>?_
    obtain⟨φ',m',r',en',dm',d0'⟩:=c'.ex;have hφ:φ'=φ:=by
     funext n;cases hx:φ n with
     |some k=>exact m'.sub n k hx
     |none=>
      cases hy:φ' n with
      |none=>rfl
      |some k=>
       rcases d0' n k hy with h3|h3
       ·have h3:φ n=some k:=h3;rw[hx] at h3;cases h3
       ·have h4:n<2*s.nx+2:=dm' n k hy;have h5:2*s.nx+2≤n:=h3;omega
    subst hφ;simp only[hH] at m' r' en';refine ⟨.normal,_,φ',rfl,h,⟨r',?_,g.dom,g.low,g.invH,?_,c'.inert,c'.size⟩,⟨m'.ext,m'.own_,fun _ _=>rfl⟩,?_⟩
    ·intro u x hx;refine en' u x ?_;simp only[dC,PT.get_set] at hx;simp only[Env.put,PT.get_set];split at hx
     ·rename_i eu;rw[if_pos eu];simp only[aC,bS,e2,ae] at hx;rw[hx]
     ·rename_i eu;rw[if_neg eu,om];exact hx
    ·intro u x hx;simp only[PT.get_set] at hx;split at hx
     ·cases hx;simp only[yP];exact gT _ _ _ e2
     ·exact g.invE u x hx
    ·intro k hk v' hv';simp only[PT.get_set] at hv';split at hv'
     ·rename_i ek;subst ek;simp only[TC.asg] at hk;rw[bh,bI.2 rfl] at hk;simp at hk
     ·exact⟨v',hv',fun _=>rfl⟩
   ·cases h
  ·cases h
 |@adj l tc' sc' _ ih=>
  intro c hc R s K r h φ a w g;simp only[jU] at h;split at h
  ·rename_i s1 hs1;obtain⟨φ1,g1,st1,kp1⟩:=Bz g hs1;refine wp_mono (ih c hc R s1 K r h φ1 a w g1) ?_;rintro e a' w' ⟨ex,s',φ',rfl,hk,g',st,kp⟩;exact⟨ex,s',φ',rfl,hk,g',st1.trans st,(kp1.mono fun k hk=>by simp only[TC.asg];exact gg hk).trans (kp.mono fun k hk=>by simp only[TC.asg];exact ou hk)⟩
  ·cases h
 |@split k off lo n tc' sc' _ ih=>
  intro c hc R s K r h φ a w g;simp only[jU] at h;split at h
  ·rename_i kd v hv;obtain⟨j,hj,h2⟩:=zd h;subst hj;split at h2
   ·rename_i s1 hs1;obtain⟨g1,hH,he⟩:=DE g hv hs1;refine wp_mono (ih c hc R s1 K r h2 φ a w g1) ?_;rintro e a' w' ⟨ex,s',φ',rfl,hk,g',st,kp⟩;exact⟨ex,s',φ',rfl,hk,g',by rw[← hH];exact st,fun k hk v' hv'=>by
     obtain⟨v,q1,q2⟩:=kp k hk v' hv';exact⟨v,by rw[← he];exact q1,q2⟩⟩
   ·cases h2
  ·cases h
 |@unl n b b' _ ih=>
  intro c hc R s K r h φ a w g;obtain⟨cb,rfl,h1⟩:=zG hc;simp only[jU] at h
  let Inv:Nat→Act→World→Prop:=fun m a w'=>∃ s1 φ1,EM (fun s K=>jU np con bH inert b s K) m s1 K=some r∧jK P E nt np φ1 s1 a w'∧rO np φ φ1 (bp s.h) (bp s1.h) w w'∧dL (b.asg 0) s.e s1.e
  refine rQ Inv ?_ (n:=n) ⟨s,φ,h,g,rO.refl _ _ _ _,dL.refl _ _⟩;rintro m a1 w1 ⟨s1,φ1,hi,g1,st1,kp1⟩;cases m with
  |zero=>cases hi
  |succ m=>
   simp only[EM] at hi;refine wp_mono (ih cb h1 R s1 _ r hi φ1 a1 w1 g1) ?_;rintro e a' w' ⟨ex,s',φ',rfl,hk,g',st,kp⟩;cases ex with
   |normal=>exact⟨m,rL m,s',φ',hk,g',st1.trans st,kp1.trans kp⟩
   |exit id=>exact⟨.exit id,s',φ',rfl,hk,g',st1.trans st,kp1.trans kp⟩
   |ret=>exact⟨.ret,s',φ',rfl,hk,g',st1.trans st,kp1.trans kp⟩
 |bad sc'=>
  intro c hc R s K r h;simp[jU] at h
theorem xZ {P:Program} {φ:PM} {E:Nat→Prop} {s:TS} {a:Act} {w:World} (hinv:ib s.h s.nx) (hiE:m6 s.e s.h) (r:lm φ E (bp s.h) w) (en:xM φ (tot E φ (bp s.h)) w (dC s.e s.h) a):∀ (rs:List ResultVar) (rvs:List RV) (l:List TV),oq P rs=some rvs→AT s rvs=some l→
 ∃ la vs,ci s.h l=some la∧(rs.mapM (Ct a.tmps)).run P w= .ok vs w∧fP φ (tot E φ (bp s.h)) w la vs
 |[],rvs,l,hc,hr=>by
  simp only[oq,ae] at hc;subst hc;simp only[AT,ae] at hr;subst hr;exact⟨[],[],rfl,by simp,trivial⟩
 |.tmp t::rs,rvs,l,hc,hr=>by
  simp only[oq] at hc;split at hc
  ·rename_i rvs' hrs;simp only[ae] at hc;subst hc;simp only[AT] at hr;split at hr
   ·rename_i v hv;split at hr
    ·rename_i l' hl';simp only[ae] at hr;subst hr;obtain⟨la,vs,h0,h1,h2⟩:=xZ hinv hiE r en rs rvs' l' hrs hl';simp only[rvT] at hv;obtain⟨y,hy⟩:=kA s.h v (hiE t v hv);refine ⟨y::la,a.tmps.getD t undef::vs,jT hy h0,?_,en t y (by simp only[dC,hv,aC,hy]),h2⟩;simp only[List.mapM_cons,cY,Ct,jL,ca];show ((rs.mapM (Ct a.tmps)).run P w).andThen _=_;rw[h1];rfl
    ·cases hr
   ·cases hr
  ·cases hc
 |.cell ad t::rs,rvs,l,hc,hr=>by
  simp only[oq] at hc;split at hc
  ·rename_i rvs' sz ag hrs hsz hag;simp only[ae] at hc;subst hc;simp only[AT] at hr;split at hr
   ·rename_i v hv;split at hr
    ·rename_i l' hl';simp only[ae] at hr;subst hr;obtain⟨la,vs,h0,h1,h2⟩:=xZ hinv hiE r en rs rvs' l' hrs hl';simp only[rvT] at hv;split at hv
     ·rename_i id off hp;split at hv
      ·rename_i ty q hb;obtain⟨q',hq'⟩:=dx s.h q (hinv.cells id ty q hb);obtain⟨y,e1,e2⟩:=BO hq' hv;obtain⟨H,hH⟩:=fO s.h;have hR:sV H sz ag (.ptr (nm id) off)=some ⟨y,[nm id],[],[],[]⟩:=by
        have hg:H.get (nm id)=some ⟨ty,.mx q'⟩:=by rw[hH,bu,hb];simp only[aC,gH,hq']
        simp only[sV,hg,e2]
       obtain⟨_,_,_,h3⟩:=Ai (P:=P) hsz hag hR;obtain⟨qq,v',h4,h5,h6⟩:=h3 φ E (bp s.h) w _ (fun i _=>by rw[hH]) r (en ad _ (by simp only[dC,hp,aC,bS]));refine ⟨y::la,v'::vs,jT e1 h0,?_,h6,h2⟩;have hone:(Ct a.tmps (.cell ad t)).run P w= .ok v' w:=by
        simp only[Ct,cY,h4,asAddr,jL,ca,h5]
       rw[List.mapM_cons];simp only[cY,hone,ca,h1,jL]
      ·cases hv
     ·cases hv
    ·cases hr
   ·cases hr
  ·cases hc
theorem argsT_get:∀ (args:List TV) (k t:Nat) (x:TV),(argsT k args).get t=some x→k≤t∧args[t-k]? =some x
 |[],k,t,x,h=>by simp[argsT,PT.get] at h
 |y::args,k,t,x,h=>by
  rw[argsT,PT.get_set] at h;split at h
  ·rename_i hk;subst hk;cases h;exact⟨cD _,by simp⟩
  ·obtain⟨h1,h2⟩:=argsT_get args (k+1) t x h;refine ⟨by omega,?_⟩;rw[show t-k=t-(k+1)+1 from by omega];simpa using h2
theorem DU {h:THeap} {l:List TV} (ho:gz h l=true) {j:Nat} {v:TV} (hj:l[j]? =some v):yP h v=true:=by
 obtain⟨l',hl⟩:=dx h l ho;obtain⟨y,_,hy⟩:=hZ hl j v hj;exact tX _ _ _ hy
theorem AN {P:Program} {con:FuncId→Option bR} {bH:TypeId→Option Ty} {inert:FuncId→Bool} (hm:P.follows .mixedOrders=true) (hcon:wS P con) (hin:wP P inert) {f:FuncId} {sf:SF} (hf:qo P f=some sf) (D:FT) (m:D.pre.ty.den→Option D.post.ty.den) (hmod:∀ x y,m x=some y→DA con bH inert (some sf) D x=some y):kw P f ⟨D.pre,D.post,m⟩:=by
 obtain⟨fn,c,hfn,hb,hnm,hcode,hres,hnt⟩:=Ab hf;refine ⟨⟨fn,hfn,by rw[hb];rfl,hnm⟩,fun x y hxy vs hp l1 rs hq l2 la lr I J hla hlr φ E w us hrep hrel hdom=>?_⟩;have ht:=hmod x y hxy;unfold DA at ht;simp only[] at ht;split at ht
 ·rename_i args h hins;obtain⟨l1',I'⟩:=o6 hins;have e1:args=vs:=by have h1:=I.pv;have h2:=I'.pv;rw[h1] at h2;cases h2;rfl
  have e2:l1'=l1:=by have h1:=I.pb;have h2:=I'.pb;rw[h1] at h2;cases h2;rfl
  subst e1;subst e2;have hget:∀ i,h.get i=hp.get i:=fun i=>by
   cases h3:hp.get i with
   |some b=>exact (I'.at_ i b).2 ((I.at_ i b).1 h3)
   |none=>
    cases h4:h.get i with
    |none=>rfl
    |some b=>have:=(I.at_ i b).2 ((I'.at_ i b).1 h4);rw[h3] at this;cases this
  have hrow:∀ i,dg h i=dg hp i:=fun i=>by rw[bF,bF,hget]
  have herH:bp h=bp hp:=by
   funext n;by_cases hn:∃ i,n=nm i
   ·obtain⟨i,rfl⟩:=hn;rw[bu,bu,hget];cases h3:hp.get i with
    |none=>rfl
    |some b=>
     simp only[aC];refine wv (fun i r hr=>by rw[hrow];exact hr) fun ty l e=>?_
     exact (I.cells i ty l (by rw[h3,e])).1
   ·rw[pa _ hn,pa _ hn]
  have hla':ci h args=some la:=eS (fun i r hr=>by rw[hrow];exact hr) args la hla;split at ht
  ·rename_i hle;simp only[ak] at hle;have hle2:=aW hle.2;have hle:=aW hle.1;have hlen:=hrel.length;have hargl:args.length=la.length:=(fk hla).symm;refine calls_of_wp_defers hfn hb ?_;have hcfg:jK P E fn.ntmps D.pre.bs.length φ ⟨argsT 0 args,h,D.pre.bs.length⟩ {tmps:=us.toArray++jt (fn.ntmps-us.toArray.size) undef,defers:=[]} w:=by
    refine ⟨by rw[herH];exact hrep,?_,hdom,cD _,⟨fun i ty l hl=>(I'.cells i ty l hl).1,fun i b hbb=>I'.lt_len hbb⟩,?_,by simp,by simp;omega⟩
    ·intro t z hz;simp only[dC] at hz;cases hx:(argsT 0 args).get t with
     |none=>rw[hx] at hz;cases hz
     |some v0=>
      rw[hx] at hz;obtain⟨_,h2⟩:=argsT_get args 0 t v0 hx;rw[Nat.sub_zero] at h2;obtain⟨y0,q1,q2⟩:=hZ hla' t v0 h2;simp only[aC] at hz;rw[hz] at q2;cases q2;obtain⟨v,h3,h4⟩:=hrel.get t z q1;have hlt:t<us.length:=(bg.1 h3).1;have:(us.toArray++jt (fn.ntmps-us.toArray.size) undef).getD t undef=v:=by
       rw[dS,Array.getElem?_append];simp only[qw,hlt,if_true,iP,h3,rK]
      show cg φ _ w z ((us.toArray++jt (fn.ntmps-us.toArray.size) undef).getD t undef);rw[this,herH];exact h4
    ·intro t v0 hv0;obtain⟨_,h2⟩:=argsT_get args 0 t v0 hv0;exact DU I'.ok h2
   refine wp_mono (F0 (E:=E) hm hcon hin (pN D.hints sf.code 0) c hcode.symm _ _ _ _ ht φ _ w hcfg) ?_;rintro e a' w' ⟨ex,s',φ',rfl,hk,g',st,_⟩;have fin:(match AT s' sf.res with
    |some l=>(match tI D.pre.bs.length D.post l s'.h with
     |some ⟨y,_,_,_⟩=>(match sF D.post y with|some _=>some y|none=>none)
     |none=>none)
    |none=>none)=some y→Leaves P fn a'.tmps (fun en w'=>∃ v φ',en= .returned v∧wQ (own φ (bp hp)) w w'∧(∀ k,k<w.heap.size→own φ' (bp hq) k→own φ (bp hp) k)∧(∀ i,i<D.pre.bs.length→φ' (nm i)=φ (nm i))∧lm φ' E (bp hq) w'∧cg φ' (tot E φ' (bp hq)) w' (tupA lr) v) a'.defers .returning w':=by
    intro hk;split at hk
    ·rename_i l hl;split at hk
     ·rename_i y' m' σ sm hM;split at hk
      ·simp only[ae] at hk;subst hk;obtain⟨lo,rvs,q0,q1,q2⟩:=xZ g'.invH g'.invE g'.rep g'.env fn.results.toList sf.res l hres hl;have M:=oX hM;obtain⟨φ2,lu,hlu,S⟩:=wZ (np:=D.pre.bs.length) (E:=E) J g'.invH M q0 g'.rep;rw[hlr] at hlu;cases hlu;have hresults:(results fn a'.tmps).run P w'= .ok (if h:rvs.toArray.size=1 then rvs.toArray[0] else .tuple rvs.toArray) w':=by
        rw[AW,Array.mapM_eq_mapM_toList];simp only[cY,Sem.run_map,q1,ca,jL]
       have hrl:fP φ2 (tot E φ2 (bp hq)) w' lr rvs:=by
        refine fP.of (by rw[q2.length,S.len]) fun j z v hz hv=>?_
        obtain⟨z0,p1,p2⟩:=S.val j z v hz;obtain⟨v',p3,p4⟩:=q2.get j z0 p1;rw[hv] at p3;cases p3;exact p2 p4
       have hval:cg φ2 (tot E φ2 (bp hq)) w' (tupA lr) (if h:rvs.toArray.size=1 then rvs.toArray[0] else .tuple rvs.toArray):=by
        have hll:=hrl.length;clear hlr S;cases lr with
        |nil=>
         cases rvs with
         |nil=>exact cg.tup (vs:=[]) rfl (by intro j x v hx;simp at hx)
         |cons _ _=>exact hrl.elim
        |cons z lr=>
         cases rvs with
         |nil=>exact hrl.elim
         |cons v rvs=>
          cases lr with
          |nil=>
           cases rvs with
           |nil=>exact hrl.1
           |cons _ _=>exact hrl.2.elim
          |cons y l=>
           cases rvs with
           |nil=>exact hrl.2.elim
           |cons u rvs=>
            rw[dif_neg (by simp)];refine cg.tup (vs:=v::u::rvs) (by simpa using hll) fun j x' v' hx hv=>?_
            obtain⟨v'',q1,q2⟩:=hrl.get j x' hx;rw[hv] at q1;cases q1;exact q2
       have st':rO D.pre.bs.length φ φ' (bp hp) (bp s'.h) w w':=by rw[← herH];exact st
       refine sw hresults ⟨_,φ2,rfl,st'.ext,fun k hk ho=>st'.own_ k hk (S.own_ k ho),fun i hi=>?_,S.rep,hval⟩ a'.defers g'.inert;rw[S.par i hi (cI hi hle2),st'.par i hi]
      ·cases hk
     ·cases hk
    ·cases hk
   cases ex with
   |normal=>exact fin hk
   |ret=>exact fin hk
   |exit id=>cases hk
  ·cases ht
 ·cases ht
def conL:List (FuncId×bR)→FuncId→Option bR
 |[],_=>none
 |(g,c)::r,f=>if av g f then some c else conL r f
def AE (P:Program):List (FuncId×bR)→Prop
 |[]=>True
 |p::r=>aD P p.1 p.2∧AE P r
theorem B8 {P:Program}:∀ {l:List (FuncId×bR)},AE P l→wS P (conL l)
 |[],_,f,c,h=>by simp[conL] at h
 |(g,d)::r,ha,f,c,h=>by
  simp only[conL] at h;split at h
  ·rename_i hb;have:=au hb;subst this;cases h;exact ha.1
  ·exact B8 ha.2 f c h
theorem zH {P:Program} {inert:FuncId→Bool} (hm:P.follows .mixedOrders=true) (hin:wP P inert) {l:List (FuncId×bR)} (ha:AE P l) {bH:TypeId→Option Ty} {f:FuncId} {D:FT} {m:D.pre.ty.den→Option D.post.ty.den} (hs:(qo P f).isSome=true) (he:∀ x,DA (conL l) bH inert (qo P f) D x=m x):kw P f ⟨D.pre,D.post,m⟩:=by
 obtain⟨sf,hf⟩:=eK.1 hs;exact AN hm (B8 ha) hin hf D m fun x y hxy=>by rw[← hf,he];exact hxy
theorem kw.sub {P:Program} {f:FuncId} {pre post:Tm} {m m':pre.ty.den→Option post.ty.den} (h:kw P f ⟨pre,post,m⟩) (hs:∀ x y,m' x=some y→m x=some y):kw P f ⟨pre,post,m'⟩:=
 ⟨h.callable,fun x y hxy=>h.calls x y (hs x y hxy)⟩
theorem aD.sub {P:Program} {f:FuncId} {pre post:Tm} {m m':pre.ty.den→Option post.ty.den} (h:aD P f ⟨pre,post,m⟩) (hb:cZ pre.bs.length post.bs.length=true) (hs:∀ x y,m' x=some y→m x=some y):aD P f ⟨pre,post,m'⟩:=
 ((h.holds hb).sub hs).toC hb
theorem pd {α:Type} {b:Nat}:∀ (x y:List α),chk (aZ (aa x) b) (fun _=>some x)=some y→bcase (av (aa x) 0) (wD (some ([]:List α)) (chk (aZ (aa ([]:List α)+aa x) b) fun _=>(some (([]:List α)++x)))) (chk (aZ (aa ([]:List α)+aa x) b) fun _=>(some (([]:List α)++x)))=some y:=by
 intro x y h;rw[jr,gY,bw,h];cases x with
 |nil=>
  obtain⟨_,h⟩:=c8 h;cases h;show wD (some []) (some [])=_;unfold wD;rw[if_pos rfl]
 |cons a r=>rfl
theorem Bj {P:Program} {f:FuncId} {pre post:Tm} (hs:(qo P f).isSome=true):kw P f ⟨pre,post,fun _=>none⟩:=by
 obtain⟨sf,hf⟩:=eK.1 hs;obtain⟨fn,c,hfn,hb,hnm,_⟩:=Ab hf;exact⟨⟨fn,hfn,by rw[hb];rfl,hnm⟩,fun x y h=>by cases h⟩
theorem kw.orElse {P:Program} {f:FuncId} {pre post:Tm} {m m':pre.ty.den→Option post.ty.den} (h:kw P f ⟨pre,post,m⟩) (h':kw P f ⟨pre,post,m'⟩):kw P f ⟨pre,post,fun x=>match m x with|some y=>some y|none=>m' x⟩:=
 ⟨h.callable,fun x y hxy=>by
   cases hm:m x with
   |some z=>rw[show (bR.m ⟨pre,post,fun x=>match m x with|some y=>some y|none=>m' x⟩ x)=some z by show (match m x with|some y=>some y|none=>m' x)=some z;rw[hm]] at hxy;cases hxy;exact h.calls x _ hm
   |none=>rw[show (bR.m ⟨pre,post,fun x=>match m x with|some y=>some y|none=>m' x⟩ x)=m' x by show (match m x with|some y=>some y|none=>m' x)=m' x;rw[hm]] at hxy;exact h'.calls x y hxy⟩
theorem aD.orE {P:Program} {f:FuncId} {pre post:Tm} {m m':pre.ty.den→Option post.ty.den} (hb:cZ pre.bs.length post.bs.length=true) (h:aD P f ⟨pre,post,m⟩) (h':aD P f ⟨pre,post,m'⟩):aD P f ⟨pre,post,fun x=>AI.orE (m x) (m' x)⟩:=by
 have e:(fun x=>AI.orE (m x) (m' x))=fun x=>match m x with|some y=>some y|none=>m' x:=by funext x;cases m x<;>rfl
 rw[e];exact ((h.holds hb).orElse (h'.holds hb)).toC hb
def Dx (P:Program) (f:Ty→TypeId→Bool):List Field→Nat→Ty→Bool
 |[],_,.un=>true
 |[x],off,T=>av x.offset off&&f T x.type&&av (P.cellsOf x.type) T.size
 |x::y::r,off,.pr a b=>av x.offset off&&f a x.type&&av (P.cellsOf x.type) a.size&&Dx P f (y::r) (off+a.size) b
 |_,_,_=>false
def AM (P:Program) (f:Ty→TypeId→Bool) (e:TypeId):Nat→Ty→Bool
 |1,T=>f T e&&av (P.cellsOf e) T.size
 |m+2,.pr a b=>f a e&&av (P.cellsOf e) a.size&&AM P f e (m+1) b
 |_,_=>false
def rc (P:Program):Nat→Ty→TypeId→Bool
 |0,_,_=>false
 |n+1,T,t=>match T,P.underlying t with
  |.int k,some (.int k')=>k==k'
  |.bool,some .bool=>true
  |.str,some .string=>true
  |.sl U,some (.slice e)=>rc P n U e&&av (P.cellsOf e) U.size&&eg 0 U.size
  |.st U,some (.struct fs)=>Dx P (rc P n) fs.toList 0 U&&av (P.cellsOf t) U.size
  |.st U,some (.array m e)=>AM P (rc P n) e m U&&av (P.cellsOf t) U.size
  |_,_=>false
def wfT:(T:Ty)→T.den→Prop
 |.int k,n=>(Lit.int k n).wf=true
 |.str,s=>aa s≤maxLen
 |.sl U,xs=>aa xs≤maxLen∧∀ x∈(xs:List U.den),wfT U x
 |.st t,v=>wfT t v
 |.pr a b,v=>wfT a v.1∧wfT b v.2
 |_,_=>True
def wO (W:World) (T:Ty) (x:T.den) (cs:List Value):Prop:=cs.length=T.size∧∀ (j:Nat) y v,(encC T x)[j]? =some y→cs[j]? =some v→iM (fun _=>False) W y v
theorem wC {α:Type} (z:α) (P:Nat→α→Prop):∀ n:Nat,(∀ i,i<n→∃ a,P i a)→∃ l:List α,l.length=n∧∀ i x,l[i]? =some x→P i x
 |0,_=>⟨[],rfl,fun i x h=>by simp at h⟩
 |n+1,h=>by
  obtain⟨l,hl,hp⟩:=wC z P n (fun i hi=>h i (by omega));obtain⟨a,ha⟩:=h n (by omega);refine ⟨l++[a],by simp[hl],fun i x hx=>?_⟩;by_cases hi:i<l.length
  ·rw[bV hi] at hx;exact hp i x hx
  ·rw[co (by omega)] at hx;by_cases h0:i-l.length=0
   ·rw[h0] at hx;simp at hx;subst hx;rw[show i=n from by omega];exact ha
   ·rw[bU (by simp;omega)] at hx;cases hx
theorem Addr.add_plain {a:Addr} (h:a.spot=none) (n:Nat):a.add n=⟨a.block,a.off+n,none⟩:=by
 unfold Addr.add;split
 ·rename_i h0;subst h0;cases a;simp at h;subst h;rfl
 ·rfl
theorem CR {w:World} {a:Addr} {v:Value} (h:w.cell? a=some v):a.spot=none:=by
 unfold xP at h;split at h
 ·split at h
  ·cases h
  ·rename_i hs;cases hh:a.spot with
   |none=>rfl
   |some _=>simp[hh] at hs
 ·cases h
theorem wO.sub {W:World} {T:Ty} {x:T.den} {cs:List Value} {off n:Nat} (h:wO W T x ((cs.drop off).take n)) (hn:n=T.size) (hl:off+n≤cs.length):∀ (j:Nat) y v,(encC T x)[j]? =some y→cs[off+j]? =some v→iM (fun _=>False) W y v:=fun j y v hy hv=>by
 refine h.2 j y v hy ?_;have hj:j<T.size:=by have:=(bg.1 hy).1;rwa [encC_length] at this
 rw[cr,if_pos (by omega),dY];exact hv
section
variable {H:Type} {enc:TypeId×Value→H} {P:Program} {W:World} {base:Nat} {sp:Nat→Bool} {hd:Bool}
theorem BW {f:Ty→TypeId→Bool} {m:Nat} (ih:∀ (T:Ty) (t:TypeId) (cs:List Value) x,f T t=true→DataW.trod enc P W base sp hd m t cs=some x→∃ v,wO W T v cs∧wfT T v) (cs:List Value) (ts:List (DataW H×List MemPlace)):
 ∀ (fs:List Field) (off k:Nat) (T:Ty),Dx P f fs off T=true→off+T.size≤cs.length→(∀ (i:Nat) (fl:Field),fs[i]? =some fl→∃ z,DataW.trod enc P W base sp hd m fl.type ((cs.drop fl.offset).take (P.cellsOf fl.type))=some z)→
 ∃ v,(∀ (j:Nat) y u,(encC T v)[j]? =some y→cs[off+j]? =some u→iM (fun _=>False) W y u)∧wfT T v
 |[],off,k,.un,_,_,_=>⟨(),fun j y u hy=>by simp[encC] at hy,trivial⟩
 |[x],off,k,T,h,hl,hg=>by
  simp only[Dx,ak] at h;obtain⟨⟨h1,h2⟩,h3⟩:=h;have h1:=au h1;have h3:=au h3;obtain⟨z,hz⟩:=hg 0 x rfl;obtain⟨v,hv,hw⟩:=ih T _ _ _ h2 hz;rw[h1] at hv;exact⟨v,hv.sub h3 (by omega),hw⟩
 |x::x'::r,off,k,.pr a b,h,hl,hg=>by
  simp only[Dx,ak] at h;obtain⟨⟨⟨h1,h2⟩,h3⟩,h4⟩:=h;have h1:=au h1;have h3:=au h3;simp only[Ty.size] at hl;obtain⟨z,hz⟩:=hg 0 x rfl;obtain⟨v,hv,hw⟩:=ih a _ _ _ h2 hz;rw[h1] at hv;have hv:=hv.sub h3 (by omega);obtain⟨v',hv',hw'⟩:=BW ih cs ts (x'::r) (off+a.size) (k+1) b h4 (by omega) (fun i fl hi=>hg (i+1) fl (by simpa using hi));refine ⟨(v,v'),fun j y u hy hu=>?_,hw,hw'⟩;simp only[encC] at hy;by_cases hj:j<a.size
  ·rw[bV (by rw[encC_length];exact hj)] at hy;exact hv j y u hy hu
  ·rw[co (by rw[encC_length];omega),encC_length] at hy;exact hv' _ y u hy (by rw[show off+a.size+(j-a.size)=off+j from by omega];exact hu)
theorem BX {f:Ty→TypeId→Bool} {m:Nat} {e:TypeId} (ih:∀ (T:Ty) (t:TypeId) (cs:List Value) x,f T t=true→DataW.trod enc P W base sp hd m t cs=some x→∃ v,wO W T v cs∧wfT T v) (cs:List Value):
 ∀ (n i:Nat) (T:Ty),AM P f e n T=true→i*P.cellsOf e+T.size≤cs.length→(∀ j,j<n→∃ z,DataW.trod enc P W base sp hd m e ((cs.drop ((i+j)*P.cellsOf e)).take (P.cellsOf e))=some z)→
 ∃ v,(∀ (j:Nat) y u,(encC T v)[j]? =some y→cs[i*P.cellsOf e+j]? =some u→iM (fun _=>False) W y u)∧wfT T v
 |0,i,T,h,_,_=>by unfold AM at h;cases h
 |1,i,T,h,hl,hg=>by
  simp only[AM,ak] at h;have h3:=au h.2;obtain⟨z,hz⟩:=hg 0 (by omega);obtain⟨v,hv,hw⟩:=ih T _ _ _ h.1 hz;rw[cP] at hv;exact⟨v,hv.sub h3 (by omega),hw⟩
 |n+2,i,T,h,hl,hg=>by
  cases T with
  |pr a b=>
   simp only[AM,ak] at h;obtain⟨⟨h1,h2⟩,h4⟩:=h;have h3:=au h2;simp only[Ty.size] at hl;obtain⟨z,hz⟩:=hg 0 (by omega);obtain⟨v,hv,hw⟩:=ih a _ _ _ h1 hz;rw[cP] at hv;have hv:=hv.sub h3 (by omega);obtain⟨v',hv',hw'⟩:=BX ih cs (n+1) (i+1) b h4 (by rw[Nat.add_mul,Nat.one_mul];omega) (fun j hj=>by have:=hg (j+1) (by omega);rwa [show i+(j+1)=i+1+j from by omega] at this);refine ⟨(v,v'),fun j y u hy hu=>?_,hw,hw'⟩;simp only[encC] at hy;by_cases hj:j<a.size
   ·rw[bV (by rw[encC_length];exact hj)] at hy;exact hv j y u hy hu
   ·rw[co (by rw[encC_length];omega),encC_length] at hy;exact hv' _ y u hy (by rw[Nat.add_mul,Nat.one_mul,show i*P.cellsOf e+P.cellsOf e+(j-a.size)=i*P.cellsOf e+j from by omega];exact hu)
  |_=>unfold AM at h;cases h
theorem open_ty:∀ (n:Nat) (T:Ty) (t:TypeId) (fuel:Nat) (cs:List Value) x,rc P n T t=true→(∀ b,sp b=true)→DataW.trod enc P W base sp hd fuel t cs=some x→∃ v,wO W T v cs∧wfT T v
 |0,_,_,_,_,_,h,_,_=>by unfold rc at h;cases h
 |n+1,T,t,fuel,cs,x,h,hsp,ht=>by
  unfold rc at h;split at h
  ·rename_i k k' hu;have hk:=eq_of_beq h;subst hk;obtain⟨m,rfl,_,hw⟩:=DataW.trod_int hu ht;refine ⟨m,⟨rfl,fun j y v hy hv=>?_⟩,hw⟩;cases j with
   |zero=>simp[encC] at hy hv;subst hy hv;exact .raw _
   |succ j=>simp[encC] at hy
  ·rename_i hu;obtain⟨b,rfl,_⟩:=DataW.trod_bool hu ht;refine ⟨b,⟨rfl,fun j y v hy hv=>?_⟩,trivial⟩;cases j with
   |zero=>simp[encC] at hy hv;subst hy hv;exact .raw _
   |succ j=>simp[encC] at hy
  ·rename_i hu;obtain⟨s,rfl,_,hs⟩:=DataW.trod_string hu ht;refine ⟨s.data.toList,⟨rfl,fun j y v hy hv=>?_⟩,by simpa[wfT] using hs⟩;cases j with
   |zero=>simp[encC] at hy hv;subst hy hv;exact .raw _
   |succ j=>simp[encC] at hy
  ·rename_i U e hu;simp only[ak] at h;obtain⟨⟨h1,h2⟩,h3⟩:=h;have h2:=au h2;have h3:0<U.size:=aW h3;rcases Go.Deep.open_slice hu ht with ⟨rfl,_⟩|⟨a,len,cap,m,k,D,Pl,rfl,hb,hl,hm,hmm,_,hi⟩
   ·refine ⟨[],⟨rfl,fun j y v hy hv=>?_⟩,by simp[wfT]⟩;cases j with
    |zero=>simp[encC] at hy hv;subst hy hv;exact .nil _ _ (by unfold maxLen;omega)
    |succ j=>simp[encC] at hy
   ·rw[hsp,if_pos rfl] at hmm;rw[h2] at hi;obtain⟨xs,hx1,hx2⟩:=wC U.zero (fun i (v:U.den)=>∃ cs',W.cells? base (a.add (i*U.size)) U.size=some cs'∧wO W U v cs'∧wfT U v) len (fun i hil=>by
     obtain⟨cs',hc,htt⟩:=hi i (by omega);obtain⟨v,hv,hw⟩:=open_ty n U e k cs' _ h1 hsp htt;exact⟨v,cs',hc,hv,hw⟩)
    refine ⟨xs,⟨rfl,fun j y v hy hv=>?_⟩,by show aa xs≤maxLen;omega,fun y hy=>?_⟩
    ·cases j with
     |succ j=>simp[encC] at hy
     |zero=>
      simp[encC] at hy hv;subst hy hv;by_cases h0:len=0
      ·have:xs=[]:=gO.1 (by omega);subst this;subst h0;exact .nil _ _ hm
      ·obtain⟨x0,hx0⟩:∃ x0,xs[0]? =some x0:=⟨xs[0]'(by omega),aw (by omega)⟩
       obtain⟨cs0,hc0,_⟩:=hx2 0 x0 hx0;obtain⟨_,hcl0,hat0⟩:=World.cells?_some hc0;have hca:=hat0 0 h3;rw[aw (by omega)] at hca;have hspot:a.spot=none:=by
        have:=CR hca;simpa[Addr.add] using this
       have hblk:=World.block_lt_of_cell? W _ hca;rw[Nat.zero_mul,Addr.add_plain hspot,Addr.add_plain rfl] at hca hblk;have hcell:∀ (i j:Nat) x,xs[i]? =some x→j<U.size→∃ cs',W.cell? ⟨a.block,a.off+(i*U.size+j),none⟩=cs'[j]? ∧j<cs'.length∧wO W U x cs':=fun i j x hx hj=>by
        obtain⟨cs',hc,hr,_⟩:=hx2 i x hx;obtain⟨_,hcl,hat⟩:=World.cells?_some hc;have:=hat j hj;rw[Addr.add_plain hspot,Addr.add_plain rfl,pi] at this;exact⟨cs',this,by omega,hr⟩
       have hflat:∀ j,j<xs.length*U.size→∃ x,xs[j/U.size]? =some x∧j%U.size<U.size∧j=j/U.size*U.size+j%U.size:=fun j hj=>by
        have h5:j/U.size<xs.length:=Nat.div_lt_of_lt_mul (by rw[uT];exact hj);exact⟨xs[j/U.size],aw h5,Nat.mod_lt _ h3,by rw[uT];exact (Nat.div_add_mod j U.size).symm⟩
       have hlen:(List.flatMap (encC U) xs).length=xs.length*U.size:=dR (encC_length U) xs;obtain⟨ab,ao,az⟩:=a;cases hspot;rw[← hx1];refine .sl (List.flatMap (encC U) xs) xs.length cap ab ao (fun j=>(W.cell? ⟨ab,ao+j,none⟩).getD undef) (by omega) hm (fun h=>h) hblk (ne U xs) (fun j hj=>?_) (fun j y hy=>?_)
       ·obtain⟨x,hx,hjs,hje⟩:=hflat j (by omega);obtain⟨cs',g1,g2,_⟩:=hcell _ _ x hx hjs;rw[← hje] at g1;simp only[g1,aw g2,rK]
       ·have hj:j<xs.length*U.size:=by rw[← hlen];exact (bg.1 hy).1
        obtain⟨x,hx,hjs,hje⟩:=hflat j hj;obtain⟨cs',g1,g2,g3⟩:=hcell _ _ x hx hjs;rw[← hje] at g1;simp only[g1];rw[aw g2];refine g3.2 (j%U.size) y _ ?_ (aw g2);obtain⟨r,hr⟩:=tW (encC_length U) xs (j/U.size) x hx;have:((List.flatMap (encC U) xs).drop (j/U.size*U.size))[j%U.size]? =some y:=by rw[dY,←hje];exact hy
        rw[hr,bV (by rw[encC_length];exact hjs)] at this;exact this
    ·obtain⟨i,hi'⟩:=db hy;obtain⟨_,_,_,hw⟩:=hx2 i y hi';exact hw
  ·rename_i U fs hu;simp only[ak] at h;have h2:=au h.2;obtain⟨xs,m,rfl,_,hl,hxl,hg⟩:=DataW.trod_struct hu ht;obtain⟨v,hv,hw⟩:=BW (f:=rc P n) (m:=m) (fun T t cs x h1 h2=>open_ty n T t m cs x h1 hsp h2) cs xs fs.toList 0 0 U h.1 (by omega) (fun i fl hi=>by
    have hi':fs[i]? =some fl:=by simpa using hi
    have:=hg i fl hi';have hlt:i<xs.length:=by rw[hxl];exact (b6.1 hi').1
    rw[aw hlt] at this;exact⟨_,this⟩)
   exact⟨v,⟨by rw[hl,h2];rfl,fun j y u hy hu=>hv j y u hy (by rw[bw];exact hu)⟩,hw⟩
  ·rename_i U m e hu;simp only[ak] at h;have h2:=au h.2;obtain⟨xs,q,rfl,_,hl,hxl,hg⟩:=DataW.trod_array hu ht;obtain⟨v,hv,hw⟩:=BX (f:=rc P n) (m:=q) (fun T t cs x h1 h2=>open_ty n T t q cs x h1 hsp h2) cs m 0 U h.1 (by omega) (fun j hj=>by
    have:=hg j hj;rw[aw (by omega)] at this;rw[bw];exact⟨_,this⟩)
   exact⟨v,⟨by rw[hl,h2];rfl,fun j y u hy hu=>hv j y u hy (by rw[Nat.zero_mul,bw];exact hu)⟩,hw⟩
  ·cases h
theorem zr {n:Nat} {T:Ty} {t:TypeId} {v:Value} {r:Reach} {bs:Nat} (hT:rc P n T t=true) (h1:T.one=true) (h:uQ P W r bs t v):v.cells.toList=[v]:=by
 cases n with
 |zero=>unfold rc at hT;cases hT
 |succ n=>
  unfold rc at hT;unfold uQ at h;cases v with
  |agg cs=>
   exfalso;split at hT<;>rename_i hu<;>first|(rw [hu] at h;simp only[] at h;unfold Cell.okWide at h;rw[hu] at h;unfold Cell.ok at h;rw[hu] at h;simp at h)|cases h1|cases hT
  |_=>rfl
theorem A1 {n:Nat} {T:Ty} {t:TypeId} {v:Value} {r:Reach} {bs:Nat} (hT:rc P n T t=true) (h1:T.one=false) (h:uQ P W r bs t v):∃ cs,v= .agg cs:=by
 cases n with
 |zero=>unfold rc at hT;cases hT
 |succ n=>
  unfold rc at hT;unfold uQ at h;split at hT<;>rename_i hu<;>first|(rw [hu] at h;obtain⟨cs,h,_⟩:=h;exact⟨cs,h⟩)|cases h1|cases hT
theorem open_arg {n:Nat} {T:Ty} {t:TypeId} {v:Value} {d:DataW H} {ps:List MemPlace} {r:Reach} {bs:Nat} (hT:rc P n T t=true) (hsp:∀ b,sp b=true) (hok:uQ P W r bs t v) (h:DataW.Trod enc P W base sp hd t v d ps):∃ x,iM (fun _=>False) W (enc1 T x) v∧wfT T x:=by
 obtain⟨fuel,hf⟩:=h;obtain⟨x,hx,hw⟩:=open_ty n T t fuel _ _ hT hsp hf;refine ⟨x,?_,hw⟩;by_cases h1:T.one=true
 ·obtain⟨e1,e2⟩:=encC_one T x h1;exact hx.2 0 _ v (by rw[e1];rfl) (by rw[zr hT h1 hok];rfl)
 ·obtain⟨cs,rfl⟩:=A1 hT (by simpa using h1) hok;rw[enc1_agg T x (by simpa using h1)];have hl:cs.toList.length=(encC T x).length:=by rw[encC_length];exact hx.1
  have:=iM.agg (O:=fun _=>False) (w:=W) (encC T x) cs.toList hl (encC_cell T x) (fun j y u hy hu=>hx.2 j y u hy hu);simpa using this
end
theorem Cb {z:Int} (h:(Lit.int .u8 z).wf=true):0≤z∧z≤255:=⟨of_decide_eq_true (nR.1 h).1,of_decide_eq_true (nR.1 h).2⟩
theorem HBSteps_law (x:List Int×List Int×List Int) (w:wfT (.st (.pr (.sl (.int .u8)) (.pr (.sl (.int .u8)) (.sl (.int .u8))))) x):iH x=some true:=by
 obtain⟨a,b,c⟩:=x;obtain⟨⟨l0,w0⟩,_,⟨l2,w2⟩⟩:=w;obtain⟨y,h,rfl⟩:=xi a b c l0 (fun z hz=>Cb (w0 z hz)) l2 (fun z hz=>Cb (w2 z hz)) awake_true;exact h
def inert (f:FuncId):Bool:=av f 14
theorem inert_iface:∃ ms,Tryz.prog.underlying 20=some (.interface ms):=⟨#[],by kernel_rfl⟩
theorem Eb (w:World):(Op.equal 20 .nilIface .nilIface).run Tryz.prog w= .ok true w:=by
 obtain⟨ms,hu⟩:=inert_iface;have key:∀ d,(Op.equalIn (d+1) 20 .nilIface .nilIface).run Tryz.prog w= .ok true w:=fun d=>by simp[Op.equalIn,run_underlying hu]
 exact key 9999
theorem DR {P:Program} {ops:Array Oper} {Q:Exit→Act→List Frame→World→Prop} {i:Nat} {rest:List Nat} {a:Act} {cs:List Frame} {w w':World} {o:Oper} (ho:ops[i]? =some o) (hw:o.guard=none) (hr:(execOp a.eval o).run P w= .ok .recover w') (hn:recoverD cs=none) (h:wpOpsS P ops Q rest (a.put o.dst .nilIface) cs w'):wpOpsS P ops Q (i::rest) a cs w:=by
 have hw:eJ o (yielded ops a.tmps)=true:=by unfold eJ;rw[hw]
 simp only[wpOpsS,ho,hw,if_true,hr,hn];exact h
theorem DQ {P:Program} {ops:Array Oper} {Q:Exit→Act→List Frame→World→Prop} {i:Nat} {rest:List Nat} {a:Act} {cs:List Frame} {w w':World} {o:Oper} {v:Value} (ho:ops[i]? =some o) (hw:o.guard=none) (hr:(execOp a.eval o).run P w= .ok (.value v) w') (h:wpOpsS P ops Q rest (a.put o.dst v) cs w'):wpOpsS P ops Q (i::rest) a cs w:=by
 have hw:eJ o (yielded ops a.tmps)=true:=by unfold eJ;rw[hw]
 simp only[wpOpsS,ho,hw,if_true,hr];exact h
theorem inert_ok:wP Tryz.prog inert:=by
 intro f hf;have hf:f=14:=au hf;subst hf;refine ⟨⟨Tryz.f14,Tryz.func14,by kernel_rfl,by kernel_rfl⟩,fun args w=>?_⟩;refine callsD_of_wpS Tryz.func14 rfl fun c₀ cs hu=>?_
 refine wpS_seq (wpS_region ?_);generalize ht:(args++jt (Tryz.f14.ntmps-args.size) undef)=T;have hs:5≤T.size:=by
  rw[← ht];simp only[Array.size_append,Array.size_replicate];have:Tryz.f14.ntmps=5:=rfl;omega
 have hr:recoverD (c₀::cs)=none:=by simp[recoverD,hu]
 refine DR (i:=0) (rest:=[1]) rfl rfl (w':=w) ?_ hr ?_
 ·simp[execOp,resolve,invoke,builtin]
 refine DQ (v:=.bool false) rfl rfl (w':=w) ?_ ?_
 ·have hv:Act.eval (xR {tmps:=T,defers:=[]} (some 2) .nilIface) (.tmp 2)= .nilIface:=by
   simp[Act.eval,xR,show 2<T.size by omega]
  have h2:=Eb w;have hcst:Act.eval (xR {tmps:=T,defers:=[]} (some 2) .nilIface) (.const .nilIface)= .nilIface:=rfl;show (execOp (Act.eval (xR {tmps:=T,defers:=[]} (some 2) .nilIface)) _).run _ w=_;simp[execOp,hv,hcst,eqGuard,binOp,h2]
 show Exit.thenS _ _ .normal _ _ _;refine wpS_cond (t:=false) ?_ ?_
 ·simp[Act.eval,xR,show 3<T.size by omega]
 refine wpS_of_wp (wp_skip ?_);have hres:Tryz.f14.results=#[]:=rfl;exact⟨rfl,c₀.mode,rfl,.tuple #[],by simp[results,hres],⟨_,rfl⟩,hu,rfl⟩
def cM {α:Type}:List (Nat×α)→PT α
 |[]=>.leaf
 |p::r=>(cM r).set p.1 (some p.2)
noncomputable abbrev Pg:Program:=Tryz.prog
def cn (D:FT) (m:D.pre.ty.den→Option D.post.ty.den):bR:=⟨D.pre,D.post,m⟩
theorem hmix:Pg.follows .mixedOrders=true:=by kernel_rfl
theorem ac {f:FuncId} {c:bR} {l:List (FuncId×bR)} (h:aD Pg f c) (t:AE Pg l):AE Pg ((f,c)::l):=⟨h,t⟩
theorem an:AE Pg []:=trivial
theorem mk {f:FuncId} (D:FT) (m:D.pre.ty.den→Option D.post.ty.den) {l:List (FuncId×bR)} (ha:AE Pg l) (tv:TypeId→Option Ty) (he:∀ x,DA (conL l) tv inert (qo Pg f) D x=m x:=by intro x;kernel_rfl) (hs:(qo Pg f).isSome=true:=by kernel_rfl) (hb:cZ D.pre.bs.length D.post.bs.length=true:=by kernel_rfl):aD Pg f (cn D m):=(zH hmix inert_ok ha hs he).toC hb
theorem qg {f:FuncId} (D:FT) (m n:D.pre.ty.den→Option D.post.ty.den) (ho:∀ x,bP (m x) (n x)) {l:List (FuncId×bR)} (ha:AE Pg l) (tv:TypeId→Option Ty) (he:∀ x,DA (conL l) tv inert (qo Pg f) D x=n x:=by intro x;kernel_rfl) (hs:(qo Pg f).isSome=true:=by kernel_rfl) (hb:cZ D.pre.bs.length D.post.bs.length=true:=by kernel_rfl):aD Pg f (cn D m):=((zH hmix inert_ok ha hs he).sub ho).toC hb
theorem zB {f:FuncId} (D:FT) (hs:(qo Pg f).isSome=true:=by kernel_rfl) (hb:cZ D.pre.bs.length D.post.bs.length=true:=by kernel_rfl):aD Pg f (cn D fun _=>none):=(Bj hs).toC hb
abbrev La0:List PV:=[.d Ka0,.d Ka0,.d Ka0,.d Ka0,.d Ka0,.nil,.nil]
abbrev La1:List PV:=[.nil,.d Ka0,.nil,.nil,.nil,.nil,.nil]
abbrev La110:List PV:=[.ptr 1 0,.d Ka0,.d Ka0,.d .bool,.d .bool,.d .bool,.d .bool,.row 4]
abbrev La100:List PV:=[.d Ka0,.d Ka0,.d .str,.d .str,.nil,.d Ka0,.d Ka0,.d .str,.nil,.nil,.nil]
abbrev La2:List PB:=[.cells 187 La110,.cells 76 [.d Ka15],.gone,.cells 193 La100,.rowsP 9 .str]
abbrev La3:List PV:=[.ptr 0 0,.ptr 1 0,.ptr 2 0,.ptr 3 0,.ptr 4 0,.ptr 5 0,.ptr 6 0,.ptr 7 0,.d .bool]
abbrev La4:List PB:=[.cells 179 [.d (.sl Ka10),.d (.sl Ka19),.d (.sl Ka20),.d (.sl .str),.d (.sl .str),.d (.sl Ka16),.d (.sl .str),.row 2,.d Ka0,.d Ka0],.gone,.rows 183 true Ka3]
abbrev La5:List PB:=[.cells 179 [.d (.sl Ka10),.d (.sl Ka19),.d (.sl Ka20),.d (.sl .str),.d (.sl .str),.d (.sl Ka16),.d (.sl .str),.row 1,.d Ka0,.d Ka0],.rows 183 true Ka3]
abbrev La6:List PV:=[.d Ka0,.row 11,.row 12,.d Ka0]
abbrev La7:List PB:=[.cells 141 [.nil,.nil],.cells 187 [.ptr 5 0,.d Ka0,.d Ka0,.d .bool,.d .bool,.d .bool,.d .bool,.row 6],.cells 141 [.d (.sl Ka9),.row 7],.rows 9 false .str,.cells 177 [.d .str,.d Ka0,.row 8,.row 9],.cells 76 [.d Ka15],.rowsP 9 .str,.rows 177 true Ka12,.rows 9 false .str,.rows 193 true .sm]
abbrev La8:List PB:=[.cells 213 [.d (.sl Ka9),.d (.sl Ka12),.d Ka0,.row 1,.row 6,.row 7],.rowsP 193 .sm,.gone,.gone,.cells 193 [.d .sm],.cells 141 [.d Ka6],.rows 9 true .str,.rows 9 true .str]
abbrev La9:List PV:=[.d (.sl Ka11),.d Ka0,.d Ka21,.d (.sl Ka7),.row 8,.row 9,.csl 10 4 4]
abbrev La10:List PB:=[.cells 95 [.d (.sl Ka11),.d Ka0,.d Ka21,.d (.sl Ka7),.row 6,.row 7,.csl 8 4 4],.cells 144 [.d Ka17],.cells 95 La1,.cells 42 La0,.cells 42 [.d Ka5],.cells 170 [.d Ka2],.rows 2 true Ka0,.rows 2 true Ka0,.cells 170 [.d Ka2,.d Ka2,.d Ka2,.d Ka2]]
abbrev La109:List PV:=[.ptr 1 0,.d Ka0,.d Ka0,.d .bool,.d .bool,.d .bool,.d .bool,.row 2]
abbrev La57:List PV:=[.d Ka22,.d Ka0]
abbrev La11:List PB:=[.cells 187 La109,.cells 76 La57,.rowsP 9 .str]
abbrev La12:List PV:=[.ptr 0 0,.ptr 1 0,.ptr 2 0,.ptr 3 0,.ptr 4 0,.ptr 5 0,.ptr 6 0,.ptr 7 0,.d Ka0]
abbrev La70:List PV:=[.d (.sl Ka11),.d Ka0,.d Ka21,.d (.sl Ka7),.row 8,.row 9,.csl 10 4 3]
abbrev La13:List PB:=[.cells 100 [.d Ka8],.cells 95 La70,.cells 144 [.d Ka17],.cells 95 La1,.cells 42 La0,.cells 42 [.d Ka5],.cells 170 La6,.cells 183 [.d Ka3],.rows 2 true Ka0,.rows 2 true Ka0,.cells 170 [.d Ka0,.row 11,.row 12,.d Ka0,.d Ka2,.d Ka2],.rows 2 true Ka0,.rows 37 true (.sl Ka0)]
abbrev La14:List PB:=[.cells 100 [.d Ka8],.cells 95 La70,.cells 144 [.d Ka17],.cells 95 La1,.cells 42 La0,.cells 42 [.d Ka5],.cells 170 La6,.cells 183 [.d Ka3],.rows 2 true Ka0,.rows 2 true Ka0,.cells 170 [.d Ka2,.d Ka0,.row 11,.row 12,.d Ka0,.d Ka2],.rows 2 true Ka0,.rows 37 true (.sl Ka0)]
abbrev La15:List PB:=[.cells 100 [.d Ka8],.cells 95 La70,.cells 144 [.d Ka17],.cells 95 La1,.cells 42 La0,.cells 42 [.d Ka5],.cells 170 La6,.cells 183 [.d Ka3],.rows 2 true Ka0,.rows 2 true Ka0,.cells 170 [.d Ka2,.d Ka2,.d Ka0,.row 11,.row 12,.d Ka0],.rows 2 true Ka0,.rows 37 true (.sl Ka0)]
abbrev La106:List PV:=[.d (.sl Ka11),.d Ka0,.d Ka21,.d (.sl Ka7),.row 8,.row 9,.csl 10 4 2]
abbrev La16:List PB:=[.cells 100 [.d Ka8],.cells 95 La106,.cells 144 [.d Ka17],.cells 95 La1,.cells 42 La0,.cells 42 [.d Ka5],.cells 170 La6,.cells 183 [.d Ka3],.rows 2 true Ka0,.rows 2 true Ka0,.cells 170 [.d Ka0,.row 11,.row 12,.d Ka0,.d Ka2],.rows 2 true Ka0,.rows 37 true (.sl Ka0)]
abbrev La17:List PB:=[.cells 100 [.d Ka8],.cells 95 La106,.cells 144 [.d Ka17],.cells 95 La1,.cells 42 La0,.cells 42 [.d Ka5],.cells 170 La6,.cells 183 [.d Ka3],.rows 2 true Ka0,.rows 2 true Ka0,.cells 170 [.d Ka2,.d Ka0,.row 11,.row 12,.d Ka0],.rows 2 true Ka0,.rows 37 true (.sl Ka0)]
abbrev La18:List PB:=[.cells 213 [.d (.sl Ka9),.d (.sl Ka12),.d Ka0,.row 1,.row 4,.row 5],.rowsP 193 .sm,.gone,.gone,.rows 9 true .str,.rows 9 true .str]
abbrev La19:List PV:=[.ptr 0 0,.ptr 1 0,.ptr 2 0,.ptr 3 0,.ptr 4 0,.ptr 5 0,.ptr 6 0,.d .bool]
abbrev La20:List PV:=[.ptr 0 0,.d .bool]
abbrev La21:List PB:=[.cells 213 [.d (.sl Ka9),.d (.sl Ka12),.d Ka0,.row 1,.row 2,.row 3],.rowsP 193 .sm,.rows 9 true .str,.rows 9 true .str]
abbrev La22:List PB:=[.cells 100 [.d Ka8],.cells 95 [.d (.sl Ka11),.d Ka0,.d Ka21,.d (.sl Ka7),.row 8,.row 9,.csl 10 4 1],.cells 144 [.d Ka17],.cells 95 La1,.cells 42 La0,.cells 42 [.d Ka5],.cells 170 La6,.cells 183 [.d Ka3],.rows 2 true Ka0,.rows 2 true Ka0,.cells 170 La6,.rows 2 true Ka0,.rows 37 true (.sl Ka0)]
abbrev La23:List PV:=[.ptr 0 0,.ptr 1 0,.ptr 2 0,.ptr 3 0,.ptr 4 0,.ptr 5 0,.ptr 6 0]
abbrev La24:List PB:=[.cells 100 [.d Ka8],.cells 95 La9,.cells 144 [.d Ka17],.cells 95 La1,.cells 42 La0,.cells 42 [.d Ka5],.cells 170 La6,.cells 183 [.d Ka3],.rows 2 true Ka0,.rows 2 true Ka0,.cells 170 [.d Ka0,.row 11,.row 12,.d Ka0,.d Ka2,.d Ka2,.d Ka2],.rows 2 true Ka0,.rows 37 true (.sl Ka0)]
abbrev La25:List PB:=[.cells 100 [.d Ka8],.cells 95 La9,.cells 144 [.d Ka17],.cells 95 La1,.cells 42 La0,.cells 42 [.d Ka5],.cells 170 La6,.cells 183 [.d Ka3],.rows 2 true Ka0,.rows 2 true Ka0,.cells 170 [.d Ka2,.d Ka0,.row 11,.row 12,.d Ka0,.d Ka2,.d Ka2],.rows 2 true Ka0,.rows 37 true (.sl Ka0)]
abbrev La26:List PB:=[.cells 100 [.d Ka8],.cells 95 La9,.cells 144 [.d Ka17],.cells 95 La1,.cells 42 La0,.cells 42 [.d Ka5],.cells 170 La6,.cells 183 [.d Ka3],.rows 2 true Ka0,.rows 2 true Ka0,.cells 170 [.d Ka2,.d Ka2,.d Ka0,.row 11,.row 12,.d Ka0,.d Ka2],.rows 2 true Ka0,.rows 37 true (.sl Ka0)]
abbrev La27:List PB:=[.cells 100 [.d Ka8],.cells 95 La9,.cells 144 [.d Ka17],.cells 95 La1,.cells 42 La0,.cells 42 [.d Ka5],.cells 170 La6,.cells 183 [.d Ka3],.rows 2 true Ka0,.rows 2 true Ka0,.cells 170 [.d Ka2,.d Ka2,.d Ka2,.d Ka0,.row 11,.row 12,.d Ka0],.rows 2 true Ka0,.rows 37 true (.sl Ka0)]
abbrev La28:List PB:=[.cells 31 [.d Ka1],.cells 85 [.d Ka14],.cells 42 [.d Ka5],.cells 85 La1]
abbrev La29:List PV:=[.ptr 0 0,.ptr 1 0,.ptr 2 0,.ptr 3 0,.ptr 4 0,.ptr 5 0]
abbrev La30:List PB:=[.cells 95 [.d (.sl Ka11),.d Ka0,.d Ka21,.d (.sl Ka7),.row 6,.row 7,.csl 8 4 3],.cells 144 [.d Ka17],.cells 95 La1,.cells 42 La0,.cells 42 [.d Ka5],.cells 170 [.d Ka2],.rows 2 true Ka0,.rows 2 true Ka0,.cells 170 [.d Ka2,.d Ka2,.d Ka2]]
abbrev La31:List PV:=[.d (.sl Ka11),.d Ka0,.d Ka21,.d (.sl Ka7),.row 7,.row 8,.csl 9 4 4]
abbrev La32:List PV:=[.ptr 0 0,.ptr 1 0,.d .bool]
abbrev La33:List PV:=[.ptr 0 0,.ptr 1 0,.ptr 2 0,.ptr 3 0,.d .bool]
abbrev La91:List PV:=[.nil,.nil,.nil,.nil,.nil,.nil]
abbrev La34:List PB:=[.cells 141 [.d Ka6],.cells 31 La91,.cells 31 [.row 4,.row 5,.row 6,.row 7,.nil,.nil],.cells 216 [.d Ka9],.rows 65 true Ka10,.rows 118 true Ka19,.rows 53 true Ka20,.rows 9 true .str]
abbrev La66:List PV:=[.nil,.nil,.nil,.nil,.nil,.nil,.nil]
abbrev La92:List PV:=[.d (.sl Ka10),.d (.sl Ka19),.d (.sl Ka20),.d (.sl .str),.d (.sl .str),.d (.sl Ka16),.row 5]
abbrev La35:List PB:=[.cells 141 [.d Ka6],.cells 100 La66,.cells 100 La92,.cells 179 [.d (.sl Ka10),.d (.sl Ka19),.d (.sl Ka20),.d (.sl .str),.d (.sl .str),.d (.sl Ka16),.d (.sl .str),.row 6,.d Ka0,.d Ka0],.cells 166 [.d Ka0,.row 6],.rows 166 true Ka18,.rows 183 true Ka3]
abbrev La36:List PV:=[.row 0,.d Ka0,.row 1,.row 2]
abbrev La37:List PB:=[.cells 76 [.d Ka15],.cells 85 [.d Ka14],.cells 31 [.d Ka1],.rows 42 true Ka5,.cells 37 [.row 5,.row 6,.row 7,.row 8],.rows 3 true Ka0,.rows 3 true Ka0,.rows 3 true Ka0,.rows 3 true Ka0]
abbrev La38:List PV:=[.ptr 0 0,.ptr 1 0,.ptr 2 0,.d Ka0]
abbrev La39:List PV:=[.d Ka0,.d (.sl Ka0),.d Ka23,.d Ka0]
abbrev La40:List PV:=[.d (.sl Ka11),.d Ka0,.d Ka21,.d (.sl Ka7),.row 7,.row 8,.csl 9 4 3]
abbrev La41:List PB:=[.cells 76 [.d Ka15],.cells 85 [.d Ka14],.cells 31 [.d Ka1],.cells 37 [.row 4,.row 5,.row 6,.row 7],.rows 3 true Ka0,.rows 3 true Ka0,.rows 3 true Ka0,.rows 3 true Ka0]
abbrev La42:List PV:=[.ptr 0 0,.ptr 1 0,.ptr 2 0,.d .bool]
abbrev La43:List PV:=[.ptr 0 0,.ptr 1 0,.d Ka0]
abbrev La44:List PV:=[.d Ka0,.row 10,.row 11,.d Ka0]
abbrev La97:List PV:=[.d Ka0,.row 0,.row 1,.d Ka0]
abbrev La107:List PV:=[.d Ka0,.nil,.nil,.d Ka0]
abbrev La45:List PB:=[.rows 2 true Ka0,.rows 37 true (.sl Ka0),.cells 183 [.d Ka3],.cells 170 La97,.cells 170 La107]
abbrev La46:List PB:=[.cells 213 [.d (.sl Ka9),.d (.sl Ka12),.d Ka0,.row 4,.row 5,.row 6],.gone,.gone,.gone,.rowsP 193 .sm,.rows 9 true .str,.rows 9 true .str]
abbrev La75:List PV:=[.nil,.d Ka0,.nil,.nil]
abbrev La47:List PB:=[.cells 82 [.row 2,.d Ka0,.row 3,.row 4],.cells 82 La75,.rows 148 true Ka11,.rows 4 true .bool,.rows 150 true Ka7]
abbrev La48:List PV:=[.ptr 0 0,.ptr 3 0,.d .bool]
abbrev La49:List PB:=[.cells 34 La66,.cells 76 [.d Ka15],.cells 34 La92,.cells 85 [.d Ka14],.rows 42 false Ka5,.rows 42 true Ka5]
abbrev La50:List PB:=[.cells 31 [.d Ka1]]
abbrev La51:List PB:=[.cells 95 [.d (.sl Ka11),.d Ka0,.d Ka21,.d (.sl Ka7),.row 6,.row 7,.csl 8 4 2],.cells 144 [.d Ka17],.cells 95 La1,.cells 42 La0,.cells 42 [.d Ka5],.cells 170 [.d Ka2],.rows 2 true Ka0,.rows 2 true Ka0,.cells 170 [.d Ka2,.d Ka2]]
abbrev La52:List PB:=[.cells 76 [.d Ka15],.cells 85 [.d Ka14],.cells 31 [.d Ka1],.rows 42 true Ka5,.cells 37 [.row 7,.row 8,.row 9,.row 10],.cells 42 [.d Ka5],.cells 85 [.d Ka14],.rows 3 true Ka0,.rows 3 true Ka0,.rows 3 true Ka0,.rows 3 true Ka0]
abbrev La53:List PB:=[.cells 31 La91,.cells 31 [.row 2,.row 3,.row 4,.row 5,.row 6,.row 7],.rows 65 false Ka10,.rows 118 false Ka19,.rows 53 false Ka20,.rows 9 false .str,.rows 9 false .str,.rows 120 true Ka16]
abbrev La54:List PV:=[.ptr 0 0,.d Ka0]
abbrev La72:List PV:=[.row 2,.row 3,.row 4,.row 5]
abbrev La55:List PB:=[.cells 76 [.d Ka15],.cells 37 La72,.rows 3 true Ka0,.rows 3 true Ka0,.rows 3 true Ka0,.rows 3 true Ka0,.cells 42 La0,.cells 42 [.d Ka0,.d Ka0,.d Ka0,.d Ka0,.d Ka0,.d (.sl Ka0),.nil]]
abbrev La56:List PV:=[.d (.sl Ka11),.d Ka0,.d Ka21,.d (.sl Ka7),.row 7,.row 8,.csl 9 4 2]
abbrev La58:List PV:=[.d Ka13,.d Ka5,.d .bool]
abbrev La59:List PB:=[.cells 76 [.d Ka15],.cells 37 La72,.rows 3 true Ka0,.rows 3 true Ka0,.rows 3 true Ka0,.rows 3 true Ka0,.cells 85 [.d Ka14],.cells 31 [.d Ka1],.cells 42 La0,.cells 42 La0]
abbrev La60:List PB:=[.cells 141 [.d Ka6],.cells 31 La91,.cells 31 [.row 3,.row 4,.row 5,.row 6,.nil,.nil],.rows 65 true Ka10,.rows 118 true Ka19,.rows 53 true Ka20,.rows 9 true .str]
abbrev La61:List PV:=[.d (.sl Ka11),.d Ka0,.d Ka21,.d (.sl Ka7),.row 3,.row 4,.row 5]
abbrev La62:List PV:=[.d Ka8,.d Ka13,.d Ka17]
abbrev La63:List PB:=[.rows 148 true Ka11,.rows 4 true .bool,.rows 150 true Ka7,.cells 82 La36,.rows 3 true Ka0]
abbrev La113:List PV:=[.row 3,.d Ka0,.row 4,.row 5]
abbrev La64:List PB:=[.cells 31 [.d Ka1],.cells 82 La113,.cells 82 La75,.rows 148 true Ka11,.rows 4 true .bool,.rows 150 true Ka7]
abbrev La65:List PV:=[.d Ka0,.d Ka0]
abbrev La67:List PB:=[.cells 166 [.d Ka18],.cells 170 [.d Ka0,.row 3,.row 4,.d Ka0],.cells 170 La107,.rows 2 true Ka0,.rows 37 true (.sl Ka0)]
abbrev La68:List PB:=[.cells 187 La110,.cells 76 [.d Ka15],.gone,.rows 193 true .sm,.rowsP 9 .str]
abbrev La69:List PB:=[.rows 42 true Ka5,.cells 100 [.d Ka8],.cells 95 [.d Ka13],.cells 95 La1]
abbrev La71:List PV:=[.ptr 1 0,.d Ka0,.d Ka0,.d .bool,.d .bool,.d .bool,.d .bool,.row 3]
abbrev La73:List PB:=[.cells 42 La0,.cells 170 [.d Ka2],.cells 183 [.d Ka3],.cells 42 [.d Ka0,.d Ka0,.d Ka0,.d Ka0,.d Ka0,.row 4,.nil],.rows 3 true Ka0]
abbrev La74:List PB:=[.cells 193 [.d .sm]]
abbrev La76:List PV:=[.agg [.agg La36,.row 3,.row 4,.csl 5 4 4]]
abbrev La77:List PB:=[.cells 141 [.d Ka6]]
abbrev La78:List PB:=[.cells 31 [.d Ka1],.cells 166 [.d Ka18],.cells 183 [.d Ka3]]
abbrev La79:List PB:=[.cells 141 [.d Ka6],.cells 177 [.d Ka12]]
abbrev La80:List PB:=[.cells 141 [.d Ka6],.cells 191 [.d .ex]]
abbrev La81:List PB:=[.rows 148 true Ka11,.rows 4 true .bool,.rows 150 true Ka7]
abbrev La82:List PB:=[.cells 31 [.d Ka1],.rows 9 true .str,.cells 65 [.d Ka10]]
abbrev La83:List PB:=[.cells 31 [.d Ka1],.cells 183 [.d Ka3]]
abbrev La84:List PV:=[.ptr 0 0,.ptr 4 0,.ptr 5 0,.d .bool]
abbrev La85:List PV:=[.ptr 0 0,.ptr 1 0,.ptr 2 0,.ptr 3 0,.ptr 4 0,.d Ka0]
abbrev La86:List PB:=[.cells 31 [.d Ka1],.cells 82 [.d Ka4]]
abbrev La87:List PB:=[.cells 76 [.d Ka15],.rows 3 true Ka0,.rows 3 true Ka0]
abbrev La88:List PB:=[.cells 31 [.d Ka1],.rows 9 true .str]
abbrev La89:List PB:=[.cells 42 [.d Ka5],.cells 85 La1,.cells 85 La61,.rows 2 true Ka0,.rows 2 true Ka0,.rows 3 true Ka0]
abbrev La90:List PB:=[.cells 76 La57,.cells 37 La72,.rows 3 true Ka0,.rows 3 true Ka0,.rows 3 true Ka0,.rows 3 true Ka0]
abbrev La93:List PV:=[.d (.sl Ka0),.d Ka0]
abbrev La94:List PV:=[.ptr 0 0,.row 1,.d Ka0]
abbrev La95:List PB:=[.cells 216 [.d Ka9]]
abbrev La96:List PB:=[.cells 76 [.d Ka15]]
abbrev La98:List PV:=[.agg [.agg La36,.row 3,.row 4,.csl 5 4 3]]
abbrev La99:List PB:=[.cells 76 La57]
abbrev La101:List PB:=[.rows 2 true Ka0,.rows 37 true (.sl Ka0)]
abbrev La102:List PB:=[.cells 31 [.d Ka1],.cells 166 [.d Ka18]]
abbrev La103:List PB:=[.cells 100 [.d Ka8],.cells 95 [.d Ka13]]
abbrev La104:List PV:=[.d (.sl Ka0)]
abbrev La105:List PV:=[.ptr 0 0,.ptr 1 0,.ptr 2 0,.ptr 3 0]
abbrev La108:List PV:=[.d (.sl Ka11),.d Ka0,.d Ka21,.d (.sl Ka7),.row 7,.row 8,.csl 9 4 1]
abbrev La111:List PB:=[.cells 82 [.d Ka4],.rows 3 true Ka0]
abbrev La112:List PV:=[.ptr 0 0,.d Ka0,.d Ka0]
def tyT:PT Ty:=cM [(2,Ka0),(3,Ka0),(4,.bool),(9,.str),(37,(.sl Ka0)),(42,Ka5),(53,Ka20),(65,Ka10),(73,Ka17),(79,Ka21),(116,Ka17),(118,Ka19),(120,Ka16),(144,Ka17),(148,Ka11),(150,Ka7),(166,Ka18),(170,Ka2),(177,Ka12),(183,Ka3),(191,.ex),(193,.sm),(216,Ka9)]
def bH (t:TypeId):Option Ty:=tyT.get t
def dr01_Keywords:FT:=⟨⟨[],[]⟩,⟨[.d (.sl .str)],[]⟩,.leaf⟩
noncomputable def cr01_Keywords:bR:=cn dr01_Keywords jD
def dr01_IsKeyword:FT:=⟨⟨[.d .str],[]⟩,⟨[.d .bool],[]⟩,cM [(8,(.j ⟨[0,3],[4],⟨[.d Ka0],[]⟩,[]⟩))]⟩
noncomputable def cr01_IsKeyword:bR:=cn dr01_IsKeyword iF
def dr01_Letter:FT:=⟨⟨[.d (.int .u8)],[]⟩,⟨[.d .bool],[]⟩,cM [(2,(.j ⟨[],[2],⟨[.d .bool],[]⟩,[]⟩))]⟩
noncomputable def cr01_Letter:bR:=cn dr01_Letter kq
def dr01_Digit:FT:=⟨⟨[.d (.int .u8)],[]⟩,⟨[.d .bool],[]⟩,cM [(2,(.j ⟨[],[2],⟨[.d .bool],[]⟩,[]⟩))]⟩
noncomputable def cr01_Digit:bR:=cn dr01_Digit px
def dr01_inner:FT:=⟨⟨[.d (.int .u8)],[]⟩,⟨[.d .bool],[]⟩,cM [(2,(.j ⟨[],[2],⟨[.d .bool],[]⟩,[]⟩))]⟩
noncomputable def cr01_inner:bR:=cn dr01_inner nG
def dr01_IsName:FT:=⟨⟨[.d .str],[]⟩,⟨[.d .bool],[]⟩,cM [(3,(.j ⟨[0],[21],⟨[.d .bool],[]⟩,[]⟩)),(14,(.j ⟨[0],[3],⟨[.d Ka0],[]⟩,[]⟩))]⟩
noncomputable def cr01_IsName:bR:=cn dr01_IsName dQ
def dr05_truth:FT:=⟨⟨[.d .bool],[]⟩,⟨[.d Ka0],[]⟩,.leaf⟩
noncomputable def cr05_truth:bR:=cn dr05_truth dE
def dr05_Unary:FT:=⟨⟨La65,[]⟩,⟨[.d Ka0,.d .bool],[]⟩,.leaf⟩
noncomputable def cr05_Unary:bR:=cn dr05_Unary nE
def dr05_Binary:FT:=⟨⟨[.d Ka0,.d Ka0,.d Ka0],[]⟩,⟨[.d Ka0,.d .bool],[]⟩,cM [(91,(.j ⟨[],[6,7],⟨[.d Ka0,.d .bool],[]⟩,[]⟩)),(97,(.j ⟨[],[6,7],⟨[.d Ka0,.d .bool],[]⟩,[]⟩))]⟩
noncomputable def cr05_Binary:bR:=cn dr05_Binary mz
def dr05_Index:FT:=⟨⟨La65,[]⟩,⟨[.d Ka0],[]⟩,cM [(12,(.j ⟨[],[5],⟨[.d Ka0],[]⟩,[]⟩))]⟩
noncomputable def cr05_Index:bR:=cn dr05_Index lQ
def dr02_Operands:FT:=⟨⟨[.d Ka0],[]⟩,⟨[.d Ka0],[]⟩,cM [(4,(.j ⟨[0],[3],⟨[.d .bool],[]⟩,[]⟩)),(10,(.j ⟨[0],[10],⟨[.d .bool],[]⟩,[]⟩)),(16,(.j ⟨[],[17],⟨[.d .bool],[]⟩,[]⟩))]⟩
noncomputable def cr02_Operands:bR:=cn dr02_Operands jC
def dr02_ShapedExpr:FT:=⟨⟨[.d .ex],[]⟩,⟨[.d .bool],[]⟩,cM [(2,(.j ⟨[],[1,3],⟨La20,[.cells 191 [.d .ex]]⟩,[]⟩)),(5,(.j ⟨[],[1,50],⟨La20,[.cells 191 [.d .ex]]⟩,[]⟩)),(16,(.j ⟨[],[1,4],⟨La54,[.cells 191 [.d .ex]]⟩,[]⟩))]⟩
noncomputable def cr02_ShapedExpr:bR:=cn dr02_ShapedExpr fR
noncomputable def uI (n:Nat):bR:=cn dr02_ShapedExpr (fr02_ShapedExpr n)
def dr02_blank:FT:=⟨⟨[.d .ex],[]⟩,⟨[.d .bool],[]⟩,cM [(2,(.j ⟨[],[2],⟨[.d .bool],[]⟩,[]⟩))]⟩
noncomputable def cr02_blank:bR:=cn dr02_blank lU
def dr02_ShapedStmt:FT:=⟨⟨[.d .sm],[]⟩,⟨[.d .bool],[]⟩,cM [(3,(.j ⟨[],[1,13],⟨La20,La74⟩,[]⟩)),(10,(.j ⟨[],[1,3],⟨La20,La74⟩,[]⟩)),(13,(.j ⟨[],[1,47],⟨La20,La74⟩,[]⟩)),(21,(.j ⟨[],[1,66],⟨La20,La74⟩,[]⟩)),(29,(.j ⟨[],[1,95],⟨La20,La74⟩,[]⟩)),(36,(.j ⟨[],[1,4],⟨La20,La74⟩,[]⟩)),(39,(.j ⟨[],[1,130],⟨La20,La74⟩,[]⟩)),(46,(.j ⟨[],[1,5],⟨La20,La74⟩,[]⟩)),(49,(.j ⟨[],[1,157],⟨La20,La74⟩,[]⟩)),(56,(.j ⟨[],[2],⟨[.d .bool],[]⟩,[]⟩))]⟩
noncomputable def uH (n:Nat):bR:=cn dr02_ShapedStmt (fr02_ShapedStmt n)
def dr02_ShapedStmts:FT:=⟨⟨[.d (.sl .sm)],[]⟩,⟨[.d .bool],[]⟩,cM [(6,(.j ⟨[0],[3],⟨[.d Ka0],[]⟩,[]⟩))]⟩
noncomputable def cr02_ShapedStmts:bR:=cn dr02_ShapedStmts lV
noncomputable def tN (n:Nat):bR:=cn dr02_ShapedStmts (fr02_ShapedStmts n)
def dr02_shapedDecl:FT:=⟨⟨[.d Ka9],[]⟩,⟨[.d .bool],[]⟩,cM [(3,(.j ⟨[],[1,31],⟨La20,La95⟩,[]⟩)),(11,(.j ⟨[],[1,50],⟨La20,La95⟩,[]⟩)),(18,(.j ⟨[],[2],⟨[.d .bool],[]⟩,[]⟩))]⟩
noncomputable def cr02_shapedDecl:bR:=cn dr02_shapedDecl hY
def dr02_Shaped:FT:=⟨⟨[.d Ka6],[]⟩,⟨[.d .bool],[]⟩,cM [(6,(.j ⟨[],[1,3],⟨La54,La77⟩,[]⟩)),(27,(.j ⟨[],[1,4],⟨La54,La77⟩,[]⟩)),(42,(.j ⟨[4],[1,5,6],⟨La43,La79⟩,[]⟩)),(59,(.j ⟨[4],[1,56],⟨La20,La77⟩,[]⟩))]⟩
noncomputable def cr02_Shaped:bR:=cn dr02_Shaped mB
def dr04_At:FT:=⟨⟨[.d (.sl .str),.d .str],[]⟩,⟨[.d Ka0],[]⟩,cM [(6,(.j ⟨[0,1],[5],⟨[.d Ka0],[]⟩,[]⟩))]⟩
noncomputable def cr04_At:bR:=cn dr04_At fH
def dr04_DeclAt:FT:=⟨⟨[.d (.sl Ka9),.d .str],[]⟩,⟨[.d Ka0],[]⟩,cM [(6,(.j ⟨[0,1],[5],⟨[.d Ka0],[]⟩,[]⟩))]⟩
noncomputable def cr04_DeclAt:bR:=cn dr04_DeclAt eH
def dr04_ThreadAt:FT:=⟨⟨[.d (.sl Ka12),.d .str],[]⟩,⟨[.d Ka0],[]⟩,cM [(6,(.j ⟨[0,1],[5],⟨[.d Ka0],[]⟩,[]⟩))]⟩
noncomputable def cr04_ThreadAt:bR:=cn dr04_ThreadAt eD
def dr04_KindOf:FT:=⟨⟨[.d Ka6,.d Ka0,.d .str],[]⟩,⟨[.d Ka0],[]⟩,cM [(3,(.j ⟨[2],[3,27],⟨La20,La77⟩,[]⟩)),(52,(.j ⟨[7],[3,56],⟨La20,La77⟩,[]⟩))]⟩
noncomputable def cr04_KindOf:bR:=cn dr04_KindOf mA
def dr04_want:FT:=⟨⟨[.d Ka6,.d Ka0,.d .str,.d Ka0,.d Ka0],[]⟩,⟨[.d Ka0],[]⟩,cM [(13,(.j ⟨[],[25],⟨[.d .bool],[]⟩,[]⟩))]⟩
noncomputable def cr04_want:bR:=cn dr04_want dZ
def dr04_Nodes:FT:=⟨⟨[.d .ex],[]⟩,⟨La65,[]⟩,cM [(8,(.j ⟨[],[1,4,5,6],⟨[.ptr 0 0,.d Ka0,.d Ka0,.d Ka0],[.cells 191 [.d .ex]]⟩,[]⟩))]⟩
noncomputable def cr04_Nodes:bR:=cn dr04_Nodes vP
noncomputable def Bf (n:Nat):bR:=cn dr04_Nodes (fr04_Nodes n)
def dr04_names:FT:=⟨⟨[.d Ka6,.d Ka0,.d .ex],[]⟩,⟨[.d Ka0],[]⟩,cM [(7,(.j ⟨[1],[3,5,7],⟨La43,La80⟩,[]⟩)),(21,(.j ⟨[1],[3,5,7,8],⟨[.ptr 0 0,.ptr 1 0,.d Ka0,.d Ka0],La80⟩,[]⟩)),(23,(.j ⟨[1,7,8],[3,5,33],⟨La32,La80⟩,[]⟩))]⟩
noncomputable def cr04_names:bR:=cn dr04_names vO
noncomputable def Be (n:Nat):bR:=cn dr04_names (fr04_names n)
def dr04_Expr:FT:=⟨⟨[.d Ka6,.d Ka0,.d .ex],[]⟩,⟨[.d Ka0],[]⟩,cM [(13,(.j ⟨[1],[3,5,22],⟨La32,La80⟩,[]⟩))]⟩
noncomputable def cr04_Expr:bR:=cn dr04_Expr iW
def dr04_nesting:FT:=⟨⟨[.d .bool],[]⟩,⟨[.d Ka0],[]⟩,.leaf⟩
noncomputable def cr04_nesting:bR:=cn dr04_nesting cC
def dr04_or:FT:=⟨⟨La65,[]⟩,⟨[.d Ka0],[]⟩,.leaf⟩
noncomputable def cr04_or:bR:=cn dr04_or fe
def dr04_walk_inside:FT:=⟨⟨[.ptr 0 0,.d Ka0,.d Ka0,.d .str],La21⟩,⟨[.d .bool],La21⟩,cM [(6,(.j ⟨[1,2,3],[0,9],⟨La54,La21⟩,[]⟩)),(17,(.j ⟨[1,2,3,9],[0,46],⟨La20,La21⟩,[]⟩))]⟩
noncomputable def cr04_walk_inside:bR:=cn dr04_walk_inside cW
def dr04_walk_one:FT:=⟨⟨[.ptr 0 0,.d .sm],La21⟩,⟨[.d Ka0],La18⟩,cM [(1,(.a [.ren 0 4,.ren 0 5])),(28,(.j ⟨[6,7,8,9,30],[0,3,5,67],⟨La84,La8⟩,[]⟩)),(41,(.j ⟨[],[4],⟨[.d Ka0],La18⟩,[]⟩)),(44,(.j ⟨[6,7,8,9,30],[0,3,5,91],⟨La84,La8⟩,[]⟩)),(51,(.j ⟨[],[4],⟨[.d Ka0],La18⟩,[]⟩)),(63,(.j ⟨[],[4],⟨[.d Ka0],La18⟩,[]⟩)),(66,(.j ⟨[6,7,8,9,30],[0,3,5,119],⟨La84,La8⟩,[]⟩)),(89,(.j ⟨[],[4],⟨[.d Ka0],La18⟩,[]⟩)),(108,(.j ⟨[],[0,3,187],⟨[.ptr 0 0,.ptr 4 0,.d .bool],[.cells 213 [.d (.sl Ka9),.d (.sl Ka12),.d Ka0,.row 1,.row 5,.row 6],.rowsP 193 .sm,.gone,.gone,.cells 193 [.d .sm],.rows 9 true .str,.rows 9 true .str]⟩,[]⟩)),(131,(.j ⟨[],[4],⟨[.d Ka0],La18⟩,[]⟩)),(137,(.j ⟨[6],[0,3,5,14],⟨[.ptr 0 0,.ptr 4 0,.ptr 5 0,.d Ka0],La8⟩,[]⟩)),(139,(.j ⟨[6],[0,3,5,14],⟨[.ptr 0 0,.ptr 4 0,.ptr 5 0,.d Ka0],La8⟩,[]⟩)),(140,(.j ⟨[6,14],[0,3,5,253],⟨La84,La8⟩,[]⟩))]⟩
noncomputable def cr04_walk_one:bR:=cn dr04_walk_one jB
def dr04_walk_all:FT:=⟨⟨[.ptr 0 0,.d (.sl .sm)],La21⟩,⟨La65,La46⟩,cM [(1,(.a [.ren 0 3,.ren 0 4,.ren 0 5])),(6,(.j ⟨[1],[0,6],⟨La54,La46⟩,[]⟩)),(19,(.j ⟨[1,6],[0,7,8],⟨[.ptr 0 0,.ptr 4 0,.d Ka0],[.cells 213 [.d (.sl Ka9),.d (.sl Ka12),.d Ka0,.row 5,.row 6,.row 7],.gone,.gone,.gone,.cells 193 [.d .sm],.rowsP 193 .sm,.rows 9 true .str,.rows 9 true .str]⟩,[]⟩)),(37,(.j ⟨[1,6],[0,8,9],⟨La112,La46⟩,[]⟩))]⟩
noncomputable def cr04_walk_all:bR:=cn dr04_walk_all qX
noncomputable def xe (n:Nat):bR:=cn dr04_walk_all (fr04_walk_all n)
def dr04_Count:FT:=⟨⟨[.d (.sl .sm)],[]⟩,⟨[.d Ka0],[]⟩,cM [(8,(.j ⟨[0],[3,4],⟨La65,[]⟩,[]⟩))]⟩
noncomputable def cr04_Count:bR:=cn dr04_Count vQ
noncomputable def Bg (n:Nat):bR:=cn dr04_Count (fr04_Count n)
def dr04_decls:FT:=⟨⟨[.d (.sl Ka9)],[]⟩,⟨La65,[]⟩,cM [(8,(.j ⟨[0],[4,5,6,7,8],⟨[.d Ka0,.d Ka0,.d Ka0,.d Ka0,.d Ka0],[]⟩,[]⟩)),(16,(.j ⟨[0,8],[4,5,6,7],⟨[.d Ka0,.d Ka0,.d Ka0,.d Ka0],[]⟩,[]⟩)),(38,(.j ⟨[0,8],[4,5,6,7,9],⟨[.d Ka0,.d Ka0,.d Ka0,.d Ka0,.ptr 0 0],La95⟩,[]⟩)),(39,(.j ⟨[0,4,5,6,7,8,36],[9,39],⟨La20,La95⟩,[]⟩)),(47,(.j ⟨[0,4,5,6,7,8,36],[9,47],⟨La20,La95⟩,[]⟩)),(61,(.j ⟨[0,4,5,6,7,8],[9,69],⟨La20,La95⟩,[]⟩))]⟩
noncomputable def cr04_decls:bR:=cn dr04_decls nF
def dr04_threads:FT:=⟨⟨[.d Ka6],[]⟩,⟨La65,[]⟩,cM [(6,(.j ⟨[],[1,4],⟨La54,La77⟩,[]⟩)),(17,(.j ⟨[4],[1,5,37],⟨La32,La79⟩,[]⟩)),(29,(.j ⟨[],[1,6],⟨La54,La77⟩,[]⟩)),(51,(.j ⟨[6],[1,7,8],⟨La43,La79⟩,[]⟩)),(62,(.j ⟨[6,8],[1,7,90],⟨La32,La79⟩,[]⟩))]⟩
noncomputable def cr04_threads:bR:=cn dr04_threads kM
def dr04_Program:FT:=⟨⟨[.d Ka6],[]⟩,⟨La65,[]⟩,cM [(44,(.j ⟨[],[1,8,9],⟨La112,La77⟩,[]⟩)),(67,(.a [.cel 10 3 193 .sm,.cel 10 4 9 .str,.cel 10 5 9 .str])),(69,(.j ⟨[],[1,10,11],⟨La43,[.cells 141 [.d Ka6],.cells 213 [.d (.sl Ka9),.d (.sl Ka12),.d Ka0,.row 2,.row 3,.row 4],.rowsP 193 .sm,.rows 9 true .str,.rows 9 true .str]⟩,[]⟩))]⟩
noncomputable def cr04_Program:bR:=cn dr04_Program fZ
def dr06_sites:FT:=⟨⟨[.row 0,.d Ka0,.d Ka0,.d (.sl .sm)],[.rows 120 true Ka16]⟩,⟨[.row 1,.d Ka0],[.gone,.rows 120 true Ka16]⟩,cM [(1,(.a [.ren 0 0])),(6,(.j ⟨[1,3],[0,2,10],⟨[.row 1,.d Ka0,.d Ka0],[.gone,.rows 120 true Ka16]⟩,[]⟩)),(25,(.a [.nil 8 120 Ka16]))]⟩
noncomputable def cr06_sites:bR:=cn dr06_sites vN
noncomputable def Bd (n:Nat):bR:=cn dr06_sites (fr06_sites n)
def dr06_lockAt:FT:=⟨⟨[.d (.sl Ka19),.d .str],[]⟩,⟨[.d Ka0],[]⟩,cM [(6,(.j ⟨[0,1],[5],⟨[.d Ka0],[]⟩,[]⟩))]⟩
noncomputable def cr06_lockAt:bR:=cn dr06_lockAt gL
def dr06_CellAt:FT:=⟨⟨[.d Ka1,.d .str],[]⟩,⟨[.d Ka0],[]⟩,cM [(6,(.j ⟨[1],[2,5],⟨La54,La50⟩,[]⟩))]⟩
noncomputable def cr06_CellAt:bR:=cn dr06_CellAt gM
def dr06_World:FT:=⟨⟨[.d Ka6],[]⟩,⟨[.d Ka1],[]⟩,cM [(18,(.j ⟨[],[1,2,3,6],⟨La38,La60⟩,[.cel 3 0 65 Ka10,.cel 3 1 118 Ka19,.cel 3 2 53 Ka20,.cel 3 3 9 .str]⟩)),(31,(.j ⟨[6],[1,2,3],⟨[.ptr 0 0,.ptr 1 0,.ptr 2 0],La60⟩,[]⟩)),(32,(.j ⟨[6,31],[1,2,3,7,39],⟨La33,La34⟩,[]⟩)),(42,(.j ⟨[6],[1,2,3,7,8],⟨[.ptr 0 0,.ptr 1 0,.ptr 2 0,.ptr 3 0,.d Ka0],La34⟩,[]⟩)),(53,(.j ⟨[6,31],[1,2,3,7,65],⟨La33,La34⟩,[]⟩)),(69,(.a [.cel 3 5 120 Ka16])),(71,(.j ⟨[],[1,2,3,9],⟨La38,[.cells 141 [.d Ka6],.cells 31 La91,.cells 31 [.row 3,.row 4,.row 5,.row 6,.row 7,.row 8],.rows 65 true Ka10,.rows 118 true Ka19,.rows 53 true Ka20,.rows 9 true .str,.rows 9 true .str,.rows 120 true Ka16]⟩,[.cel 3 4 9 .str]⟩))]⟩
noncomputable def cr06_World:bR:=cn dr06_World nD
def dr06_names:FT:=⟨⟨[.d Ka1],[]⟩,⟨[.d (.sl .str),.d .bool],[]⟩,cM [(8,(.j ⟨[],[1,4,5],⟨La94,La88⟩,[.nil 4 9 .str]⟩)),(15,(.j ⟨[],[1,4,5],⟨La94,La88⟩,[]⟩)),(37,(.j ⟨[5],[1,4,6,51],⟨[.ptr 0 0,.row 1,.ptr 2 0,.d .bool],La82⟩,[]⟩)),(48,(.j ⟨[5],[1,4,6,7],⟨[.ptr 0 0,.row 1,.ptr 2 0,.d Ka0],La82⟩,[]⟩)),(59,(.j ⟨[5,7],[1,4,6,93],⟨[.ptr 0 0,.row 1,.ptr 2 0,.d .bool],La82⟩,[]⟩)),(72,(.j ⟨[],[1,4,9],⟨La94,La88⟩,[]⟩)),(87,(.j ⟨[],[1,4,10],⟨La94,La88⟩,[]⟩))]⟩
noncomputable def cr06_names:bR:=cn dr06_names nA
def dr06_ValidWorld:FT:=⟨⟨[.d Ka1],[]⟩,⟨[.d .bool],[]⟩,cM [(3,(.j ⟨[],[1,49],⟨La20,La50⟩,[]⟩)),(24,(.j ⟨[3],[1,5],⟨La54,La50⟩,[]⟩)),(33,(.j ⟨[3,5],[1,79],⟨La20,La50⟩,[]⟩)),(45,(.j ⟨[],[1,6],⟨La54,La50⟩,[]⟩)),(56,(.j ⟨[6],[1,109],⟨La20,La50⟩,[]⟩)),(68,(.j ⟨[],[1,8],⟨La54,La50⟩,[]⟩)),(76,(.j ⟨[8],[1],⟨[.ptr 0 0],La50⟩,[]⟩)),(80,(.j ⟨[8],[1,9,132],⟨La32,[.cells 31 [.d Ka1],.cells 120 [.d Ka16]]⟩,[]⟩)),(87,(.j ⟨[8],[1,9,146],⟨La32,[.cells 31 [.d Ka1],.cells 120 [.d Ka16]]⟩,[]⟩)),(90,(.j ⟨[8],[1,165],⟨La20,La50⟩,[]⟩))]⟩
noncomputable def cr06_ValidWorld:bR:=cn dr06_ValidWorld fQ
def dr06_Registers:FT:=⟨⟨[.d Ka3],[]⟩,⟨La104,[]⟩,cM [(6,(.j ⟨[4],[1,5],⟨La20,[.cells 183 [.d Ka3]]⟩,[]⟩)),(24,(.j ⟨[4],[1,13],⟨La20,[.cells 183 [.d Ka3]]⟩,[]⟩)),(46,(.j ⟨[4],[1,37],⟨La20,[.cells 183 [.d Ka3]]⟩,[]⟩))]⟩
noncomputable def cr06_Registers:bR:=cn dr06_Registers fA
def dr06_Silent:FT:=⟨⟨[.d Ka0],[]⟩,⟨[.d .bool],[]⟩,cM [(2,(.j ⟨[],[2],⟨[.d .bool],[]⟩,[]⟩))]⟩
noncomputable def cr06_Silent:bR:=cn dr06_Silent ko
def dr06_lands:FT:=⟨⟨[.d (.sl Ka3),.d Ka0],[]⟩,⟨[.d .bool],[]⟩,cM [(6,(.j ⟨[0],[1,5],⟨La65,[]⟩,[]⟩)),(14,(.j ⟨[0,5],[1],⟨[.d Ka0],[]⟩,[]⟩)),(16,(.j ⟨[0,1,5],[19],⟨[.d .bool],[]⟩,[]⟩))]⟩
noncomputable def cr06_lands:bR:=cn dr06_lands nB
def dr06_in:FT:=⟨⟨La65,[]⟩,⟨[.d .bool],[]⟩,cM [(2,(.j ⟨[],[4],⟨[.d .bool],[]⟩,[]⟩))]⟩
noncomputable def cr06_in:bR:=cn dr06_in fd
def dr06_array:FT:=⟨⟨[.d Ka1,.d Ka0,.d Ka0],[]⟩,⟨[.d .bool],[]⟩,cM [(2,(.j ⟨[],[6],⟨[.d .bool],[]⟩,[]⟩))]⟩
noncomputable def cr06_array:bR:=cn dr06_array lP
def dr06_objects:FT:=⟨⟨[.d Ka1,.d Ka3],[]⟩,⟨[.d .bool],[]⟩,cM [(9,(.j ⟨[],[4],⟨[.d .bool],[]⟩,[]⟩)),(15,(.j ⟨[],[4],⟨[.d .bool],[]⟩,[]⟩)),(30,(.j ⟨[6],[2,3,59],⟨La32,La83⟩,[]⟩)),(37,(.j ⟨[],[4],⟨[.d .bool],[]⟩,[]⟩)),(40,(.j ⟨[6],[2,3,78],⟨La32,La83⟩,[]⟩)),(55,(.j ⟨[],[4],⟨[.d .bool],[]⟩,[]⟩)),(58,(.j ⟨[6],[2,3,98],⟨La32,La83⟩,[]⟩)),(72,(.j ⟨[6],[2,3,108],⟨La32,La83⟩,[]⟩)),(97,(.j ⟨[],[4],⟨[.d .bool],[]⟩,[]⟩)),(103,(.j ⟨[],[4],⟨[.d .bool],[]⟩,[]⟩))]⟩
noncomputable def cr06_objects:bR:=cn dr06_objects kK
def dr06_validThread:FT:=⟨⟨[.d Ka1,.d Ka0,.d Ka18],[]⟩,⟨[.d .bool],[]⟩,cM [(5,(.j ⟨[1,7],[3,5,26],⟨La32,La102⟩,[]⟩)),(16,(.j ⟨[1,7],[3,5,8],⟨La43,La102⟩,[]⟩)),(28,(.j ⟨[1,7,8],[3,5,9,67],⟨La42,La78⟩,[]⟩)),(36,(.j ⟨[1,7,8],[3,5,9,100],⟨La42,La78⟩,[]⟩)),(44,(.j ⟨[1,7,8],[3,5,9,122],⟨La42,La78⟩,[]⟩)),(56,(.j ⟨[1,7,8,10],[3,5,11],⟨La43,La102⟩,[]⟩))]⟩
noncomputable def cr06_validThread:bR:=cn dr06_validThread gF
def dr06_Valid:FT:=⟨⟨[.d Ka8],[]⟩,⟨[.d .bool],[]⟩,cM [(3,(.j ⟨[],[1,17],⟨La20,[.cells 100 [.d Ka8]]⟩,[]⟩)),(14,(.j ⟨[],[1,3],⟨La54,[.cells 100 [.d Ka8]]⟩,[]⟩))]⟩
noncomputable def cr06_Valid:bR:=cn dr06_Valid j8
def dr06_gen_put:FT:=⟨⟨[.ptr 0 0,.d Ka3],La5⟩,⟨[],La4⟩,.leaf⟩
noncomputable def cr06_gen_put:bR:=cn dr06_gen_put bX
def dr06_gen_value:FT:=⟨⟨[.ptr 0 0,.d .ex,.d Ka0],La5⟩,⟨[],La4⟩,cM [(2,(.j ⟨[],[],⟨[],La4⟩,[]⟩))]⟩
noncomputable def cr06_gen_value:bR:=cn dr06_gen_value eG
noncomputable def vY (n:Nat):bR:=cn dr06_gen_value (fr06_gen_value n)
def dr06_gen_assign:FT:=⟨⟨[.ptr 0 0,.d .sm],La5⟩,⟨[],La4⟩,.leaf⟩
noncomputable def cr06_gen_assign:bR:=cn dr06_gen_assign hX
def dr06_gen_cond:FT:=⟨⟨[.ptr 0 0,.d .str],La5⟩,⟨[.d Ka0],La5⟩,cM [(6,(.j ⟨[1],[0,5],⟨La54,La5⟩,[]⟩))]⟩
noncomputable def cr06_gen_cond:bR:=cn dr06_gen_cond fh
def dr06_gen_stmts:FT:=⟨⟨[.ptr 0 0,.d (.sl .sm)],La5⟩,⟨[],La4⟩,cM [(1,(.a [.ren 0 7])),(3,(.j ⟨[1],[0,4],⟨La54,La4⟩,[]⟩))]⟩
noncomputable def cr06_gen_stmts:bR:=cn dr06_gen_stmts nC
noncomputable def vZ (n:Nat):bR:=cn dr06_gen_stmts (fr06_gen_stmts n)
def dr06_gen_stmt:FT:=⟨⟨[.ptr 0 0,.d .sm],La5⟩,⟨[],La4⟩,cM [(1,(.a [.ren 0 7])),(10,(.j ⟨[],[],⟨[],La4⟩,[]⟩)),(15,(.j ⟨[4,25],[0,3,31],⟨[.ptr 0 0,.ptr 2 0,.d .bool],[.cells 179 [.d (.sl Ka10),.d (.sl Ka19),.d (.sl Ka20),.d (.sl .str),.d (.sl .str),.d (.sl Ka16),.d (.sl .str),.row 3,.d Ka0,.d Ka0],.gone,.cells 193 [.d .sm],.rows 183 true Ka3]⟩,[]⟩))]⟩
noncomputable def xd (n:Nat):bR:=cn dr06_gen_stmt (fr06_gen_stmt n)
def dr06_gen_branches:FT:=⟨⟨[.ptr 0 0,.d .sm],La5⟩,⟨[],La4⟩,.leaf⟩
noncomputable def sx (n:Nat):bR:=cn dr06_gen_branches (fr06_gen_branches n)
def dr06_gen_around:FT:=⟨⟨[.ptr 0 0,.d .sm,.d Ka0,.d Ka0,.d Ka0],La5⟩,⟨[],La4⟩,.leaf⟩
noncomputable def uG (n:Nat):bR:=cn dr06_gen_around (fr06_gen_around n)
def dr06_Program:FT:=⟨⟨[.d Ka6],[]⟩,⟨[.d Ka8,.d Ka0,.d Ka0],[]⟩,cM [(20,(.j ⟨[],[1,2,7,8,9],⟨[.ptr 0 0,.ptr 1 0,.ptr 2 0,.d Ka0,.d Ka0],[.cells 141 [.d Ka6],.cells 100 La66,.cells 100 [.d (.sl Ka10),.d (.sl Ka19),.d (.sl Ka20),.d (.sl .str),.d (.sl .str),.d (.sl Ka16),.row 3],.rows 166 true Ka18]⟩,[.cel 7 6 166 Ka18]⟩)),(32,(.a [.cel 10 7 183 Ka3])),(45,(.j ⟨[8,9],[1,2,7,10,11,12],⟨La85,La35⟩,[]⟩)),(59,(.j ⟨[8,9,12,13],[1,2,7,10,11,14],⟨La85,La35⟩,[]⟩))]⟩
noncomputable def cr06_Program:bR:=cn dr06_Program kL
def dr07_Has:FT:=⟨⟨La93,[]⟩,⟨[.d .bool],[]⟩,cM [(6,(.j ⟨[0,1],[5],⟨[.d Ka0],[]⟩,[]⟩))]⟩
noncomputable def cr07_Has:bR:=cn dr07_Has kJ
def dr07_Put:FT:=⟨⟨La93,[]⟩,⟨La104,[]⟩,cM [(6,(.j ⟨[0,1],[5],⟨[.d Ka0],[]⟩,[]⟩)),(8,(.j ⟨[0,1,5],[18],⟨[.d .bool],[]⟩,[]⟩)),(16,(.j ⟨[0,1,5],[32],⟨[.d .bool],[]⟩,[]⟩))]⟩
noncomputable def cr07_Put:bR:=cn dr07_Put oV
def dr07_Union:FT:=⟨⟨[.d (.sl Ka0),.d (.sl Ka0)],[]⟩,⟨La104,[]⟩,cM [(8,(.j ⟨[0,1],[5,6],⟨La93,[]⟩,[]⟩)),(23,(.j ⟨[1],[5,7],⟨La93,[]⟩,[]⟩))]⟩
noncomputable def cr07_Union:bR:=cn dr07_Union lO
def dr07_operator:FT:=⟨⟨[.d Ka0],[]⟩,⟨[.d Ka0],[]⟩,cM [(3,(.j ⟨[0],[8],⟨[.d .bool],[]⟩,[]⟩))]⟩
noncomputable def cr07_operator:bR:=cn dr07_operator ig
def dr07_Copy:FT:=⟨⟨[.d Ka2],[]⟩,⟨[.agg La97],La101⟩,cM [(8,(.j ⟨[],[1,2,3,4],⟨La38,[.cells 170 [.d Ka2],.cells 170 La107,.cells 170 [.d Ka0,.row 3,.row 4,.d Ka0],.rows 2 true Ka0,.rows 37 true (.sl Ka0)]⟩,[.cel 3 2 37 (.sl Ka0)]⟩))]⟩
noncomputable def cr07_Copy:bR:=cn dr07_Copy bJ
def dr07_step:FT:=⟨⟨[.d Ka3,.agg La97],La101⟩,⟨[.agg La97,.d .bool],La101⟩,cM [(8,(.j ⟨[6],[2,3,4,7],⟨[.ptr 2 0,.ptr 3 0,.ptr 4 0,.d Ka0],La45⟩,[]⟩)),(17,(.j ⟨[6,7],[2,3,4,33],⟨[.ptr 2 0,.ptr 3 0,.ptr 4 0,.d .bool],La45⟩,[]⟩)),(32,(.j ⟨[],[2,3,4,8,9,10],⟨[.ptr 2 0,.ptr 3 0,.ptr 4 0,.d Ka0,.d .bool,.d (.sl Ka0)],La45⟩,[]⟩))]⟩
noncomputable def cr07_step:bR:=cn dr07_step oU
def dr07_Settle:FT:=⟨⟨[.d Ka18,.d Ka2],[]⟩,⟨[.d Ka2,.d .bool],[]⟩,cM [(3,(.j ⟨[],[2,3,4,23],⟨La42,[.cells 166 [.d Ka18],.cells 170 [.d Ka2],.cells 170 La107]⟩,[]⟩)),(16,(.j ⟨[],[2,3,4,6],⟨La38,La67⟩,[]⟩)),(26,(.j ⟨[6],[2,3,4,44],⟨La42,La67⟩,[]⟩))]⟩
noncomputable def cr07_Settle:bR:=cn dr07_Settle dh
def dr08_Start:FT:=⟨⟨[.d Ka1],[]⟩,⟨[.d Ka4],[]⟩,cM [(8,(.j ⟨[],[1,2,3,4],⟨La38,[.cells 31 [.d Ka1],.cells 82 La75,.cells 82 [.row 3,.d Ka0,.nil,.nil],.rows 148 true Ka11]⟩,[.cel 3 0 148 Ka11]⟩)),(23,(.j ⟨[],[1,2,3,5],⟨La38,[.cells 31 [.d Ka1],.cells 82 La75,.cells 82 [.row 3,.d Ka0,.row 4,.nil],.rows 148 true Ka11,.rows 4 true .bool]⟩,[.cel 3 2 4 .bool]⟩)),(38,(.j ⟨[],[1,2,3,6],⟨La38,[.cells 31 [.d Ka1],.cells 82 La75,.cells 82 La113,.rows 148 true Ka11,.rows 4 true .bool,.rows 150 true Ka7]⟩,[.cel 3 3 150 Ka7]⟩)),(49,(.j ⟨[6],[1,2,3,7],⟨La105,[.cells 31 [.d Ka1],.cells 82 La75,.cells 82 [.row 4,.d Ka0,.row 5,.row 6],.cells 150 [.d Ka7],.rows 148 true Ka11,.rows 4 true .bool,.rows 150 true Ka7]⟩,[]⟩))]⟩
noncomputable def cr08_Start:bR:=cn dr08_Start lK
def dr08_Fits:FT:=⟨⟨[.d Ka1,.d Ka4],[]⟩,⟨[.d .bool],[]⟩,cM [(6,(.j ⟨[],[2,3,5],⟨La43,La86⟩,[]⟩)),(15,(.j ⟨[5],[2,3,31],⟨La32,La86⟩,[]⟩)),(23,(.j ⟨[],[4],⟨[.d .bool],[]⟩,[]⟩))]⟩
noncomputable def cr08_Fits:bR:=cn dr08_Fits lM
def dr08_in:FT:=⟨⟨La65,[]⟩,⟨[.d .bool],[]⟩,cM [(2,(.j ⟨[],[4],⟨[.d .bool],[]⟩,[]⟩))]⟩
noncomputable def cr08_in:bR:=cn dr08_in kI
def dr08_named:FT:=⟨⟨[.d Ka1,.d Ka0,.d Ka0],[]⟩,⟨[.d .bool],[]⟩,cM [(6,(.j ⟨[2,7],[3,8],⟨La20,La50⟩,[]⟩)),(36,(.j ⟨[2,7],[3,18],⟨La20,La50⟩,[]⟩)),(46,(.j ⟨[2,7],[3,26],⟨La20,La50⟩,[]⟩)),(53,(.j ⟨[],[6],⟨[.d .bool],[]⟩,[]⟩)),(56,(.j ⟨[2,7],[3,43],⟨La20,La50⟩,[]⟩)),(71,(.j ⟨[],[6],⟨[.d .bool],[]⟩,[]⟩)),(74,(.j ⟨[2,7],[3,61],⟨La20,La50⟩,[]⟩)),(92,(.j ⟨[2,7],[3,71],⟨La20,La50⟩,[]⟩)),(102,(.j ⟨[2],[3,79],⟨La20,La50⟩,[]⟩))]⟩
noncomputable def cr08_named:bR:=cn dr08_named nz
def dr08_Enabled:FT:=⟨⟨[.d Ka1,.d Ka4,.d Ka0,.d Ka0,.d Ka0],[]⟩,⟨[.d .bool],[]⟩,cM [(3,(.j ⟨[2,3,4],[5,6,30],⟨La32,La86⟩,[]⟩)),(25,(.j ⟨[],[10],⟨[.d .bool],[]⟩,[]⟩)),(50,(.j ⟨[],[10],⟨[.d .bool],[]⟩,[]⟩)),(56,(.j ⟨[],[10],⟨[.d .bool],[]⟩,[]⟩)),(59,(.j ⟨[2,4,70],[5,6,11,119],⟨La42,[.cells 31 [.d Ka1],.cells 82 [.d Ka4],.cells 150 [.d Ka7]]⟩,[]⟩)),(99,(.j ⟨[2,4,70],[5,6,160],⟨La32,La86⟩,[]⟩)),(116,(.j ⟨[],[10],⟨[.d .bool],[]⟩,[]⟩)),(122,(.j ⟨[],[10],⟨[.d .bool],[]⟩,[]⟩))]⟩
noncomputable def cr08_Enabled:bR:=cn dr08_Enabled fY
def dr08_Waiting:FT:=⟨⟨[.d Ka4,.d Ka0],[]⟩,⟨La104,[]⟩,cM [(8,(.j ⟨[1],[2,5,6],⟨La94,La111⟩,[.nil 5 3 Ka0]⟩)),(16,(.j ⟨[1,6],[2,5],⟨[.ptr 0 0,.row 1],La111⟩,[]⟩)),(17,(.j ⟨[1,6],[2,5,30],⟨[.ptr 0 0,.row 1,.d .bool],La111⟩,[]⟩))]⟩
noncomputable def cr08_Waiting:bR:=cn dr08_Waiting iV
def dr08_without:FT:=⟨⟨La93,[]⟩,⟨La104,[]⟩,cM [(8,(.j ⟨[0,1],[5,6],⟨[.row 0,.d Ka0],[.rows 3 true Ka0]⟩,[.nil 5 3 Ka0]⟩)),(16,(.j ⟨[0,1,6],[5],⟨[.row 0],[.rows 3 true Ka0]⟩,[]⟩))]⟩
noncomputable def cr08_without:bR:=cn dr08_without kH
def dr08_Copy:FT:=⟨⟨[.d Ka4],[]⟩,⟨[.agg La36],La81⟩,cM [(8,(.j ⟨[],[1,2,3,4],⟨La38,[.cells 82 [.d Ka4],.cells 82 La75,.cells 82 La113,.rows 148 true Ka11,.rows 4 true .bool,.rows 150 true Ka7]⟩,[.cel 3 0 148 Ka11]⟩))]⟩
noncomputable def cr08_Copy:bR:=cn dr08_Copy ep
def dr08_WaitingO:FT:=⟨⟨[.agg La36,.d Ka0],La81⟩,⟨La104,La81⟩,cM [(8,(.j ⟨[1],[2,5,6],⟨[.ptr 3 0,.row 4,.d Ka0],La63⟩,[.nil 5 3 Ka0]⟩)),(16,(.j ⟨[1,6],[2,5],⟨[.ptr 3 0,.row 4],La63⟩,[]⟩)),(17,(.j ⟨[1,6],[2,5,30],⟨[.ptr 3 0,.row 4,.d .bool],La63⟩,[]⟩))]⟩
noncomputable def cr08_WaitingO:bR:=cn dr08_WaitingO ie
noncomputable def cr08_WaitingOR:bR:=⟨dr08_WaitingO.pre,⟨dr08_WaitingO.post.vs,[]⟩,fy⟩
def dr08_Apply:FT:=⟨⟨[.d Ka1,.d Ka4,.d Ka0,.d Ka0,.d Ka0,.d Ka0],[]⟩,⟨[.d Ka4,.d Ka0,.d .bool],[]⟩,cM [(17,(.j ⟨[],[7,12,15],⟨La43,La47⟩,[]⟩)),(26,(.j ⟨[2,4,5,15,30],[6,7,12,45],⟨La42,La64⟩,[]⟩)),(34,(.j ⟨[2,4,5,15,30],[6,7,12,54],⟨La42,La64⟩,[]⟩)),(90,(.j ⟨[],[7,12,17],⟨La43,La47⟩,[]⟩)),(109,(.j ⟨[18],[7,12,19],⟨La43,La47⟩,[]⟩))]⟩
noncomputable def cr08_Apply:bR:=cn dr08_Apply j7
def dr09_Start:FT:=⟨⟨[.d Ka8],[]⟩,⟨[.d Ka13],[]⟩,cM [(16,(.j ⟨[],[1,2,3,4],⟨La38,[.cells 100 [.d Ka8],.cells 95 La1,.cells 95 [.d (.sl Ka11),.d Ka0,.d Ka21,.d (.sl Ka7),.row 3,.nil,.nil],.rows 2 true Ka0]⟩,[.cel 3 4 2 Ka0]⟩)),(31,(.j ⟨[],[1,2,3,5],⟨La38,[.cells 100 [.d Ka8],.cells 95 La1,.cells 95 [.d (.sl Ka11),.d Ka0,.d Ka21,.d (.sl Ka7),.row 3,.row 4,.nil],.rows 2 true Ka0,.rows 2 true Ka0]⟩,[.cel 3 5 2 Ka0]⟩)),(46,(.j ⟨[],[1,2,3,6],⟨La38,[.cells 100 [.d Ka8],.cells 95 La1,.cells 95 La61,.rows 2 true Ka0,.rows 2 true Ka0,.rows 170 true Ka2]⟩,[.cel 3 6 170 Ka2]⟩))]⟩
noncomputable def cr09_Start:bR:=cn dr09_Start ny
def dr09_fits:FT:=⟨⟨[.d Ka8,.d Ka13],[]⟩,⟨[.d .bool],[]⟩,cM [(3,(.j ⟨[],[2,3,46],⟨La32,La103⟩,[]⟩)),(14,(.j ⟨[],[2,3,5],⟨La43,La103⟩,[]⟩)),(25,(.j ⟨[5],[2,3,97],⟨La32,La103⟩,[]⟩))]⟩
noncomputable def cr09_fits:bR:=cn dr09_fits oS
def dr09_kind:FT:=⟨⟨[.d Ka0],[]⟩,⟨[.d Ka0],[]⟩,cM [(5,(.j ⟨[0],[3,10],⟨[.row 0,.d .bool],[.rows 3 false Ka0]⟩,[]⟩))]⟩
noncomputable def cr09_kind:bR:=cn dr09_kind oQ
def dr09_object:FT:=⟨⟨[.d Ka3,.d Ka2],[]⟩,⟨[.d Ka0],[]⟩,cM [(6,(.j ⟨[6],[2,3,7],⟨La32,[.cells 183 [.d Ka3],.cells 170 [.d Ka2]]⟩,[]⟩)),(28,(.j ⟨[],[2,40],⟨La20,[.cells 183 [.d Ka3]]⟩,[]⟩))]⟩
noncomputable def cr09_object:bR:=cn dr09_object my
def dr09_Pending:FT:=⟨⟨[.d Ka8,.d Ka13,.d Ka0],[]⟩,⟨[.d Ka5,.d .bool],[]⟩,cM [(3,(.j ⟨[2],[3,4,6,25],⟨La42,[.cells 100 [.d Ka8],.cells 95 [.d Ka13],.cells 42 La0]⟩,[]⟩)),(54,(.j ⟨[],[6,8,9,10],⟨La105,La73⟩,[.cel 10 5 3 Ka0]⟩)),(59,(.j ⟨[],[6,8,9,10,98],⟨La33,[.cells 42 La0,.cells 170 [.d Ka2],.cells 183 [.d Ka3],.cells 42 La0]⟩,[]⟩)),(68,(.j ⟨[],[6,10],⟨[.ptr 0 0,.ptr 1 0],[.cells 42 La0,.cells 42 [.d Ka0,.d Ka0,.d Ka0,.d Ka0,.d Ka0,.row 2,.row 3],.rows 3 true Ka0,.rows 3 true Ka0]⟩,[.cel 10 6 3 Ka0]⟩)),(69,(.j ⟨[],[6,8,9,10,123],⟨La33,La73⟩,[]⟩))]⟩
noncomputable def cr09_Pending:bR:=cn dr09_Pending iU
def dr16_Start:FT:=⟨⟨[.d Ka1],[]⟩,⟨[.d Ka14],[]⟩,cM [(8,(.j ⟨[],[1,2,3,4],⟨La38,[.cells 31 [.d Ka1],.cells 85 La1,.cells 85 La61,.rows 2 true Ka0,.rows 2 false Ka0,.rows 3 false Ka0]⟩,[.cel 3 4 2 Ka0]⟩))]⟩
noncomputable def cr16_Start:bR:=cn dr16_Start j6
def dr16_Fits:FT:=⟨⟨[.d Ka1,.d Ka14],[]⟩,⟨[.d .bool],[]⟩,cM [(2,(.j ⟨[],[4],⟨[.d .bool],[]⟩,[]⟩))]⟩
noncomputable def cr16_Fits:bR:=cn dr16_Fits oP
def dr16_in:FT:=⟨⟨La65,[]⟩,⟨[.d .bool],[]⟩,cM [(2,(.j ⟨[],[4],⟨[.d .bool],[]⟩,[]⟩))]⟩
noncomputable def cr16_in:bR:=cn dr16_in sq
def dr16_numbers:FT:=⟨⟨La93,[]⟩,⟨[.d .bool],[]⟩,cM [(6,(.j ⟨[0,1],[5],⟨[.d Ka0],[]⟩,[]⟩)),(15,(.j ⟨[0,1,5],[40],⟨[.d .bool],[]⟩,[]⟩))]⟩
noncomputable def cr16_numbers:bR:=cn dr16_numbers iT
def dr16_value:FT:=⟨⟨[.d Ka14,.d Ka5],[]⟩,⟨[.d .bool],[]⟩,cM [(21,(.j ⟨[],[4],⟨[.d .bool],[]⟩,[]⟩)),(24,(.j ⟨[7],[2,3,40],⟨La32,[.cells 85 [.d Ka14],.cells 42 [.d Ka5]]⟩,[]⟩)),(47,(.j ⟨[],[4],⟨[.d .bool],[]⟩,[]⟩))]⟩
noncomputable def cr16_value:bR:=cn dr16_value nu
def dr16_Step:FT:=⟨⟨[.d Ka1,.d Ka14,.d Ka5],[]⟩,⟨[.d Ka14,.d .bool],[]⟩,cM [(3,(.j ⟨[],[3,4,5,6,46],⟨La33,La28⟩,[]⟩)),(10,(.j ⟨[],[3,4,5,6],⟨La105,La28⟩,[]⟩)),(11,(.j ⟨[],[3,4,5,6,55],⟨La33,La28⟩,[]⟩)),(21,(.j ⟨[],[3,4,5,6,78],⟨La33,La28⟩,[]⟩)),(28,(.j ⟨[],[3,4,5,6,8],⟨La33,La28⟩,[]⟩)),(31,(.j ⟨[],[3,4,5,6,110],⟨La33,La28⟩,[]⟩)),(39,(.j ⟨[],[3,4,5,6,125],⟨La33,La28⟩,[]⟩)),(47,(.j ⟨[],[3,4,5,6,154],⟨La33,La28⟩,[]⟩)),(58,(.j ⟨[],[3,4,5,6,9,10],⟨La85,[.cells 31 [.d Ka1],.cells 85 [.d Ka14],.cells 42 [.d Ka5],.cells 85 La1,.cells 85 [.nil,.d Ka0,.nil,.nil,.row 5,.row 6,.row 7],.rows 2 true Ka0,.rows 2 true Ka0,.rows 3 true Ka0]⟩,[]⟩)),(66,(.j ⟨[],[5,6,9],⟨[.ptr 0 0,.ptr 1 0,.ptr 2 0],La89⟩,[]⟩)),(72,(.j ⟨[],[5,6,9],⟨[.ptr 0 0,.ptr 1 0,.ptr 2 0],La89⟩,[]⟩))]⟩
noncomputable def cr16_Step:bR:=cn dr16_Step lJ
def dr16_reads:FT:=⟨⟨[.d (.sl Ka5),.d Ka0,.d Ka0,.d (.sl Ka0)],[]⟩,⟨[.d .bool],[]⟩,cM [(6,(.j ⟨[0,1,2,3],[9],⟨[.d Ka0],[]⟩,[]⟩)),(23,(.j ⟨[0,1,2,3,9],[10,11,12],⟨[.d Ka0,.d .bool,.d Ka0],[]⟩,[]⟩)),(31,(.j ⟨[0,1,2,3,9,12],[10,11],⟨[.d Ka0,.d .bool],[]⟩,[]⟩)),(38,(.j ⟨[0,1,2,3,9,10,12],[11],⟨[.d .bool],[]⟩,[]⟩))]⟩
noncomputable def cr16_reads:bR:=cn dr16_reads lI
def dr16_Check:FT:=⟨⟨[.d Ka24],[]⟩,⟨La65,[]⟩,cM [(24,(.j ⟨[],[1,4,5],⟨La43,[.cells 34 [.d Ka24],.cells 85 [.d Ka14]]⟩,[]⟩)),(38,(.j ⟨[5],[1,4,7,63],⟨La42,[.cells 34 [.d Ka24],.cells 85 [.d Ka14],.cells 85 [.d Ka14]]⟩,[]⟩))]⟩
noncomputable def cr16_Check:bR:=cn dr16_Check nv
def dr09_Copy10:FT:=⟨⟨[.d Ka13],[]⟩,⟨[.agg [.agg La36,.row 3,.row 4,.csl 5 4 1]],[.rows 148 true Ka11,.rows 4 true .bool,.rows 150 true Ka7,.rows 2 true Ka0,.rows 2 true Ka0,.cells 170 [.d Ka0,.row 6,.row 7,.d Ka0],.rows 2 true Ka0,.rows 37 true (.sl Ka0)]⟩,cM [(8,(.u 2))]⟩
noncomputable def cr09_Copy10:bR:=cn dr09_Copy10 iE
def dr09_Step10:FT:=⟨⟨La62,[]⟩,⟨La58,[]⟩,cM [(27,(.s 5 0 0 1)),(37,(.j ⟨[],[3,4,5,6,7,9,14,15,16],⟨La12,La22⟩,[]⟩)),(38,(.j ⟨[16,77],[3,4,5,6,7,9,14,15,78],⟨La3,La22⟩,[]⟩)),(83,(.j ⟨[16],[3,4,5,6,7,9,14],⟨La23,[.cells 100 [.d Ka8],.cells 95 La108,.cells 144 [.d Ka17],.cells 95 La1,.cells 42 La0,.cells 42 [.d Ka5],.cells 170 La44,.rows 2 true Ka0,.rows 2 true Ka0,.cells 170 La44,.rows 2 true Ka0,.rows 37 true (.sl Ka0)]⟩,[]⟩)),(84,(.j ⟨[16],[3,4,5,6,7,9,14,15,154],⟨La3,La22⟩,[]⟩)),(95,(.j ⟨[],[4,5,6,7,9,14],⟨La29,[.cells 95 [.d (.sl Ka11),.d Ka0,.d Ka21,.d (.sl Ka7),.row 6,.row 7,.csl 8 4 1],.cells 144 [.d Ka17],.cells 95 La1,.cells 42 La0,.cells 42 [.d Ka5],.cells 170 [.d Ka2],.rows 2 true Ka0,.rows 2 true Ka0,.cells 170 [.d Ka2]]⟩,[]⟩)),(96,(.j ⟨[],[3,4,5,6,7,9,14,183],⟨La19,[.cells 100 [.d Ka8],.cells 95 La108,.cells 144 [.d Ka17],.cells 95 La1,.cells 42 La0,.cells 42 [.d Ka5],.cells 170 La39,.rows 2 true Ka0,.rows 2 true Ka0,.cells 170 La39]⟩,[]⟩)),(102,(.s 5 0 0 1)),(104,(.a [.pk 4 6 Ka2]))]⟩
noncomputable def cr09_Step10:bR:=cn dr09_Step10 dH
def dr09_Copy20:FT:=⟨⟨[.d Ka13],[]⟩,⟨[.agg [.agg La36,.row 3,.row 4,.csl 5 4 2]],[.rows 148 true Ka11,.rows 4 true .bool,.rows 150 true Ka7,.rows 2 true Ka0,.rows 2 true Ka0,.cells 170 [.d Ka0,.row 6,.row 7,.d Ka0,.d Ka2],.rows 2 true Ka0,.rows 37 true (.sl Ka0)]⟩,cM [(8,(.u 3))]⟩
noncomputable def cr09_Copy20:bR:=cn dr09_Copy20 iD
def dr09_Step20:FT:=⟨⟨La62,[]⟩,⟨La58,[]⟩,cM [(27,(.s 5 0 0 1)),(37,(.j ⟨[],[3,4,5,6,7,9,14,15,16],⟨La12,La16⟩,[]⟩)),(38,(.j ⟨[16,77],[3,4,5,6,7,9,14,15,78],⟨La3,La16⟩,[]⟩)),(83,(.j ⟨[16],[3,4,5,6,7,9,14],⟨La23,[.cells 100 [.d Ka8],.cells 95 La56,.cells 144 [.d Ka17],.cells 95 La1,.cells 42 La0,.cells 42 [.d Ka5],.cells 170 La44,.rows 2 true Ka0,.rows 2 true Ka0,.cells 170 [.d Ka0,.row 10,.row 11,.d Ka0,.d Ka2],.rows 2 true Ka0,.rows 37 true (.sl Ka0)]⟩,[]⟩)),(84,(.j ⟨[16],[3,4,5,6,7,9,14,15,154],⟨La3,La16⟩,[]⟩)),(95,(.j ⟨[],[4,5,6,7,9,14],⟨La29,La51⟩,[]⟩)),(96,(.j ⟨[],[3,4,5,6,7,9,14,183],⟨La19,[.cells 100 [.d Ka8],.cells 95 La56,.cells 144 [.d Ka17],.cells 95 La1,.cells 42 La0,.cells 42 [.d Ka5],.cells 170 La39,.rows 2 true Ka0,.rows 2 true Ka0,.cells 170 [.d Ka0,.d (.sl Ka0),.d Ka23,.d Ka0,.d Ka2]]⟩,[]⟩)),(102,(.s 5 0 0 1)),(104,(.a [.pk 4 6 Ka2]))]⟩
noncomputable def cr09_Step20:bR:=cn dr09_Step20 dP
def dr09_Copy21:FT:=⟨⟨[.d Ka13],[]⟩,⟨[.agg [.agg La36,.row 3,.row 4,.csl 5 4 2]],[.rows 148 true Ka11,.rows 4 true .bool,.rows 150 true Ka7,.rows 2 true Ka0,.rows 2 true Ka0,.cells 170 [.d Ka2,.d Ka0,.row 6,.row 7,.d Ka0],.rows 2 true Ka0,.rows 37 true (.sl Ka0)]⟩,cM [(8,(.u 3))]⟩
noncomputable def cr09_Copy21:bR:=cn dr09_Copy21 iC
def dr09_Step21:FT:=⟨⟨La62,[]⟩,⟨La58,[]⟩,cM [(27,(.s 5 0 1 1)),(37,(.j ⟨[],[3,4,5,6,7,9,14,15,16],⟨La12,La17⟩,[]⟩)),(38,(.j ⟨[16,77],[3,4,5,6,7,9,14,15,78],⟨La3,La17⟩,[]⟩)),(83,(.j ⟨[16],[3,4,5,6,7,9,14],⟨La23,[.cells 100 [.d Ka8],.cells 95 La56,.cells 144 [.d Ka17],.cells 95 La1,.cells 42 La0,.cells 42 [.d Ka5],.cells 170 La44,.rows 2 true Ka0,.rows 2 true Ka0,.cells 170 [.d Ka2,.d Ka0,.row 10,.row 11,.d Ka0],.rows 2 true Ka0,.rows 37 true (.sl Ka0)]⟩,[]⟩)),(84,(.j ⟨[16],[3,4,5,6,7,9,14,15,154],⟨La3,La17⟩,[]⟩)),(95,(.j ⟨[],[4,5,6,7,9,14],⟨La29,La51⟩,[]⟩)),(96,(.j ⟨[],[3,4,5,6,7,9,14,183],⟨La19,[.cells 100 [.d Ka8],.cells 95 La56,.cells 144 [.d Ka17],.cells 95 La1,.cells 42 La0,.cells 42 [.d Ka5],.cells 170 La39,.rows 2 true Ka0,.rows 2 true Ka0,.cells 170 [.d Ka2,.d Ka0,.d (.sl Ka0),.d Ka23,.d Ka0]]⟩,[]⟩)),(102,(.s 5 0 1 1)),(104,(.a [.pk 4 6 Ka2]))]⟩
noncomputable def cr09_Step21:bR:=cn dr09_Step21 dG
def dr09_Copy30:FT:=⟨⟨[.d Ka13],[]⟩,⟨La98,[.rows 148 true Ka11,.rows 4 true .bool,.rows 150 true Ka7,.rows 2 true Ka0,.rows 2 true Ka0,.cells 170 [.d Ka0,.row 6,.row 7,.d Ka0,.d Ka2,.d Ka2],.rows 2 true Ka0,.rows 37 true (.sl Ka0)]⟩,cM [(8,(.u 4))]⟩
noncomputable def cr09_Copy30:bR:=cn dr09_Copy30 iB
def dr09_Step30:FT:=⟨⟨La62,[]⟩,⟨La58,[]⟩,cM [(27,(.s 5 0 0 1)),(37,(.j ⟨[],[3,4,5,6,7,9,14,15,16],⟨La12,La13⟩,[]⟩)),(38,(.j ⟨[16,77],[3,4,5,6,7,9,14,15,78],⟨La3,La13⟩,[]⟩)),(83,(.j ⟨[16],[3,4,5,6,7,9,14],⟨La23,[.cells 100 [.d Ka8],.cells 95 La40,.cells 144 [.d Ka17],.cells 95 La1,.cells 42 La0,.cells 42 [.d Ka5],.cells 170 La44,.rows 2 true Ka0,.rows 2 true Ka0,.cells 170 [.d Ka0,.row 10,.row 11,.d Ka0,.d Ka2,.d Ka2],.rows 2 true Ka0,.rows 37 true (.sl Ka0)]⟩,[]⟩)),(84,(.j ⟨[16],[3,4,5,6,7,9,14,15,154],⟨La3,La13⟩,[]⟩)),(95,(.j ⟨[],[4,5,6,7,9,14],⟨La29,La30⟩,[]⟩)),(96,(.j ⟨[],[3,4,5,6,7,9,14,183],⟨La19,[.cells 100 [.d Ka8],.cells 95 La40,.cells 144 [.d Ka17],.cells 95 La1,.cells 42 La0,.cells 42 [.d Ka5],.cells 170 La39,.rows 2 true Ka0,.rows 2 true Ka0,.cells 170 [.d Ka0,.d (.sl Ka0),.d Ka23,.d Ka0,.d Ka2,.d Ka2]]⟩,[]⟩)),(102,(.s 5 0 0 1)),(104,(.a [.pk 4 6 Ka2]))]⟩
noncomputable def cr09_Step30:bR:=cn dr09_Step30 fg
def dr09_Copy31:FT:=⟨⟨[.d Ka13],[]⟩,⟨La98,[.rows 148 true Ka11,.rows 4 true .bool,.rows 150 true Ka7,.rows 2 true Ka0,.rows 2 true Ka0,.cells 170 [.d Ka2,.d Ka0,.row 6,.row 7,.d Ka0,.d Ka2],.rows 2 true Ka0,.rows 37 true (.sl Ka0)]⟩,cM [(8,(.u 4))]⟩
noncomputable def cr09_Copy31:bR:=cn dr09_Copy31 iA
def dr09_Step31:FT:=⟨⟨La62,[]⟩,⟨La58,[]⟩,cM [(27,(.s 5 0 1 1)),(37,(.j ⟨[],[3,4,5,6,7,9,14,15,16],⟨La12,La14⟩,[]⟩)),(38,(.j ⟨[16,77],[3,4,5,6,7,9,14,15,78],⟨La3,La14⟩,[]⟩)),(83,(.j ⟨[16],[3,4,5,6,7,9,14],⟨La23,[.cells 100 [.d Ka8],.cells 95 La40,.cells 144 [.d Ka17],.cells 95 La1,.cells 42 La0,.cells 42 [.d Ka5],.cells 170 La44,.rows 2 true Ka0,.rows 2 true Ka0,.cells 170 [.d Ka2,.d Ka0,.row 10,.row 11,.d Ka0,.d Ka2],.rows 2 true Ka0,.rows 37 true (.sl Ka0)]⟩,[]⟩)),(84,(.j ⟨[16],[3,4,5,6,7,9,14,15,154],⟨La3,La14⟩,[]⟩)),(95,(.j ⟨[],[4,5,6,7,9,14],⟨La29,La30⟩,[]⟩)),(96,(.j ⟨[],[3,4,5,6,7,9,14,183],⟨La19,[.cells 100 [.d Ka8],.cells 95 La40,.cells 144 [.d Ka17],.cells 95 La1,.cells 42 La0,.cells 42 [.d Ka5],.cells 170 La39,.rows 2 true Ka0,.rows 2 true Ka0,.cells 170 [.d Ka2,.d Ka0,.d (.sl Ka0),.d Ka23,.d Ka0,.d Ka2]]⟩,[]⟩)),(102,(.s 5 0 1 1)),(104,(.a [.pk 4 6 Ka2]))]⟩
noncomputable def cr09_Step31:bR:=cn dr09_Step31 eF
def dr09_Copy32:FT:=⟨⟨[.d Ka13],[]⟩,⟨La98,[.rows 148 true Ka11,.rows 4 true .bool,.rows 150 true Ka7,.rows 2 true Ka0,.rows 2 true Ka0,.cells 170 [.d Ka2,.d Ka2,.d Ka0,.row 6,.row 7,.d Ka0],.rows 2 true Ka0,.rows 37 true (.sl Ka0)]⟩,cM [(8,(.u 4))]⟩
noncomputable def cr09_Copy32:bR:=cn dr09_Copy32 iz
def dr09_Step32:FT:=⟨⟨La62,[]⟩,⟨La58,[]⟩,cM [(27,(.s 5 0 2 1)),(37,(.j ⟨[],[3,4,5,6,7,9,14,15,16],⟨La12,La15⟩,[]⟩)),(38,(.j ⟨[16,77],[3,4,5,6,7,9,14,15,78],⟨La3,La15⟩,[]⟩)),(83,(.j ⟨[16],[3,4,5,6,7,9,14],⟨La23,[.cells 100 [.d Ka8],.cells 95 La40,.cells 144 [.d Ka17],.cells 95 La1,.cells 42 La0,.cells 42 [.d Ka5],.cells 170 La44,.rows 2 true Ka0,.rows 2 true Ka0,.cells 170 [.d Ka2,.d Ka2,.d Ka0,.row 10,.row 11,.d Ka0],.rows 2 true Ka0,.rows 37 true (.sl Ka0)]⟩,[]⟩)),(84,(.j ⟨[16],[3,4,5,6,7,9,14,15,154],⟨La3,La15⟩,[]⟩)),(95,(.j ⟨[],[4,5,6,7,9,14],⟨La29,La30⟩,[]⟩)),(96,(.j ⟨[],[3,4,5,6,7,9,14,183],⟨La19,[.cells 100 [.d Ka8],.cells 95 La40,.cells 144 [.d Ka17],.cells 95 La1,.cells 42 La0,.cells 42 [.d Ka5],.cells 170 La39,.rows 2 true Ka0,.rows 2 true Ka0,.cells 170 [.d Ka2,.d Ka2,.d Ka0,.d (.sl Ka0),.d Ka23,.d Ka0]]⟩,[]⟩)),(102,(.s 5 0 2 1)),(104,(.a [.pk 4 6 Ka2]))]⟩
noncomputable def cr09_Step32:bR:=cn dr09_Step32 d8
def dr09_Copy40:FT:=⟨⟨[.d Ka13],[]⟩,⟨La76,[.rows 148 true Ka11,.rows 4 true .bool,.rows 150 true Ka7,.rows 2 true Ka0,.rows 2 true Ka0,.cells 170 [.d Ka0,.row 6,.row 7,.d Ka0,.d Ka2,.d Ka2,.d Ka2],.rows 2 true Ka0,.rows 37 true (.sl Ka0)]⟩,cM [(8,(.u 5))]⟩
noncomputable def cr09_Copy40:bR:=cn dr09_Copy40 iy
def dr09_Step40:FT:=⟨⟨La62,[]⟩,⟨La58,[]⟩,cM [(27,(.s 5 0 0 1)),(37,(.j ⟨[],[3,4,5,6,7,9,14,15,16],⟨La12,La24⟩,[]⟩)),(38,(.j ⟨[16,77],[3,4,5,6,7,9,14,15,78],⟨La3,La24⟩,[]⟩)),(83,(.j ⟨[16],[3,4,5,6,7,9,14],⟨La23,[.cells 100 [.d Ka8],.cells 95 La31,.cells 144 [.d Ka17],.cells 95 La1,.cells 42 La0,.cells 42 [.d Ka5],.cells 170 La44,.rows 2 true Ka0,.rows 2 true Ka0,.cells 170 [.d Ka0,.row 10,.row 11,.d Ka0,.d Ka2,.d Ka2,.d Ka2],.rows 2 true Ka0,.rows 37 true (.sl Ka0)]⟩,[]⟩)),(84,(.j ⟨[16],[3,4,5,6,7,9,14,15,154],⟨La3,La24⟩,[]⟩)),(95,(.j ⟨[],[4,5,6,7,9,14],⟨La29,La10⟩,[]⟩)),(96,(.j ⟨[],[3,4,5,6,7,9,14,183],⟨La19,[.cells 100 [.d Ka8],.cells 95 La31,.cells 144 [.d Ka17],.cells 95 La1,.cells 42 La0,.cells 42 [.d Ka5],.cells 170 La39,.rows 2 true Ka0,.rows 2 true Ka0,.cells 170 [.d Ka0,.d (.sl Ka0),.d Ka23,.d Ka0,.d Ka2,.d Ka2,.d Ka2]]⟩,[]⟩)),(102,(.s 5 0 0 1)),(104,(.a [.pk 4 6 Ka2]))]⟩
noncomputable def cr09_Step40:bR:=cn dr09_Step40 ir
def dr09_Copy41:FT:=⟨⟨[.d Ka13],[]⟩,⟨La76,[.rows 148 true Ka11,.rows 4 true .bool,.rows 150 true Ka7,.rows 2 true Ka0,.rows 2 true Ka0,.cells 170 [.d Ka2,.d Ka0,.row 6,.row 7,.d Ka0,.d Ka2,.d Ka2],.rows 2 true Ka0,.rows 37 true (.sl Ka0)]⟩,cM [(8,(.u 5))]⟩
noncomputable def cr09_Copy41:bR:=cn dr09_Copy41 iw
def dr09_Step41:FT:=⟨⟨La62,[]⟩,⟨La58,[]⟩,cM [(27,(.s 5 0 1 1)),(37,(.j ⟨[],[3,4,5,6,7,9,14,15,16],⟨La12,La25⟩,[]⟩)),(38,(.j ⟨[16,77],[3,4,5,6,7,9,14,15,78],⟨La3,La25⟩,[]⟩)),(83,(.j ⟨[16],[3,4,5,6,7,9,14],⟨La23,[.cells 100 [.d Ka8],.cells 95 La31,.cells 144 [.d Ka17],.cells 95 La1,.cells 42 La0,.cells 42 [.d Ka5],.cells 170 La44,.rows 2 true Ka0,.rows 2 true Ka0,.cells 170 [.d Ka2,.d Ka0,.row 10,.row 11,.d Ka0,.d Ka2,.d Ka2],.rows 2 true Ka0,.rows 37 true (.sl Ka0)]⟩,[]⟩)),(84,(.j ⟨[16],[3,4,5,6,7,9,14,15,154],⟨La3,La25⟩,[]⟩)),(95,(.j ⟨[],[4,5,6,7,9,14],⟨La29,La10⟩,[]⟩)),(96,(.j ⟨[],[3,4,5,6,7,9,14,183],⟨La19,[.cells 100 [.d Ka8],.cells 95 La31,.cells 144 [.d Ka17],.cells 95 La1,.cells 42 La0,.cells 42 [.d Ka5],.cells 170 La39,.rows 2 true Ka0,.rows 2 true Ka0,.cells 170 [.d Ka2,.d Ka0,.d (.sl Ka0),.d Ka23,.d Ka0,.d Ka2,.d Ka2]]⟩,[]⟩)),(102,(.s 5 0 1 1)),(104,(.a [.pk 4 6 Ka2]))]⟩
noncomputable def cr09_Step41:bR:=cn dr09_Step41 iq
def dr09_Copy42:FT:=⟨⟨[.d Ka13],[]⟩,⟨La76,[.rows 148 true Ka11,.rows 4 true .bool,.rows 150 true Ka7,.rows 2 true Ka0,.rows 2 true Ka0,.cells 170 [.d Ka2,.d Ka2,.d Ka0,.row 6,.row 7,.d Ka0,.d Ka2],.rows 2 true Ka0,.rows 37 true (.sl Ka0)]⟩,cM [(8,(.u 5))]⟩
noncomputable def cr09_Copy42:bR:=cn dr09_Copy42 iv
def dr09_Step42:FT:=⟨⟨La62,[]⟩,⟨La58,[]⟩,cM [(27,(.s 5 0 2 1)),(37,(.j ⟨[],[3,4,5,6,7,9,14,15,16],⟨La12,La26⟩,[]⟩)),(38,(.j ⟨[16,77],[3,4,5,6,7,9,14,15,78],⟨La3,La26⟩,[]⟩)),(83,(.j ⟨[16],[3,4,5,6,7,9,14],⟨La23,[.cells 100 [.d Ka8],.cells 95 La31,.cells 144 [.d Ka17],.cells 95 La1,.cells 42 La0,.cells 42 [.d Ka5],.cells 170 La44,.rows 2 true Ka0,.rows 2 true Ka0,.cells 170 [.d Ka2,.d Ka2,.d Ka0,.row 10,.row 11,.d Ka0,.d Ka2],.rows 2 true Ka0,.rows 37 true (.sl Ka0)]⟩,[]⟩)),(84,(.j ⟨[16],[3,4,5,6,7,9,14,15,154],⟨La3,La26⟩,[]⟩)),(95,(.j ⟨[],[4,5,6,7,9,14],⟨La29,La10⟩,[]⟩)),(96,(.j ⟨[],[3,4,5,6,7,9,14,183],⟨La19,[.cells 100 [.d Ka8],.cells 95 La31,.cells 144 [.d Ka17],.cells 95 La1,.cells 42 La0,.cells 42 [.d Ka5],.cells 170 La39,.rows 2 true Ka0,.rows 2 true Ka0,.cells 170 [.d Ka2,.d Ka2,.d Ka0,.d (.sl Ka0),.d Ka23,.d Ka0,.d Ka2]]⟩,[]⟩)),(102,(.s 5 0 2 1)),(104,(.a [.pk 4 6 Ka2]))]⟩
noncomputable def cr09_Step42:bR:=cn dr09_Step42 gK
def dr09_Copy43:FT:=⟨⟨[.d Ka13],[]⟩,⟨La76,[.rows 148 true Ka11,.rows 4 true .bool,.rows 150 true Ka7,.rows 2 true Ka0,.rows 2 true Ka0,.cells 170 [.d Ka2,.d Ka2,.d Ka2,.d Ka0,.row 6,.row 7,.d Ka0],.rows 2 true Ka0,.rows 37 true (.sl Ka0)]⟩,cM [(8,(.u 5))]⟩
noncomputable def cr09_Copy43:bR:=cn dr09_Copy43 iu
def dr09_Step43:FT:=⟨⟨La62,[]⟩,⟨La58,[]⟩,cM [(27,(.s 5 0 3 1)),(37,(.j ⟨[],[3,4,5,6,7,9,14,15,16],⟨La12,La27⟩,[]⟩)),(38,(.j ⟨[16,77],[3,4,5,6,7,9,14,15,78],⟨La3,La27⟩,[]⟩)),(83,(.j ⟨[16],[3,4,5,6,7,9,14],⟨La23,[.cells 100 [.d Ka8],.cells 95 La31,.cells 144 [.d Ka17],.cells 95 La1,.cells 42 La0,.cells 42 [.d Ka5],.cells 170 La44,.rows 2 true Ka0,.rows 2 true Ka0,.cells 170 [.d Ka2,.d Ka2,.d Ka2,.d Ka0,.row 10,.row 11,.d Ka0],.rows 2 true Ka0,.rows 37 true (.sl Ka0)]⟩,[]⟩)),(84,(.j ⟨[16],[3,4,5,6,7,9,14,15,154],⟨La3,La27⟩,[]⟩)),(95,(.j ⟨[],[4,5,6,7,9,14],⟨La29,La10⟩,[]⟩)),(96,(.j ⟨[],[3,4,5,6,7,9,14,183],⟨La19,[.cells 100 [.d Ka8],.cells 95 La31,.cells 144 [.d Ka17],.cells 95 La1,.cells 42 La0,.cells 42 [.d Ka5],.cells 170 La39,.rows 2 true Ka0,.rows 2 true Ka0,.cells 170 [.d Ka2,.d Ka2,.d Ka2,.d Ka0,.d (.sl Ka0),.d Ka23,.d Ka0]]⟩,[]⟩)),(102,(.s 5 0 3 1)),(104,(.a [.pk 4 6 Ka2]))]⟩
noncomputable def cr09_Step43:bR:=cn dr09_Step43 fX
noncomputable def cr09_Step:bR:=cn dr09_Step40 qF
def dr09_from:FT:=⟨⟨[.d Ka8,.d Ka13,.nil,.d (.sl Ka17)],[]⟩,⟨[.d (.sl Ka5),.d Ka13],[]⟩,cM [(1,(.a [.nil 2 42 Ka5])),(6,(.j ⟨[3],[2,4,5,9,10],⟨[.row 0,.ptr 1 0,.ptr 2 0,.ptr 3 0,.d Ka0],La69⟩,[]⟩)),(8,(.j ⟨[3,10],[2,4,5,9,22],⟨[.row 0,.ptr 1 0,.ptr 2 0,.ptr 3 0,.d .bool],La69⟩,[]⟩)),(14,(.j ⟨[3,10],[2,4,5,9],⟨[.row 0,.ptr 1 0,.ptr 2 0,.ptr 3 0],La69⟩,[]⟩))]⟩
noncomputable def cr09_from:bR:=cn dr09_from oR
def dr09_Run:FT:=⟨⟨[.d Ka8,.d (.sl Ka17)],[]⟩,⟨[.d Ka24,.d Ka13],[]⟩,.leaf⟩
noncomputable def cr09_Run:bR:=cn dr09_Run qf
def dmade_Tape_Next:FT:=⟨⟨La54,La99⟩,⟨[.d Ka0],La99⟩,cM [(3,(.j ⟨[1],[0,18],⟨La20,La96⟩,[]⟩))]⟩
noncomputable def cmade_Tape_Next:bR:=cn dmade_Tape_Next bl
def dmade_num:FT:=⟨⟨[.d Ka0],[]⟩,⟨[.d .ex],[]⟩,.leaf⟩
noncomputable def cmade_num:bR:=cn dmade_num lX
def dmade_name:FT:=⟨⟨[.d .str],[]⟩,⟨[.d .ex],[]⟩,.leaf⟩
noncomputable def cmade_name:bR:=cn dmade_name j9
def dmade_binary:FT:=⟨⟨[.d Ka0,.d .ex,.d .ex],[]⟩,⟨[.d .ex],[]⟩,.leaf⟩
noncomputable def cmade_binary:bR:=cn dmade_binary iY
def dmade_assign:FT:=⟨⟨[.d .str,.d .ex],[]⟩,⟨[.d .sm],[]⟩,.leaf⟩
noncomputable def cmade_assign:bR:=cn dmade_assign ff
def dmade_decls:FT:=⟨⟨[],[]⟩,⟨[.d (.sl Ka9)],[]⟩,.leaf⟩
noncomputable def cmade_decls:bR:=cn dmade_decls mC
def dmade_Choices:FT:=⟨⟨[.d Ka22],[]⟩,⟨[.d (.sl Ka17)],[]⟩,cM [(8,(.j ⟨[0],[3,4],⟨[.row 0,.d Ka0],[.rows 144 true Ka17]⟩,[.nil 3 144 Ka17]⟩))]⟩
noncomputable def cmade_Choices:bR:=cn dmade_Choices jH
def dmade_maker_expr:FT:=⟨⟨La54,La11⟩,⟨[.d .ex],La11⟩,cM [(8,(.j ⟨[1,6],[0,4,5,14],⟨[.ptr 0 0,.ptr 3 0,.row 4,.d .bool],[.cells 187 La109,.cells 76 [.d Ka15],.rowsP 9 .str,.cells 191 [.d Ka0,.d Ka0,.d .str,.nil],.rows 9 false .str]⟩,[]⟩))]⟩
noncomputable def cmade_maker_expr:bR:=cn dmade_maker_expr dc
noncomputable def tP (n:Nat):bR:=cn dmade_maker_expr (fmade_maker_expr n)
def dmade_maker_holds:FT:=⟨⟨[.ptr 0 0,.d .str],La11⟩,⟨[.d .bool],La11⟩,.leaf⟩
noncomputable def cmade_maker_holds:bR:=cn dmade_maker_holds c4
def dmade_maker_stmts:FT:=⟨⟨La112,La11⟩,⟨[.row 4],[.cells 187 La71,.cells 76 La57,.gone,.rowsP 9 .str,.rows 193 true .sm]⟩,cM [(1,(.a [.ren 0 7])),(8,(.j ⟨[1,2],[0,7,8],⟨[.ptr 0 0,.row 3,.d Ka0],La68⟩,[.nil 7 193 .sm]⟩)),(10,(.j ⟨[1,2,8],[0,7,22],⟨[.ptr 0 0,.row 3,.d .bool],La68⟩,[]⟩)),(21,(.a [.nil 6 193 .sm]))]⟩
noncomputable def cmade_maker_stmts:bR:=cn dmade_maker_stmts kN
noncomputable def sA (n:Nat):bR:=cn dmade_maker_stmts (fmade_maker_stmts n)
def dmade_maker_stmt:FT:=⟨⟨La54,La11⟩,⟨[.d .sm],[.cells 187 La71,.cells 76 La57,.gone,.rowsP 9 .str]⟩,cM [(1,(.a [.ren 0 7])),(6,(.j ⟨[1,5],[0,4,6],⟨La48,La2⟩,[]⟩)),(28,(.j ⟨[1,5,6],[0,4,74],⟨La48,La2⟩,[]⟩)),(33,(.j ⟨[],[4,7],⟨[.ptr 3 0,.ptr 4 0],[.cells 187 [.ptr 1 0,.d Ka0,.d Ka0,.d .bool,.d .bool,.d .bool,.d .bool,.row 5],.cells 76 [.d Ka15],.gone,.cells 193 La100,.cells 193 [.d Ka0,.d Ka0,.d .str,.d .str,.nil,.d Ka0,.d Ka0,.d .str,.d (.sl .ex),.row 6,.row 7],.rowsP 9 .str,.rows 193 true .sm,.rows 193 true .sm]⟩,[.cel 7 10 193 .sm]⟩)),(42,(.j ⟨[1,5,6],[0,4,100],⟨La48,La2⟩,[]⟩)),(56,(.j ⟨[1,5,6],[0,4,133],⟨La48,La2⟩,[]⟩)),(64,(.j ⟨[1,5,6],[0,4,165],⟨La48,La2⟩,[]⟩)),(70,(.j ⟨[1,5,6],[0,4,188],⟨La48,La2⟩,[]⟩)),(82,(.j ⟨[1,5,6],[0,4,210],⟨La48,La2⟩,[]⟩)),(94,(.j ⟨[5,6],[0,4,235],⟨La48,La2⟩,[]⟩)),(100,(.j ⟨[5],[0,4,258],⟨La48,La2⟩,[]⟩)),(106,(.j ⟨[5],[0,4,278],⟨La48,La2⟩,[]⟩)),(114,(.j ⟨[],[0,4,308],⟨La48,La2⟩,[]⟩))]⟩
noncomputable def tO (n:Nat):bR:=cn dmade_maker_stmt (fmade_maker_stmt n)
def dmade_maker_block:FT:=⟨⟨[.ptr 0 0,.d .str,.d Ka0],La11⟩,⟨[.d (.sl .sm)],[.cells 187 La71,.cells 76 La57,.gone,.rowsP 9 .str]⟩,.leaf⟩
noncomputable def sB (n:Nat):bR:=cn dmade_maker_block (fmade_maker_block n)
def dmade_Program:FT:=⟨⟨[.d Ka22],[]⟩,⟨[.d Ka6],[]⟩,cM [(5,(.a [.cel 3 7 9 .str])),(14,(.j ⟨[5],[2,3,4,6,7],⟨[.ptr 0 0,.ptr 1 0,.ptr 2 0,.row 3,.d Ka0],[.cells 141 [.nil,.nil],.cells 187 [.ptr 4 0,.d Ka0,.d Ka0,.d .bool,.d .bool,.d .bool,.d .bool,.row 5],.cells 141 [.d (.sl Ka9),.row 6],.rows 9 false .str,.cells 76 [.d Ka15],.rowsP 9 .str,.rows 177 true Ka12]⟩,[.cel 4 1 177 Ka12]⟩)),(27,(.j ⟨[5,7],[2,3,4,6,8],⟨[.ptr 0 0,.ptr 1 0,.ptr 2 0,.row 3,.ptr 4 0],La7⟩,[.cel 8 3 193 .sm]⟩)),(34,(.j ⟨[5,7],[2,3,4,6,8,9],⟨[.ptr 0 0,.ptr 1 0,.ptr 2 0,.row 3,.ptr 4 0,.d Ka0],La7⟩,[.cel 8 3 193 .sm]⟩)),(48,(.j ⟨[5,7],[2,3,4,6,8],⟨[.ptr 0 0,.ptr 1 0,.ptr 2 0,.row 3,.ptr 4 0],La7⟩,[]⟩)),(49,(.j ⟨[5,7],[2,3,4,6,8,79],⟨[.ptr 0 0,.ptr 1 0,.ptr 2 0,.row 3,.ptr 4 0,.d .bool],La7⟩,[]⟩))]⟩
noncomputable def cmade_Program:bR:=cn dmade_Program jG
def dmade_Code:FT:=⟨⟨[.d Ka22],[]⟩,⟨[.d Ka8],[]⟩,.leaf⟩
noncomputable def cmade_Code:bR:=cn dmade_Code py
def dmade_Trace:FT:=⟨⟨[.d Ka22,.d Ka22],[]⟩,⟨[.d Ka24],[]⟩,.leaf⟩
noncomputable def cmade_Trace:bR:=cn dmade_Trace mD
def dscene_World:FT:=⟨⟨[],[]⟩,⟨[.d Ka1],[]⟩,cM [(8,(.j ⟨[21],[0,1,22],⟨La43,La53⟩,[.cel 1 5 120 Ka16]⟩)),(22,(.j ⟨[2,21,22],[0,1,3],⟨La43,La53⟩,[]⟩))]⟩
noncomputable def cscene_World:bR:=cn dscene_World iR
def dscene_waiting:FT:=⟨⟨[.d Ka14],[]⟩,⟨La104,[]⟩,cM [(8,(.j ⟨[8,9],[3,10],⟨[.row 0,.d Ka0],[.rows 3 true Ka0]⟩,[.nil 3 3 Ka0]⟩)),(16,(.j ⟨[8,9,10],[3],⟨[.row 0],[.rows 3 true Ka0]⟩,[]⟩))]⟩
noncomputable def cscene_waiting:bR:=cn dscene_waiting gC
def dscene_kinds:FT:=⟨⟨[],[]⟩,⟨La104,[]⟩,.leaf⟩
noncomputable def cscene_kinds:bR:=cn dscene_kinds mR
def dscene_object:FT:=⟨⟨La112,La99⟩,⟨[.d Ka0],La99⟩,cM [(6,(.j ⟨[2,7],[0,8],⟨La20,La96⟩,[]⟩)),(16,(.j ⟨[2,7],[0,16],⟨La20,La96⟩,[]⟩)),(26,(.j ⟨[2,7],[0,21],⟨La20,La96⟩,[]⟩)),(44,(.j ⟨[2,7],[0,26],⟨La20,La96⟩,[]⟩)),(70,(.j ⟨[2],[0,33],⟨La20,La96⟩,[]⟩))]⟩
noncomputable def cscene_object:bR:=cn dscene_object jy
def dscene_value:FT:=⟨⟨[.ptr 0 0,.d Ka14,.d Ka0,.d Ka0],La99⟩,⟨[.d Ka0],La99⟩,cM [(18,(.j ⟨[10],[0,5,24],⟨La32,[.cells 76 [.d Ka15],.cells 85 [.d Ka14]]⟩,[]⟩))]⟩
noncomputable def cscene_value:bR:=cn dscene_value kE
def dscene_some:FT:=⟨⟨[.ptr 0 0,.row 1],[.cells 76 La57,.rows 3 true Ka0]⟩,⟨La104,[.cells 76 La57,.rows 3 true Ka0]⟩,cM [(8,(.j ⟨[9],[0,1,5,8,10],⟨[.ptr 0 0,.row 1,.row 2,.row 1,.d Ka0],La87⟩,[.nil 5 3 Ka0]⟩)),(16,(.j ⟨[9,10],[0,1,5,8],⟨[.ptr 0 0,.row 1,.row 2,.row 1],La87⟩,[]⟩)),(19,(.j ⟨[7,9,10],[0,1,5,8,24],⟨[.ptr 0 0,.row 1,.row 2,.row 1,.d .bool],La87⟩,[]⟩))]⟩
noncomputable def cscene_some:bR:=cn dscene_some dO
def dscene_event:FT:=⟨⟨[.ptr 0 0,.d Ka14,.d Ka1,.csl 1 1 4],La90⟩,⟨[.d Ka5],La90⟩,cM [(8,(.j ⟨[9],[0,3,5,6,8,11],⟨[.ptr 0 0,.csl 1 1 4,.ptr 6 0,.ptr 7 0,.ptr 8 0,.ptr 9 0],La59⟩,[]⟩)),(9,(.j ⟨[9],[0,3,5,6,8,11,36],⟨[.ptr 0 0,.csl 1 1 4,.ptr 6 0,.ptr 7 0,.ptr 8 0,.ptr 9 0,.d .bool],La59⟩,[]⟩)),(18,(.j ⟨[9],[0,3,8,11],⟨[.ptr 0 0,.csl 1 1 4,.ptr 6 0,.ptr 7 0],La55⟩,[]⟩)),(19,(.j ⟨[9],[0,3,8,11,74],⟨[.ptr 0 0,.csl 1 1 4,.ptr 6 0,.ptr 7 0,.d .bool],[.cells 76 [.d Ka15],.cells 37 La72,.rows 3 true Ka0,.rows 3 true Ka0,.rows 3 true Ka0,.rows 3 true Ka0,.cells 42 La0,.cells 42 La0]⟩,[]⟩)),(22,(.s 9 0 0 4)),(24,(.j ⟨[],[8,11],⟨[.ptr 6 0,.ptr 7 0],[.cells 76 [.d Ka15],.cells 37 La72,.rows 3 true Ka0,.rows 3 true Ka0,.rows 3 true Ka0,.rows 3 true Ka0,.cells 42 La0,.cells 42 [.d Ka0,.d Ka0,.d Ka0,.d Ka0,.d Ka0,.d (.sl Ka0),.d (.sl Ka0)]]⟩,[]⟩)),(25,(.j ⟨[9],[0,3,8,11,89],⟨[.ptr 0 0,.csl 1 1 4,.ptr 6 0,.ptr 7 0,.d .bool],La55⟩,[]⟩)),(28,(.s 9 0 0 4))]⟩
noncomputable def cscene_event:bR:=cn dscene_event kF
def dscene_play:FT:=⟨⟨[.ptr 0 0,.d Ka14,.d Ka1,.d Ka0,.d .bool],La99⟩,⟨[.d (.sl Ka5)],La99⟩,cM [(8,(.a [.cel 12 0 3 Ka0,.cel 12 1 3 Ka0,.cel 12 2 3 Ka0,.cel 12 3 3 Ka0])),(9,(.j ⟨[3,11],[0,6,7,12],⟨[.ptr 0 0,.ptr 1 0,.ptr 2 0,.csl 3 1 4],La41⟩,[]⟩)),(10,(.u 5)),(18,(.j ⟨[3,4,11,22,23],[0,6,7,12],⟨[.ptr 0 0,.ptr 1 0,.ptr 2 0,.csl 3 1 4],La41⟩,[]⟩)),(21,(.j ⟨[3,4,11,13,22,23],[0,6,7,12,39],⟨[.ptr 0 0,.ptr 1 0,.ptr 2 0,.csl 3 1 4,.d .bool],La41⟩,[]⟩)),(29,(.j ⟨[3],[0,6,7,11,12],⟨[.ptr 0 0,.ptr 1 0,.ptr 2 0,.row 3,.csl 4 1 4],La37⟩,[.nil 11 42 Ka5]⟩)),(31,(.j ⟨[3],[0,6,7,11,12,65],⟨[.ptr 0 0,.ptr 1 0,.ptr 2 0,.row 3,.csl 4 1 4,.d .bool],La37⟩,[]⟩)),(36,(.j ⟨[3],[0,6,7,11,12],⟨[.ptr 0 0,.ptr 1 0,.ptr 2 0,.row 3,.csl 4 1 4],La37⟩,[]⟩)),(47,(.j ⟨[3],[0,6,7,11,12,14,15],⟨[.ptr 0 0,.ptr 1 0,.ptr 2 0,.row 3,.csl 4 1 4,.ptr 5 0,.ptr 6 0],La52⟩,[]⟩)),(48,(.j ⟨[3],[0,6,7,11,12,14,15,87],⟨[.ptr 0 0,.ptr 1 0,.ptr 2 0,.row 3,.csl 4 1 4,.ptr 5 0,.ptr 6 0,.d .bool],La52⟩,[]⟩)),(51,(.s 14 0 0 4))]⟩
noncomputable def cscene_play:bR:=cn dscene_play mr
def dscene_Trace:FT:=⟨⟨La57,[]⟩,⟨[.d Ka24],[]⟩,cM [(2,(.j ⟨[1],[0,4],⟨[.d Ka22,.ptr 0 0],[.cells 34 La66]⟩,[]⟩)),(22,(.j ⟨[1,9],[4,5,6,7,8,10],⟨[.ptr 0 0,.ptr 1 0,.ptr 2 0,.ptr 3 0,.row 4,.d Ka0],[.cells 34 La66,.cells 76 [.d Ka15],.cells 34 [.d (.sl Ka10),.d (.sl Ka19),.d (.sl Ka20),.d (.sl .str),.d (.sl .str),.d (.sl Ka16),.nil],.cells 85 [.d Ka14],.rows 42 false Ka5]⟩,[]⟩)),(37,(.j ⟨[1,48],[4,5,6,7,47,49],⟨[.ptr 0 0,.ptr 1 0,.ptr 2 0,.ptr 3 0,.row 4,.d Ka0],La49⟩,[.cel 6 6 42 Ka5]⟩)),(45,(.j ⟨[1,48,49],[4,5,6,7,47],⟨[.ptr 0 0,.ptr 1 0,.ptr 2 0,.ptr 3 0,.row 4],La49⟩,[]⟩))]⟩
noncomputable def cscene_Trace:bR:=cn dscene_Trace kG
def dscene_Run_Trace:FT:=⟨⟨[.d (.st (.pr Ka22 (.pr Ka22 Ka22))),.d Ka0],[]⟩,⟨[.d Ka24],[]⟩,.leaf⟩
noncomputable def cscene_Run_Trace:bR:=cn dscene_Run_Trace gD
theorem hr01_Keywords:aD Pg 133 cr01_Keywords:=mk dr01_Keywords jD an bH
theorem hr01_IsKeyword:aD Pg 104 cr01_IsKeyword:=mk dr01_IsKeyword iF (ac hr01_Keywords an) bH
theorem hr01_Letter:aD Pg 103 cr01_Letter:=mk dr01_Letter kq an bH
theorem hr01_Digit:aD Pg 134 cr01_Digit:=mk dr01_Digit px an bH
theorem hr01_inner:aD Pg 105 cr01_inner:=mk dr01_inner nG (ac hr01_Letter (ac hr01_Digit an)) bH
theorem hr01_IsName:aD Pg 84 cr01_IsName:=mk dr01_IsName dQ (ac hr01_Letter (ac hr01_IsKeyword (ac hr01_inner an))) bH
theorem hr05_truth:aD Pg 189 cr05_truth:=mk dr05_truth dE an bH
theorem hr05_Unary:aD Pg 171 cr05_Unary:=mk dr05_Unary nE (ac hr05_truth an) bH
theorem hr05_Binary:aD Pg 173 cr05_Binary:=mk dr05_Binary mz (ac hr05_truth an) bH
theorem hr05_Index:aD Pg 170 cr05_Index:=mk dr05_Index lQ an bH
theorem hr02_Operands:aD Pg 207 cr02_Operands:=mk dr02_Operands jC an bH
theorem hhr02_ShapedExpr:∀ n:Nat,aD Pg 190 (uI n)
 |0=>zB dr02_ShapedExpr
 |n+1=>mk dr02_ShapedExpr (jS (fr02_ShapedExpr n)) (ac hr01_IsName (ac (hhr02_ShapedExpr n) (ac hr02_Operands an))) bH
theorem hr02_ShapedExpr:aD Pg 190 cr02_ShapedExpr:=(hhr02_ShapedExpr fuel)
theorem hr02_blank:aD Pg 191 cr02_blank:=mk dr02_blank lU an bH
theorem hhr02_ShapedStmt:∀ n:Nat,aD Pg 174 (uH n)∧aD Pg 143 (tN n)
 |0=>⟨zB dr02_ShapedStmt,zB dr02_ShapedStmts⟩
 |n+1=>⟨mk dr02_ShapedStmt (jR (fr02_ShapedStmt n) (fr02_ShapedStmts n)) (ac hr01_IsName (ac (hhr02_ShapedStmt n).2 (ac hr02_ShapedExpr (ac hr02_blank an)))) bH,mk dr02_ShapedStmts (jc (fr02_ShapedStmt n) (fr02_ShapedStmts n)) (ac (hhr02_ShapedStmt n).1 an) bH⟩
theorem hr02_ShapedStmts:aD Pg 143 cr02_ShapedStmts:=(hhr02_ShapedStmt fuel).2
theorem hr02_shapedDecl:aD Pg 142 cr02_shapedDecl:=mk dr02_shapedDecl hY (ac hr01_IsName an) bH
theorem hr02_Shaped:aD Pg 112 cr02_Shaped:=mk dr02_Shaped mB (ac hr01_IsName (ac hr02_shapedDecl (ac hr02_ShapedStmts an))) bH
theorem hr04_At:aD Pg 85 cr04_At:=mk dr04_At fH an bH
theorem hr04_DeclAt:aD Pg 144 cr04_DeclAt:=mk dr04_DeclAt eH an bH
theorem hr04_ThreadAt:aD Pg 145 cr04_ThreadAt:=mk dr04_ThreadAt eD an bH
theorem hr04_KindOf:aD Pg 192 cr04_KindOf:=mk dr04_KindOf mA (ac hr04_At (ac hr04_DeclAt (ac hr04_ThreadAt an))) bH
theorem hr04_want:aD Pg 177 cr04_want:=mk dr04_want dZ (ac hr04_KindOf an) bH
theorem hhr04_Nodes:∀ n:Nat,aD Pg 193 (Bf n)
 |0=>zB dr04_Nodes
 |n+1=>mk dr04_Nodes (pF (fr04_Nodes n)) (ac (hhr04_Nodes n) an) bH
theorem hr04_Nodes:aD Pg 193 cr04_Nodes:=(hhr04_Nodes fuel)
theorem hhr04_names:∀ n:Nat,aD Pg 194 (Be n)
 |0=>zB dr04_names
 |n+1=>mk dr04_names (pE (fr04_names n)) (ac hr04_want (ac (hhr04_names n) an)) bH
theorem hr04_names:aD Pg 194 cr04_names:=(hhr04_names fuel)
theorem hr04_Expr:aD Pg 178 cr04_Expr:=mk dr04_Expr iW (ac hr02_ShapedExpr (ac hr04_Nodes (ac hr04_names an))) bH
theorem hr04_nesting:aD Pg 179 cr04_nesting:=mk dr04_nesting cC an bH
theorem hr04_or:aD Pg 176 cr04_or:=mk dr04_or fe an bH
theorem hr04_walk_inside:aD Pg 175 cr04_walk_inside:=mk dr04_walk_inside cW an bH
theorem hr04_walk_one:aD Pg 146 cr04_walk_one:=mk dr04_walk_one jB (ac hr04_At (ac hr04_DeclAt (ac hr04_ThreadAt (ac hr04_walk_inside (ac hr04_or (ac hr04_want (ac hr04_Expr (ac hr04_nesting an)))))))) bH
theorem hhr04_walk_all:∀ n:Nat,aD Pg 116 (xe n)
 |0=>zB dr04_walk_all
 |n+1=>mk dr04_walk_all (ml (fr04_walk_all n)) (ac (hhr04_walk_all n) (ac hr04_walk_one an)) bH
theorem hr04_walk_all:aD Pg 116 cr04_walk_all:=(hhr04_walk_all fuel)
theorem hhr04_Count:∀ n:Nat,aD Pg 115 (Bg n)
 |0=>zB dr04_Count
 |n+1=>mk dr04_Count (pG (fr04_Count n)) (ac (hhr04_Count n) an) bH
theorem hr04_Count:aD Pg 115 cr04_Count:=(hhr04_Count fuel)
theorem hr04_decls:aD Pg 113 cr04_decls:=mk dr04_decls nF (ac hr04_DeclAt an) bH
theorem hr04_threads:aD Pg 114 cr04_threads:=mk dr04_threads kM (ac hr04_At (ac hr04_DeclAt (ac hr04_ThreadAt an))) bH
theorem hr04_Program:aD Pg 88 cr04_Program:=mk dr04_Program fZ (ac hr02_Shaped (ac hr04_decls (ac hr04_threads (ac hr04_Count (ac hr04_walk_all an))))) bH
theorem hhr06_sites:∀ n:Nat,aD Pg 118 (Bd n)
 |0=>zB dr06_sites
 |n+1=>mk dr06_sites (pD (fr06_sites n)) (ac (hhr06_sites n) an) bH
theorem hr06_sites:aD Pg 118 cr06_sites:=(hhr06_sites fuel)
theorem hr06_lockAt:aD Pg 117 cr06_lockAt:=mk dr06_lockAt gL an bH
theorem hr06_CellAt:aD Pg 180 cr06_CellAt:=mk dr06_CellAt gM an bH
theorem hr06_World:aD Pg 89 cr06_World:=mk dr06_World nD (ac hr04_Program (ac hr06_lockAt (ac hr06_sites an))) bH
theorem hr06_names:aD Pg 83 cr06_names:=mk dr06_names nA an bH
theorem hr06_ValidWorld:aD Pg 62 cr06_ValidWorld:=mk dr06_ValidWorld fQ (ac hr06_names (ac hr01_IsName (ac hr04_At an))) bH
theorem hr06_Registers:aD Pg 92 cr06_Registers:=mk dr06_Registers fA an bH
theorem hr06_Silent:aD Pg 136 cr06_Silent:=mk dr06_Silent ko an bH
theorem hr06_lands:aD Pg 107 cr06_lands:=mk dr06_lands nB (ac hr06_Silent an) bH
theorem hr06_in:aD Pg 108 cr06_in:=mk dr06_in fd an bH
theorem hr06_array:aD Pg 135 cr06_array:=mk dr06_array lP (ac hr06_in an) bH
theorem hr06_objects:aD Pg 106 cr06_objects:=mk dr06_objects kK (ac hr06_in (ac hr06_array an)) bH
theorem hr06_validThread:aD Pg 86 cr06_validThread:=mk dr06_validThread gF (ac hr06_Registers (ac hr06_objects (ac hr06_lands (ac hr06_in an)))) bH
theorem hr06_Valid:aD Pg 64 cr06_Valid:=mk dr06_Valid j8 (ac hr06_ValidWorld (ac hr06_validThread an)) bH
theorem hr06_gen_put:aD Pg 91 cr06_gen_put:=mk dr06_gen_put bX an bH
theorem hhr06_gen_value:∀ n:Nat,aD Pg 151 (vY n)
 |0=>zB dr06_gen_value
 |n+1=>mk dr06_gen_value (kS (fr06_gen_value n)) (ac hr04_At (ac hr06_gen_put (ac (hhr06_gen_value n) (ac hr06_CellAt an)))) bH
theorem hr06_gen_value:aD Pg 151 cr06_gen_value:=(hhr06_gen_value fuel)
theorem hr06_gen_assign:aD Pg 147 cr06_gen_assign:=mk dr06_gen_assign hX (ac hr04_At (ac hr06_gen_put (ac hr06_gen_value (ac hr06_CellAt an)))) bH
theorem hr06_gen_cond:aD Pg 150 cr06_gen_cond:=mk dr06_gen_cond fh an bH
theorem hhr06_gen_stmts:∀ n:Nat,aD Pg 90 (vZ n)∧aD Pg 119 (xd n)∧aD Pg 148 (sx n)∧aD Pg 149 (uG n)
 |0=>⟨zB dr06_gen_stmts,zB dr06_gen_stmt,zB dr06_gen_branches,zB dr06_gen_around⟩
 |n+1=>⟨mk dr06_gen_stmts (kT (fr06_gen_stmts n) (fr06_gen_stmt n) (fr06_gen_branches n) (fr06_gen_around n)) (ac (hhr06_gen_stmts n).2.1 an) bH,mk dr06_gen_stmt (mj (fr06_gen_stmts n) (fr06_gen_stmt n) (fr06_gen_branches n) (fr06_gen_around n)) (ac hr04_At (ac hr06_gen_put (ac hr06_lockAt (ac hr06_gen_assign (ac (hhr06_gen_stmts n).2.2.1 (ac (hhr06_gen_stmts n).2.2.2 (ac hr06_gen_cond (ac hr06_gen_value an)))))))) bH,mk dr06_gen_branches (ik (fr06_gen_stmts n) (fr06_gen_stmt n) (fr06_gen_branches n) (fr06_gen_around n)) (ac (hhr06_gen_stmts n).1 (ac hr06_gen_put (ac hr06_gen_value an))) bH,mk dr06_gen_around (jQ (fr06_gen_stmts n) (fr06_gen_stmt n) (fr06_gen_branches n) (fr06_gen_around n)) (ac (hhr06_gen_stmts n).1 (ac hr06_gen_put an)) bH⟩
theorem hr06_gen_stmts:aD Pg 90 cr06_gen_stmts:=(hhr06_gen_stmts fuel).1
theorem hr06_Program:aD Pg 67 cr06_Program:=mk dr06_Program kL (ac hr04_Program (ac hr06_World (ac hr06_gen_stmts (ac hr06_gen_put (ac hr06_Registers an))))) bH
theorem hr07_Has:aD Pg 74 cr07_Has:=mk dr07_Has kJ an bH
theorem hr07_Put:aD Pg 101 cr07_Put:=mk dr07_Put oV an bH
theorem hr07_Union:aD Pg 77 cr07_Union:=mk dr07_Union lO (ac hr07_Put an) bH
theorem hr07_operator:aD Pg 172 cr07_operator:=mk dr07_operator ig an bH
theorem hr07_Copy:aD Pg 140 cr07_Copy:=mk dr07_Copy bJ an bH
theorem hr07_step:aD Pg 141 cr07_step:=mk dr07_step oU (ac hr07_Union (ac hr06_Registers (ac hr05_Unary (ac hr07_operator (ac hr05_Binary an))))) bH
theorem hr07_Settle:aD Pg 111 cr07_Settle:=mk dr07_Settle dh (ac hr06_Silent (ac hr07_Copy (ac hr07_step an))) bH
theorem hr08_Start:aD Pg 54 cr08_Start:=mk dr08_Start lK an bH
theorem hr08_Fits:aD Pg 71 cr08_Fits:=mk dr08_Fits lM an bH
theorem hr08_in:aD Pg 72 cr08_in:=mk dr08_in kI an bH
theorem hr08_named:aD Pg 73 cr08_named:=mk dr08_named nz (ac hr08_in an) bH
theorem hr08_Enabled:aD Pg 57 cr08_Enabled:=mk dr08_Enabled fY (ac hr08_Fits (ac hr08_in (ac hr08_named (ac hr07_Has an)))) bH
theorem hr08_Waiting:aD Pg 75 cr08_Waiting:=mk dr08_Waiting iV an bH
theorem hr08_without:aD Pg 78 cr08_without:=mk dr08_without kH an bH
theorem hr08_Copy:aD Pg 76 cr08_Copy:=mk dr08_Copy ep an bH
theorem hr08_WaitingO:aD Pg 75 cr08_WaitingO:=mk dr08_WaitingO ie an bH
theorem hr08_WaitingOR:aD Pg 75 cr08_WaitingOR:= @aD.ro Pg 75 dr08_WaitingO.pre dr08_WaitingO.post.vs ie fy (hr08_WaitingO.holds rfl) rfl (fun x _ h=>by rw[show fy x=obind (ie x) fun y=>same y.2 x.2 (some y.1) from rfl] at h;exact h)
theorem hr08_Apply:aD Pg 60 cr08_Apply:=mk dr08_Apply j7 (ac hr08_Enabled (ac hr07_Has (ac hr08_WaitingOR (ac hr08_Copy (ac hr07_Union (ac hr08_without an)))))) bH
theorem hr09_Start:aD Pg 66 cr09_Start:=mk dr09_Start ny (ac hr08_Start (ac hr06_Valid an)) bH
theorem hr09_fits:aD Pg 137 cr09_fits:=mk dr09_fits oS (ac hr06_Valid (ac hr08_Fits an)) bH
theorem hr09_kind:aD Pg 138 cr09_kind:=mk dr09_kind oQ an bH
theorem hr09_object:aD Pg 139 cr09_object:=mk dr09_object my (ac hr05_Index an) bH
theorem hr09_Pending:aD Pg 109 cr09_Pending:=mk dr09_Pending iU (ac hr09_fits (ac hr09_kind (ac hr09_object an))) bH
theorem hr16_Start:aD Pg 33 cr16_Start:=mk dr16_Start j6 (ac hr08_Start an) bH
theorem hr16_Fits:aD Pg 55 cr16_Fits:=mk dr16_Fits oP (ac hr08_Fits an) bH
theorem hr16_in:aD Pg 56 cr16_in:=mk dr16_in sq an bH
theorem hr16_numbers:aD Pg 58 cr16_numbers:=mk dr16_numbers iT an bH
theorem hr16_value:aD Pg 59 cr16_value:=mk dr16_value nu (ac hr07_Has (ac hr08_Waiting an)) bH
theorem hr16_Step:aD Pg 35 cr16_Step:=mk dr16_Step lJ (ac hr16_Fits (ac hr16_in (ac hr08_Enabled (ac hr16_numbers (ac hr16_value (ac hr08_Apply an)))))) bH
theorem hr16_reads:aD Pg 63 cr16_reads:=mk dr16_reads lI an bH
theorem hr16_Check:aD Pg 37 cr16_Check:=mk dr16_Check nv (ac hr16_Start (ac hr16_Step (ac hr06_ValidWorld (ac hr16_reads an)))) bH
def xl (t:TypeId):Option Ty:=if av t 170 then some (.pr .un Ka2) else bH t
theorem hr09_Copy10:aD Pg 110 cr09_Copy10:=mk dr09_Copy10 iE (ac hr08_Copy (ac hr07_Copy an)) xl
theorem hr09_Step10:aD Pg 87 cr09_Step10:=mk dr09_Step10 dH (ac hr08_Apply (ac hr09_Pending (ac hr09_Copy10 (ac hr07_Settle an)))) xl
theorem hr09_Copy20:aD Pg 110 cr09_Copy20:=mk dr09_Copy20 iD (ac hr08_Copy (ac hr07_Copy an)) xl
theorem hr09_Step20:aD Pg 87 cr09_Step20:=mk dr09_Step20 dP (ac hr08_Apply (ac hr09_Pending (ac hr09_Copy20 (ac hr07_Settle an)))) xl
theorem hr09_Copy21:aD Pg 110 cr09_Copy21:=mk dr09_Copy21 iC (ac hr08_Copy (ac hr07_Copy an)) xl
theorem hr09_Step21:aD Pg 87 cr09_Step21:=mk dr09_Step21 dG (ac hr08_Apply (ac hr09_Pending (ac hr09_Copy21 (ac hr07_Settle an)))) xl
theorem hr09_Copy30:aD Pg 110 cr09_Copy30:=mk dr09_Copy30 iB (ac hr08_Copy (ac hr07_Copy an)) xl
theorem hr09_Step30:aD Pg 87 cr09_Step30:=mk dr09_Step30 fg (ac hr08_Apply (ac hr09_Pending (ac hr09_Copy30 (ac hr07_Settle an)))) xl
theorem hr09_Copy31:aD Pg 110 cr09_Copy31:=mk dr09_Copy31 iA (ac hr08_Copy (ac hr07_Copy an)) xl
theorem hr09_Step31:aD Pg 87 cr09_Step31:=mk dr09_Step31 eF (ac hr08_Apply (ac hr09_Pending (ac hr09_Copy31 (ac hr07_Settle an)))) xl
theorem hr09_Copy32:aD Pg 110 cr09_Copy32:=mk dr09_Copy32 iz (ac hr08_Copy (ac hr07_Copy an)) xl
theorem hr09_Step32:aD Pg 87 cr09_Step32:=mk dr09_Step32 d8 (ac hr08_Apply (ac hr09_Pending (ac hr09_Copy32 (ac hr07_Settle an)))) xl
theorem hr09_Copy40:aD Pg 110 cr09_Copy40:=mk dr09_Copy40 iy (ac hr08_Copy (ac hr07_Copy an)) xl
theorem hr09_Step40:aD Pg 87 cr09_Step40:=mk dr09_Step40 ir (ac hr08_Apply (ac hr09_Pending (ac hr09_Copy40 (ac hr07_Settle an)))) xl
theorem hr09_Copy41:aD Pg 110 cr09_Copy41:=mk dr09_Copy41 iw (ac hr08_Copy (ac hr07_Copy an)) xl
theorem hr09_Step41:aD Pg 87 cr09_Step41:=mk dr09_Step41 iq (ac hr08_Apply (ac hr09_Pending (ac hr09_Copy41 (ac hr07_Settle an)))) xl
theorem hr09_Copy42:aD Pg 110 cr09_Copy42:=mk dr09_Copy42 iv (ac hr08_Copy (ac hr07_Copy an)) xl
theorem hr09_Step42:aD Pg 87 cr09_Step42:=mk dr09_Step42 gK (ac hr08_Apply (ac hr09_Pending (ac hr09_Copy42 (ac hr07_Settle an)))) xl
theorem hr09_Copy43:aD Pg 110 cr09_Copy43:=mk dr09_Copy43 iu (ac hr08_Copy (ac hr07_Copy an)) xl
theorem hr09_Step43:aD Pg 87 cr09_Step43:=mk dr09_Step43 fX (ac hr08_Apply (ac hr09_Pending (ac hr09_Copy43 (ac hr07_Settle an)))) xl
theorem hr09_Step:aD Pg 87 cr09_Step:=(aD.orE (pre:=dr09_Step40.pre) (post:=dr09_Step40.post) (m:=ir) (m':=(fun x=>orE (iq x) ((fun x=>orE (gK x) ((fun x=>orE (fX x) ((fun x=>orE (fg x) ((fun x=>orE (eF x) ((fun x=>orE (d8 x) ((fun x=>orE (dP x) ((fun x=>orE (dG x) (dH x)) x)) x)) x)) x)) x)) x)) x))) rfl hr09_Step40 (aD.orE (pre:=dr09_Step40.pre) (post:=dr09_Step40.post) (m:=iq) (m':=(fun x=>orE (gK x) ((fun x=>orE (fX x) ((fun x=>orE (fg x) ((fun x=>orE (eF x) ((fun x=>orE (d8 x) ((fun x=>orE (dP x) ((fun x=>orE (dG x) (dH x)) x)) x)) x)) x)) x)) x))) rfl hr09_Step41 (aD.orE (pre:=dr09_Step40.pre) (post:=dr09_Step40.post) (m:=gK) (m':=(fun x=>orE (fX x) ((fun x=>orE (fg x) ((fun x=>orE (eF x) ((fun x=>orE (d8 x) ((fun x=>orE (dP x) ((fun x=>orE (dG x) (dH x)) x)) x)) x)) x)) x))) rfl hr09_Step42 (aD.orE (pre:=dr09_Step40.pre) (post:=dr09_Step40.post) (m:=fX) (m':=(fun x=>orE (fg x) ((fun x=>orE (eF x) ((fun x=>orE (d8 x) ((fun x=>orE (dP x) ((fun x=>orE (dG x) (dH x)) x)) x)) x)) x))) rfl hr09_Step43 (aD.orE (pre:=dr09_Step40.pre) (post:=dr09_Step40.post) (m:=fg) (m':=(fun x=>orE (eF x) ((fun x=>orE (d8 x) ((fun x=>orE (dP x) ((fun x=>orE (dG x) (dH x)) x)) x)) x))) rfl hr09_Step30 (aD.orE (pre:=dr09_Step40.pre) (post:=dr09_Step40.post) (m:=eF) (m':=(fun x=>orE (d8 x) ((fun x=>orE (dP x) ((fun x=>orE (dG x) (dH x)) x)) x))) rfl hr09_Step31 (aD.orE (pre:=dr09_Step40.pre) (post:=dr09_Step40.post) (m:=d8) (m':=(fun x=>orE (dP x) ((fun x=>orE (dG x) (dH x)) x))) rfl hr09_Step32 (aD.orE (pre:=dr09_Step40.pre) (post:=dr09_Step40.post) (m:=dP) (m':=(fun x=>orE (dG x) (dH x))) rfl hr09_Step20 (aD.orE (pre:=dr09_Step40.pre) (post:=dr09_Step40.post) (m:=dG) (m':=dH) rfl hr09_Step21 hr09_Step10)))))))))
theorem hr09_from:aD Pg 65 cr09_from:=mk dr09_from oR (ac hr09_Step an) bH
theorem hr09_Run:aD Pg 38 cr09_Run:=mk dr09_Run qf (ac hr06_Valid (ac hr09_from (ac hr09_Start an))) bH
theorem hmade_Tape_Next:aD Pg 34 cmade_Tape_Next:=mk dmade_Tape_Next bl an bH
theorem hmade_num:aD Pg 96 cmade_num:=mk dmade_num lX an bH
theorem hmade_name:aD Pg 154 cmade_name:=mk dmade_name j9 an bH
theorem hmade_binary:aD Pg 153 cmade_binary:=mk dmade_binary iY an bH
theorem hmade_assign:aD Pg 95 cmade_assign:=mk dmade_assign ff an bH
theorem hmade_decls:aD Pg 93 cmade_decls:=mk dmade_decls mC an bH
theorem hmade_Choices:aD Pg 40 cmade_Choices:=mk dmade_Choices jH an bH
theorem hhmade_maker_expr:∀ n:Nat,aD Pg 152 (tP n)
 |0=>zB dmade_maker_expr
 |n+1=>mk dmade_maker_expr (je (fmade_maker_expr n)) (ac hmade_Tape_Next (ac hmade_num (ac (hhmade_maker_expr n) (ac hmade_binary (ac hmade_name an))))) bH
theorem hmade_maker_expr:aD Pg 152 cmade_maker_expr:=(hhmade_maker_expr fuel)
theorem hmade_maker_holds:aD Pg 155 cmade_maker_holds:=mk dmade_maker_holds c4 (ac hr04_At an) bH
theorem hhmade_maker_stmts:∀ n:Nat,aD Pg 94 (sA n)∧aD Pg 120 (tO n)∧aD Pg 156 (sB n)
 |0=>⟨zB dmade_maker_stmts,zB dmade_maker_stmt,zB dmade_maker_block⟩
 |n+1=>⟨mk dmade_maker_stmts (il (fmade_maker_stmts n) (fmade_maker_stmt n) (fmade_maker_block n)) (ac (hhmade_maker_stmts n).2.1 an) bH,mk dmade_maker_stmt (jd (fmade_maker_stmts n) (fmade_maker_stmt n) (fmade_maker_block n)) (ac hmade_Tape_Next (ac (hhmade_maker_stmts n).1 (ac hmade_assign (ac hmade_num (ac hmade_maker_expr (ac hmade_binary (ac hmade_name (ac hmade_maker_holds (ac (hhmade_maker_stmts n).2.2 an))))))))) bH,mk dmade_maker_block (im (fmade_maker_stmts n) (fmade_maker_stmt n) (fmade_maker_block n)) (ac hmade_Tape_Next (ac (hhmade_maker_stmts n).1 an)) bH⟩
theorem hmade_maker_stmts:aD Pg 94 cmade_maker_stmts:=(hhmade_maker_stmts fuel).1
theorem hmade_Program:aD Pg 68 cmade_Program:=mk dmade_Program jG (ac hmade_Tape_Next (ac hr04_Program (ac hmade_decls (ac hmade_maker_stmts (ac hmade_assign (ac hmade_num an)))))) bH
theorem hmade_Code:aD Pg 39 cmade_Code:=mk dmade_Code py (ac hr06_Program (ac hmade_Program an)) bH
theorem hmade_Trace:aD Pg 13 cmade_Trace:=mk dmade_Trace mD (ac hr09_Run (ac hmade_Code (ac hmade_Choices an))) bH
theorem hscene_World:aD Pg 32 cscene_World:=mk dscene_World iR an bH
theorem hscene_waiting:aD Pg 102 cscene_waiting:=mk dscene_waiting gC an bH
theorem hscene_kinds:aD Pg 79 cscene_kinds:=mk dscene_kinds mR an bH
theorem hscene_object:aD Pg 80 cscene_object:=mk dscene_object jy (ac hmade_Tape_Next an) bH
theorem hscene_value:aD Pg 81 cscene_value:=mk dscene_value kE (ac hmade_Tape_Next (ac hscene_waiting an)) bH
theorem hscene_some:aD Pg 82 cscene_some:=mk dscene_some dO (ac hmade_Tape_Next an) bH
theorem hscene_event:aD Pg 61 cscene_event:=mk dscene_event kF (ac hmade_Tape_Next (ac hscene_kinds (ac hscene_object (ac hscene_value (ac hscene_some an))))) bH
def tv1 (t:TypeId):Option Ty:=if av t 37 then some (.pr .un (.pr .un (.pr .un (.pr .un (.pr .un (.sl Ka0)))))) else bH t
theorem hscene_play:aD Pg 36 cscene_play:=mk dscene_play mr (ac hmade_Tape_Next (ac hr16_Step (ac hscene_event an))) tv1
theorem hscene_Trace:aD Pg 12 cscene_Trace:=mk dscene_Trace kG (ac hscene_World (ac hr16_Start (ac hmade_Tape_Next (ac hr16_Step (ac hscene_play (ac hr16_Check an)))))) bH
theorem hscene_Run_Trace:aD Pg 4 cscene_Run_Trace:=mk dscene_Run_Trace gD (ac hscene_Trace (ac hmade_Trace an)) bH
abbrev Ld16:List PV:=[.row 1,.row 2,.row 3,.row 4,.row 5,.row 6,.d (.sl Ka0),.row 7,.row 8]
abbrev Ld0:List PB:=[.cells 39 Ld16,.rows 37 false (.sl Ka0),.rows 37 false (.sl Ka0),.rows 37 false (.sl Ka0),.rows 37 false (.sl Ka0),.rows 37 false (.sl Ka0),.rows 37 false (.sl Ka0),.rows 37 false (.sl Ka0),.rows 3 true Ka0,.rows 3 false Ka0]
abbrev Ld1:List PV:=[.d Ka0,.d Ka0,.d Ka0,.d Ka0,.d Ka0,.d (.sl Ka0),.d (.sl Ka0)]
abbrev Ld27:List PV:=[.row 3,.row 4,.row 5,.row 6,.row 7,.row 8,.d (.sl Ka0),.row 9,.row 10]
abbrev Ld6:List PV:=[.d (.sl Ka10),.d (.sl Ka19),.d (.sl Ka20),.d (.sl .str),.d (.sl .str),.d (.sl Ka16)]
abbrev Ld2:List PB:=[.cells 42 Ld1,.cells 39 Ld27,.cells 31 Ld6,.rows 37 false (.sl Ka0),.rows 37 false (.sl Ka0),.rows 37 false (.sl Ka0),.rows 37 false (.sl Ka0),.rows 37 false (.sl Ka0),.rows 37 false (.sl Ka0),.rows 37 false (.sl Ka0),.rows 3 true Ka0]
abbrev Ld3:List PB:=[.rows 37 false (.sl Ka0),.rows 37 false (.sl Ka0),.rows 37 false (.sl Ka0),.rows 37 false (.sl Ka0),.rows 37 false (.sl Ka0),.rows 37 false (.sl Ka0),.rows 37 false (.sl Ka0),.rows 3 true Ka0]
abbrev Ld15:List PV:=[.nil,.nil,.nil,.nil,.nil,.nil,.nil,.nil,.nil]
abbrev Ld4:List PB:=[.cells 39 Ld27,.cells 42 Ld1,.cells 39 Ld15,.rows 37 false (.sl Ka0),.rows 37 false (.sl Ka0),.rows 37 false (.sl Ka0),.rows 37 false (.sl Ka0),.rows 37 false (.sl Ka0),.rows 37 false (.sl Ka0),.rows 37 false (.sl Ka0),.rows 3 true Ka0]
abbrev Ld5:List PB:=[.cells 39 Ld16,.rows 37 false (.sl Ka0),.rows 37 false (.sl Ka0),.rows 37 false (.sl Ka0),.rows 37 false (.sl Ka0),.rows 37 false (.sl Ka0),.rows 37 false (.sl Ka0),.rows 37 false (.sl Ka0),.rows 3 true Ka0,.rows 3 false Ka0,.cells 42 Ld1]
abbrev Ld26:List PV:=[.row 4,.row 5,.row 6,.row 7,.row 8,.row 9,.d (.sl Ka0),.row 10,.row 11]
abbrev Ld7:List PB:=[.cells 31 Ld6,.cells 39 Ld26,.cells 42 Ld1,.cells 39 Ld15,.rows 37 false (.sl Ka0),.rows 37 false (.sl Ka0),.rows 37 false (.sl Ka0),.rows 37 false (.sl Ka0),.rows 37 false (.sl Ka0),.rows 37 false (.sl Ka0),.rows 37 false (.sl Ka0),.rows 3 true Ka0]
abbrev Ld8:List PB:=[.cells 39 Ld15,.cells 39 [.row 2,.row 3,.row 4,.row 5,.row 6,.row 7,.nil,.row 8,.row 9],.rows 37 false (.sl Ka0),.rows 37 false (.sl Ka0),.rows 37 false (.sl Ka0),.rows 37 false (.sl Ka0),.rows 37 false (.sl Ka0),.rows 37 false (.sl Ka0),.rows 37 false (.sl Ka0),.rows 3 false Ka0]
abbrev Ld13:List PV:=[.row 0,.row 1,.row 2,.row 3,.row 4,.row 5,.d (.sl Ka0),.row 6,.row 7]
abbrev Ld9:List PB:=[.rows 37 false (.sl Ka0),.rows 37 false (.sl Ka0),.rows 37 false (.sl Ka0),.rows 37 false (.sl Ka0),.rows 37 false (.sl Ka0),.rows 37 false (.sl Ka0),.rows 37 false (.sl Ka0),.rows 3 true Ka0,.cells 39 Ld13,.cells 42 Ld1]
abbrev Ld10:List PB:=[.rows 148 false Ka11,.rows 4 true .bool,.rows 150 true Ka7,.cells 82 La36]
abbrev Ld11:List PB:=[.rows 148 false Ka11,.rows 4 true .bool,.rows 150 true Ka7]
abbrev Ld12:List PB:=[.cells 85 [.d Ka14],.cells 42 [.d Ka5],.cells 248 [.d Kd1]]
abbrev Ld14:List PB:=[.cells 31 [.d Ka1],.cells 82 [.row 4,.d Ka0,.row 5,.row 6],.cells 3 [.d Ka0],.cells 82 La75,.rows 148 false Ka11,.rows 4 true .bool,.rows 150 true Ka7]
abbrev Ld17:List PB:=[.rows 3 false Ka0]
abbrev Ld18:List PB:=[.rows 37 false (.sl Ka0)]
abbrev Ld19:List PB:=[.cells 82 La75,.cells 82 [.row 2,.d Ka0,.row 3,.row 4],.rows 148 false Ka11,.rows 4 false .bool,.rows 150 false Ka7]
abbrev Ld20:List PB:=[.cells 34 [.d Ka24],.cells 39 [.d Kd0],.cells 39 [.d Kd0],.cells 39 [.d Kd0],.rows 3 false Ka0,.cells 39 [.d Kd0]]
abbrev Ld21:List PB:=[.cells 34 [.d Ka24],.rows 73 true Ka17]
abbrev Ld22:List PV:=[.d (.sl Ka0),.d (.sl Ka0)]
abbrev Ld23:List PB:=[.rows 37 false (.sl Ka0),.rows 3 false Ka0]
abbrev Ld24:List PB:=[.cells 42 [.d Ka5]]
abbrev Ld25:List PV:=[.ptr 0 0,.ptr 1 0,.ptr 2 0]
abbrev Ld28:List PV:=[.row 0,.d Ka0]
abbrev Ld29:List PB:=[.rows 3 true Ka0]
def dclock_At:FT:=⟨⟨La93,[]⟩,⟨[.d Ka0],[]⟩,cM [(3,(.j ⟨[0,1],[12],⟨[.d .bool],[]⟩,[]⟩))]⟩
noncomputable def cclock_At:bR:=cn dclock_At eQ
def dclock_Join:FT:=⟨⟨Ld22,[]⟩,⟨La104,[]⟩,cM [(8,(.j ⟨[0,1,14],[5,15],⟨Ld28,Ld17⟩,[]⟩))]⟩
noncomputable def cclock_Join:bR:=cn dclock_Join gN
def dr22_At:FT:=⟨⟨La93,[]⟩,⟨[.d Ka0],[]⟩,cM [(3,(.j ⟨[0,1],[12],⟨[.d .bool],[]⟩,[]⟩))]⟩
noncomputable def cr22_At:bR:=cn dr22_At pw
def dr22_Join:FT:=⟨⟨Ld22,[]⟩,⟨La104,[]⟩,cM [(8,(.j ⟨[0,1,14],[5,15],⟨Ld28,Ld17⟩,[]⟩))]⟩
noncomputable def cr22_Join:bR:=cn dr22_Join dz
def dClone0:FT:=⟨⟨La104,[]⟩,⟨La104,[]⟩,.leaf⟩
noncomputable def cClone0:bR:=cn dClone0 yn
noncomputable def cClone:bR:=⟨cClone0.pre,cClone0.post,rA⟩
def dhb_copies:FT:=⟨⟨[.d Ka23],[]⟩,⟨[.row 0],Ld18⟩,cM [(8,(.j ⟨[9,10],[3,11],⟨Ld28,Ld18⟩,[]⟩))]⟩
noncomputable def chb_copies:bR:=cn dhb_copies er
def dCloneO0:FT:=⟨⟨La104,[]⟩,⟨[.row 0],Ld29⟩,cM [(8,(.a [.nil 2 3 Ka0])),(12,(.a [.nil 2 3 Ka0]))]⟩
noncomputable def cCloneO0:bR:=cn dCloneO0 vU
noncomputable def cCloneO:bR:=⟨cCloneO0.pre,cCloneO0.post,qG⟩
def dhb_copied:FT:=⟨⟨[.d Kd0],[]⟩,⟨[.agg Ld13],Ld3⟩,.leaf⟩
noncomputable def chb_copied:bR:=cn dhb_copied nI
def dhb_entry:FT:=⟨⟨Ld28,Ld18⟩,⟨La104,Ld18⟩,cM [(3,(.j ⟨[1],[0,12],⟨[.row 0,.d .bool],Ld18⟩,[]⟩))]⟩
noncomputable def chb_entry:bR:=cn dhb_entry m8
def dhb_Step_2:FT:=⟨⟨Ld25,Ld2⟩,⟨[.d Ka23],Ld2⟩,cM [(18,(.j ⟨[6],[0,1,2,25],⟨La42,Ld2⟩,[]⟩))]⟩
noncomputable def chb_Step_2:bR:=cn dhb_Step_2 nJ
def dhb_Start:FT:=⟨⟨[.d Ka1],[]⟩,⟨[.d Kd0],[]⟩,cM [(8,(.j ⟨[40],[2,3,41],⟨La43,Ld8⟩,[]⟩))]⟩
noncomputable def chb_Start:bR:=cn dhb_Start ja
def dclock_Tick:FT:=⟨⟨La93,[]⟩,⟨[.row 0],Ld17⟩,cM [(4,(.j ⟨[0,1,5],[6],⟨[.d .bool],[]⟩,[]⟩)),(6,(.j ⟨[0,1,6],[5],⟨[.d Ka0],[]⟩,[]⟩)),(16,(.j ⟨[],[7],⟨[.row 0],Ld17⟩,[]⟩)),(17,(.j ⟨[1],[7,33],⟨[.row 0,.d .bool],Ld17⟩,[]⟩))]⟩
noncomputable def cclock_Tick:bR:=cn dclock_Tick mF
def dCloneR0:FT:=⟨⟨[.row 0],Ld17⟩,⟨La104,Ld17⟩,.leaf⟩
noncomputable def cCloneR0:bR:=cn dCloneR0 oY
noncomputable def cCloneR:bR:=⟨dCloneR0.pre,⟨dCloneR0.post.vs,[]⟩,oc⟩
def dJoinR0:FT:=⟨⟨[.d (.sl Ka0),.row 0],Ld17⟩,⟨La104,Ld17⟩,cM [(8,(.j ⟨[0,14],[1,5,15],⟨[.row 0,.row 1,.d Ka0],[.rows 3 false Ka0,.rows 3 false Ka0]⟩,[]⟩))]⟩
noncomputable def cJoinR0:bR:=cn dJoinR0 mT
noncomputable def cJoinR:bR:=⟨dJoinR0.pre,⟨dJoinR0.post.vs,[]⟩,rz⟩
def dhb_joinAt:FT:=⟨⟨[.row 0,.d Ka0,.row 1],Ld23⟩,⟨[],Ld23⟩,cM [(0,(.j ⟨[1],[0,2,13],⟨[.row 0,.row 1,.d .bool],Ld23⟩,[]⟩))]⟩
noncomputable def chb_joinAt:bR:=cn dhb_joinAt gR
def dhb_wake:FT:=⟨⟨[.ptr 0 0,.d Ka0,.row 9],Ld0⟩,⟨[],Ld0⟩,.leaf⟩
noncomputable def chb_wake:bR:=cn dhb_wake oW
def dhb_enter:FT:=⟨⟨[.d Ka1,.ptr 0 0,.d Ka5,.row 9],Ld0⟩,⟨[],Ld0⟩,cM [(6,(.j ⟨[],[],⟨[],Ld0⟩,[]⟩)),(11,(.j ⟨[20],[1,3,4,6,32],⟨[.ptr 0 0,.row 9,.ptr 10 0,.ptr 11 0,.d .bool],[.cells 39 Ld16,.rows 37 false (.sl Ka0),.rows 37 false (.sl Ka0),.rows 37 false (.sl Ka0),.rows 37 false (.sl Ka0),.rows 37 false (.sl Ka0),.rows 37 false (.sl Ka0),.rows 37 false (.sl Ka0),.rows 3 true Ka0,.rows 3 false Ka0,.cells 31 Ld6,.cells 42 Ld1]⟩,[]⟩)),(48,(.j ⟨[],[1,3,6,129],⟨[.ptr 0 0,.row 9,.ptr 10 0,.d .bool],Ld5⟩,[]⟩)),(59,(.j ⟨[141],[1,3,6,140,142],⟨[.ptr 0 0,.row 9,.ptr 10 0,.row 8,.d Ka0],Ld5⟩,[]⟩)),(67,(.j ⟨[141,142],[1,3,6,140],⟨[.ptr 0 0,.row 9,.ptr 10 0,.row 8],Ld5⟩,[]⟩))]⟩
noncomputable def chb_enter:bR:=cn dhb_enter lY
def dhb_Step:FT:=⟨⟨[.d Ka1,.d Kd0,.d Ka5],[]⟩,⟨[.d Kd0,.row 0],Ld17⟩,cM [(14,(.j ⟨[22,23],[3,5,6,7,24],⟨[.ptr 0 0,.ptr 1 0,.ptr 2 0,.ptr 3 0,.d Ka0],[.cells 31 Ld6,.cells 42 Ld1,.cells 39 Ld26,.cells 37 La104,.rows 37 false (.sl Ka0),.rows 37 false (.sl Ka0),.rows 37 false (.sl Ka0),.rows 37 false (.sl Ka0),.rows 37 false (.sl Ka0),.rows 37 false (.sl Ka0),.rows 37 false (.sl Ka0),.rows 3 true Ka0]⟩,[]⟩))]⟩
noncomputable def chb_Step:bR:=cn dhb_Step mE
def dr22_Copy:FT:=⟨⟨La104,[]⟩,⟨La104,[]⟩,.leaf⟩
noncomputable def cr22_Copy:bR:=cn dr22_Copy iS
def dr22_CopyAll:FT:=⟨⟨[.d Ka23],[]⟩,⟨[.row 0],Ld18⟩,cM [(8,(.j ⟨[0,9],[3,10],⟨Ld28,Ld18⟩,[]⟩))]⟩
noncomputable def cr22_CopyAll:bR:=cn dr22_CopyAll dA
def dr22_CopyO:FT:=⟨⟨La104,[]⟩,⟨[.row 0],Ld29⟩,cM [(4,(.a [.nil 2 3 Ka0]))]⟩
noncomputable def cr22_CopyO:bR:=cn dr22_CopyO jZ
def dr22_copied:FT:=⟨⟨[.d Kd0],[]⟩,⟨[.agg Ld13],Ld3⟩,.leaf⟩
noncomputable def cr22_copied:bR:=cn dr22_copied mt
def dr22_Tick:FT:=⟨⟨La93,[]⟩,⟨La104,[]⟩,cM [(5,(.j ⟨[1],[0,12],⟨[.row 0,.d .bool],Ld29⟩,[]⟩)),(14,(.j ⟨[1],[0],⟨[.row 0],Ld29⟩,[]⟩)),(23,(.j ⟨[],[0],⟨[.row 0],Ld29⟩,[]⟩))]⟩
noncomputable def cr22_Tick:bR:=cn dr22_Tick kn
def dr22_Equal:FT:=⟨⟨Ld22,[]⟩,⟨[.d .bool],[]⟩,cM [(14,(.j ⟨[0,1,12],[13],⟨[.d Ka0],[]⟩,[]⟩))]⟩
noncomputable def cr22_Equal:bR:=cn dr22_Equal jY
def dr22_Leq:FT:=⟨⟨Ld22,[]⟩,⟨[.d .bool],[]⟩,cM [(6,(.j ⟨[0,1],[5],⟨[.d Ka0],[]⟩,[]⟩))]⟩
noncomputable def cr22_Leq:bR:=cn dr22_Leq mw
def dr22_Same:FT:=⟨⟨Ld22,[]⟩,⟨[.d .bool],[]⟩,cM [(2,(.j ⟨[],[4],⟨[.d .bool],[]⟩,[]⟩))]⟩
noncomputable def cr22_Same:bR:=cn dr22_Same lG
def dr22_SameAll:FT:=⟨⟨[.d Ka23,.d Ka23],[]⟩,⟨[.d .bool],[]⟩,cM [(14,(.j ⟨[0,1,12],[13],⟨[.d Ka0],[]⟩,[]⟩))]⟩
noncomputable def cr22_SameAll:bR:=cn dr22_SameAll dy
def dr22_SameHB:FT:=⟨⟨[.d Kd0,.d Kd0],[]⟩,⟨[.d .bool],[]⟩,cM [(2,(.j ⟨[],[4],⟨[.d .bool],[]⟩,[]⟩))]⟩
noncomputable def cr22_SameHB:bR:=cn dr22_SameHB gJ
def dr22_Mutex:FT:=⟨⟨[.d Ka1,.d Ka0],[]⟩,⟨[.d Ka0],[]⟩,cM [(3,(.j ⟨[1],[2,13],⟨La20,[.cells 31 Ld6]⟩,[]⟩))]⟩
noncomputable def cr22_Mutex:bR:=cn dr22_Mutex lH
def dr22_Acquires:FT:=⟨⟨[.d Ka1,.d Ka5],[]⟩,⟨[.d Ka0,.d .bool],[]⟩,cM [(6,(.j ⟨[7],[2,3,8],⟨La32,[.cells 31 Ld6,.cells 42 Ld1]⟩,[]⟩))]⟩
noncomputable def cr22_Acquires:bR:=cn dr22_Acquires jA
def dr22_Releases:FT:=⟨⟨[.d Ka1,.d Ka5],[]⟩,⟨[.d Ka0,.d .bool],[]⟩,cM [(6,(.j ⟨[7],[2,3,8],⟨La32,[.cells 31 Ld6,.cells 42 Ld1]⟩,[]⟩))]⟩
noncomputable def cr22_Releases:bR:=cn dr22_Releases jz
def dr22_arriving:FT:=⟨⟨[.d Ka1,.agg Ld13,.d Ka5],Ld3⟩,⟨La104,Ld3⟩,cM [(6,(.j ⟨[],[4,5,7],⟨[.ptr 8 0,.ptr 9 0,.d (.sl Ka0)],Ld9⟩,[]⟩)),(7,(.j ⟨[7,8,9],[4,5,24],⟨[.ptr 8 0,.ptr 9 0,.d .bool],Ld9⟩,[]⟩)),(21,(.j ⟨[],[7],⟨La104,Ld3⟩,[]⟩))]⟩
noncomputable def cr22_arriving:bR:=cn dr22_arriving gj
noncomputable def cr22_arrivingR:bR:=⟨dr22_arriving.pre,⟨dr22_arriving.post.vs,[]⟩,gE⟩
def dr22_Step:FT:=⟨⟨[.d Ka1,.d Kd0,.d Ka5],[]⟩,⟨[.d Kd0,.d (.sl Ka0)],[]⟩,cM [(10,(.j ⟨[8],[3,4,5,6],⟨La105,Ld7⟩,[]⟩)),(11,(.j ⟨[8,9,10],[3,4,5,6,49],⟨La33,Ld7⟩,[]⟩)),(23,(.j ⟨[8],[4,6],⟨[.ptr 0 0,.ptr 1 0],[.cells 39 [.row 2,.row 3,.row 4,.row 5,.row 6,.row 7,.d (.sl Ka0),.row 8,.row 9],.cells 39 Ld15,.rows 37 false (.sl Ka0),.rows 37 false (.sl Ka0),.rows 37 false (.sl Ka0),.rows 37 false (.sl Ka0),.rows 37 false (.sl Ka0),.rows 37 false (.sl Ka0),.rows 37 false (.sl Ka0),.rows 3 true Ka0]⟩,[]⟩)),(51,(.j ⟨[8],[4,5,6,149],⟨La42,Ld4⟩,[]⟩)),(62,(.j ⟨[8,166],[4,5,6,167],⟨La38,Ld4⟩,[]⟩)),(70,(.j ⟨[8,166,167],[4,5,6],⟨Ld25,Ld4⟩,[]⟩))]⟩
noncomputable def cr22_Step:bR:=cn dr22_Step lD
def dr22_Start:FT:=⟨⟨[.d Ka1],[]⟩,⟨[.d Kd0],[]⟩,cM [(8,(.j ⟨[40],[2,3,41],⟨La43,Ld8⟩,[]⟩))]⟩
noncomputable def cr22_Start:bR:=cn dr22_Start lE
def dtoken_IsKeyword:FT:=⟨⟨[.d .str],[]⟩,⟨[.d .bool],[]⟩,cM [(6,(.j ⟨[0,5],[6],⟨[.d Ka0],[]⟩,[]⟩))]⟩
noncomputable def ctoken_IsKeyword:bR:=cn dtoken_IsKeyword gB
def dtoken_IsName:FT:=⟨⟨[.d .str],[]⟩,⟨[.d .bool],[]⟩,cM [(3,(.j ⟨[0],[16],⟨[.d .bool],[]⟩,[]⟩)),(14,(.j ⟨[],[18],⟨[.ptr 0 0],[.mp Ka20 .un]⟩,[]⟩)),(24,(.j ⟨[],[18],⟨[.ptr 0 0],[.mp Ka20 .un]⟩,[]⟩)),(25,(.j ⟨[3,4],[18,23],⟨La20,[.mp Ka20 .un]⟩,[]⟩)),(29,(.j ⟨[],[18,38],⟨La20,[.mp Ka20 .un]⟩,[]⟩))]⟩
noncomputable def ctoken_IsName:bR:=cn dtoken_IsName jx
def dIndex_int:FT:=⟨⟨La93,[]⟩,⟨[.d Ka0],[]⟩,cM [(6,(.j ⟨[0,1,7],[8],⟨[.d Ka0],[]⟩,[]⟩))]⟩
noncomputable def cIndex_int:bR:=cn dIndex_int nL
def dContains_int:FT:=⟨⟨La93,[]⟩,⟨[.d .bool],[]⟩,.leaf⟩
noncomputable def cContains_int:bR:=cn dContains_int mh
def dclock_Covers:FT:=⟨⟨[.d (.sl Ka0),.d Ka17],[]⟩,⟨[.d .bool],[]⟩,.leaf⟩
noncomputable def cclock_Covers:bR:=cn dclock_Covers oE
def dhb_access:FT:=⟨⟨[.d Ka5],[]⟩,⟨[.d .bool],[]⟩,cM [(2,(.j ⟨[],[2],⟨[.d .bool],[]⟩,[]⟩))]⟩
noncomputable def chb_access:bR:=cn dhb_access pB
def dhb_conflict:FT:=⟨⟨[.d Ka24,.d Ka0,.d Ka0],[]⟩,⟨[.d .bool],[]⟩,cM [(5,(.j ⟨[],[3,7,8,30],⟨La42,[.cells 34 [.d Ka24],.cells 42 [.d Ka5],.cells 42 [.d Ka5]]⟩,[]⟩)),(13,(.j ⟨[],[7,8,48],⟨La32,[.cells 42 [.d Ka5],.cells 42 [.d Ka5]]⟩,[]⟩)),(20,(.j ⟨[],[6],⟨[.d .bool],[]⟩,[]⟩))]⟩
noncomputable def chb_conflict:bR:=cn dhb_conflict pA
def dhb_epochs:FT:=⟨⟨[.d (.sl Ka5)],[]⟩,⟨[.d (.sl Ka17)],[]⟩,cM [(10,(.j ⟨[11,12],[3,4,13],⟨[.mp 0,.row 1,.d Ka0],[.mp Ka0 Ka0,.rows 116 false Ka17]⟩,[.mpt 3 Ka0 Ka0]⟩))]⟩
noncomputable def chb_epochs:bR:=cn dhb_epochs nH
def dcompile_within:FT:=⟨⟨La65,[]⟩,⟨[.d .bool],[]⟩,cM [(2,(.j ⟨[],[4],⟨[.d .bool],[]⟩,[]⟩))]⟩
noncomputable def ccompile_within:bR:=cn dcompile_within mL
def dcompile_isLock:FT:=⟨⟨[.d Ka1,.d Ka0,.d .bool],[]⟩,⟨[.d .bool],[]⟩,cM [(2,(.j ⟨[],[6],⟨[.d .bool],[]⟩,[]⟩))]⟩
noncomputable def ccompile_isLock:bR:=cn dcompile_isLock mM
def dcompile_validCells:FT:=⟨⟨[.d (.sl Ka10)],[]⟩,⟨[.d (.sl .str),.d .bool],[]⟩,cM [(8,(.j ⟨[0],[4,5],⟨Ld28,[.rows 9 true .str]⟩,[.nil 4 9 .str]⟩)),(15,(.j ⟨[0],[4,5],⟨Ld28,[.rows 9 true .str]⟩,[]⟩)),(37,(.j ⟨[0,5],[4,6,49],⟨[.row 0,.ptr 1 0,.d .bool],[.rows 9 true .str,.cells 65 [.d Ka10]]⟩,[]⟩)),(48,(.j ⟨[0,5,51],[4,6,52],⟨[.row 0,.ptr 1 0,.d Ka0],[.rows 9 true .str,.cells 65 [.d Ka10]]⟩,[]⟩))]⟩
noncomputable def ccompile_validCells:bR:=cn dcompile_validCells eX
def dcompile_validNames:FT:=⟨⟨[.d Ka1,.d (.sl .str)],[]⟩,⟨[.d .bool],[]⟩,cM [(10,(.j ⟨[17,18],[2,5,19],⟨La94,La88⟩,[]⟩)),(27,(.j ⟨[30,31],[2,5,32],⟨La94,La88⟩,[]⟩)),(50,(.j ⟨[52],[10,51,53],⟨[.mp 0,.row 1,.d Ka0],[.mp .str .bool,.rows 9 true .str]⟩,[.mpt 10 .str .bool]⟩)),(62,(.j ⟨[12,52,53],[10,51,64],⟨[.mp 0,.row 1,.d .bool],[.mp .str .bool,.rows 9 true .str]⟩,[.mpt 10 .str .bool]⟩))]⟩
noncomputable def ccompile_validNames:bR:=cn dcompile_validNames eW
def dcompile_validSites:FT:=⟨⟨[.d Ka1],[]⟩,⟨[.d .bool],[]⟩,cM [(8,(.j ⟨[8,9],[1,3,4,10],⟨[.ptr 0 0,.d Ka0,.d Ka0,.d Ka0],La50⟩,[]⟩)),(20,(.j ⟨[3,4,8,9,10],[1,6,25],⟨La32,[.cells 31 [.d Ka1],.cells 120 [.d Ka16]]⟩,[]⟩)),(27,(.j ⟨[8,9,10],[1,3,4,6],⟨[.ptr 0 0,.d Ka0,.d Ka0,.ptr 1 0],[.cells 31 [.d Ka1],.cells 120 [.d Ka16]]⟩,[]⟩))]⟩
noncomputable def ccompile_validSites:bR:=cn dcompile_validSites eV
def dcompile_ValidWorld:FT:=⟨⟨[.d Ka1],[]⟩,⟨[.d .bool],[]⟩,cM [(3,(.j ⟨[],[1,34],⟨La20,La50⟩,[]⟩)),(11,(.j ⟨[],[1,44],⟨La20,La50⟩,[]⟩)),(21,(.j ⟨[],[1,58],⟨La20,La50⟩,[]⟩)),(32,(.j ⟨[60,61],[1,62],⟨La54,La50⟩,[]⟩))]⟩
noncomputable def ccompile_ValidWorld:bR:=cn dcompile_ValidWorld eY
def dobject_Start:FT:=⟨⟨[.d Ka1],[]⟩,⟨[.d Ka4],[]⟩,cM [(8,(.j ⟨[20],[2,3,21],⟨La43,Ld19⟩,[]⟩)),(21,(.j ⟨[],[2,3],⟨[.ptr 0 0,.ptr 1 0],Ld19⟩,[]⟩))]⟩
noncomputable def cobject_Start:bR:=cn dobject_Start jF
def dwellformed_Start:FT:=⟨⟨[.d Ka1],[]⟩,⟨[.d Ka14],[]⟩,cM [(8,(.j ⟨[22,23],[2,3,24],⟨La43,[.cells 85 La1,.cells 85 [.d (.sl Ka11),.d Ka0,.d Ka21,.d (.sl Ka7),.row 2,.row 3,.row 4],.rows 2 false Ka0,.rows 2 false Ka0,.rows 3 false Ka0]⟩,[]⟩))]⟩
noncomputable def cwellformed_Start:bR:=cn dwellformed_Start fU
def dwellformed_allReads:FT:=⟨⟨[.d Ka21,.d Ka5],[]⟩,⟨[.d .bool],[]⟩,cM [(6,(.j ⟨[0,13],[14],⟨[.d Ka0],[]⟩,[]⟩)),(20,(.j ⟨[0,13,14,17,18],[19],⟨[.d Ka0],[]⟩,[]⟩)),(31,(.j ⟨[0,13,14,17,18,19],[37],⟨[.d .bool],[]⟩,[]⟩))]⟩
noncomputable def cwellformed_allReads:bR:=cn dwellformed_allReads c6
def dobject_within:FT:=⟨⟨La65,[]⟩,⟨[.d .bool],[]⟩,cM [(2,(.j ⟨[],[4],⟨[.d .bool],[]⟩,[]⟩))]⟩
noncomputable def cobject_within:bR:=cn dobject_within dI
def dobject_allowed:FT:=⟨⟨[.d Ka1,.d Ka0,.d Ka0],[]⟩,⟨[.d .bool],[]⟩,cM [(6,(.j ⟨[2,7],[3,8],⟨La20,La50⟩,[]⟩)),(36,(.j ⟨[2,7],[3,18],⟨La20,La50⟩,[]⟩)),(46,(.j ⟨[2,7],[3,26],⟨La20,La50⟩,[]⟩)),(53,(.j ⟨[],[6],⟨[.d .bool],[]⟩,[]⟩)),(56,(.j ⟨[2,7],[3,43],⟨La20,La50⟩,[]⟩)),(71,(.j ⟨[],[6],⟨[.d .bool],[]⟩,[]⟩)),(74,(.j ⟨[2,7],[3,61],⟨La20,La50⟩,[]⟩)),(92,(.j ⟨[2,7],[3,71],⟨La20,La50⟩,[]⟩)),(102,(.j ⟨[2],[3,79],⟨La20,La50⟩,[]⟩))]⟩
noncomputable def cobject_allowed:bR:=cn dobject_allowed mK
def dobject_Fits:FT:=⟨⟨[.d Ka1,.d Ka4],[]⟩,⟨[.d .bool],[]⟩,cM [(3,(.j ⟨[],[2,31],⟨La20,La50⟩,[]⟩)),(14,(.j ⟨[33,34],[2,35],⟨La54,La50⟩,[]⟩))]⟩
noncomputable def cobject_Fits:bR:=cn dobject_Fits iX
def dobject_ready:FT:=⟨⟨[.d Ka1,.d Ka4,.d Ka0,.d Ka0,.d Ka0],[]⟩,⟨[.d .bool],[]⟩,cM [(15,(.j ⟨[],[10],⟨[.d .bool],[]⟩,[]⟩)),(21,(.j ⟨[],[10],⟨[.d .bool],[]⟩,[]⟩)),(24,(.j ⟨[2,4,11],[5,6,60],⟨La32,La86⟩,[]⟩)),(64,(.j ⟨[2,4,11],[5,6,109],⟨La32,La86⟩,[]⟩)),(81,(.j ⟨[],[10],⟨[.d .bool],[]⟩,[]⟩)),(87,(.j ⟨[],[10],⟨[.d .bool],[]⟩,[]⟩))]⟩
noncomputable def cobject_ready:bR:=cn dobject_ready oC
def dobject_Enabled:FT:=⟨⟨[.d Ka1,.d Ka4,.d Ka0,.d Ka0,.d Ka0],[]⟩,⟨[.d .bool],[]⟩,cM [(3,(.j ⟨[2,3,4],[5,6,30],⟨La32,La86⟩,[]⟩)),(25,(.j ⟨[],[10],⟨[.d .bool],[]⟩,[]⟩)),(29,(.j ⟨[],[10],⟨[.d .bool],[]⟩,[]⟩))]⟩
noncomputable def cobject_Enabled:bR:=cn dobject_Enabled jP
def dwellformed_fits:FT:=⟨⟨[.d Ka1,.d Ka14],[]⟩,⟨[.d .bool],[]⟩,cM [(2,(.j ⟨[],[4],⟨[.d .bool],[]⟩,[]⟩))]⟩
noncomputable def cwellformed_fits:bR:=cn dwellformed_fits lA
def dwellformed_placed:FT:=⟨⟨[.d Ka1,.d Ka5],[]⟩,⟨[.d .bool],[]⟩,cM [(3,(.j ⟨[],[2,3,12],⟨La32,[.cells 31 [.d Ka1],.cells 42 [.d Ka5]]⟩,[]⟩)),(10,(.j ⟨[],[4],⟨[.d .bool],[]⟩,[]⟩))]⟩
noncomputable def cwellformed_placed:bR:=cn dwellformed_placed jX
def dwellformed_determined:FT:=⟨⟨[.d Ka1,.d Ka14,.d Ka5],[]⟩,⟨[.d .bool],[]⟩,cM [(2,(.j ⟨[],[4,5,7],⟨La32,[.cells 85 [.d Ka14],.cells 42 [.d Ka5]]⟩,[]⟩)),(4,(.j ⟨[],[4,5,8],⟨Ld25,Ld12⟩,[]⟩)),(10,(.j ⟨[51],[4,5,8,52],⟨La38,Ld12⟩,[]⟩)),(22,(.j ⟨[10,51,52],[4,5,8,64],⟨La42,Ld12⟩,[]⟩)),(34,(.j ⟨[51,52,65,66],[4,5,8,11,67],⟨[.ptr 0 0,.ptr 1 0,.ptr 2 0,.d Ka0,.d Ka0],Ld12⟩,[]⟩)),(46,(.j ⟨[13,51,52,65,66,67],[4,5,8,83],⟨La42,Ld12⟩,[]⟩))]⟩
noncomputable def cwellformed_determined:bR:=cn dwellformed_determined dV
def dwellformed_valued:FT:=⟨⟨[.d Ka14,.d Ka5],[]⟩,⟨[.d .bool],[]⟩,cM [(21,(.j ⟨[],[4],⟨[.d .bool],[]⟩,[]⟩)),(24,(.j ⟨[13],[2,3,46],⟨La32,[.cells 85 [.d Ka14],.cells 42 [.d Ka5]]⟩,[]⟩)),(43,(.j ⟨[53,54],[3,5,6,55],⟨[.ptr 0 0,.d Ka0,.d .bool,.d Ka0],Ld24⟩,[]⟩)),(51,(.j ⟨[53,54,55],[3,5,6],⟨[.ptr 0 0,.d Ka0,.d .bool],Ld24⟩,[]⟩)),(54,(.j ⟨[5,6,7,53,54,55],[3,69],⟨La20,Ld24⟩,[]⟩)),(62,(.j ⟨[],[4],⟨[.d .bool],[]⟩,[]⟩)),(74,(.j ⟨[94,95],[3,9,96],⟨La112,Ld24⟩,[]⟩)),(82,(.j ⟨[94,95,96],[3,9],⟨La54,Ld24⟩,[]⟩)),(85,(.j ⟨[9,94,95,96],[3,109],⟨La20,Ld24⟩,[]⟩))]⟩
noncomputable def cwellformed_valued:bR:=cn dwellformed_valued fx
def dobject_waits:FT:=⟨⟨[.d Ka7,.d Ka0],[]⟩,⟨[.d .bool],[]⟩,cM [(2,(.j ⟨[],[4],⟨[.d .bool],[]⟩,[]⟩))]⟩
noncomputable def cobject_waits:bR:=cn dobject_waits mg
def dCloneBO0:FT:=⟨⟨[.d Ka21],[]⟩,⟨[.row 0],[.rows 4 true .bool]⟩,cM [(8,(.a [.nil 2 4 .bool])),(12,(.a [.nil 2 4 .bool]))]⟩
noncomputable def cCloneBO0:bR:=cn dCloneBO0 tL
noncomputable def cCloneBO:bR:=⟨cCloneBO0.pre,cCloneBO0.post,vV⟩
def dCloneTO0:FT:=⟨⟨[.d (.sl Ka7)],[]⟩,⟨[.row 0],[.rows 150 true Ka7]⟩,cM [(8,(.a [.nil 2 150 Ka7])),(12,(.a [.nil 2 150 Ka7]))]⟩
noncomputable def cCloneTO0:bR:=cn dCloneTO0 tJ
noncomputable def cCloneTO:bR:=⟨cCloneTO0.pre,cCloneTO0.post,vT⟩
def dCloneLO0:FT:=⟨⟨La104,[]⟩,⟨[.row 0],[.rows 2 true Ka0]⟩,cM [(8,(.a [.nil 2 2 Ka0])),(12,(.a [.nil 2 2 Ka0]))]⟩
noncomputable def cCloneLO0:bR:=cn dCloneLO0 tK
noncomputable def cCloneLO:bR:=⟨cCloneLO0.pre,cCloneLO0.post,sv⟩
def dobject_clone:FT:=⟨⟨[.d Ka4],[]⟩,⟨[.agg La36],Ld11⟩,cM [(8,(.j ⟨[11,12],[1,2,3,13],⟨[.ptr 0 0,.ptr 1 0,.row 2,.d Ka0],[.cells 82 [.d Ka4],.cells 82 La75,.rows 148 false Ka11]⟩,[]⟩))]⟩
noncomputable def cobject_clone:bR:=cn dobject_clone jE
def dobject_notify:FT:=⟨⟨[.agg La36,.d Ka0,.d Ka0],Ld11⟩,⟨[.d Ka0],Ld11⟩,cM [(8,(.j ⟨[1,2,12],[3,7,11,13],⟨[.ptr 3 0,.d Ka0,.row 2,.d Ka0],Ld10⟩,[]⟩)),(16,(.j ⟨[1,2,12,13],[3,7,11],⟨[.ptr 3 0,.d Ka0,.row 2],Ld10⟩,[]⟩)),(19,(.j ⟨[1,2,7,8,12,13],[3,11,29],⟨[.ptr 3 0,.row 2,.d .bool],Ld10⟩,[]⟩)),(25,(.j ⟨[7],[],⟨[],Ld11⟩,[]⟩))]⟩
noncomputable def cobject_notify:bR:=cn dobject_notify iG
def dobject_notifyAll:FT:=⟨⟨[.agg La36,.d Ka0],Ld11⟩,⟨[.d Ka0],Ld11⟩,cM [(8,(.j ⟨[1,10],[2,5,9,11],⟨[.ptr 3 0,.d Ka0,.row 2,.d Ka0],Ld10⟩,[]⟩)),(16,(.j ⟨[1,10,11],[2,5,9],⟨[.ptr 3 0,.d Ka0,.row 2],Ld10⟩,[]⟩))]⟩
noncomputable def cobject_notifyAll:bR:=cn dobject_notifyAll gd
def dobject_Apply:FT:=⟨⟨[.d Ka1,.d Ka4,.d Ka0,.d Ka0,.d Ka0,.d Ka0],[]⟩,⟨[.d Ka4,.d Ka0,.d .bool],[]⟩,cM [(17,(.j ⟨[],[7,12,15],⟨La43,[.cells 82 [.row 2,.d Ka0,.row 3,.row 4],.cells 82 La75,.rows 148 false Ka11,.rows 4 true .bool,.rows 150 true Ka7]⟩,[]⟩)),(26,(.j ⟨[4,5,15,27],[6,7,8,12,42],⟨La33,Ld14⟩,[]⟩)),(34,(.j ⟨[4,5,15,27],[6,7,8,12,51],⟨La33,Ld14⟩,[]⟩))]⟩
noncomputable def cobject_Apply:bR:=cn dobject_Apply oD
def dwellformed_Step:FT:=⟨⟨[.d Ka1,.d Ka14,.d Ka5],[]⟩,⟨[.d Ka14,.d .bool],[]⟩,cM [(3,(.j ⟨[],[3,4,5,6,39],⟨La33,La28⟩,[]⟩)),(11,(.j ⟨[],[3,4,5,6,70],⟨La33,La28⟩,[]⟩)),(20,(.j ⟨[],[3,4,5,6,8],⟨[.ptr 0 0,.ptr 1 0,.ptr 2 0,.ptr 3 0,.d Ka0],La28⟩,[]⟩)),(41,(.j ⟨[],[5,6,12],⟨Ld25,La89⟩,[]⟩))]⟩
noncomputable def cwellformed_Step:bR:=cn dwellformed_Step lB
def dwellformed_Check:FT:=⟨⟨[.d Ka24],[]⟩,⟨La65,[]⟩,cM [(26,(.j ⟨[27,28],[1,4,5,29],⟨[.ptr 0 0,.ptr 1 0,.csl 2 1 4,.d Ka0],[.cells 34 [.d Ka24],.cells 85 [.d Ka14],.cells 79 [.row 3,.row 4,.row 5,.row 6],.rows 4 true .bool,.rows 4 true .bool,.rows 4 true .bool,.rows 4 true .bool]⟩,[.cel 5 0 4 .bool,.cel 5 1 4 .bool,.cel 5 2 4 .bool,.cel 5 3 4 .bool]⟩)),(40,(.j ⟨[6,27,28,29],[1,4,5,7,8,53],⟨[.ptr 0 0,.ptr 1 0,.csl 2 1 4,.ptr 3 0,.ptr 4 0,.d .bool],[.cells 34 [.d Ka24],.cells 85 [.d Ka14],.cells 79 [.row 5,.row 6,.row 7,.row 8],.cells 42 [.d Ka5],.cells 85 [.d Ka14],.rows 4 true .bool,.rows 4 true .bool,.rows 4 true .bool,.rows 4 true .bool]⟩,[]⟩)),(41,(.s 7 0 0 4)),(47,(.j ⟨[27,28,29],[1,4,5,8],⟨[.ptr 0 0,.ptr 1 0,.csl 2 1 4,.ptr 3 0],[.cells 34 [.d Ka24],.cells 85 [.d Ka14],.cells 79 [.row 4,.row 5,.row 6,.row 7],.cells 85 [.d Ka14],.rows 4 true .bool,.rows 4 true .bool,.rows 4 true .bool,.rows 4 true .bool]⟩,[]⟩)),(48,(.s 7 0 0 4))]⟩
noncomputable def cwellformed_Check:bR:=cn dwellformed_Check fV
def dhb_Clocks:FT:=⟨⟨[.d Ka24],[]⟩,⟨[.d Ka23,.d Ka0],[]⟩,cM [(20,(.j ⟨[25,26],[1,6,7,27],⟨[.ptr 0 0,.ptr 1 0,.row 2,.d Ka0],[.cells 34 [.d Ka24],.cells 39 [.d Kd0],.rows 37 false (.sl Ka0)]⟩,[]⟩))]⟩
noncomputable def chb_Clocks:bR:=cn dhb_Clocks nK
def dhb_Races:FT:=⟨⟨[.d Ka24],[]⟩,⟨[.d (.sl Ka17),.d Ka0],[]⟩,cM [(20,(.j ⟨[4,6,23],[1,7,24],⟨La94,Ld21⟩,[.nil 7 73 Ka17]⟩)),(34,(.j ⟨[4,6,8,23,24,27],[1,7,28],⟨La94,Ld21⟩,[]⟩)),(42,(.j ⟨[4,6,8,23,24,27,28],[1,7],⟨[.ptr 0 0,.row 1],Ld21⟩,[]⟩)),(45,(.j ⟨[4,6,8,9,23,24,27,28],[1,7,46],⟨[.ptr 0 0,.row 1,.d .bool],Ld21⟩,[]⟩))]⟩
noncomputable def chb_Races:bR:=cn dhb_Races na
def dWorldC:FT:=⟨⟨[],[]⟩,⟨[.d Ka1],[]⟩,cM [(8,(.j ⟨[21],[0,1,22],⟨La43,La53⟩,[.cel 1 5 120 Ka16]⟩)),(22,(.j ⟨[2,21,22],[0,1,3],⟨La43,La53⟩,[]⟩))]⟩
noncomputable def cWorldC:bR:=cn dWorldC su
def dlaw23_two:FT:=⟨⟨[.d .bool],[]⟩,⟨[.d Ka24],[]⟩,cM [(6,(.j ⟨[],[2,3],⟨[.ptr 0 0,.ptr 1 0],[.cells 34 La66,.cells 34 [.d (.sl Ka10),.d (.sl Ka19),.d (.sl Ka20),.d (.sl .str),.d (.sl .str),.d (.sl Ka16),.row 2],.rows 42 false Ka5]⟩,[]⟩))]⟩
noncomputable def claw23_two:bR:=cn dlaw23_two pz
def dlaw23_awake:FT:=⟨⟨[],[]⟩,⟨[.d .bool],[]⟩,cM [(6,(.j ⟨[],[0],⟨[.d .bool],[]⟩,[]⟩))]⟩
noncomputable def claw23_awake:bR:=cn dlaw23_awake kO
def dlaw23_HBSteps:FT:=⟨⟨[.d (.st (.pr Ka22 (.pr Ka22 Ka22)))],[]⟩,⟨[.d .bool],[]⟩,cM [(10,(.j ⟨[22,23],[3,4,5,24],⟨La38,[.cells 34 [.d Ka24],.cells 39 [.d Kd0],.cells 39 [.d Kd0]]⟩,[]⟩)),(26,(.j ⟨[22,23,24],[3,4,5,8,9,10,59],⟨[.ptr 0 0,.ptr 1 0,.ptr 2 0,.ptr 3 0,.row 4,.ptr 5 0,.d .bool],Ld20⟩,[]⟩)),(37,(.j ⟨[22,23,24,61],[3,4,5,8,9,10,62],⟨[.ptr 0 0,.ptr 1 0,.ptr 2 0,.ptr 3 0,.row 4,.ptr 5 0,.d Ka0],Ld20⟩,[]⟩)),(51,(.j ⟨[22,23,24],[3,4,5,8,10,78],⟨[.ptr 0 0,.ptr 1 0,.ptr 2 0,.ptr 3 0,.ptr 4 0,.d .bool],[.cells 34 [.d Ka24],.cells 39 [.d Kd0],.cells 39 [.d Kd0],.cells 39 [.d Kd0],.cells 39 [.d Kd0]]⟩,[]⟩))]⟩
noncomputable def claw23_HBSteps:bR:=cn dlaw23_HBSteps iH
theorem hclock_At:aD Pg 43 cclock_At:=mk dclock_At eQ an bH
theorem zu x:bP (gN x) (qe x):=by
 unfold gN qe oh;with_reducible repeat' (first|exact bP.rfl|refine bP.chk ?_|refine bP.bcase ?_ ?_|refine bP.lt fun _=>?_|refine bP.jn ?_ fun _=>?_|refine bP.obind ?_ fun _=>?_|refine bP.iter fun _=>?_)
theorem hclock_Join:aD Pg 18 cclock_Join:=qg dclock_Join gN qe zu (ac hclock_At an) bH
theorem hr22_At:aD Pg 47 cr22_At:=mk dr22_At pw an bH
theorem Cx x:bP (dz x) (tE x):=by
 unfold dz tE tR;with_reducible repeat' (first|exact bP.rfl|refine bP.chk ?_|refine bP.bcase ?_ ?_|refine bP.lt fun _=>?_|refine bP.jn ?_ fun _=>?_|refine bP.obind ?_ fun _=>?_|refine bP.iter fun _=>?_)
theorem hr22_Join:aD Pg 23 cr22_Join:=qg dr22_Join dz tE Cx (ac hr22_At an) bH
theorem hClone0:aD Pg 42 cClone0:=mk dClone0 yn an bH
theorem hClone:aD Pg 42 cClone:= @aD.sub Pg 42 cClone0.pre cClone0.post yn rA hClone0 rfl (fun x y h=>pd (b:=8) x y h)
theorem A4 x:bP (er x) (rq x):=by
 unfold er rq pI;with_reducible repeat' (first|exact bP.rfl|refine bP.chk ?_|refine bP.bcase ?_ ?_|refine bP.lt fun _=>?_|refine bP.jn ?_ fun _=>?_|refine bP.obind ?_ fun _=>?_|refine bP.iter fun _=>?_)
theorem hhb_copies:aD Pg 41 chb_copies:=qg dhb_copies er rq A4 (ac hClone an) bH
theorem hCloneO0:aD Pg 42 cCloneO0:=mk dCloneO0 vU an bH
theorem hCloneO:aD Pg 42 cCloneO:= @aD.sub Pg 42 cCloneO0.pre cCloneO0.post vU qG hCloneO0 rfl (fun x y h=>pd (b:=8) x y h)
theorem hhb_copied:aD Pg 15 chb_copied:=mk dhb_copied nI (ac hhb_copies (ac hCloneO an)) bH
theorem hhb_entry:aD Pg 17 chb_entry:=mk dhb_entry m8 an bH
theorem hhb_Step_2:aD Pg 16 chb_Step_2:=mk dhb_Step_2 nJ (ac hhb_entry an) bH
theorem Cz x:bP (ja x) (tG x):=by
 unfold ja tG qN;with_reducible repeat' (first|exact bP.rfl|refine bP.chk ?_|refine bP.bcase ?_ ?_|refine bP.lt fun _=>?_|refine bP.jn ?_ fun _=>?_|refine bP.obind ?_ fun _=>?_|refine bP.iter fun _=>?_)
theorem hhb_Start:aD Pg 5 chb_Start:=qg dhb_Start ja tG Cz an bH
theorem hclock_Tick:aD Pg 19 cclock_Tick:=mk dclock_Tick mF an bH
theorem hCloneR0:aD Pg 42 cCloneR0:=mk dCloneR0 oY an bH
theorem hCloneR:aD Pg 42 cCloneR:= @aD.ro Pg 42 dCloneR0.pre dCloneR0.post.vs oY oc (hCloneR0.holds rfl) rfl (fun x _ h=>by rw[show oc x=obind (oY x) fun y=>same y.2 x (some y.1) from congrArg (obind _) (funext fun _=>zg ..)] at h;exact h)
theorem EZ x:bP (mT x) (yl x):=by
 unfold mT yl vg;with_reducible repeat' (first|exact bP.rfl|refine bP.chk ?_|refine bP.bcase ?_ ?_|refine bP.lt fun _=>?_|refine bP.jn ?_ fun _=>?_|refine bP.obind ?_ fun _=>?_|refine bP.iter fun _=>?_)
theorem hJoinR0:aD Pg 18 cJoinR0:=qg dJoinR0 mT yl EZ (ac hclock_At an) bH
theorem hJoinR:aD Pg 18 cJoinR:= @aD.ro Pg 18 dJoinR0.pre dJoinR0.post.vs mT rz (hJoinR0.holds rfl) rfl (fun x _ h=>by rw[show rz x=obind (mT x) fun y=>same y.2 x.2 (some y.1) from congrArg (obind _) (funext fun _=>zg ..)] at h;exact h)
theorem hhb_joinAt:aD Pg 44 chb_joinAt:=mk dhb_joinAt gR (ac hJoinR an) bH
theorem hhb_wake:aD Pg 45 chb_wake:=mk dhb_wake oW (ac hCloneR an) bH
theorem Cy x:bP (lY x) (tF x):=by
 unfold lY tF qM;with_reducible repeat' (first|exact bP.rfl|refine bP.chk ?_|refine bP.bcase ?_ ?_|refine bP.lt fun _=>?_|refine bP.jn ?_ fun _=>?_|refine bP.obind ?_ fun _=>?_|refine bP.iter fun _=>?_)
theorem hhb_enter:aD Pg 20 chb_enter:=qg dhb_enter lY tF Cy (ac hJoinR (ac hCloneR (ac hhb_joinAt (ac hhb_wake an)))) bH
theorem DV x:bP (mE x) (vM x):=by
 unfold mE vM sJ;with_reducible repeat' (first|exact bP.rfl|refine bP.chk ?_|refine bP.bcase ?_ ?_|refine bP.lt fun _=>?_|refine bP.jn ?_ fun _=>?_|refine bP.obind ?_ fun _=>?_|refine bP.iter fun _=>?_)
theorem hhb_Step:aD Pg 7 chb_Step:=qg dhb_Step mE vM DV (ac hhb_copied (ac hhb_Step_2 (ac hclock_Join (ac hclock_Tick (ac hhb_enter an))))) bH
theorem hr22_Copy:aD Pg 25 cr22_Copy:=mk dr22_Copy iS an bH
theorem yf x:bP (dA x) (pt x):=by
 unfold dA pt mW;with_reducible repeat' (first|exact bP.rfl|refine bP.chk ?_|refine bP.bcase ?_ ?_|refine bP.lt fun _=>?_|refine bP.jn ?_ fun _=>?_|refine bP.obind ?_ fun _=>?_|refine bP.iter fun _=>?_)
theorem hr22_CopyAll:aD Pg 46 cr22_CopyAll:=qg dr22_CopyAll dA pt yf (ac hr22_Copy an) bH
theorem hr22_CopyO:aD Pg 25 cr22_CopyO:=mk dr22_CopyO jZ an bH
theorem hr22_copied:aD Pg 21 cr22_copied:=mk dr22_copied mt (ac hr22_CopyO (ac hr22_CopyAll an)) bH
theorem Cv x:bP (kn x) (tC x):=by
 unfold kn tC qK;with_reducible repeat' (first|exact bP.rfl|refine bP.chk ?_|refine bP.bcase ?_ ?_|refine bP.lt fun _=>?_|refine bP.jn ?_ fun _=>?_|refine bP.obind ?_ fun _=>?_|refine bP.iter fun _=>?_)
theorem hr22_Tick:aD Pg 22 cr22_Tick:=qg dr22_Tick kn tC Cv (ac hr22_CopyO an) bH
theorem A0 x:bP (jY x) (rm x):=by
 unfold jY rm pC;with_reducible repeat' (first|exact bP.rfl|refine bP.chk ?_|refine bP.bcase ?_ ?_|refine bP.lt fun _=>?_|refine bP.jn ?_ fun _=>?_|refine bP.obind ?_ fun _=>?_|refine bP.iter fun _=>?_)
theorem hr22_Equal:aD Pg 29 cr22_Equal:=qg dr22_Equal jY rm A0 an bH
theorem DP x:bP (mw x) (vK x):=by
 unfold mw vK sI;with_reducible repeat' (first|exact bP.rfl|refine bP.chk ?_|refine bP.bcase ?_ ?_|refine bP.lt fun _=>?_|refine bP.jn ?_ fun _=>?_|refine bP.obind ?_ fun _=>?_|refine bP.iter fun _=>?_)
theorem hr22_Leq:aD Pg 27 cr22_Leq:=qg dr22_Leq mw vK DP (ac hr22_At an) bH
theorem hr22_Same:aD Pg 9 cr22_Same:=mk dr22_Same lG (ac hr22_Leq an) bH
theorem ye x:bP (dy x) (pq x):=by
 unfold dy pq mV;with_reducible repeat' (first|exact bP.rfl|refine bP.chk ?_|refine bP.bcase ?_ ?_|refine bP.lt fun _=>?_|refine bP.jn ?_ fun _=>?_|refine bP.obind ?_ fun _=>?_|refine bP.iter fun _=>?_)
theorem hr22_SameAll:aD Pg 28 cr22_SameAll:=qg dr22_SameAll dy pq ye (ac hr22_Same an) bH
theorem hr22_SameHB:aD Pg 10 cr22_SameHB:=mk dr22_SameHB gJ (ac hr22_Same (ac hr22_SameAll (ac hr22_Equal an))) bH
theorem hr22_Mutex:aD Pg 49 cr22_Mutex:=mk dr22_Mutex lH an bH
theorem hr22_Acquires:aD Pg 48 cr22_Acquires:=mk dr22_Acquires jA (ac hr22_Mutex an) bH
theorem hr22_Releases:aD Pg 26 cr22_Releases:=mk dr22_Releases jz (ac hr22_Mutex an) bH
theorem hr22_arriving:aD Pg 24 cr22_arriving:=mk dr22_arriving gj (ac hr22_Join (ac hr22_Acquires an)) bH
theorem hr22_arrivingR:aD Pg 24 cr22_arrivingR:= @aD.ro Pg 24 dr22_arriving.pre dr22_arriving.post.vs gj gE (hr22_arriving.holds rfl) rfl (fun x _ h=>by rw[show gE x=obind (gj x) fun y=>same y.2 x.2 (some y.1) from rfl] at h;exact h)
theorem Cw x:bP (lD x) (tD x):=by
 unfold lD tD qL;with_reducible repeat' (first|exact bP.rfl|refine bP.chk ?_|refine bP.bcase ?_ ?_|refine bP.lt fun _=>?_|refine bP.jn ?_ fun _=>?_|refine bP.obind ?_ fun _=>?_|refine bP.iter fun _=>?_)
theorem hr22_Step:aD Pg 8 cr22_Step:=qg dr22_Step lD tD Cw (ac hr22_copied (ac hr22_Tick (ac hr22_Join (ac hr22_arrivingR (ac hr22_Copy (ac hr22_Releases an)))))) bH
theorem AZ x:bP (lE x) (rk x):=by
 unfold lE rk rB;with_reducible repeat' (first|exact bP.rfl|refine bP.chk ?_|refine bP.bcase ?_ ?_|refine bP.lt fun _=>?_|refine bP.jn ?_ fun _=>?_|refine bP.obind ?_ fun _=>?_|refine bP.iter fun _=>?_)
theorem hr22_Start:aD Pg 6 cr22_Start:=qg dr22_Start lE rk AZ an bH
theorem tA x:bP (gB x) (lz x):=by
 unfold gB lz l7;with_reducible repeat' (first|exact bP.rfl|refine bP.chk ?_|refine bP.bcase ?_ ?_|refine bP.lt fun _=>?_|refine bP.jn ?_ fun _=>?_|refine bP.obind ?_ fun _=>?_|refine bP.iter fun _=>?_)
theorem htoken_IsKeyword:aD Pg 181 ctoken_IsKeyword:=qg dtoken_IsKeyword gB lz tA an bH
theorem w7 x:bP (jx x) (oz x):=by
 unfold jx oz oF;with_reducible repeat' (first|exact bP.rfl|refine bP.chk ?_|refine bP.bcase ?_ ?_|refine bP.lt fun _=>?_|refine bP.jn ?_ fun _=>?_|refine bP.obind ?_ fun _=>?_|refine bP.iter fun _=>?_)
theorem htoken_IsName:aD Pg 157 ctoken_IsName:=qg dtoken_IsName jx oz w7 (ac htoken_IsKeyword an) bH
theorem Ba x:bP (nL x) (rx x):=by
 unfold nL rx rF;with_reducible repeat' (first|exact bP.rfl|refine bP.chk ?_|refine bP.bcase ?_ ?_|refine bP.lt fun _=>?_|refine bP.jn ?_ fun _=>?_|refine bP.obind ?_ fun _=>?_|refine bP.iter fun _=>?_)
theorem hIndex_int:aD Pg 195 cIndex_int:=qg dIndex_int nL rx Ba an bH
theorem hContains_int:aD Pg 182 cContains_int:=mk dContains_int mh (ac hIndex_int an) bH
theorem hclock_Covers:aD Pg 53 cclock_Covers:=mk dclock_Covers oE (ac hclock_At an) bH
theorem hhb_access:aD Pg 70 chb_access:=mk dhb_access pB an bH
theorem hhb_conflict:aD Pg 52 chb_conflict:=mk dhb_conflict pA (ac hhb_access an) bH
theorem A3 x:bP (nH x) (rn x):=by
 unfold nH rn rC;with_reducible repeat' (first|exact bP.rfl|refine bP.chk ?_|refine bP.bcase ?_ ?_|refine bP.lt fun _=>?_|refine bP.jn ?_ fun _=>?_|refine bP.obind ?_ fun _=>?_|refine bP.iter fun _=>?_)
theorem hhb_epochs:aD Pg 51 chb_epochs:=qg dhb_epochs nH rn A3 an bH
theorem hcompile_within:aD Pg 158 ccompile_within:=mk dcompile_within mL an bH
theorem hcompile_isLock:aD Pg 123 ccompile_isLock:=mk dcompile_isLock mM (ac hcompile_within an) bH
theorem qT x:bP (eX x) (jj x):=by
 unfold eX jj jp;with_reducible repeat' (first|exact bP.rfl|refine bP.chk ?_|refine bP.bcase ?_ ?_|refine bP.lt fun _=>?_|refine bP.jn ?_ fun _=>?_|refine bP.obind ?_ fun _=>?_|refine bP.iter fun _=>?_)
theorem hcompile_validCells:aD Pg 121 ccompile_validCells:=qg dcompile_validCells eX jj qT an bH
theorem qS x:bP (eW x) (ji x):=by
 unfold eW ji jo;with_reducible repeat' (first|exact bP.rfl|refine bP.chk ?_|refine bP.bcase ?_ ?_|refine bP.lt fun _=>?_|refine bP.jn ?_ fun _=>?_|refine bP.obind ?_ fun _=>?_|refine bP.iter fun _=>?_)
theorem hcompile_validNames:aD Pg 122 ccompile_validNames:=qg dcompile_validNames eW ji qS (ac htoken_IsName an) bH
theorem qR x:bP (eV x) (jh x):=by
 unfold eV jh jm;with_reducible repeat' (first|exact bP.rfl|refine bP.chk ?_|refine bP.bcase ?_ ?_|refine bP.lt fun _=>?_|refine bP.jn ?_ fun _=>?_|refine bP.obind ?_ fun _=>?_|refine bP.iter fun _=>?_)
theorem hcompile_validSites:aD Pg 124 ccompile_validSites:=qg dcompile_validSites eV jh qR an bH
theorem qU x:bP (eY x) (jk x):=by
 unfold eY jk jq;with_reducible repeat' (first|exact bP.rfl|refine bP.chk ?_|refine bP.bcase ?_ ?_|refine bP.lt fun _=>?_|refine bP.jn ?_ fun _=>?_|refine bP.obind ?_ fun _=>?_|refine bP.iter fun _=>?_)
theorem hcompile_ValidWorld:aD Pg 97 ccompile_ValidWorld:=qg dcompile_ValidWorld eY jk qU (ac hcompile_validCells (ac hcompile_validNames (ac hcompile_isLock (ac hcompile_validSites an)))) bH
theorem xb x:bP (jF x) (oB x):=by
 unfold jF oB oH;with_reducible repeat' (first|exact bP.rfl|refine bP.chk ?_|refine bP.bcase ?_ ?_|refine bP.lt fun _=>?_|refine bP.jn ?_ fun _=>?_|refine bP.obind ?_ fun _=>?_|refine bP.iter fun _=>?_)
theorem hobject_Start:aD Pg 125 cobject_Start:=qg dobject_Start jF oB xb an bH
theorem sj x:bP (fU x) (kB x):=by
 unfold fU kB kQ;with_reducible repeat' (first|exact bP.rfl|refine bP.chk ?_|refine bP.bcase ?_ ?_|refine bP.lt fun _=>?_|refine bP.jn ?_ fun _=>?_|refine bP.obind ?_ fun _=>?_|refine bP.iter fun _=>?_)
theorem hwellformed_Start:aD Pg 98 cwellformed_Start:=qg dwellformed_Start fU kB sj (ac hobject_Start an) bH
theorem qb x:bP (c6 x) (ip x):=by
 unfold c6 ip iJ;with_reducible repeat' (first|exact bP.rfl|refine bP.chk ?_|refine bP.bcase ?_ ?_|refine bP.lt fun _=>?_|refine bP.jn ?_ fun _=>?_|refine bP.obind ?_ fun _=>?_|refine bP.iter fun _=>?_)
theorem hwellformed_allReads:aD Pg 100 cwellformed_allReads:=qg dwellformed_allReads c6 ip qb an bH
theorem hobject_within:aD Pg 160 cobject_within:=mk dobject_within dI an bH
theorem hobject_allowed:aD Pg 161 cobject_allowed:=mk dobject_allowed mK (ac hobject_within an) bH
theorem yg x:bP (iX x) (pu x):=by
 unfold iX pu pH;with_reducible repeat' (first|exact bP.rfl|refine bP.chk ?_|refine bP.bcase ?_ ?_|refine bP.lt fun _=>?_|refine bP.jn ?_ fun _=>?_|refine bP.obind ?_ fun _=>?_|refine bP.iter fun _=>?_)
theorem hobject_Fits:aD Pg 159 cobject_Fits:=qg dobject_Fits iX pu yg (ac hobject_within an) bH
theorem hobject_ready:aD Pg 162 cobject_ready:=mk dobject_ready oC (ac hContains_int an) bH
theorem hobject_Enabled:aD Pg 127 cobject_Enabled:=mk dobject_Enabled jP (ac hobject_Fits (ac hobject_within (ac hobject_allowed (ac hobject_ready an)))) bH
theorem hwellformed_fits:aD Pg 126 cwellformed_fits:=mk dwellformed_fits lA (ac hobject_Fits an) bH
theorem hwellformed_placed:aD Pg 128 cwellformed_placed:=mk dwellformed_placed jX an bH
theorem po x:bP (dV x) (gP x):=by
 unfold dV gP gS;with_reducible repeat' (first|exact bP.rfl|refine bP.chk ?_|refine bP.bcase ?_ ?_|refine bP.lt fun _=>?_|refine bP.jn ?_ fun _=>?_|refine bP.obind ?_ fun _=>?_|refine bP.iter fun _=>?_)
theorem hwellformed_determined:aD Pg 129 cwellformed_determined:=qg dwellformed_determined dV gP po an bH
theorem rj x:bP (fx x) (jV x):=by
 unfold fx jV kc;with_reducible repeat' (first|exact bP.rfl|refine bP.chk ?_|refine bP.bcase ?_ ?_|refine bP.lt fun _=>?_|refine bP.jn ?_ fun _=>?_|refine bP.obind ?_ fun _=>?_|refine bP.iter fun _=>?_)
theorem hwellformed_valued:aD Pg 130 cwellformed_valued:=qg dwellformed_valued fx jV rj an bH
theorem hobject_waits:aD Pg 188 cobject_waits:=mk dobject_waits mg an bH
theorem hCloneBO0:aD Pg 183 cCloneBO0:=mk dCloneBO0 tL an bH
theorem hCloneBO:aD Pg 183 cCloneBO:= @aD.sub Pg 183 cCloneBO0.pre cCloneBO0.post tL vV hCloneBO0 rfl (fun x y h=>pd (b:=1) x y h)
theorem hCloneTO0:aD Pg 184 cCloneTO0:=mk dCloneTO0 tJ an bH
theorem hCloneTO:aD Pg 184 cCloneTO:= @aD.sub Pg 184 cCloneTO0.pre cCloneTO0.post tJ vT hCloneTO0 rfl (fun x y h=>pd (b:=24) x y h)
theorem hCloneLO0:aD Pg 132 cCloneLO0:=mk dCloneLO0 tK an bH
theorem hCloneLO:aD Pg 132 cCloneLO:= @aD.sub Pg 132 cCloneLO0.pre cCloneLO0.post tK sv hCloneLO0 rfl (fun x y h=>pd (b:=8) x y h)
theorem xa x:bP (jE x) (oA x):=by
 unfold jE oA oG;with_reducible repeat' (first|exact bP.rfl|refine bP.chk ?_|refine bP.bcase ?_ ?_|refine bP.lt fun _=>?_|refine bP.jn ?_ fun _=>?_|refine bP.obind ?_ fun _=>?_|refine bP.iter fun _=>?_)
theorem hobject_clone:aD Pg 163 cobject_clone:=qg dobject_clone jE oA xa (ac hClone (ac hCloneBO (ac hCloneTO an))) bH
theorem vG x:bP (iG x) (nl x):=by
 unfold iG nl nM;with_reducible repeat' (first|exact bP.rfl|refine bP.chk ?_|refine bP.bcase ?_ ?_|refine bP.lt fun _=>?_|refine bP.jn ?_ fun _=>?_|refine bP.obind ?_ fun _=>?_|refine bP.iter fun _=>?_)
theorem hobject_notify:aD Pg 168 cobject_notify:=qg dobject_notify iG nl vG (ac hobject_waits an) bH
theorem sn x:bP (gd x) (kD x):=by
 unfold gd kD kU;with_reducible repeat' (first|exact bP.rfl|refine bP.chk ?_|refine bP.bcase ?_ ?_|refine bP.lt fun _=>?_|refine bP.jn ?_ fun _=>?_|refine bP.obind ?_ fun _=>?_|refine bP.iter fun _=>?_)
theorem hobject_notifyAll:aD Pg 169 cobject_notifyAll:=qg dobject_notifyAll gd kD sn (ac hobject_waits an) bH
theorem hobject_Apply:aD Pg 131 cobject_Apply:=mk dobject_Apply oD (ac hobject_Enabled (ac hobject_clone (ac hobject_notify (ac hobject_notifyAll an)))) bH
theorem hwellformed_Step:aD Pg 99 cwellformed_Step:=mk dwellformed_Step lB (ac hCloneO (ac hwellformed_fits (ac hobject_Enabled (ac hwellformed_placed (ac hwellformed_determined (ac hwellformed_valued (ac hobject_Apply (ac hCloneLO an)))))))) bH
def tv2 (t:TypeId):Option Ty:=if av t 79 then some (.pr .un (.pr .un (.pr .un (.pr .un (.pr .un Ka21))))) else bH t
theorem sk x:bP (fV x) (kC x):=by
 unfold fV kC kR;with_reducible repeat' (first|exact bP.rfl|refine bP.chk ?_|refine bP.bcase ?_ ?_|refine bP.lt fun _=>?_|refine bP.jn ?_ fun _=>?_|refine bP.obind ?_ fun _=>?_|refine bP.iter fun _=>?_)
theorem hwellformed_Check:aD Pg 69 cwellformed_Check:=qg dwellformed_Check fV kC sk (ac hcompile_ValidWorld (ac hwellformed_Start (ac hwellformed_Step (ac hwellformed_allReads an)))) tv2
theorem A5 x:bP (nK x) (ru x):=by
 unfold nK ru rD;with_reducible repeat' (first|exact bP.rfl|refine bP.chk ?_|refine bP.bcase ?_ ?_|refine bP.lt fun _=>?_|refine bP.jn ?_ fun _=>?_|refine bP.obind ?_ fun _=>?_|refine bP.iter fun _=>?_)
theorem hhb_Clocks:aD Pg 50 chb_Clocks:=qg dhb_Clocks nK ru A5 (ac hhb_Start (ac hhb_Step (ac hwellformed_Check an))) bH
theorem CA x:bP (na x) (tH x):=by
 unfold na tH tS;with_reducible repeat' (first|exact bP.rfl|refine bP.chk ?_|refine bP.bcase ?_ ?_|refine bP.lt fun _=>?_|refine bP.jn ?_ fun _=>?_|refine bP.obind ?_ fun _=>?_|refine bP.iter fun _=>?_)
theorem hhb_Races:aD Pg 30 chb_Races:=qg dhb_Races na tH CA (ac hhb_Clocks (ac hhb_epochs (ac hhb_conflict (ac hclock_Covers an)))) bH
theorem EY x:bP (su x) (yk x):=by
 unfold su yk yA;with_reducible repeat' (first|exact bP.rfl|refine bP.chk ?_|refine bP.bcase ?_ ?_|refine bP.lt fun _=>?_|refine bP.jn ?_ fun _=>?_|refine bP.obind ?_ fun _=>?_|refine bP.iter fun _=>?_)
theorem hWorldC:aD Pg 32 cWorldC:=qg dWorldC su yk EY an bH
theorem hlaw23_two:aD Pg 31 claw23_two:=mk dlaw23_two pz (ac hWorldC an) bH
theorem hlaw23_awake:aD Pg 11 claw23_awake:=mk dlaw23_awake kO (ac hhb_Races (ac hlaw23_two an)) bH
theorem hlaw23_HBSteps:aD Pg 3 claw23_HBSteps:=mk dlaw23_HBSteps iH (ac hscene_Run_Trace (ac hhb_Start (ac hr22_Start (ac hhb_Step (ac hr22_Step (ac hr22_Same (ac hr22_SameHB (ac hlaw23_awake an)))))))) bH
theorem run_law {P:Program} {f:FuncId} {pre:Tm} {m:pre.ty.den→Option (Tm.ty ⟨[.d .bool],[]⟩).den} (sp:kw P f ⟨pre,⟨[.d .bool],[]⟩,m⟩) (h0:pre.bs.length=0) {x:pre.ty.den} (hx:m x=some true) {vs:List TV} {hp:THeap} (hi:sF pre x=some (vs,hp)) {la:List AV} (hla:ci hp vs=some la)
 {W:World} {us:List Value} (hg:∀ g cells,G g=some cells→iM (fun _=>False) W (.ptr cells 0) (.pointer (some ⟨g,0,none⟩))) (hrel:fP (fun _=>none) (fun _=>False) W la us):
 Calls P f us.toArray W fun e w'=>e= .returned (.bool true)∧Below W.heap.size W w':=by
 obtain⟨l1,I⟩:=o6 hi;obtain⟨l2,J⟩:=o6 (t:=⟨[.d .bool],[]⟩) (x:=true) (vs:=[.f .bool true]) (h1:=PT.leaf) rfl;have hn:bp hp=fun _=>none:=by
  funext n;cases hb:bp hp n with
  |none=>rfl
  |some b=>
   obtain⟨i,c,rfl,h1,_⟩:=fo hb;have:=I.lt_len h1;omega
 have own0:∀ (φ:PM) k,¬own φ (bp hp) k:=by rintro φ k ⟨i,b,h1,_⟩;rw[hn] at h1;cases h1
 have htot:tot (fun _=>False) (fun _=>none) (bp hp)=fun _=>False:=by
  funext k;exact propext ⟨fun h=>h.elim id fun h=>absurd h (own0 _ k),fun h=>h.elim⟩
 refine Calls.mono (sp.calls x true hx vs hp l1 _ PT.leaf l2 la _ I J hla rfl (fun _=>none) (fun _=>False) W us ⟨(fun i j b b' k h1=>by rw[hn] at h1;cases h1),(fun i b h1=>by rw[hn] at h1;cases h1),(fun k h=>h.elim),(fun g cells h=>by rw[htot];exact hg g cells h)⟩ (by rw[htot];exact hrel) (fun n k h=>by cases h)) ?_;rintro en w' ⟨v,φ',rfl,he,_,_,_,hv⟩;refine ⟨?_,⟨he.os,he.tape,he.output,he.size,fun k hk=>he.blk k hk (own0 _ k)⟩⟩;have hv:cg φ' _ w' (.f (.raw (.bool true))) v:=hv;cases hv with
 |f h=>cases h;rfl
theorem gKw:Tryz.prog.globalNamed "interleave/token.keywords" =some 0:=by kernel_rfl
theorem tKw:(Tryz.prog.globals[0]?).map (·.type)=some 277:=by kernel_rfl
theorem kw_of_laid {W:World} (h:laidMetH Tryz.prog [("interleave/token.keywords",Rows.laid_interleave_token_keywords)] W):∀ g cells,G g=some cells→iM (fun _=>False) W (.ptr cells 0) (.pointer (some ⟨g,0,none⟩)):=by
 intro g cells hG;unfold G at hG;split at hG
 ·rename_i hg;have hg:=eq_of_beq hg;subst hg;cases hG;rw[MakeChecks.laidMetH_plain _ _ _ (by kernel_rfl)] at h;obtain⟨ps,⟨g0,t0,cs0,f0,p0,q0,hg0,ht0,hv0,hd0,_,_⟩,_,_⟩:=h;obtain rfl:=fI (gKw.symm.trans hg0);obtain rfl:=fI (tKw.symm.trans ht0);obtain⟨xs,m1,rfl,hx1,hlen,hn,hel⟩:=DataW.trod_array Tryz.underlying277 hd0;have c1:Tryz.prog.cellsOf 9=1:=by kernel_rfl
  have c22:Tryz.prog.cellsOf 277=22:=by kernel_rfl
  rw[c22] at hlen;simp only[ay,Rows.laid_interleave_token_keywords,DataW.agg.injEq] at hx1;have hxs:=hx1.1;have hcell:∀ j,j<22→∃ l,(xs.map (·.1))[j]? =some (.lit (.string l))∧W.cell? ⟨0,j,none⟩=some (.string ⟨l.toArray⟩):=fun j hj=>by
   have h1:=hel j hj;rw[c1,Nat.mul_one] at h1;rw[aw (by omega)] at h1;obtain⟨s,e1,e2,_⟩:=DataW.trod_string Tryz.underlying9 h1;refine ⟨s.data.toList,?_,?_⟩
   ·rw[aY,aw (by omega),bN,e2]
   ·have:=World.var?_cell hg0 hv0 j;rw[this];have h2:cs0.toList[j]? =some (.string s):=by
     have:((cs0.toList.drop j).take 1)[0]? =some (.string s):=by rw[e1];rfl
     rw[cr,if_pos (by omega),dY] at this;simpa using this
    rw[← b8,h2]
  have hb:0<W.heap.size:=by
   obtain⟨l,_,h2⟩:=hcell 0 (by omega);exact World.block_lt_of_cell? W _ h2
  refine .ptr kwCells 0 0 0 (fun j=>(W.cell? ⟨0,j,none⟩).getD undef) (fun h=>h) hb (fun x hx=>?_) (fun j hj=>?_) (fun j x hx=>?_)
  ·simp only[kwCells,bo,cf,or_false] at hx;rcases hx with rfl|rfl|rfl|rfl|rfl|rfl|rfl|rfl|rfl|rfl|rfl|rfl|rfl|rfl|rfl|rfl|rfl|rfl|rfl|rfl|rfl|rfl<;>rfl
  ·obtain⟨l,_,h2⟩:=hcell j hj;rw[bw,h2];rfl
  ·have hj:j<22:=(bg.1 hx).1;obtain⟨l,h1,h2⟩:=hcell j hj;rw[← hxs] at h1;have:x= .raw (.string ⟨l.toArray⟩):=by
    rcases j with _|_|_|_|_|_|_|_|_|_|_|_|_|_|_|_|_|_|_|_|_|_|j;all_goals first|(simp only[lh,List.getElem?_cons_succ,ae,DataW.lit.injEq,Lit.string.injEq,kwCells] at h1 hx;subst h1;subst hx;rfl)|omega
   rw[this,h2];exact .raw _
 ·cases hG
end Go.Proofs.YtecomllighcieaaGreatDoor.AI
