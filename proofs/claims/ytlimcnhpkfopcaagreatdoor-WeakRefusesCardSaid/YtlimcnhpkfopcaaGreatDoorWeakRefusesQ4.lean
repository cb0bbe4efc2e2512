/-
  Texts of the proof, part 5 of 6: what is used to prove the statement. No condition.
-/
import Derived.Test.YtlimcnhpkfopcaaGreatDoorWeakRefusesQ3
import Derived.Deep.Slices
import Derived.OpenShut
import Derived.Below
import Derived.Test.YtlimcnhpkfopcaaGreatDoorProg
import Derived.KernelRfl
namespace Go.Proofs.YtlimcnhpkfopcaaGreatDoor.AI
open Go.RowKit
set_option maxRecDepth 100000
set_option maxHeartbeats 4000000
set_option linter.unusedVariables false
set_option linter.unusedSimpArgs false
set_option linter.defProp false
open _root_.Array renaming replicate→uc
open _root_.Bool renaming true→J,false→aa,not_true→yI,false_or→yJ
open Call renaming operands→dI
open _root_.Int renaming ofNat_eq_natCast→ak,ofNat→aR,toNat→aS,toNat_natCast→bF,tmod→bJ
open _root_.List renaming length→l!,length→ah,replicate→aF,length_singleton→bP,length_cons→bX,take→dg,getElem?_cons_zero→dH,map→fX,cons_append→iE,replicate_succ→iU,range→kY,length_nil→lm,getElem?_cons_succ→mL,nil_append→m8,append→sK,map_drop→ue,getElem?_concat_length→uM,set→wn,map_nil→wI,take_succ_cons→xA,flatMap_append→xC
open _root_.Nat renaming beq→ax,testBit→aO,add_zero→cZ,blt→dJ,ble→dK,mod_eq_of_lt→Ed,mul_one→Gi,blt_eq→NG,le_succ→QE
open _root_.Option renaming some→Z,none→U,bind_some→aC,map_some→bx,map→ik,getD_some→nY,bind_none→wG
open _root_.Prod renaming a→aY,b→bi,c→bt,e→bN,d→b7,g→cW,h→cY,f→dc,m→dN,i→fx,p→iX,l→jH,j→kh,n→ki,k→kl,o→lA,ext→oP,D→NF
open Result renaming andThen_ok→cM
open Sem renaming run_bind→ec,run_pure→pT
open _root_.Sum renaming inr→cw,inl→wF
open Value renaming okWide→J1
open World renaming cell?→QD
noncomputable section
structure ri (P:Program) (f:FuncId) (c:cD):Prop where
 zw:Gh P f
 calls:∀x y,c.m x=Z y->∀vs hp l1 rs hq l2 la lr,pB c.pre x vs hp l1->pB c.post y rs hq l2->cO hp vs=Z la->cO hq rs=Z lr->
  ∀(φ:PM) (E:Nat->Prop) (w:World) (us:ξ),sq φ E (erHF hp) w->lV φ (tot E φ (erHF hp)) w la us->(∀n k,φ n=Z k->ow n<l! c.pre.bs)->
  Calls P f us.toArray w λen w'=>∃v φ',en= .returned v/\Gf (own φ (erHF hp)) w w'/\(∀k,k<w.heap.size->own φ' (erHF hq) k->own φ (erHF hp) k)/\(∀n,ow n<l! c.pre.bs->φ' n=φ n)/\sq φ' E (erHF hq) w'/\cu φ' (tot E φ' (erHF hq)) w' (Em lr) v
variable {g:Nat->Nat}
def Py :∀(bs:Y PB) (x:(PB.tyL bs).den) (l:Y (M eG)),DI bs=J->pF g bs x=Z l->∀(i:Nat) (c:M eG),l[i]? =Z c->∃b,c=Z b
 |[],x,l,_,hp,i,c,z=>by simp only[pF,af]at hp;subst hp;simp at z
 |b::r,x,l,A,hp,i,c,z=>by
  simp only[pF]at hp;split at hp
  .rename_i a d;split at hp
   .rename_i q D;cases hp;cases i with
    |zero=>
     simp at z;subst z;cases b with
     |qk=>simp[DI]at A
     |C ty L=>
      simp only[Ct]at d;split at d
      .simp only[af]at d;exact⟨_,d.symm⟩
      .cases d
     |_=>simp only[Ct,af]at d;exact⟨_,d.symm⟩
    |succ i=>
     refine Py r _ q ?_ D i c (by simpa using z);cases b<;>first|exact A|simp[DI]at A
   .cases hp
  .cases hp
variable {h:bk}
def HM {h2:bk} :∀n,vr h h2 g n=J->∀i,i<n->∀r,eu h (g i)=Z r->eu h2 (g i)=Z r
 |0,_,i,hi,_,_=>by omega
 |n+1,d,i,hi,r,z=>by
  simp only[vr,au]at d;by_cases e:i=n
  .subst e;obtain⟨p,s,k⟩:=r;have h1:=d.1;rw[z]at h1;cases A:eu h2 (g i) with
   |none=>rw[A]at h1;cases h1
   |some q=>
    obtain⟨D,s',F⟩:=q;rw[A]at h1;simp only[au,cF]at h1;rw[h1.1.1,av h1.1.2,av h1.2]
  .exact HM n d.2 i (by omega) r z
variable {S:HF} {V:PM} {O:Nat->Prop}
def lV.le {H':HF} {w:World} (r:sq V O S w):∀{l l':Y AV} {d:ξ},gO S H' l l'->lV V (tot O V S) w l d->lV V (tot O V H') w l' d
 |[],[],[],_,_=>trivial
 |[],[],_::_,_,h|_::_,_::_,[],_,h|[],_::_,_,h,_|_::_,[],_,h,_=>h.elim
 |_::_,_::_,_::_,z,h=>⟨z.1 _ _ _ _ r h.1,lV.le r z.2 h.2⟩
variable {p:Nat->Bool}
def lV.toId {φ':PM} {O':Nat->Prop} {w:World} (z:∀x v,x.all p=J->cu V O w (x.qx g) v->cu φ' O' w x v):∀{l:Y AV} {d:ξ},AV.allL p l=J->lV V O w (AV.renL g l) d->lV φ' O' w l d
 |[],[],_,_=>trivial
 |[],_::_,_,h|_::_,[],_,h=>h.elim
 |_::_,_::_,hp,h=>by
  simp only[AV.allL,au]at hp;exact⟨z _ _ hp.1 h.1,lV.toId z hp.2 h.2⟩
def Y1 :∀{z:Y TV} {d:Y AV},cO h z=Z d->cg h (Th z)=Z (Em d)
 |[],d,he=>by simp only[cO,af]at he;subst he;rfl
 |[x],d,he=>by
  obtain⟨y,A,rfl,e1,e2⟩:=dh he;simp only[cO,af]at e2;subst e2;exact e1
 |x::y::r,d,he=>by
  obtain⟨F,A,rfl,e1,e2⟩:=dh he;obtain⟨D,L,rfl,e3,N⟩:=dh e2;simp only[Th,cg,he,Em]
def adn (γ:Nat->Nat):∀l:Y AV,Em (AV.renL γ l)=(Em l).qx γ
 |[]|[x]|x::y::r=>rfl
def SO :∀{l:Y AV},AV.allL p l=J->(Em l).all p=J
 |[],_=>rfl
 |[x],h=>by simp only[AV.allL,au]at h;exact h.1
 |x::y::r,h=>h
variable {i j:Nat}
def aj1 {q:Nat}:aO (((1<<<j)-1)<<<i) q=J↔i<=q/\q<i+j:=by
 rw[Nat.testBit_shiftLeft,Nat.one_shiftLeft,Nat.testBit_two_pow_sub_one];simp only[au,bB];omega
def aiz (l:ι) (B:Nat):ι:=l.flatMap λi=>(kY (B+1)).map λk=>jK i k
def TB {l:ι} :j∈aiz l i↔ow j∈l/\ix j<=i:=by
 unfold aiz;rw[sv];constructor
 .rintro⟨B,hi,d⟩;obtain⟨k,z,rfl⟩:=cq.1 d;rw[oR]at z;rw[iL,vN];exact⟨hi,by omega⟩
 .rintro⟨h1,h2⟩;exact⟨ow j,h1,cq.2 ⟨ix j,oR.2 (by omega),lb j⟩⟩
mutual
def AV.all_and {p q:Nat->Bool}:∀x:AV,x.all p=J->x.all q=J->x.all (λn=>p n&&q n)=J
 |.f _,_,_=>rfl
 |.H _ _,h1,h2|.sl _ _ _,h1,h2|.G _ _ _,h1,h2|.mp _,h1,h2=>by simp only[AV.all]at h1 h2 ⊢;rw[h1,h2];rfl
 |.emp,_,_|.qv,_,_|.qd _ _,_,_=>rfl
 |.agg l,h1,h2|.qg l,h1,h2|.qy _ l,h1,h2=>AV.allL_and l h1 h2
def AV.allL_and {p q:Nat->Bool}:∀l:Y AV,AV.allL p l=J->AV.allL q l=J->AV.allL (λn=>p n&&q n) l=J
 |[],_,_=>rfl
 |x::r,h1,h2=>by
  simp only[AV.allL,au]at h1 h2 ⊢;exact⟨AV.all_and x h1.1 h2.1,AV.allL_and r h1.2 h2.2⟩
end
def BC.all_and {q:Nat->Bool} {c:BC} (h1:c.all p=J) (h2:c.all q=J):c.all (λn=>p n&&q n)=J:=by
 cases c with
 |mx l=>exact AV.allL_and l h1 h2
 |mp es=>exact AV.allL_and _ h1 h2
 |_=>rfl
def Wp (B n:Nat):Bool:=dK (ix n) B
def E2 {n:Nat} (h:i<=j) (d:Wp i n=J):Wp j n=J:=ba (c9 (aZ d) h)
mutual
def AV.all_ix {B B':Nat} (h:B<=B'):∀x:AV,x.all (Wp B)=J->x.all (Wp B')=J
 |.f _,_=>rfl
 |.H _ _,h1|.sl _ _ _,h1|.G _ _ _,h1|.mp _,h1=>E2 h h1
 |.emp,_|.qv,_|.qd _ _,_=>rfl
 |.agg l,h1|.qg l,h1|.qy _ l,h1=>AV.allL_ix h l h1
def AV.allL_ix {B B':Nat} (h:B<=B'):∀l:Y AV,AV.allL (Wp B) l=J->AV.allL (Wp B') l=J
 |[],_=>rfl
 |x::r,h1=>by
  simp only[AV.allL,au]at h1 ⊢;exact⟨AV.all_ix h x h1.1,AV.allL_ix h r h1.2⟩
end
mutual
def AV.ix_ex:∀x:AV,∃B,x.all (Wp B)=J
 |.f _=>⟨0,rfl⟩
 |.H n _|.sl n _ _|.G n _ _|.mp n=>⟨ix n,ba (cA _)⟩
 |.emp|.qv|.qd _ _=>⟨0,rfl⟩
 |.agg l|.qg l|.qy _ l=>AV.ixL_ex l
def AV.ixL_ex:∀l:Y AV,∃B,AV.allL (Wp B) l=J
 |[]=>⟨0,rfl⟩
 |x::r=>by
  obtain⟨a,ha⟩:=AV.ix_ex x;obtain⟨b,hb⟩:=AV.ixL_ex r;exact⟨a+b,by simp only[AV.allL,au];exact⟨AV.all_ix (by omega) x ha,AV.allL_ix (by omega) r hb⟩⟩
end
def BC.ix_ex (c:BC):∃B,c.all (Wp B)=J:=by
 cases c with
 |mx l=>exact AV.ixL_ex l
 |mp es=>exact AV.ixL_ex _
 |_=>exact⟨0,rfl⟩
def BC.all_ix (h:i<=j) {c:BC} (h1:c.all (Wp i)=J):c.all (Wp j)=J:=by
 cases c with
 |mx l=>exact AV.allL_ix h l h1
 |mp es=>exact AV.allL_ix h _ h1
 |_=>rfl
def Kl (h:bk):∃B,∀n y,erHF h n=Z y->ix n<=B/\y.c.all (Wp B)=J:=by
 obtain⟨g,hM⟩:=Za h;obtain⟨N,hN⟩:=PT.bound h;have key:∀a:Nat,∃B,∀n y,n<a->erHF h n=Z y->y.c.all (Wp B)=J:=by
  intro a;induction a with
  |zero=>exact⟨0,λn y F=>by omega⟩
  |succ a ih=>
   obtain⟨B,A⟩:=ih;cases D:erHF h a with
   |none=>exact⟨B,λn y F d=>by
     by_cases e:n=a
     .subst e;rw[D]at d;cases d
     .exact A n y (by omega) d⟩
   |some z=>
    obtain⟨C,hC⟩:=BC.ix_ex z.c;exact⟨B+C,λn y F d=>by
     by_cases e:n=a
     .subst e;rw[D]at d;cases d;exact BC.all_ix (by omega) hC
     .exact BC.all_ix (by omega) (A n y (by omega) d)⟩
 obtain⟨H,hH⟩:=gD h;obtain⟨L,hL⟩:=PT.bound H;obtain⟨B,A⟩:=key L;refine ⟨g+B,λn y d=>⟨c9 (aju hM d) (by omega),BC.all_ix (by omega) (A n y ?_ d)⟩⟩;rcases bu n L with h1|h1
 .exact h1
 .have:=hL n h1;rw[hH,d]at this;cases this
variable {P:Program} {f:FuncId}
def agb {o:Oper} {e:h_} {c:cD} {l:Y TV} (hinv:gV h i) (sp:ri P f c) {x:c.pre.ty.den} {σ:PT Nat} {sm:Nat} (A:Kx 0 c.pre l h x j σ sm) {vs:Y TV} {hp:bk} {l1:Y (M eG)} (I:pB c.pre x vs hp l1) (hng:DI c.pre.bs=J) {y:c.post.ty.den} (hm:c.m x=Z y) {rs:Y TV} {hq:bk} {l2:Y (M eG)} (D:pB c.post y rs hq l2) (hle:l! c.pre.bs<=l! c.post.bs)
 (glo:∀nx,nx<l! c.pre.bs->g nx=ip σ nx) (ghi:∀nx,l! c.pre.bs<=nx->g nx=i+(nx-l! c.pre.bs)) {h2:bk} (hh2:h2=CA g 0 (l2.map (ik (lj g))) (dM j h)) (hsr:vr h h2 g (l! c.pre.bs)=J) {la:Y AV} (hla:cO h l=Z la)
 (hexec:∀(φ:PM) (E:Nat->Prop) (h':HF) (w:World) (a:Act),(∀t,.tmp t∈o.op.operands->∀y,fB e h t=Z y->cu φ (tot E φ h') w y (a.tmps.getD t undef))->sq φ E h' w->∃us:ξ,(execOp a.eval o).run P w= .ok (.enter f us.toArray) w/\lV φ (tot E φ h') w la us):
 eL P o aa e h i (Th (lC g rs)) (sm|||j) (sm|||j|||(((1<<<(l! c.post.bs-l! c.pre.bs))-1)<<<i)) h2 (i+(l! c.post.bs-l! c.pre.bs)):=by
 obtain⟨x1,m1,x2,m2,hx,hmm,gv,gb⟩:=A.ex;have hmr:dG h j:=by rw[hmm];exact (Ko _ _ _ _ gv).or (Kq _ _ _ _ gb)
 generalize hnp:l! c.pre.bs=np at*
 generalize hnq:l! c.post.bs=nq at*
 have pvg:rA (ip σ) c.pre.vs x1=Z (lC (ip σ) vs):=by
  have h3:=vg (ip σ) c.pre.vs x1;have h4:=I.pv;rw[hx,uW]at h4;rw[h3,h4];rfl
 have pbg:pF (ip σ) c.pre.bs x2=Z (l1.map (ik (lj (ip σ)))):=by
  have h3:=xN (ip σ) c.pre.bs x2;have h4:=I.pb;rw[hx,wL]at h4;rw[h3,h4];rfl
 have hl1:∀nx,nx<np->∃b,l1[nx]? =Z (Z b):=λnx hi=>by
  have hi':nx<l! l1:=by rw[I.len,hnp];exact hi
  obtain⟨b,d⟩:=Py c.pre.bs _ l1 hng I.pb nx l1[nx] (aD hi');exact⟨b,by rw[aD hi',d]⟩
 have hbm:∀nx b,l1[nx]? =Z (Z b)->∃b0,h.get (ip σ nx)=Z b0/\BM (ip σ) h j b0 (lj (ip σ) b):=λnx b d=>by
  obtain⟨b0,q1,q2⟩:=L2 c.pre.bs 0 x2 m2 _ gb pbg nx (lj (ip σ) b) (by rw[a8,d];rfl);rw[bO]at q1;exact⟨b0,q1,q2.mono λm hj=>by rw[hmm,bA,hj];simp⟩
 have inj1:∀a b,a<np->b<np->ip σ a=ip σ b->a=b:=λa b ha d=>A.inj a b (by rw[hnp];exact ha) (by rw[hnp];exact d)
 have sig:∀q,aO sm q=J↔∃k,k<np/\ip σ k=q:=λq=>by rw[A.sig,hnp]
 have gnx:∀nx,nx<np->ip σ nx<i:=λnx hi=>by
  obtain⟨b,d⟩:=hl1 nx hi;obtain⟨b0,q1,_⟩:=hbm nx b d;exact hinv.low _ _ q1
 have hmS:∀nx,nx<np->aO j (ip σ nx)=aa:=λnx hi=>by
  cases hx:aO j (ip σ nx) with
  |false=>rfl
  |true=>have:=A.disj _ hx;rw[(sig _).2 ⟨nx,hi,rfl⟩]at this;cases this
 have injg:∀a b,a<nq->b<nq->g a=g b->a=b:=λa b ha d hab=>by
  by_cases h1:a<np
  .by_cases h2:b<np
   .rw[glo a h1,glo b h2]at hab;exact inj1 a b h1 h2 hab
   .rw[glo a h1,ghi b (by omega)]at hab;have:=gnx a h1;omega
  .by_cases h2:b<np
   .rw[ghi a (by omega),glo b h2]at hab;have:=gnx b h2;omega
   .rw[ghi a (by omega),ghi b (by omega)]at hab;omega
 let hv:bk:=CA (ip σ) 0 (l1.map (ik (lj (ip σ)))) (dM j h)
 have hv_at:∀nx b,l1[nx]? =Z (Z b)->hv.get (ip σ nx)=Z (lj (ip σ) b):=λnx b d=>by
  have:=wP (ip σ) (l1.map (ik (lj (ip σ)))) 0 (dM j h) (λa b ha d=>by
   simp only[bS,I.len,hnp]at ha d;simp only[bO];exact inj1 a b ha d) nx (Z (lj (ip σ) b)) (by rw[a8,d];rfl)
  rw[bO]at this;exact this
 have hv_ne:∀m,(∀nx,nx<np->m≠ip σ nx)->hv.get m=(dM j h).get m:=λm hj=>
  wO (ip σ) _ 0 _ m λk L=>by
   simp only[bS,I.len,hnp]at L;rw[bO];exact hj k L
 have rows_in:zS hv h:=λm r hr=>by
  rw[bH]at hr ⊢;by_cases hj:∃nx,nx<np/\m=ip σ nx
  .obtain⟨nx,hi,rfl⟩:=hj;obtain⟨b,d⟩:=hl1 nx hi;obtain⟨b0,q1,q2⟩:=hbm nx b d;rw[hv_at nx b d]at hr;rw[q1];simp only[aC]at hr ⊢;rw[<- q2.G];exact hr
  .rw[hv_ne m (λnx hi e=>hj ⟨nx,hi,e⟩),iP]at hr;split at hr
   .rename_i ht;obtain⟨ty,p,T,xs,d⟩:=hmr m ht;rw[d]at hr ⊢;exact hr
   .exact hr
 have rows_hp:∀nx r,eu hp nx=Z r->eu hv (ip σ nx)=Z r:=λnx r hr=>by
  rw[bH]at hr ⊢;cases d:hp.get nx with
  |none=>rw[d]at hr;cases hr
  |some b=>
   rw[d]at hr;rw[hv_at nx b ((I.at_ nx b).1 d)];simp only[aC,KN]at hr ⊢;exact hr
 have dead_m:∀nx,aO j nx=J->erHF hv (nm nx)=U:=λnx hi=>by
  rw[bQ,hv_ne nx (λk L e=>by rw[e,hmS k L]at hi;cases hi)];obtain⟨p,sz,n,hd⟩:=vj hmr hi;rw[hd];rfl
 have h2_at:∀nx cc,l2[nx]? =Z cc->h2.get (g nx)=(match cc with|some b=>Z (lj g b)|none=>((dM j h).get (g nx)).map uC):=λnx cc hc=>by
  have:=wP g (l2.map (ik (lj g))) 0 (dM j h) (λa b ha d=>by
   simp only[bS,D.len,hnq]at ha d;simp only[bO];exact injg a b ha d) nx (cc.map (lj g)) (by rw[a8,hc];rfl)
  rw[bO]at this;rw[hh2,this];cases cc<;>rfl
 have h2_ne:∀m,(∀nx,nx<nq->m≠g nx)->h2.get m=(dM j h).get m:=λm hj=>by
  rw[hh2];refine wO g _ 0 _ m λk L=>?_
  simp only[bS,D.len,hnq]at L;rw[bO];exact hj k L
 have rows_hq:∀nx r,eu hq nx=Z r->eu h2 (g nx)=Z r:=λnx r hr=>by
  rw[bH]at hr ⊢;cases d:hq.get nx with
  |none=>rw[d]at hr;cases hr
  |some b=>
   rw[d]at hr;rw[h2_at nx _ ((D.at_ nx b).1 d)];simp only[aC,KN]at hr ⊢;exact hr
 have rows2:b9 h h2:=λm r hr=>by
  by_cases hj:∃nx,nx<np/\m=ip σ nx
  .obtain⟨nx,hi,rfl⟩:=hj;rw[<- glo nx hi]at hr ⊢;exact HM np hsr nx hi r hr
  .have hjn:m<i:=by
    rw[bH]at hr;cases d:h.get m with
    |none=>rw[d]at hr;cases hr
    |some b=>exact hinv.low m b d
   have:=b9.kill j h m r hr;rw[bH]at this ⊢;rw[h2_ne m (λnx hi e=>?_)]
   .exact this
   .by_cases hip:nx<np
    .exact hj ⟨nx,hip,by rw[e,glo nx hip]⟩
    .rw[ghi nx (by omega)]at e;omega
 obtain⟨lr,hlr⟩:=eR hq rs D.ok;obtain⟨lp,hlp⟩:=eR hp vs I.ok;have er2:∀n yb,erHF hq n=Z yb->erHF h2 (pC g n)=Z (yb.qx (pC g)):=λn yb N=>by
  obtain⟨b,d,hyb⟩:=iR N;unfold erHF;rw[xg,yZ,h2_at _ _ ((D.at_ _ b).1 d)];exact Cg rows_hq hyb
 have er2':∀n,ow n<nq->∀z,erHF h2 (pC g n)=Z z->∃yb,erHF hq n=Z yb/\z=yb.qx (pC g):=λn hi z hz=>by
  have hi':ow n<l! l2:=by rw[D.len,hnq];exact hi
  have hcc:=aD hi';unfold erHF at hz;rw[xg,yZ]at hz;cases hcv:l2[ow n] with
  |none=>
   rw[hcv]at hcc;rw[h2_at _ U hcc]at hz;simp only at hz;cases hkg:(dM j h).get (g (ow n)) with
   |none=>rw[hkg]at hz;cases hz
   |some b0=>rw[hkg]at hz;exact (Me hz).elim
  |some b=>
   rw[hcv]at hcc;have d:=(D.at_ _ b).2 hcc;rw[h2_at _ (Z b) hcc]at hz;have hz:NJ h2 (g (ow n)) (ix n) (lj g b)=Z z:=hz;have hyb:∃yb,NJ hq (ow n) (ix n) b=Z yb:=by
    cases L:ix n with
    |zero=>
     rw[L]at hz;cases b with
     |F ty p T xs=>exact⟨z,hz⟩
     |C ty q=>
      obtain⟨q',hq'⟩:=eR hq q (D.C _ _ q d).1;cases ty<;>exact⟨_,by simp only[NJ,jY,hq'];rfl⟩
     |qj p sz n=>cases hz
     |mp K V es=>exact⟨_,rfl⟩
     |I F a x=>
      simp only[NJ,lj,jY,UD]at hz;obtain⟨y,hy,_⟩:=dz.1 hz;exact⟨y,hy⟩
     |qm F a x k p=>exact cN d (D.nox _ F a x k p)
    |succ k=>
     rw[L]at hz;simp only[NJ,TD]at hz;obtain⟨y,hy,_⟩:=dz.1 hz;exact⟨y,hy⟩
   obtain⟨yb,hyb⟩:=hyb;rw[Cg rows_hq hyb]at hz;refine ⟨yb,?_,by cases hz;rfl⟩;unfold erHF;rw[d];exact hyb
 have dead2:∀nx,aO j nx=J->erHF h2 (nm nx)=U:=λnx hi=>by
  have hlt:=hmr.lt hinv hi;rw[bQ,h2_ne nx (λk L e=>?_)]
  .obtain⟨p,sz,n,hd⟩:=vj hmr hi;rw[hd];rfl
  .by_cases hkp:k<np
   .rw[e,glo k hkp,hmS k hkp]at hi;cases hi
   .rw[ghi k (by omega)]at e;omega
 have inv2:gV h2 (i+(nq-np)):=by
  refine ⟨λm ty q hj=>?_,λm b hj=>?_⟩
  .by_cases hjg:∃nx,nx<nq/\m=g nx
   .obtain⟨nx,hi,rfl⟩:=hjg;have hi':nx<l! l2:=by rw[D.len,hnq];exact hi
    have hcc:=aD hi';cases hcv:l2[nx] with
    |none=>
     rw[hcv]at hcc;rw[h2_at nx U hcc]at hj;simp only at hj;cases hkg:(dM j h).get (g nx) with
     |none=>rw[hkg]at hj;cases hj
     |some b0=>rw[hkg]at hj;exact (Bd (fE hj)).elim
    |some b=>
     rw[hcv]at hcc;have d:=(D.at_ nx b).2 hcc;rw[h2_at nx (Z b) hcc]at hj;simp only[af]at hj;cases b with
     |C ty' q'=>
      simp only[lj,eG.C.injEq]at hj;obtain⟨_,rfl⟩:=hj;obtain⟨z,hz⟩:=eR hq q' (D.C nx _ q' d).1;exact li _ _ _ (qB rows_hq q' z hz)
     |_=>simp[lj]at hj
   .rw[h2_ne m (λnx hi e=>hjg ⟨nx,hi,e⟩)]at hj;refine eY rows2 q ?_;have hkk:=(hinv.kill j).C m _ q hj;rw[iP]at hj;split at hj
    .rename_i ht;obtain⟨_,_,_,_,d⟩:=hmr m ht;rw[d]at hj;cases hj
    .exact hinv.C m _ q hj
  .by_cases hjg:∃nx,nx<nq/\m=g nx
   .obtain⟨nx,hi,rfl⟩:=hjg;by_cases hip:nx<np
    .rw[glo nx hip];have:=gnx nx hip;omega
    .rw[ghi nx (by omega)];omega
   .rw[h2_ne m (λnx hi e=>hjg ⟨nx,hi,e⟩)]at hj;have:=(hinv.kill j).low m b hj;omega
 obtain⟨B1,hB1⟩:=Kl hp;obtain⟨B2,hB2⟩:=Kl hq;obtain⟨B3,hB3⟩:=Kl h;obtain⟨B4,hB4⟩:=Kl h2;obtain⟨B5,hB5⟩:=AV.ixL_ex lr;obtain⟨B,eB⟩:∃B,B=B1+B2+B3+B4+B5:=⟨_,rfl⟩
 let S:ι:=aiz ((kY np).map (ip σ)) B
 have memS:∀n,n∈S↔(∃nx,nx<np/\ow n=ip σ nx)/\ix n<=B:=λn=>by
  simp only[S,TB,cq,oR];exact⟨λ⟨⟨nx,h1,h2⟩,h3⟩=>⟨⟨nx,h1,h2.symm⟩,h3⟩,λ⟨⟨nx,h1,h2⟩,h3⟩=>⟨⟨nx,h1,h2.symm⟩,h3⟩⟩
 let NN:ι:=aiz ((kY (nq-np)).map λt=>i+t) B
 have GA:∀n,n∈NN↔(∃t,t<nq-np/\ow n=i+t)/\ix n<=B:=λn=>by
  simp only[NN,TB,cq,oR];exact⟨λ⟨⟨nx,h1,h2⟩,h3⟩=>⟨⟨nx,h1,h2.symm⟩,h3⟩,λ⟨⟨nx,h1,h2⟩,h3⟩=>⟨⟨nx,h1,h2.symm⟩,h3⟩⟩
 have memW:∀n,n∈S++Gz j++NN↔((∃nx,nx<nq/\ow n=g nx)/\ix n<=B)\/n∈Gz j:=λn=>by
  rw[bE,bE,memS,GA];constructor
  .rintro ((⟨⟨nx,hi,e⟩,L⟩|N)|⟨⟨t,ht,e⟩,L⟩)
   .exact .inl ⟨⟨nx,by omega,by rw[glo nx hi];exact e⟩,L⟩
   .exact .inr N
   .exact .inl ⟨⟨np+t,by omega,by rw[ghi _ (by omega),show np+t-np=t from by omega];exact e⟩,L⟩
  .rintro (⟨⟨nx,hi,e⟩,L⟩|N)
   .by_cases hip:nx<np
    .exact .inl (.inl ⟨⟨nx,hip,by rw[<- glo nx hip];exact e⟩,L⟩)
    .exact .inr ⟨⟨nx-np,by omega,by rw[e,ghi nx (by omega)]⟩,L⟩
   .exact .inl (.inr N)
 have gamS:∀n,ow n<np->ix n<=B->pC (ip σ) n∈S:=λn hi L=>(memS _).2 ⟨⟨ow n,hi,xg _ _⟩,by rw[yZ];exact L⟩
 have gamg:∀n,ow n<np->pC g n=pC (ip σ) n:=λn hi=>by unfold pC;rw[glo _ hi]
 have ungam:∀(g:Nat->Nat) (n nx:Nat),ow n=g nx->n=pC g (jK nx (ix n)):=λg n nx e=>by rw[Cf,<-e,lb]
 have hOpT:fZ P o (fB e h) (erHF h) ⟨Em (AV.renL (pC g) lr),S++Gz j,S++Gz j++NN,erHF h2,NN⟩:=by
  intro φ E h' w a hrd hwr hops hrep hN;have hS':∀n,n∈S->h' n=erHF h n:=λn N=>hrd _ (fW _ N)
  have hM':∀nx,aO j nx=J->h' (nm nx)=erHF h (nm nx):=λnx hi=>hrd _ (lL _ (mR.2 hi))
  obtain⟨us,hrun,hrel⟩:=hexec φ E h' w a hops hrep
  let Hv:HF:=λn=>if n∈S++Gz j then erHF hv n else h' n
  have Hv_in:∀n,n∈S++Gz j->Hv n=erHF hv n:=λn N=>by simp only[Hv,N,bw]
  have Hv_out:∀n,n∉S++Gz j->Hv n=h' n:=λn N=>by simp only[Hv,N,c8]
  have blkS:∀n,n∈S->∀z,erHF hv n=Z z->∃b0 c y0,h.get (ow n)=Z b0/\BM (ip σ) h j b0 c/\NJ h (ow n) (ix n) b0=Z y0/\NJ hv (ow n) (ix n) c=Z z:=λn N z hz=>by
   obtain⟨⟨nx,hi,e⟩,_⟩:=(memS n).1 N;obtain⟨b,d⟩:=hl1 nx hi;obtain⟨b0,q1,q2⟩:=hbm nx b d;unfold erHF at hz;rw[e,hv_at nx b d]at hz;have hz:NJ hv (ip σ nx) (ix n) (lj (ip σ) b)=Z z:=hz;rw[e];cases L:ix n with
   |zero=>
    rw[L]at hz;obtain⟨y0,hy0⟩:=BM.erB_some hinv q1 q2 hz;exact⟨b0,_,y0,q1,q2,hy0,hz⟩
   |succ k=>
    rw[L]at hz;exact⟨b0,_,z,q1,q2,(q2.mem _ _).trans hz,hz⟩
  have hd:rq h' Hv:=λn b d=>by
   by_cases N:n∈S++Gz j
   .rw[Hv_in n N]at d;rcases bE.1 N with hs|hs
    .obtain⟨b0,c,y0,q1,_,q4,_⟩:=blkS n hs b d;exact⟨y0,by rw[hS' n hs];unfold erHF;rw[q1];exact q4⟩
    .obtain⟨nx,rfl,hi⟩:=o7.1 hs;rw[dead_m nx hi]at d;cases d
   .rw[Hv_out n N]at d;exact⟨b,d⟩
  have gvv:Ea h h' Hv j:=λnx hi=>⟨hM' nx hi,by rw[Hv_in _ (lL _ (mR.2 hi)),dead_m nx hi]⟩
  have V:JW h' Hv:=⟨hd,λn b b' d hb'=>by
   by_cases N:n∈S++Gz j
   .rw[Hv_in n N]at hb';rcases bE.1 N with hs|hs
    .obtain⟨b0,c,y0,q1,q3,q4,q5⟩:=blkS n hs b' hb';rw[hS' n hs]at d;unfold erHF at d;rw[q1]at d;have d:NJ h (ow n) (ix n) b0=Z b:=d;cases L:ix n with
     |zero=>rw[L]at d q5;exact BM.view hd gvv rows_in q3 d q5
     |succ k=>
      rw[L]at d q5;have:=(q3.mem (ow n) k).symm.trans d;have q5:wx (ow n) k c=Z b':=q5;rw[q5]at this;cases this;exact fC.refl hd _
    .obtain⟨nx,rfl,hi⟩:=o7.1 hs;rw[dead_m nx hi]at hb';cases hb'
   .rw[Hv_out n N,d]at hb';cases hb';exact fC.refl hd b⟩
  have hrepv:=V.qn hrep;have hlpg:cO hv (lC (ip σ) vs)=Z (AV.renL (pC (ip σ)) lp):=qB rows_hp vs lp hlp;have hrel1:lV φ (tot E φ Hv) w (AV.renL (pC (ip σ)) lp) us:=
   lV.le hrep (Fh hd rows_in c.pre.vs l x1 m1 _ la _ gv pvg hla hlpg (λnx hi=>gvv nx (by rw[hmm,bA,hi];rfl))) hrel
  let E':Nat->Prop:=λk=>E k\/∃n b,Hv n=Z b/\n∉S/\φ n=Z k
  have T:akp c.pre x vs hp (ip σ) φ E E' Hv w:=by
   refine sq.toId I (λa b ha d=>inj1 a b (by rw[<- hnp];exact ha) (by rw[<- hnp];exact d)) hrepv (λn yb N=>?_) ?_ ?_ ?_
   .obtain⟨hi,_⟩:=I.erHF N;rw[hnp]at hi;have L:=(hB1 n yb N).1;obtain⟨b,d,hyb⟩:=iR N;rw[Hv_in _ (fW _ (gamS n hi (by omega)))];unfold erHF;rw[xg,yZ,hv_at _ b ((I.at_ _ b).1 d)];exact Cg rows_hp hyb
   .rintro k (hE|⟨n,b,h1,_,h3⟩)
    .exact .inl hE
    .exact .inr ⟨n,b,h1,h3⟩
   .intro n0 k y0 hn0 h3 hE0;obtain⟨hi,_⟩:=I.erHF hn0;rw[hnp]at hi;have L:=(hB1 n0 y0 hn0).1;have h1:Hv (pC (ip σ) n0)=Z (y0.qx (pC (ip σ))):=by
     obtain⟨b,d,hyb⟩:=iR hn0;rw[Hv_in _ (fW _ (gamS n0 hi (by omega)))];unfold erHF;rw[xg,yZ,hv_at _ b ((I.at_ _ b).1 d)];exact Cg rows_hp hyb
    rcases hE0 with hE|⟨n,b',h4,h5,h6⟩
    .obtain⟨k',p1,p2,_⟩:=hrepv.at_ _ _ h1;rw[h3]at p1;cases p1;exact p2 hE
    .have:=hrepv.inj _ _ _ _ k h1 h4 h3 h6;exact h5 (by rw[<- this];exact gamS n0 hi (by omega))
   .rintro k (hE|⟨n,b,h1,_,h3⟩)
    .exact hrepv.el k hE
    .obtain⟨k',q1,_,ob,q3,_⟩:=hrepv.at_ n b h1;rw[h3]at q1;cases q1;exact (cz.1 q3).1
  have hcalls:=sp.calls x y hm vs hp l1 rs hq l2 lp lr I D hlp hlr (φ1 (l! c.pre.bs) (ip σ) φ) E' w us T.qn (lV.toId T.val (ti vs lp I.lt hlp) hrel1) (λn k L=>(yM L).1);unfold Oper.wp;rw[hrun];refine Calls.mono hcalls ?_;rintro en w' ⟨v,φc',rfl,hext,hown,hnm,rp,rv'⟩
  let isN:Nat->Prop:=λn=>n∈NN
  let φ':PM:=λn=>if n∈NN then φc' (jK (np+(ow n-i)) (ix n)) else φ n
  have φ'_old:∀n,n∉NN->φ' n=φ n:=λn N=>by simp only[φ',N,c8]
  have loN:∀n,ow n<i->n∉NN:=λn hi N=>by
   obtain⟨⟨t,_,e⟩,_⟩:=(GA _).1 N;omega
  have φ'_g:∀n,ow n<nq->ix n<=B->φ' (pC g n)=φc' n:=λn hi L=>by
   by_cases hip:ow n<np
   .rw[gamg n hip,φ'_old _ (loN _ (by rw[xg];exact gnx _ hip)),hnm n (by rw[hnp];exact hip),adc (by rw[hnp];exact hip)]
   .have hg:=ghi (ow n) (by omega);have:pC g n∈NN:=(GA _).2 ⟨⟨ow n-np,by omega,by rw[xg,hg]⟩,by rw[yZ];exact L⟩;simp only[φ',this,bw,xg,yZ,hg];rw[show np+(i+(ow n-np)-i)=ow n from by omega,lb]
  have hsub:∀n k,φ n=Z k->φ' n=Z k:=λn k L=>by
   by_cases N:n∈NN
   .rw[hN n N]at L;cases L
   .rw[φ'_old n N];exact L
  let F:HF:=eW h' (S++Gz j++NN) (erHF h2)
  have F_g:∀n,n∈S++Gz j++NN->F n=erHF h2 n:=λn N=>by
   simp only[F,eW,N,bw]
  have F_out:∀n,n∉S++Gz j++NN->F n=h' n:=λn N=>by simp only[F,eW,N,c8]
  have from_:∀n b,F n=Z b->(∃nx yb,ow nx<nq/\ix nx<=B/\n=pC g nx/\erHF hq nx=Z yb/\b=yb.qx (pC g))\/(h' n=Z b/\Hv n=Z b/\n∉S/\n∉NN/\φ' n=φ n):=λn b d=>by
   by_cases N:n∈S++Gz j++NN
   .rcases (memW n).1 N with ⟨⟨nx,hi,e⟩,L⟩|hs
    .rw[F_g n N]at d;have e2:=ungam g n nx e;have ho:ow (jK nx (ix n))<nq:=by rw[iL];exact hi
     obtain⟨yb,q1,q2⟩:=er2' (jK nx (ix n)) ho b (by rw[<- e2];exact d);exact .inl ⟨jK nx (ix n),yb,ho,by rw[vN];exact L,e2,q1,q2⟩
    .obtain⟨nx,rfl,hi⟩:=o7.1 hs;have:F (nm nx)=erHF h2 (nm nx):=by simp only[F,eW,N,bw]
     rw[this,dead2 nx hi]at d;cases d
   .rw[F_out n N]at d;have h1:n∉S++Gz j:=λhh=>N (fW _ hh)
    have h3:n∉NN:=λhh=>N (lL _ hh)
    exact .inr ⟨d,by rw[Hv_out n h1];exact d,λhh=>h1 (fW _ hh),h3,φ'_old n h3⟩
  have own':∀k,own φ' F k->own φc' (erHF hq) k\/∃n b,Hv n=Z b/\n∉S/\φ n=Z k:=by
   rintro k ⟨n,b,h1,h3⟩;rcases from_ n b h1 with ⟨nx,yb,hi,L,rfl,q1,_⟩|⟨_,q2,q3,_,q5⟩
   .rw[φ'_g nx hi L]at h3;exact .inl ⟨nx,yb,q1,h3⟩
   .exact .inr ⟨n,b,q2,q3,by rw[<- q5];exact h3⟩
  have mv:kf φ φ' h' F w w':=by
   refine ⟨hsub,hext.mono λk L=>hd.own (T.qr k L),λk L ho=>?_⟩;rcases own' k ho with h1|⟨n,b,h1,_,h3⟩
   .exact hd.own (T.qr k (hown k L h1))
   .exact hd.own ⟨n,b,h1,h3⟩
  have tot':∀k,tot E φ' F k->tot E' φc' (erHF hq) k:=by
   rintro k (h1|h1)
   .exact .inl (.inl h1)
   .rcases own' k h1 with h3|h3
    .exact .inr h3
    .exact .inl (.inr h3)
  let φr:PM:=λn=>if Pu nq n&&Wp B n then φc' n else U
  have rel_r:∀x v,x.all (λn=>Pu nq n&&Wp B n)=J->cu φc' (tot E' φc' (erHF hq)) w' x v->cu φr (tot E φ' F) w' x v:=λx v hx hr=>
   hr.restrict (λnx k hi L=>by simp only[φr,hi,bw];exact L) tot' hx
  have rel_g:∀x v,cu φr (tot E φ' F) w' x v->cu φ' (tot E φ' F) w' (x.qx (pC g)) v:=λx v hr=>
   hr.renTo λn k L=>by
    simp only[φr]at L;split at L
    .rename_i hpn;simp only[au]at hpn;rw[φ'_g n (EG.1 hpn.1) (aZ hpn.2)];exact L
    .cases L
  have hnqJ:=hnq;refine ⟨v,φ',rfl,mv,λn k L=>?_,?_,?_⟩
  .by_cases N:n∈NN
   .exact .inr N
   .rw[φ'_old n N]at L;exact .inl L
  .refine ⟨λn n' b b' k h1 h3 h4 h5=>?_,λn b h1=>?_,λk L=>dA (hrep.el k L) mv.ext.size,λg' cells hg=>mv.keepF (hrep.gl g' cells hg)⟩
   .rcases from_ n b h1 with ⟨nx,yb,hi,hik,rfl,hqi,_⟩|⟨q1,q2,q3,_,q5⟩
    .rw[φ'_g nx hi hik]at h4;rcases from_ n' b' h3 with ⟨m,yj,hj,hjk,rfl,t1,_⟩|⟨t1,t2,t3,_,t5⟩
     .rw[φ'_g m hj hjk]at h5;rw[rp.inj _ _ _ _ k hqi t1 h4 h5]
     .exfalso;obtain⟨k',p1,p2,_⟩:=rp.at_ _ _ hqi;rw[h4]at p1;cases p1;exact p2 (.inr ⟨n',b',t2,t3,by rw[<- t5];exact h5⟩)
    .rcases from_ n' b' h3 with ⟨m,yj,hj,hjk,rfl,hqj,_⟩|⟨t1,t2,t3,_,t5⟩
     .exfalso;rw[φ'_g m hj hjk]at h5;obtain⟨k',p1,p2,_⟩:=rp.at_ _ _ hqj;rw[h5]at p1;cases p1;exact p2 (.inr ⟨n,b,q2,q3,by rw[<- q5];exact h4⟩)
     .exact hrep.inj n n' b b' k q1 t1 (by rw[<- q5];exact h4) (by rw[<- t5];exact h5)
   .rcases from_ n b h1 with ⟨nx,yb,hi,hik,rfl,hqi,rfl⟩|⟨q1,q2,q3,_,q5⟩
    .obtain⟨k,p1,p2,ob,p3,p4⟩:=rp.at_ _ _ hqi;have hall:=(D.erHF hqi).2;rw[hnq]at hall;have hall2:=BC.all_and hall (BC.all_ix (show B2<=B by omega) (hB2 nx yb hqi).2);exact⟨k,by rw[φ'_g nx hi hik];exact p1,λhE=>p2 (.inl hE),ob,p3,(p4.restrict rel_r hall2).renTo rel_g⟩
    .obtain⟨k,p1,p2,ob,p3,p4⟩:=hrep.at_ n b q1;have L:k<w.heap.size:=(cz.1 p3).1;refine ⟨k,hsub n k p1,p2,ob,?_,p4.mono λx v hr=>mv.zq hr⟩;rw[hext.jg k L ?_]
     .exact p3
     .rintro⟨n',y',t1,t2⟩;obtain⟨hi,t3⟩:=yM t2;rw[hnp]at hi;have hik:=(hB1 n' y' t1).1;have hvi:Hv (pC (ip σ) n')=Z (y'.qx (pC (ip σ))):=by
       obtain⟨bb,t4,t5⟩:=iR t1;rw[Hv_in _ (fW _ (gamS n' hi (by omega)))];unfold erHF;rw[xg,yZ,hv_at _ bb ((I.at_ _ bb).1 t4)];exact Cg rows_hp t5
      have:=hrepv.inj _ _ _ _ k hvi q2 t3 p1;exact q3 (by rw[<- this];exact gamS n' hi (by omega))
  .have hall:(Em lr).all (λn=>Pu nq n&&Wp B n)=J:=AV.all_and _ (SO (by have:=ti rs lr D.lt hlr;rwa [hnq]at this)) (SO (AV.allL_ix (by omega) lr hB5));show cu φ' (tot E φ' F) w' (Em (AV.renL (pC g) lr)) v;rw[adn];exact rel_g _ _ (rel_r _ _ hall rv')
 have hrsg:cO h2 (lC g rs)=Z (AV.renL (pC g) lr):=qB rows_hq rs lr hlr;refine ⟨⟨_,hOpT,λz hz=>?_,?_,λn N=>?_,λn N=>?_,λn N=>?_⟩,rows2,inv2,by omega,nofun⟩
 .rw[Y1 hrsg]at hz;cases hz;rfl
 .funext n;unfold eW;split
  .rfl
  .rename_i N;by_cases hg:∃nx,nx<nq/\ow n=g nx
   .have hB:¬ix n<=B:=λL=>N ((memW _).2 (.inl ⟨hg,L⟩))
    have n1:∀H:bk,(∀y,erHF H n=Z y->ix n<=B)->erHF H n=U:=λH hH=>by
     cases hx:erHF H n with
     |none=>rfl
     |some y=>exact cN (hH y hx) hB
    rw[n1 h λy hy=>c9 (hB3 n y hy).1 (by omega),n1 h2 λy hy=>c9 (hB4 n y hy).1 (by omega)]
   .have hg2:=h2_ne (ow n) λnx hi e=>hg ⟨nx,hi,e⟩
    unfold erHF;rw[hg2,iP];split
    .rename_i d;obtain⟨ty,p,T,xs,hx⟩:=hmr _ d;rw[hx];cases L:ix n with
     |zero=>exact cN ((memW _).2 (.inr (by rw[pt L];exact mR.2 d))) N
     |succ k=>rfl
    .cases hx:h.get (ow n) with
     |none=>rfl
     |some b=>exact (mB rows2 (λty l e=>hinv.C _ _ l (by rw[hx,e])) _ _).symm
 .rw[bA];rcases bE.1 N with hs|hs
  .obtain⟨⟨nx,hi,e⟩,_⟩:=(memS n).1 hs;rw[(sig _).2 ⟨nx,hi,e.symm⟩];rfl
  .obtain⟨nx,rfl,hi⟩:=o7.1 hs;rw[dq,hi];simp
 .rw[bA,bA];rcases bE.1 N with hs|hs
  .rcases bE.1 hs with hs|hs
   .obtain⟨⟨nx,hi,e⟩,_⟩:=(memS n).1 hs;rw[(sig _).2 ⟨nx,hi,e.symm⟩];rfl
   .obtain⟨nx,rfl,hi⟩:=o7.1 hs;rw[dq,hi];simp
  .obtain⟨⟨t,ht,e⟩,_⟩:=(GA n).1 hs;rw[aj1.2 ⟨by omega,by omega⟩];simp
 .obtain⟨⟨t,ht,e⟩,_⟩:=(GA n).1 N;omega
variable {a:Int}
def B8 {S:Ty} {xs:Y (BR S)} (d:fm a (l! xs)=J):xs[a.toNat]? =Z (dV _ xs a):=by
 obtain⟨_,_,h⟩:=mU d;unfold dV;rw[aB,aD h];rfl
variable {T:Ty}
def Tn {xss:Y (Y T.den)} (d:fm a (l! xss)=J):xss[a.toNat]? =Z (xF xss a):=by
 obtain⟨_,_,h⟩:=mU d;unfold xF;rw[aB,aD h];rfl
variable {A:η}
def TQ (z:fm a (l! A)=J):A[a.toNat]? =Z (ul A a):=by
 obtain⟨_,_,h⟩:=mU z;unfold ul;rw[aB,aD h];rfl
def Cz (id:Nat) (S:Ty) (j:Int) (o:BR S):Y AV:=(bT S o.1).map .f++[.mp (jK id (3*j.toNat+2)),.mp (jK id (3*j.toNat+3))]
variable {s:TypeId}
def als {xs:Y (BR T)} (z:h.get i=Z (.I (.ar s T) j xs)) {a:Int} (d:fm a (l! xs)=J):erHF h (pG i a)=Z ⟨s,.mx (Cz i T a (dV _ xs a))⟩:=by
 unfold pG;rw[kU,z];show oK i (3*a.toNat) s T xs=_;unfold oK;rw[show 3*a.toNat/3=a.toNat from by omega,B8 d];simp only[bx,vT];rw[aG (by omega)];rfl
def alr {xs:Y (BR T)} (z:h.get i=Z (.I (.ar s T) j xs)) {a:Int} (d:fm a (l! xs)=J) {b:Nat} (h2:b<2):erHF h (jK i (3*a.toNat+2+b))=Z ⟨0,.mp (GC (sG b (dV _ xs a)))⟩:=by
 rw[show 3*a.toNat+2+b=3*a.toNat+1+b+1 from by omega,kU,z];show oK i (3*a.toNat+1+b) s T xs=_;unfold oK;rw[show (3*a.toNat+1+b)/3=a.toNat from by omega,B8 d];simp only[bx,vT];rw[aA (by omega)];rcases bu b 1 with A|A
 .have:b=0:=by omega
  subst this;rw[aG (by omega)];rfl
 .have:b=1:=by omega
  subst this;rw[aA (by omega)];rfl
def Zg {xss:Y (Y T.den)} (A:h.get i=Z (.I (.ir s T) j xss)) {a:Int} (z:fm a (l! xss)=J) (d:l! (xF xss a)≠0):erHF h (jK i (a.toNat+1))=Z ⟨s,.fz ((xF xss a).flatMap (bT T))⟩:=by
 rw[kU,A];show pm a.toNat s T xss=_;unfold pm;rw[Tn z];simp only[aC,XI];rw[aA (by simpa using d)]
def xM (a sz:Nat):∀(ls:η) (k j:Nat),(lY a sz k ls)[j]? =(ls[j]?).map λl=>uh a (k+j) sz l.toNat
 |[],_,_|l::r,k,0=>by simp[lY]
 |l::r,k,j+1=>by
  simp only[lY,mL,xM a sz r (k+1) j];rw[show k+1+j=k+(j+1) from by omega]
abbrev i2:Y TypeDesc:=[.int .i64,.int .i64]
variable {y:AV} {u:TV}
def Rc {b:Int} (d:af1 u=Z (a,b)) (A:cg h u=Z y):Xg i2 y=Z [.int .i64 a,.int .i64 b]:=by
 unfold af1 at d;split at d
 .cases d
 .split at d
  .rename_i z b' D;simp only[af,aI]at d;obtain⟨rfl,rfl⟩:=d;have h1:=(IK D A).1;simp only[cO,cg,af]at h1;have h2:y.cs=[.f (.raw (.int .i64 z)),.f (.raw (.int .i64 b'))]:=h1.symm;cases y with
   |agg l=>
    have h2:l=[.f (.raw (.int .i64 z)),.f (.raw (.int .i64 b'))]:=h2;subst h2;rfl
   |f x=>
    cases x with
    |agg l=>
     have h2:l.map AV.f=[.f (.raw (.int .i64 z)),.f (.raw (.int .i64 b'))]:=h2;cases l with
     |nil=>cases h2
     |cons v l=>
      cases l with
      |nil=>cases h2
      |cons w l=>
       cases l with
       |nil=>cases h2;rfl
       |cons _ _=>cases h2
    |_=>cases h2
   |_=>cases h2
  .cases d
def Dv (k d:Γ):CX i2 [.int .i64 k.1,.int .i64 k.2] (aad d)=Z (Oc k d):=by
 unfold CX aad Oc;simp only[ca,wI,jQ,vU,cr,bw];have e1:(k.1==d.1)=decide (k.1=d.1):=rfl;have e2:(k.2==d.2)=decide (k.2=d.2):=rfl;rw[e1,e2];cases decide (k.1=d.1)<;>cases decide (k.2=d.2)<;>rfl
def S_ (a:Nat) (k:Γ):∀es:Y e?,HO i2 [.int .i64 k.1,.int .i64 k.2] (wA a es)=Z (match ui k es with|true=>Z (.H (pG a (fc k es)) 0)|false=>U)
 |[]=>rfl
 |e::r=>by
  have d:=S_ a k r;unfold wA at d ⊢;simp only[ca,HO,Dv,ui,fc];cases z:Oc k e.1 with
  |true=>rfl
  |false=>simp only[yJ];exact d
def YZ (a:Nat) (k:Γ):∀es:Y e?,WN i2 [.int .i64 k.1,.int .i64 k.2] (wA a es)=Z (wA a (AZ k es))
 |[]=>rfl
 |e::r=>by
  have d:=YZ a k r;unfold wA at d ⊢;simp only[ca,WN,Dv,AZ];cases z:Oc k e.1 with
  |true=>rfl
  |false=>simp only[d];rfl
def Kg {k d:Γ}:Oc k d=J↔k=d:=by
 unfold Oc;rw[au,bB,bB];exact⟨λh=>oP h.1 h.2,λh=>by rw[h];exact⟨rfl,rfl⟩⟩
def YY (a:Nat) (k:Γ) (v:AV):∀es:Y e?,WM i2 [.int .i64 k.1,.int .i64 k.2] v (wA a es)=Z (Mi a k v es)
 |[]=>rfl
 |e::r=>by
  have z:=YY a k v r;unfold wA at z ⊢;simp only[ca,WM,Dv,Mi];cases d:Oc k e.1 with
  |true=>rw[aG (Kg.1 d)];rfl
  |false=>rw[aA (λh=>by rw[Kg.2 h]at d;cases d)];simp only[z]
section ops
variable {R:Type} {P:Program} {co:TypeId->M Ty} {o:Oper} {e:h_} {h:bk} {nx:Nat} {K:KO R} {r:R} (hinv:gV h nx) (hi:sD e h)
include hinv hi
variable {b:Bool} {d:Operand}
def apg {st:Bool} (A:cX P o.op=Z (.zn b d)) (x:pA co e h nx K (.zn b d)=Z r):iW P o st e h nx K r:=by
 simp only[pA]at x;split at x
 .rename_i z;obtain⟨y,h1,h2⟩:=bo hi z;simp only[cg,Jw,af]at h2;subst h2;exact iW.q (k:=0) hinv A (λH _=>by simp only[dB,h1];rfl) (cQ rfl) x
 .rename_i z;obtain⟨y,h1,h2⟩:=bo hi z;simp only[cg,af]at h2;subst h2;exact iW.q (k:=0) hinv A (λH _=>by simp only[dB,h1];rfl) (cQ rfl) x
 .rename_i z;obtain⟨y,h1,h2⟩:=bo hi z;simp only[cg,af]at h2;subst h2;exact iW.q (k:=0) hinv A (λH _=>by simp only[dB,h1];rfl) (cQ rfl) x
 .cases x
def apd {st:Bool} (D:cX P o.op=Z (.zd d)) (z:pA co e h nx K (.zd d)=Z r):iW P o st e h nx K r:=by
 simp only[pA]at z;split at z
 .rename_i A;obtain⟨y,h1,h2⟩:=bo hi A;have x:=h2;simp only[cg,Jw,af]at h2;subst h2;exact iW.q (k:=0) hinv D (λH _=>by simp only[dB,h1]) (cQ x) z
 .rename_i A;obtain⟨y,h1,h2⟩:=bo hi A;have x:=h2;simp only[cg,Jw,af]at h2;subst h2;exact iW.q (k:=0) hinv D (λH _=>by simp only[dB,h1]) (cQ x) z
 .cases z
def asz {st:Bool} (A:cX P o.op=Z (.jk i d)) (x:pA co e h nx K (.jk i d)=Z r):iW P o st e h nx K r:=by
 simp only[pA]at x;split at x
 .rename_i z;obtain⟨y,h1,h2⟩:=bo hi z;simp only[cg,Jw,af]at h2;subst h2;exact iW.q (k:=0) hinv A (λH _=>by simp only[dB,h1,Jw]) (cQ rfl) x
 .rename_i z;obtain⟨y,h1,h2⟩:=bo hi z;simp only[cg,Jw,af]at h2;subst h2;exact iW.q (k:=0) hinv A (λH _=>by simp only[dB,h1,Jw,ud]) (cQ rfl) x
 .cases x
def apf (hc:cX P o.op=Z (.load i b d)) (x:pA co e h nx K (.load i b d)=Z r):iW P o aa e h nx K r:=by
 obtain⟨H,F⟩:=gD h;simp only[pA]at x;split at x
 .rename_i id j off hv;obtain⟨y,h1,h2⟩:=bo hi hv;simp only[cg,Jw,af]at h2;subst h2;split at x
  .rename_i ty S a xs hb;have D:=cL x;clear x;obtain⟨N,x⟩:=D;have hg:H.get (pG id j)=Z ⟨ty,.mx (Cz id S j (dV S xs j))⟩:=by rw[F];exact als hb N
   have hrd:∀n∈[pG id j],aO (fV id) (ow n)=J:=λn L=>by
    simp only[aE]at L;subst L;unfold pG;rw[iL];exact bC.2 rfl
   split at x
   .cases x
   .rename_i hag;have hag:b=aa:=by simpa using hag
    subst hag;have sub1:∀y,(Cz id S j (dV S xs j))[off]? =Z y->(BC.mx (Cz id S j (dV S xs j))).sub? off 1 aa=Z y:=λy hy=>hy
    split at x
    .rename_i ho;split at x
     .rename_i v hv2;obtain⟨p1,z,p2,p3,_⟩:=tU h 40 S _ off i aa v hv2;obtain⟨rfl,p5⟩:=p3 rfl;have A:=sub1 (.f z) (by
       unfold Cz;rw[bz (by rw[bS];exact (bq.1 p5).1),a8,p5];rfl)
      exact⟨_,_,_,_,_,x,eL.pure (k:=0) hinv hc F (y0:=.f z) (rdl:=[pG id j]) (by simp only[dB,h1,xa,hg,A]) (cQ p2) hrd nofun⟩
     .cases x
    .rename_i ho;split at x
     .rename_i hq;simp only[au]at hq;have q1:=av hq.1;have q2:=aZ hq.2;subst q1;have ho:S.size<=off:=by
       rcases bu off S.size with h3|h3
       .exact cN (ba h3) ho
       .exact h3
      have A:=sub1 (.mp (jK id (3*j.toNat+2+(off-S.size)))) (by
       unfold Cz;rw[bU (by rw[bS,bD];exact ho),bS,bD];rcases bu (off-S.size) 1 with h3|h3
       .rw[show off-S.size=0 from by omega];rfl
       .rw[show off-S.size=1 from by omega];rfl)
      exact⟨_,_,_,_,_,x,eL.pure (k:=0) hinv hc F (y0:=.mp (jK id (3*j.toNat+2+(off-S.size)))) (rdl:=[pG id j]) (by simp only[dB,h1,xa,hg,A]) (cQ rfl) hrd nofun⟩
     .cases x
  .cases x
 .rename_i id j s sz off hv;obtain⟨y,h1,h2⟩:=bo hi hv;simp only[cg,Jw,af]at h2;subst h2;split at x
  .rename_i ty T a xss hb;split at x
   .rename_i A;have A:=av A;subst A;obtain⟨N,x⟩:=cL x;obtain⟨hji,x⟩:=cL x;split at x
    .rename_i v hv2;obtain⟨z,p1,p2⟩:=ads hji hv2;have hne:l! (xF (T:=T) xss j)≠0:=by have:=(mU hji).2.2;omega
     have hg:H.get (jK id (j.toNat+1))=Z ⟨ty,.fz ((xF (T:=T) xss j).flatMap (bT T))⟩:=by rw[F];exact Zg hb N hne
     exact⟨_,_,_,_,_,x,eL.pure (k:=0) hinv hc F (y0:=.f z) (rdl:=[jK id (j.toNat+1)]) (by simp only[dB,h1,xa,hg,p2]) (cQ p1) (λn L=>by
      simp only[aE]at L;subst L;rw[iL];exact bC.2 rfl) nofun⟩
    .cases x
   .cases x
  .cases x
 .rename_i id s j off hv;obtain⟨y,h1,h2⟩:=bo hi hv;simp only[cg,af]at h2;subst h2;split at x
  .rename_i hq;simp only[au,cU]at hq;obtain⟨⟨q1,q2⟩,q3,q4⟩:=hq;have q1:=av q1;have q3:=av q3;have q4:=av q4;subst q1 q2 q3 q4;have hrd:∀n∈[nm id],aO (fV id) (ow n)=J:=λn L=>by
    simp only[aE]at L;subst L;rw[dq];exact bC.2 rfl
   split at x
   .rename_i ty a js hb;have D:=cL x;clear x;obtain⟨N,x⟩:=D;have hlen:ah (α:=Int) js≠0:=by have:=(mU N).2.2;omega
    have hg:H.get (nm id)=Z ⟨ty,.mx (fX (λj=>.H (pG a j) 0) js)⟩:=by
     rw[F,bQ,hb];simp only[aC,jY,sC];rw[aA (by simpa using hlen)]
    have A:(BC.mx (fX (λj=>AV.H (pG a j) 0) js)).sub? (j.toNat*1+0) 1 aa=Z (.H (pG a (ul js j)) 0):=by
     simp only[BC.sub?,BC.get,Gi,cZ];exact (a8 (f:=λj:Int=>AV.H (pG a j) 0) (l:=js) (i:=j.toNat)).trans (ey (ik λj=>AV.H (pG a j) 0) (TQ N))
    exact⟨_,_,_,_,_,x,eL.pure (k:=0) hinv hc F (y0:=.H (pG a (ul js j)) 0) (rdl:=[nm id]) (by simp only[dB,h1,xa,hg,A]) (cQ rfl) hrd nofun⟩
   .rename_i ty z a ls hb;have D:=cL x;clear x;obtain⟨N,x⟩:=D;have hg:H.get (nm id)=Z ⟨ty,.mx (lY a z 0 ls)⟩:=by
     rw[F,bQ,hb];rfl
    have A:(BC.mx (lY a z 0 ls)).sub? (j.toNat*1+0) 1 aa=Z (uh a j.toNat z (ul ls j).toNat):=by
     simp only[BC.sub?,BC.get,Gi,cZ];have:=xM a z ls 0 j.toNat;rw[bO]at this;refine this.trans ?_;exact ey (ik λl:Int=>uh a j.toNat z l.toNat) (TQ N)
    exact⟨_,_,_,_,_,x,eL.pure (k:=0) hinv hc F (y0:=uh a j.toNat z (ul ls j).toNat) (rdl:=[nm id]) (by simp only[dB,h1,xa,hg,A]) (cQ rfl) hrd nofun⟩
   .cases x
  .cases x
 .cases x
def asy {sz:Operand} {st:Bool} (hc:cX P o.op=Z (.jy i d sz)) (x:pA co e h nx K (.jy i d sz)=Z r):iW P o st e h nx K r:=by
 simp only[pA]at x;split at x
 .rename_i id k j N D;split at x
  .rename_i p s n hr;split at x
   .rename_i A;simp only[au]at A;have A:=av A.1;obtain⟨z,x⟩:=cL x;obtain⟨y,h1,h2⟩:=bo hi N;obtain⟨y2,h3,L⟩:=bo hi D;simp only[cg,af]at L;subst L;obtain⟨j0,j1,j2⟩:=mU z;have hne:¬((p&&n==0)=J):=by
     simp only[au,cF];omega
    simp only[cg,hr,dv,aA hne,af]at h2;subst h2;have F:(s==i&&dj 0 j&&fM j n)=J:=by
     simp only[fm,au]at z;simp[A,z.1,z.2]
    exact iW.q (k:=0) hinv hc (λH _=>by simp only[dB,h1,h3,fO,F,bw,cZ]) (cQ rfl) x
   .cases x
  .cases x
 .rename_i id j s n k i' N D;split at x
  .rename_i A;have A:=av A;obtain⟨z,x⟩:=cL x;obtain⟨y,h1,h2⟩:=bo hi N;obtain⟨y2,h3,L⟩:=bo hi D;simp only[cg,af]at L;subst L;obtain⟨j0,j1,j2⟩:=mU z;have hne:¬((n==0)=J):=by
    simp only[cF];omega
   simp only[cg,Jw,uh,aA hne,af]at h2;subst h2;have F:(s==i&&dj 0 i'&&fM i' n)=J:=by
    simp only[fm,au]at z;simp[A,z.1,z.2]
   exact iW.q (k:=0) hinv hc (λH _=>by simp only[dB,h1,h3,fO,F,bw,Jw,cZ]) (cQ rfl) x
  .cases x
 .cases x
variable {v:Value}
def asw {ok:Bool} {k:Operand} (hc:cX P o.op=Z (.jv b ok v d k)) (x:pA co e h nx K (.jv b ok v d k)=Z r):iW P o aa e h nx K r:=by
 obtain⟨H,hH⟩:=gD h;simp only[pA]at x;split at x
 .rename_i id j str A hv D;split at x
  .rename_i ty S a xs L hb;split at x
   .rename_i hq;simp only[au,cU]at hq;obtain⟨q1,q2⟩:=hq;subst q1;have q2:=aZ q2;have F:=cL x;clear x;obtain⟨hj,x⟩:=F;obtain⟨y,h1,h2⟩:=bo hi hv;obtain⟨y2,h3,h4⟩:=bo hi D;simp only[cg,Jw,af]at h2 h4;subst h2 h4;generalize hm:sG str (dV S xs j)=m at x;have hg:H.get (jK id (3*j.toNat+2+str))=Z ⟨0,.mp (GC m)⟩:=by rw[hH,<-hm];exact alr hb hj q2
    have hf:tg (.int .i64 A) (GC m)=Z ((uB (K:=.int .i64) (V:=.bool) A m).map λz=>.f (.raw (.bool z))):=Lj (str:=aa) (K:=.int .i64) (V:=.bool) rfl A m;have henc:fO (.int .i64) A= .raw (.int .i64 A):=rfl;rw[henc]at h3;refine ⟨_,_,_,_,_,x,eL.pure (k:=0) hinv hc hH (y0:=pkV ok (.f (.raw (.bool (vM (K:=.int .i64) (V:=.bool) A m L)))) (aaa (K:=.int .i64) (V:=.bool) A m)) (rdl:=[jK id (3*j.toNat+2+str)]) ?_ (λy N=>by rw[aed (y:=.f (.raw (.bool (vM (K:=.int .i64) (V:=.bool) A m L)))) rfl]at N;cases N;exact Le.refl _) (λn hn=>by
     simp only[aE]at hn;subst hn;rw[iL];exact bC.2 rfl) nofun⟩
    simp only[dB,h1,h3,hg,xY,bw,hf];unfold vM aaa;cases hfm:uB (K:=.int .i64) (V:=.bool) A m with
    |_=>rfl
   .cases x
  .cases x
 .cases x
def asx {k:Operand} (hc:cX P o.op=Z (.xq i2 v d k)) (x:pA co e h nx K (.xq i2 v d k)=Z r):iW P o aa e h nx K r:=by
 obtain⟨H,F⟩:=gD h;simp only[pA]at x;split at x
 .rename_i id kv hv hkv;obtain⟨tk,A,hkk⟩:=bind_some hkv;obtain⟨N,L⟩:=kv;split at x
  .rename_i a es hb;obtain⟨y,h1,h2⟩:=bo hi hv;obtain⟨y2,h3,h4⟩:=bo hi A;simp only[cg,af]at h2;subst h2;have hq:=Rc hkk h4;have hg:H.get (nm id)=Z ⟨0,.mp (wA a es)⟩:=by rw[F,bQ,hb];rfl
   have hf:=S_ a (N,L) es;have hrd:∀n∈[nm id],aO (fV id) (ow n)=J:=λn hn=>by
    simp only[aE]at hn;subst hn;rw[dq];exact bC.2 rfl
   rcases lT x with ⟨hh,x⟩|⟨hh,x⟩
   .rw[hh]at hf;exact⟨_,_,_,_,_,x,eL.pure (k:=0) hinv hc F (y0:=.H (pG a (fc (N,L) es)) 0) (rdl:=[nm id]) (by simp only[dB,h1,h3,aC,hq,hg,hf]) (cQ rfl) hrd nofun⟩
   .rw[hh]at hf;exact⟨_,_,_,_,_,x,eL.pure (k:=0) hinv hc F (y0:=raw (.pointer U)) (rdl:=[nm id]) (by simp only[dB,h1,h3,aC,hq,hg,hf]) (cQ rfl) hrd nofun⟩
  .cases x
 .cases x
def at0 {k:Operand} (hc:cX P o.op=Z (.xj i2 d k)) (z:pA co e h nx K (.xj i2 d k)=Z r):iW P o aa e h nx K r:=by
 obtain⟨H,hH⟩:=gD h;simp only[pA]at z;split at z
 .rename_i id kv hv hkv;obtain⟨tk,A,hkk⟩:=bind_some hkv;obtain⟨L,F⟩:=kv;split at z
  .rename_i a es hb;obtain⟨y,h1,h2⟩:=bo hi hv;obtain⟨y2,h3,h4⟩:=bo hi A;simp only[cg,af]at h2;subst h2;have hq:=Rc hkk h4;have hg:H.get (nm id)=Z ⟨0,.mp (wA a es)⟩:=by rw[hH,bQ,hb];rfl
   have hf:=YZ a (L,F) es;have hrd:∀n∈[nm id],aO (fV id) (ow n)=J:=λn hn=>by
    simp only[aE]at hn;subst hn;rw[dq];exact bC.2 rfl
   refine ⟨_,_,_,_,_,z,eL.wrt (m:=0) (v:=.qg []) (rd:=fV id) (k:=0) (y0:=.qg []) (rdl:=[nm id]) (b0:=⟨0,.mp (wA a (AZ (L,F) es))⟩) hinv hc hH (by simp only[dB,h1,h3,aC,hq,hg,hf]) hb (dG.zero h) (by simp) rfl (λ_ _ he=>by cases he) (λH1 H2 x g b' D=>?_) (λH1 H2 y x g N=>?_) hrd⟩
   .cases D;exact fC.refl x _
   .simp only[cg,cO,af]at N;subst N;exact kE.refl x _
  .cases z
 .cases z
def asv {k v:Operand} (hc:cX P o.op=Z (.jh i2 d k v)) (z:pA co e h nx K (.jh i2 d k v)=Z r):iW P o aa e h nx K r:=by
 obtain⟨H,hH⟩:=gD h;simp only[pA]at z;split at z
 .rename_i id kv p hv hkv hvp;obtain⟨tk,A,hkk⟩:=bind_some hkv;obtain⟨L,F⟩:=kv;split at z
  .rename_i a es hb;obtain⟨y,h1,h2⟩:=bo hi hv;obtain⟨y2,h3,h4⟩:=bo hi A;obtain⟨y3,h5,h6⟩:=bo hi hvp;simp only[cg,af]at h2 h6;subst h2 h6;have hq:=Rc hkk h4;have hg:H.get (nm id)=Z ⟨0,.mp (wA a es)⟩:=by rw[hH,bQ,hb];rfl
   have hf:=YY a (L,F) (.H (nm p) 0) es;have hrd:∀n∈[nm id],aO (fV id) (ow n)=J:=λn hn=>by
    simp only[aE]at hn;subst hn;rw[dq];exact bC.2 rfl
   refine ⟨_,_,_,_,_,z,eL.wrt (m:=0) (v:=.undef) (rd:=fV id) (k:=0) (y0:=raw undef) (rdl:=[nm id]) (b0:=⟨0,.mp (Mi a (L,F) (.H (nm p) 0) es)⟩) hinv hc hH (by simp only[dB,h1,h3,h5,aC,hq,hg,hf]) hb (dG.zero h) (by simp) rfl (λ_ _ he=>by cases he) (λH1 H2 x g b' D=>?_) (λH1 H2 y x g N=>?_) hrd⟩
   .cases D;exact fC.refl x _
   .simp only[cg,af]at N;subst N;exact kE.refl x _
  .cases z
 .cases z
end ops
def eL.wrtM {o:Oper} {e:h_} {s:O1} (hinv:gV h i) (hc:cX P o.op=Z s) {H:m7} (hH:H.get=erHF h) {km:Nat} {y0:AV} {rdl:ι} {b0:kx} {k:Nat} (ha:dB s (CL e h) H k=Z ⟨y0,rdl,[jK j (km+1)],[(jK j (km+1),b0)],[]⟩) {L B:eG} (D:h.get j=Z L) {v:TV} {rd:Nat}
 (hrow:iH B=iH L) (hB:∀ty l,B≠ .C ty l) (hB0:∀ty l,L≠ .C ty l) (hanc:∀h2,jY h2 B=jY h L) (hoth:∀N,N≠km->wx j N B=wx j N L)
 (hblk:∀A z,rq A z->∀b',wx j km B=Z b'->fC A z b0 b')
 (hval:∀A z y,rq A z->cg (h.set j (Z B)) v=Z y->kE A z y0 y)
 (hrd:∀n∈rdl,aO rd (ow n)=J):eL P o aa e h i v rd (0|||fV j) (h.set j (Z B)) i:=by
 have a:b9 h (h.set j (Z B)):=b9.set λr a=>by rw[bH,D]at a;rw[hrow];exact a
 refine eL.mk' hc hH ha [jK j (km+1)] (λnx hi=>hi) (λn hn=>?_) (λnx hi b' hb'=>⟨b0,by rw[aG hi];simp only[aE]at hi;subst hi;exact eI _ _⟩) (λA z d hw1 _ hw2=>⟨λnx hi b b' hb hb2=>?_,λy hy=>hval A z y d hy⟩) hrd (λn hn=>?_) (by simp) a (hinv.set a (hinv.low j L D) (cA _) λty l he=>cN he (hB ty l)) (cA _)
 .by_cases ho:ow n=j
  .unfold erHF;rw[ho,PT.get_set,aG rfl,D];simp only[aC];cases hk:ix n with
   |zero=>exact hanc _
   |succ N=>
    refine hoth N λe=>hn ?_
    rw[<- lb n,ho,hk,e];simp
  .unfold erHF;rw[PT.get_set,aA ho];cases hx:h.get (ow n) with
   |none=>rfl
   |some b=>exact mB a (λty l e=>hinv.C _ _ l (by rw[hx,e])) _ _
 .simp only[aE]at hi;subst hi;rw[hw1 _ (by simp),eI]at hb;rw[hw2 _ (by simp),kU,PT.get_set,aG rfl]at hb2;cases hb;exact hblk A z d b' hb2
 .simp only[aE]at hn;subst hn;rw[iL,wj];exact bC.2 rfl
def PU {xs:Y (BR T)} {n:Nat} {z:BR T} (hf:∀o,xs[n]? =Z o->j/3=n->vT i j s T z=vT i j s T o):oK i j s T (xs.set n z)=oK i j s T xs:=by
 unfold oK;rw[db];by_cases e:n=j/3
 .rw[aG e];by_cases A:n<l! xs
  .rw[aG (by omega)];have h1:xs[n]? =Z xs[n]:=aD A;rw[<- e,h1];exact ey Z (hf _ h1 e.symm)
  .rw[aA (by omega),bK (by omega)]
 .rw[aA e]
def UC {xs:Y (BR T)} {n:Nat} {z:BR T} (A:j/3=n) (D:n<l! xs):oK i j s T (xs.set n z)=Z (vT i j s T z):=by
 unfold oK;rw[db,aG A.symm,aG (by omega)];rfl
def G9 {ty:TypeId} {xss:Y (Y T.den)} {xs:Y T.den} (z:i≠j):pm i ty T (xss.set j xs)=pm i ty T xss:=by
 unfold pm;rw[db,aA (λe=>z e.symm)]
def Mb {ty:TypeId} {xss:Y (Y T.den)} {xs:Y T.den} (d:i<l! xss):pm i ty T (xss.set i xs)=XI ty T xs:=by
 unfold pm;rw[db,aG rfl,aG (by omega)];rfl
def R_ (h:dJ i j=J):i<j:=aZ h
def aew {c:Nat} (h:i=j) (h2:c<j):c<i:=by omega
def lB (a sz:Nat):∀(ls:η) (k:Nat),l! (lY a sz k ls)=l! ls
 |[],_=>rfl
 |l::r,k=>by simp only[lY,bX,lB a sz r]
def Tj {z:HF} (d:rq S z):∀n,gO S z ((repl [.slice U 0 0] n).map .f) (aF n .emp)
 |0=>trivial
 |n+1=>⟨Le.nilEmp.toH d,Tj d n⟩
section ops
variable {R:Type} {P:Program} {co:TypeId->M Ty} {o:Oper} {e:h_} {h:bk} {nx:Nat} {K:KO R} {r:R} (hinv:gV h nx) (hi:sD e h)
include hinv hi
variable {b:Bool} {d:Operand}
def asu {k v:Operand} (hc:cX P o.op=Z (.jw b d k v)) (z:pA co e h nx K (.jw b d k v)=Z r):iW P o aa e h nx K r:=by
 obtain⟨H,hH⟩:=gD h;simp only[pA]at z;split at z
 .rename_i id j str F D hv hv2 hv3;split at z
  .rename_i ty S a xs hb;split at z
   .rename_i hq;simp only[au,cU]at hq;obtain⟨q1,q2⟩:=hq;subst q1;have q2:=R_ q2;have hk0:=cL z;clear z;obtain⟨hj,z⟩:=hk0;obtain⟨y,h1,h2⟩:=bo hi hv;obtain⟨y2,h3,h4⟩:=bo hi hv2;obtain⟨y3,h5,h6⟩:=bo hi hv3;simp only[cg,Jw,af]at h2 h4 h6;subst h2 h4 h6;have e1:3*j.toNat+2+str=3*j.toNat+1+str+1:=by omega
    obtain⟨_,_,hjl⟩:=mU hj;have hg:H.get (jK id (3*j.toNat+2+str))=Z ⟨0,.mp (GC (sG str (dV S xs j)))⟩:=by rw[hH];exact alr hb hj q2
    rw[e1]at h1 hg;have hf:yY (.int .i64 F) (.f (.raw (.bool D))) (GC (sG str (dV S xs j)))=Z (GC (vJ (K:=.int .i64) (V:=.bool) F D (sG str (dV S xs j)))):=Q7 (str:=aa) (K:=.int .i64) (V:=.bool) rfl F D _;have henc:fO (.int .i64) F= .raw (.int .i64 F):=rfl;have henc2:fO .bool D= .raw (.bool D):=rfl;rw[henc]at h3;rw[henc2]at h5;refine ⟨_,_,_,_,_,z,eL.wrtM (km:=3*j.toNat+1+str) (v:=.undef) (rd:=fV id) (k:=0) (y0:=raw undef) (rdl:=[jK id (3*j.toNat+1+str+1)]) (b0:=⟨0,.mp (GC (vJ (K:=.int .i64) (V:=.bool) F D (sG str (dV S xs j))))⟩) hinv hc hH (by simp only[dB,h1,h3,h5,hg,xY,bw,hf]) hb rfl (λ_ _ he=>by cases he) (λ_ _ he=>by cases he) (λ_=>rfl) (λk' N=>?_) (λH1 H2 x b' A=>?_) (λH1 H2 y x hy=>?_) (λn hn=>?_)⟩
    .refine PU λo' L hn=>?_
     rw[B8 (S:=S) hj,af]at L;subst L;unfold vT;by_cases m0:k'%3=0
     .rw[aG m0,aG m0];cases str<;>rfl
     .rw[aA m0,aA m0];by_cases m1:k'%3=1
      .rw[aG m1,aG m1];cases str with
       |zero=>exact cN (by omega) N
       |succ str=>rfl
      .rw[aA m1,aA m1];cases str with
       |zero=>rfl
       |succ str=>exact cN (by omega) N
    .have A:oK id (3*j.toNat+1+str) ty S (wn xs j.toNat (vx str (dV S xs j) (vJ (K:=.int .i64) (V:=.bool) F D (sG str (dV S xs j)))))=Z b':=A;rw[UC (by omega) hjl]at A;have:vT id (3*j.toNat+1+str) ty S (vx str (dV S xs j) (vJ (K:=.int .i64) (V:=.bool) F D (sG str (dV S xs j))))=⟨0,.mp (GC (vJ (K:=.int .i64) (V:=.bool) F D (sG str (dV S xs j))))⟩:=by
      unfold vT;rw[aA (by omega)];cases str with
      |zero=>rw[aG (by omega)];rfl
      |succ str=>rw[aA (by omega)];rfl
     rw[this,af]at A;subst A;exact fC.refl x _
    .simp only[cg,af]at hy;subst hy;exact kE.refl x _
    .simp only[aE]at hn;subst hn;rw[iL];exact bC.2 rfl
   .cases z
  .cases z
 .cases z
def ala {v:Operand} (hc:cX P o.op=Z (.store i d v)) (A:pA co e h nx K (.store i d v)=Z r):iW P o aa e h nx K r:=by
 obtain⟨H,hH⟩:=gD h;simp only[pA]at A;split at A
 .rename_i id j off y hv hv2;obtain⟨yb,h1,h2⟩:=bo hi hv;obtain⟨F,h3,h4⟩:=bo hi hv2;simp only[cg,Jw,af]at h2;subst h2;split at A
  .rename_i ty S a xs hb;have hk0:=cL A;clear A;obtain⟨hj,A⟩:=hk0;obtain⟨_,_,hjl⟩:=mU hj;split at A
   .rename_i z m hset;split at A
    .rename_i L;have L:=av L;subst L;have hg:H.get (pG id j)=Z ⟨ty,.mx (Cz id S j (dV S xs j))⟩:=by rw[hH];exact als hb hj
     have hso:∀H1 N,rq H1 N->Qt H1 N F S (dV S xs j).1 z off i:=λH1 N x=>tK x h4 40 S _ off i z 0 hset Ea.zero
     have hcell:=n_ h4 40 S _ off i z 0 hset;obtain⟨fs0,q1,q2,q3,_,_⟩:=hso _ _ (rq.refl (erHF h));have hlen:F.cs.length=i:=by rw[<- q2,<-bS (f:=AV.f),q1.length]
     have hput:(BC.mx (Cz id S j (dV S xs j))).put off F.cs=Z (.mx (AI.splice (Cz id S j (dV S xs j)) off F.cs)):=by
      unfold BC.put;rw[aG]
      .rfl
      .simp only[au];refine ⟨⟨rfl,ba ?_⟩,hcell⟩;simp only[BC.len,Cz,bG,bS,bD];omega
     have ha0:dB (.store i d v) (CL e h) H 0=Z ⟨raw undef,[pG id j],[pG id j],[(pG id j,⟨ty,.mx (AI.splice (Cz id S j (dV S xs j)) off F.cs)⟩)],[]⟩:=by
      simp only[dB,h1,h3,BP,hg,hlen,cr,bw,hput]
     refine ⟨_,_,_,_,_,A,eL.wrtM (km:=3*j.toNat) (v:=.undef) (rd:=fV id) hinv hc hH ha0 hb rfl (λ_ _ he=>by cases he) (λ_ _ he=>by cases he) (λ_=>rfl) (λk' hk'=>?_) (λH1 N x b' D=>?_) (λH1 N y x hy=>?_) (λn hn=>?_)⟩
     .refine PU λo' ho' hn=>?_
      rw[B8 (S:=S) hj,af]at ho';subst ho';have k0:k'%3≠0:=by omega
      unfold vT;rw[aA k0,aA k0]
     .have D:oK id (3*j.toNat) ty S (wn xs j.toNat (z,(dV S xs j).2))=Z b':=D;rw[UC (by omega) hjl]at D;have:vT id (3*j.toNat) ty S (z,(dV S xs j).2)=⟨ty,.mx (Cz id S j (z,(dV S xs j).2))⟩:=by
       unfold vT;rw[aG (by omega)];rfl
      rw[this,af]at D;subst D;obtain⟨fs,p1,p2,p3,p4,p5⟩:=hso H1 N x;refine fC.C rfl rfl ?_ λd hx=>?_
      .simp only[BC.toMx];have e2:Cz id S j (z,(dV S xs j).2)=AI.splice (Cz id S j (dV S xs j)) off (fs.map .f):=by
        unfold Cz;rw[p4];unfold AI.splice;rw[iY (by rw[bS,bD];omega),sJ (by rw[bS,bS,bD];omega)];simp[iq,ue]
       rw[e2];exact (gO.refl x _).splice _ p1
      .simp only[BC.toMx,Cz,bE]at hx;rcases hx with hx|hx
       .obtain⟨q,hq,rfl⟩:=cq.1 hx;have:∀q∈([z]:Y S.den).flatMap (bT S),q.isCell=J:=mA S [z];exact this q (by simpa using hq)
       .simp only[bm,cI,gy]at hx;rcases hx with rfl|rfl<;>rfl
     .simp only[cg,af]at hy;subst hy;exact kE.refl x _
     .simp only[aE]at hn;subst hn;unfold pG;rw[iL];exact bC.2 rfl
    .cases A
   .cases A
  .cases A
 .rename_i id j s sz off y hv hv2;obtain⟨yb,h1,h2⟩:=bo hi hv;obtain⟨F,h3,h4⟩:=bo hi hv2;simp only[cg,Jw,af]at h2;subst h2;split at A
  .rename_i ty T a xss hb;split at A
   .rename_i hs;have hs:=av hs;subst hs;obtain⟨hj,A⟩:=cL A;obtain⟨hji,A⟩:=cL A;obtain⟨_,_,hjl⟩:=mU hj;split at A
    .rename_i z m hset;split at A
     .rename_i L;have L:=av L;subst L;generalize hxs:xF (T:=T) xss j=xs at*
      obtain⟨i0,i1,i2⟩:=mU hji;have hne:xs.length≠0:=by omega
      have hg:H.get (jK id (j.toNat+1))=Z ⟨ty,.fz (xs.flatMap (bT T))⟩:=by rw[hH,<-hxs];exact Zg hb hj (by rw[hxs];exact hne)
      have fl:=d9 (bD T) xs;have hx:xs[sz.toNat]? =Z (geti _ xs sz):=by
       unfold geti;rw[aB,aD i2];rfl
      have hle:(sz.toNat+1)*T.size<=xs.length*T.size:=cH _ i2;rw[iC]at hle;have hso:∀H1 N,rq H1 N->Qt H1 N F T (geti _ xs sz) z off i:=λH1 N x=>tK x h4 40 T _ off i z 0 hset Ea.zero
      have hcell:=n_ h4 40 T _ off i z 0 hset;obtain⟨fs0,q1,q2,q3,_,_⟩:=hso _ _ (rq.refl (erHF h));have hlen:F.cs.length=i:=by rw[<- q2,<-bS (f:=AV.f),q1.length]
      obtain⟨c',hput,hc1,hc2⟩:∃c',(BC.fz (xs.flatMap (bT T))).put (sz.toNat*T.size+off) F.cs=Z c'/\c'.toMx=AI.splice ((xs.flatMap (bT T)).map .f) (sz.toNat*T.size+off) F.cs/\c'.isCells=J:=by
       unfold BC.put;rw[aG]
       .split
        .rename_i l ys hl hys;simp only[BC.fz.injEq]at hl;subst hl;refine ⟨_,rfl,?_,rfl⟩;rw[nI hys];simp only[BC.toMx];unfold AI.splice;simp[iq,ue]
        .exact⟨_,rfl,rfl,rfl⟩
       .simp only[au];exact⟨⟨rfl,ba (by simp only[BC.len];omega)⟩,hcell⟩
      have ha0:dB (.store i d v) (CL e h) H 0=Z ⟨raw undef,[jK id (j.toNat+1)],[jK id (j.toNat+1)],[(jK id (j.toNat+1),⟨ty,c'⟩)],[]⟩:=by
       simp only[dB,h1,h3,BP,hg,hlen,cr,bw,hput]
      refine ⟨_,_,_,_,_,A,eL.wrtM (km:=j.toNat) (v:=.undef) (rd:=fV id) hinv hc hH ha0 hb rfl (λ_ _ he=>by cases he) (λ_ _ he=>by cases he) (λ_=>rfl) (λk' hk'=>G9 hk') (λH1 N x b' D=>?_) (λH1 N y x hy=>?_) (λn hn=>?_)⟩
      .have D:pm j.toNat ty T (wn xss j.toNat (cJ xs sz z))=Z b':=D;rw[Mb hjl]at D;unfold XI at D;have hl2:(cJ xs sz z).length=xs.length:=by unfold cJ;rw[iu]
       rw[aA (by simp only[cF];omega),af]at D;subst D;obtain⟨fs,p1,p2,p3,p4,p5⟩:=hso H1 N x;have hfl:(cJ xs sz z).flatMap (bT T)=AI.splice (xs.flatMap (bT T)) (sz.toNat*T.size+off) fs:=L7 (bD T) xs sz.toNat _ z hx off fs (by omega) p4;refine fC.C hc2 rfl ?_ λd hx=>?_
       .rw[hc1];simp only[BC.toMx];rw[hfl];have:(AI.splice (xs.flatMap (bT T)) (sz.toNat*T.size+off) fs).map AV.f=AI.splice ((xs.flatMap (bT T)).map .f) (sz.toNat*T.size+off) (fs.map .f):=by unfold AI.splice;simp[iq,ue]
        rw[this];exact (gO.refl x _).splice _ p1
       .simp only[BC.toMx]at hx;obtain⟨q,hq,rfl⟩:=cq.1 hx;exact mA T _ q hq
      .simp only[cg,af]at hy;subst hy;exact kE.refl x _
      .simp only[aE]at hn;subst hn;rw[iL];exact bC.2 rfl
     .cases A
    .cases A
   .cases A
  .cases A
 .rename_i id s j off rr hv hv2;obtain⟨yb,h1,h2⟩:=bo hi hv;obtain⟨F,h3,h4⟩:=bo hi hv2;simp only[cg,af]at h2;subst h2;split at A
  .rename_i hq;simp only[au]at hq;obtain⟨q1,q2,q3⟩:=hq;have q1:=av q1;have q2:=av q2;have q3:=av q3;subst q1 q2 q3;split at A
   .rename_i ty z a ls ty2 p T xs hb hb2;split at A
    .rename_i hz;have hz:=av hz;subst hz;have hk0:=cL A;clear A;obtain⟨hj,A⟩:=hk0;have hk0:=cL A;clear A;obtain⟨hp,A⟩:=hk0;obtain⟨_,_,hjl⟩:=mU hj;have hyy:F=dv J rr T.size xs.length:=by
      simp only[cg,bH,hb2,aC,iH,af]at h4;rw[<- h4];cases p with
      |true=>rfl
      |false=>
       have hp:(!(ax (ah xs) 0))=J:=hp;have hp:ah xs≠0:=λe=>by rw[e]at hp;cases hp
       unfold dv;rw[aA (by simp),aA (by simpa using hp)]
     have hg:H.get (nm id)=Z ⟨ty,.mx (lY a T.size 0 ls)⟩:=by rw[hH,bQ,hb];rfl
     have hcs:F.cs=[F]:=by rw[hyy];unfold dv;split<;>rfl
     have hcell:F.isCell=J:=by rw[hyy];unfold dv;split<;>rfl
     have hput:(BC.mx (lY a T.size 0 ls)).put (j.toNat*1+0) F.cs=Z (.mx (AI.splice (lY a T.size 0 ls) j.toNat [F])):=by
      rw[hcs,Gi,cZ];unfold BC.put;rw[aG]
      .rfl
      .simp only[au,gu,hcell,and_true];refine ⟨rfl,ba ?_⟩;have hl:(lY a T.size 0 ls).length=ah (α:=Int) ls:=lB a T.size ls 0;show j.toNat+1<=(lY a T.size 0 ls).length;rw[hl];exact hjl
     have hlen:F.cs.length=1:=by rw[hcs];rfl
     have ha0:dB (.store 1 d v) (CL e h) H 0=Z ⟨raw undef,[nm id],[nm id],[(nm id,⟨ty,.mx (AI.splice (lY a T.size 0 ls) j.toNat [F])⟩)],[]⟩:=by
      simp only[dB,h1,h3,BP,hg,hlen,cr,bw,hput]
     refine ⟨_,_,_,_,_,A,eL.wrt (m:=0) (v:=.undef) (rd:=fV id) hinv hc hH ha0 hb (dG.zero h) (by simp) rfl (λ_ _ he=>by cases he) (λH1 N x g b' D=>?_) (λH1 N y x g hy=>?_) (λn hn=>?_)⟩
     .cases D;have hl:(lY a T.size 0 ls).length=ah (α:=Int) ls:=lB a T.size ls 0;rw[KJ (aew hl hjl),hyy];exact fC.refl x _
     .simp only[cg,af]at hy;subst hy;exact kE.refl x _
     .simp only[aE]at hn;subst hn;rw[dq];exact bC.2 rfl
    .cases A
   .cases A
  .cases A
 .cases A
variable {z:kx}
def eL.app1 {s:O1} (hc:cX P o.op=Z s) {H:m7} (hH:H.get=erHF h) {k n0:Nat} {y0:AV} {rdl:ι} {b0:kx} (ha:dB s (CL e h) H k=Z ⟨y0,rdl,[nm nx,n0],[(nm nx,b0)],[nm nx]⟩) {h':bk} 
 (hsame:∀n,n≠nm nx->n≠n0->erHF h' n=erHF h n) (hne:nm nx≠n0) (hdead:erHF h' n0=U) (hnew:erHF h' (nm nx)=Z z) (hblk:∀a D,rq a D->fC a D b0 z) (hval:∀a D y,rq a D->cg h' u=Z y->kE a D y0 y)
 (hrd:∀n∈rdl,aO i (ow n)=J) (hwr:aO j (ow n0)=J) (hwn:aO j nx=J) (hrows:b9 h h') (hinv':gV h' (nx+1)):eL P o aa e h nx u i j h' (nx+1):=by
 have _:=hinv;have _:=hi;refine eL.mk' hc hH ha [nm nx,n0] (λrd hi=>hi) (λn A=>?_) (λrd hi b' hb'=>?_) (λa D d hw1 _ N=>⟨λrd hi b b' L b1=>?_,λy hy=>hval a D y d hy⟩) hrd (λn A=>?_) (λn A=>by simp only[aE]at A;subst A;rw[dq];omega) hrows hinv' (by omega)
 .simp only[bm,cI,gy,not_or]at A;exact hsame n A.1 A.2
 .simp only[bm,cI,gy]at hi;rcases hi with rfl|rfl
  .exact⟨_,by rw[aG (by simp)];exact eI _ _⟩
  .rw[hdead]at hb';cases hb'
 .simp only[bm,cI,gy]at hi;rcases hi with rfl|rfl
  .rw[hw1 _ (by simp),eI]at L;rw[N _ (by simp),hnew]at b1;simp only[af]at L b1;subst L b1;exact hblk a D d
  .rw[N _ (by simp),hdead]at b1;cases b1
 .simp only[bm,cI,gy]at A;rcases A with rfl|rfl
  .rw[dq];exact hwn
  .exact hwr
def eL.app0 {s:O1} (hc:cX P o.op=Z s) {H:m7} (hH:H.get=erHF h) {k:Nat} {y0:AV} {rdl:ι} {b0:kx} (ha:dB s (CL e h) H k=Z ⟨y0,rdl,[nm nx],[(nm nx,b0)],[nm nx]⟩) {h':bk} 
 (hsame:∀n,n≠nm nx->erHF h' n=erHF h n) (hnew:erHF h' (nm nx)=Z z) (hblk:∀A b1,rq A b1->fC A b1 b0 z) (hval:∀A b1 y,rq A b1->cg h' u=Z y->kE A b1 y0 y)
 (hrd:∀n∈rdl,aO i (ow n)=J) (hwn:aO j nx=J) (hrows:b9 h h') (hinv':gV h' (nx+1)):eL P o aa e h nx u i j h' (nx+1):=by
 have _:=hinv;have _:=hi;refine eL.mk' hc hH ha [nm nx] (λrd hi=>hi) (λn D=>?_) (λrd hi b' hb'=>?_) (λA b1 d hw1 _ N=>⟨λrd hi b b' L a=>?_,λy hy=>hval A b1 y d hy⟩) hrd (λn D=>?_) (λn D=>by simp only[aE]at D;subst D;rw[dq];omega) hrows hinv' (by omega)
 .exact hsame n (by simpa using D)
 .simp only[aE]at hi;subst hi;exact⟨_,by rw[aG (by simp)];exact eI _ _⟩
 .simp only[aE]at hi;subst hi;rw[hw1 _ (by simp),eI]at L;rw[N _ (by simp),hnew]at a;simp only[af]at L a;subst L a;exact hblk A b1 d
 .simp only[aE]at D;subst D;rw[dq];exact hwn
def at1 {ty:Operand} (hc:cX P o.op=Z (.app s i j ty d)) (z:pA co e h nx K (.app s i j ty d)=Z r):iW P o aa e h nx K r:=by
 obtain⟨H,hH⟩:=gD h;have hfr:=hinv.fresh;simp only[pA]at z;split at z
 .rename_i id id2 hv hv2;obtain⟨yb,h1,h2⟩:=bo hi hv;obtain⟨yy,h3,h4⟩:=bo hi hv2;simp only[cg,af]at h4;subst h4;split at z
  .rename_i ty' a D tyc a' bytes hb hb2;split at z
   .rename_i hq;simp only[au,cU]at hq;obtain⟨⟨q1,q2⟩,q3,q4⟩:=hq;have q1:=av q1;have q2:=eq_of_beq q2;have q3:=av q3;have q4:id≠id2:=λe=>by rw[e,eP]at q4;cases q4
    subst q1 q2 q3;have N:=cL z;clear z;obtain⟨hroom,z⟩:=N;have hrow:=ZD hH hb2 (l':=[.H (pG a bytes) 0]) rfl (n:=1) (sz:=1) rfl;have hidlt:=hinv.low id _ hb;have hne:nx≠id:=by omega
    have hroom:bh (ah (α:=Int) D+1) j=J:=hroom;simp only[cg,bH,hb,aC,iH,r9,af]at h2;generalize hh':(h.set id (Z (.qj J 1 (ah (α:=Int) D)))).set nx (Z (.I (.qc s) a (sK (α:=Int) D [bytes])))=h' at z;have A:∀sz,h'.get sz=if sz=nx then Z (.I (.qc s) a (sK (α:=Int) D [bytes])) else if sz=id then Z (.qj J 1 (ah (α:=Int) D)) else h.get sz:=λsz=>by rw[<- hh',PT.get_set,PT.get_set]
    have hr:b9 h h':=λsz r hi=>by
     rw[bH]at hi ⊢;rw[A];by_cases e1:sz=nx
     .rw[e1,hfr]at hi;cases hi
     .rw[aA e1];by_cases e2:sz=id
      .rw[aG e2];rw[e2,hb]at hi;exact hi
      .rw[aA e2];exact hi
    have hinv':gV h' (nx+1):=by
     refine ⟨λsz s l hil=>?_,λsz c hic=>?_⟩
     .rw[A]at hil;split at hil
      .cases hil
      .split at hil
       .cases hil
       .exact eY hr l (hinv.C sz _ l hil)
     .rw[A]at hic;split at hic
      .omega
      .split at hic
       .omega
       .have:=hinv.low sz c hic;omega
    have hsame:∀n,n≠nm nx->n≠nm id->erHF h' n=erHF h n:=λn e1 e2=>by
     unfold erHF;rw[A (ow n)];by_cases f1:ow n=nx
     .rw[aG f1,f1,hfr];simp only[aC,wG];cases hx:ix n with
      |zero=>exact cN (by rw[pt hx,f1]) e1
      |succ k=>rfl
     .rw[aA f1];by_cases f2:ow n=id
      .rw[aG f2,f2,hb];simp only[aC];cases hx:ix n with
       |zero=>exact cN (by rw[pt hx,f2]) e2
       |succ k=>rfl
      .rw[aA f2];cases hx:h.get (ow n) with
       |none=>rfl
       |some b=>exact mB hr (λs l e=>hinv.C _ _ l (by rw[hx,e])) _ _
    have hdead:erHF h' (nm id)=U:=by rw[bQ,A,aA (by omega),aG rfl];rfl
    have hl2:ah (α:=Int) (sK (α:=Int) D [bytes])=ah (α:=Int) D+1:=by
     exact (λ(a b:η)=>(bG:(a++b).length=a.length+b.length)) D [bytes]
    have hnew:erHF h' (nm nx)=Z ⟨s,.mx (fX (λbytes=>.H (pG a bytes) 0) D++[.H (pG a bytes) 0])⟩:=by
     rw[bQ,A,aG rfl];simp only[aC,jY,sC];rw[aA (by simp only[cF];omega)];have:fX (λbytes=>AV.H (pG a bytes) 0) (sK (α:=Int) D [bytes])=fX (λbytes=>AV.H (pG a bytes) 0) D++[.H (pG a bytes) 0]:=by
      exact da (f:=λbytes:Int=>AV.H (pG a bytes) 0) (l₁:=(D:η)) (l₂:=[bytes])
     rw[this]
    have hval:cg h' (.G nx)=Z (.G (nm nx) 1 (ah (α:=Int) D+1)):=by
     simp only[cg,bH,A,bw,aC,iH,r9,dv,hl2];rw[aA (by simp)]
    have hblk:∀H1 H2,rq H1 H2->fC H1 H2 ⟨s,nX (fX (λbytes=>.H (pG a bytes) 0) D++[.H (pG a bytes) 0])⟩ ⟨s,.mx (fX (λbytes=>.H (pG a bytes) 0) D++[.H (pG a bytes) 0])⟩:=λH1 H2 x=>by
     obtain⟨p1,p2⟩:=nF (fX (λbytes=>AV.H (pG a bytes) 0) D++[.H (pG a bytes) 0]);exact fC.eq x p2 rfl p1
    have w1:aO (fV id|||fV nx) nx=J:=by rw[bA,bC.2 (rfl:nx=nx)];simp
    have hrd:∀n∈[nm id2],aO (fV id|||fV id2) (ow n)=J:=λn L=>by
     simp only[aE]at L;subst L;rw[dq,bA,bC.2 (rfl:id2=id2)];simp
    refine ⟨_,_,_,_,_,z,?_⟩;by_cases hz:ah (α:=Int) D=0
    .have hyb:yb= .emp:=by rw[<- h2];unfold dv;rw[hz];rfl
     subst hyb;have hnil:D=[]:=ef.1 hz;subst hnil;have hroom:bh 1 j=J:=hroom;refine eL.app0 hinv hi hc hH (k:=nm nx) (y0:=.G (nm nx) 1 1) (rdl:=[nm id2]) (b0:=⟨s,nX [.H (pG a bytes) 0]⟩) (by simp only[dB,h1,h3,hrow];simp[DM,hroom]) (λn L=>?_) hnew (hblk) (λH1 H2 y x hy=>by rw[hval]at hy;cases hy;exact kE.refl x _) hrd w1 hr hinv';by_cases e2:n=nm id
     .subst e2;rw[hdead,bQ,hb];rfl
     .exact hsame n L e2
    .have hyb:yb= .G (nm id) 1 (ah (α:=Int) D):=by
      rw[<- h2];unfold dv;rw[aA (by simpa using hz)]
     subst hyb;have hg:H.get (nm id)=Z ⟨s,.mx (fX (λbytes=>.H (pG a bytes) 0) D)⟩:=by
      rw[hH,bQ,hb];simp only[aC,jY,sC];rw[aA (by simpa using hz)]
     have hmm:mem (nm id) [nm id2]=aa:=by
      cases hx:mem (nm id) [nm id2] with
      |false=>rfl
      |true=>
       have:=aeu.1 hx;simp only[aE]at this;exact cN (uj this) q4
     refine eL.app1 hinv hi hc hH (k:=nm nx) (n0:=nm id) (y0:=.G (nm nx) 1 (ah (α:=Int) D+1)) (rdl:=[nm id,nm id2]) (b0:=⟨s,nX (fX (λbytes=>.H (pG a bytes) 0) D++[.H (pG a bytes) 0])⟩) ?_ hsame (λe=>hne (uj e)) hdead hnew hblk (λH1 H2 y x hy=>by rw[hval]at hy;cases hy;exact kE.refl x _) (λn L=>?_) (by rw[dq,bA,bC.2 (rfl:id=id)];rfl) w1 hr hinv'
     .have hlen:(fX (λbytes=>AV.H (pG a bytes) 0) D).length=ah (α:=Int) D:=bS ..;simp only[dB,h1,h3,hrow,hg];rw[aG (by
       simp only[cr,eg,Bool.and_true,BC.isCells,BC.len,hroom,au,cU];exact⟨hmm,ba (by omega)⟩)]
      simp only[BC.toMx,gi (show (fX (λbytes=>AV.H (pG a bytes) 0) D).length<=ah (α:=Int) D*1 by omega)]
     .rcases bm.1 L with rfl|L
      .rw[dq,bA,bC.2 (rfl:id=id)];rfl
      .exact hrd n L
   .cases z
  .cases z
 .rename_i id bytes sb n y hv hv2;obtain⟨yb,h1,h2⟩:=bo hi hv;obtain⟨yy,h3,h4⟩:=bo hi hv2;simp only[cg,Jw,af]at h2;split at z
  .rename_i ty' T a xss hb;split at z
   .rename_i hq;simp only[au]at hq;obtain⟨q1,q2,q3⟩:=hq;have q1:=av q1;have q2:=av q2;have q3:=eq_of_beq q3;subst q1 q2 q3;have N:=cL z;clear z;obtain⟨hj,z⟩:=N;split at z
    .rename_i ys m hys;split at z
     .cases z
     .rename_i hmid;have hmid:aO m id=aa:=by simpa using hmid
      have N:=cL z;clear z;obtain⟨hqq,z⟩:=N;simp only[au]at hqq;obtain⟨L,hroom⟩:=hqq;have L:=av L;obtain⟨rdl,h5,h6⟩:=QQ hH hys h4;generalize hxs:xF (T:=T) xss bytes=xs at*
      have hidlt:=hinv.low id _ hb;have hne:nx≠id:=by omega
      obtain⟨_,_,hjl⟩:=mU hj;generalize hh':(h.set id (Z (.I (.ir s T) a (Dw (T:=T) xss bytes [])))).set nx (Z (.F s J T (xs++ys)))=h' at z;have A:∀sz,h'.get sz=if sz=nx then Z (.F s J T (xs++ys)) else if sz=id then Z (.I (.ir s T) a (Dw (T:=T) xss bytes [])) else h.get sz:=λsz=>by rw[<- hh',PT.get_set,PT.get_set]
      have hr:b9 h h':=λsz r hi=>by
       rw[bH]at hi ⊢;rw[A];by_cases e1:sz=nx
       .rw[e1,hfr]at hi;cases hi
       .rw[aA e1];by_cases e2:sz=id
        .rw[aG e2];rw[e2,hb]at hi;exact hi
        .rw[aA e2];exact hi
      have hinv':gV h' (nx+1):=by
       refine ⟨λsz s l hil=>?_,λsz c hic=>?_⟩
       .rw[A]at hil;split at hil
        .cases hil
        .split at hil
         .cases hil
         .exact eY hr l (hinv.C sz _ l hil)
       .rw[A]at hic;split at hic
        .omega
        .split at hic
         .omega
         .have:=hinv.low sz c hic;omega
      have hsame:∀n,n≠nm nx->n≠jK id (bytes.toNat+1)->erHF h' n=erHF h n:=λn e1 e2=>by
       unfold erHF;rw[A (ow n)];by_cases f1:ow n=nx
       .rw[aG f1,f1,hfr];simp only[aC,wG];cases hx:ix n with
        |zero=>exact cN (by rw[pt hx,f1]) e1
        |succ k=>rfl
       .rw[aA f1];by_cases f2:ow n=id
        .rw[aG f2,f2,hb];simp only[aC];cases hx:ix n with
         |zero=>rfl
         |succ k=>
          refine G9 (T:=T) λe3=>?_
          exact e2 (by rw[<- lb n,hx,f2,e3])
        .rw[aA f2];cases hx:h.get (ow n) with
         |none=>rfl
         |some b=>exact mB hr (λs l e=>hinv.C _ _ l (by rw[hx,e])) _ _
      have hdead:erHF h' (jK id (bytes.toNat+1))=U:=by
       rw[kU,A,aA (by omega),aG rfl];exact Mb (T:=T) hjl
      have hnew:erHF h' (nm nx)=if (xs++ys).length==0 then U else Z ⟨s,.fz ((xs++ys).flatMap (bT T))⟩:=by
       rw[bQ,A,aG rfl];rfl
      have hval:cg h' (.G nx)=Z (dv J nx T.size (xs++ys).length):=by
       simp only[cg,bH,A,bw,aC,iH]
      have w1:aO (fV id|||fV nx) nx=J:=by rw[bA,bC.2 (rfl:nx=nx)];simp
      have hrd:∀n∈rdl,aO (fV id|||m) (ow n)=J:=λn L=>by
       obtain⟨sz,rfl,hm⟩:=h6 n L;rw[dq,bA,hm];simp
      refine ⟨_,_,_,_,_,z,?_⟩;by_cases hz:n=0
      .subst hz;have hyb:yb= .emp:=by rw[<- h2];rfl
       subst hyb;have hnil:xs=[]:=ef.1 L.symm;have hold:erHF h (jK id (bytes.toNat+1))=U:=by
        rw[kU,hb];show pm bytes.toNat s T xss=U;unfold pm;rw[Tn hj,hxs,hnil];rfl
       have hsame0:∀n,n≠nm nx->erHF h' n=erHF h n:=λn L=>by
        by_cases e2:n=jK id (bytes.toNat+1)
        .subst e2;rw[hdead,hold]
        .exact hsame n L e2
       rw[bO]at hroom;rw[hnil,m8]at hnew hval;have ha0:dB (.app s T.size j ty d) (CL e h) H (nm nx)=if ah ys==0 then Z ⟨.emp,rdl,[],[],[]⟩ else Z ⟨.G (nm nx) T.size (ah ys),rdl,[nm nx],[(nm nx,⟨s,nX ((ys.flatMap (bT T)).map .f)⟩)],[nm nx]⟩:=by
        simp only[dB,h1,h3,h5,DM,hroom,fw,bw]
       by_cases hl:ah ys=0
       .rw[hl]at ha0;simp only[cr,bw]at ha0;have hnil2:ys=[]:=ef.1 hl;refine eL.mk' hc hH ha0 [] (by simp) (λn _=>?_) (by simp) (λH1 H2 x _ _ _=>⟨by simp,λy hy=>?_⟩) hrd (by simp) (by simp) hr hinv' (by omega)
        .by_cases e1:n=nm nx
         .subst e1;rw[hnew,hnil2,bQ,hfr];rfl
         .exact hsame0 n e1
        .rw[hval,hnil2]at hy;cases hy;exact kE.refl x _
       .rw[aA (by simpa using hl),vL]at ha0;rw[aA (by simpa using hl)]at hnew;refine eL.app0 hinv hi hc hH ha0 hsame0 hnew (λH1 H2 x=>fC.refl x _) (λH1 H2 y x hy=>?_) hrd w1 hr hinv';rw[hval]at hy;unfold dv at hy;rw[aA (by simpa using hl)]at hy;cases hy;exact kE.refl x _
      .have hyb:yb= .G (jK id (bytes.toNat+1)) T.size n:=by rw[<- h2];unfold uh;rw[aA (by simpa using hz)]
       subst hyb;have hg:H.get (jK id (bytes.toNat+1))=Z ⟨s,.fz (xs.flatMap (bT T))⟩:=by rw[hH,<-hxs];exact Zg hb hj (by rw[hxs];omega)
       have fl:=d9 (bD T) xs;have tk:(xs.flatMap (bT T)).take (n*T.size)=xs.flatMap (bT T):=by rw[L,<-fl,bW]
       have hmem:mem (jK id (bytes.toNat+1)) rdl=aa:=by
        cases hx:mem (jK id (bytes.toNat+1)) rdl with
        |false=>rfl
        |true=>
         obtain⟨sz,e,hm⟩:=h6 _ (aeu.1 hx);have:=(uQ e).2;omega
       have ha0:dB (.app s T.size j ty d) (CL e h) H (nm nx)=Z ⟨.G (nm nx) T.size (n+ys.length),jK id (bytes.toNat+1)::rdl,[nm nx,jK id (bytes.toNat+1)],[(nm nx,⟨s,.fz ((xs++ys).flatMap (bT T))⟩)],[nm nx]⟩:=by
        have hcnd:(T.size==T.size&& !(mem (jK id (bytes.toNat+1)) rdl)&&(BC.fz (xs.flatMap (bT T))).isCells&&dK (n*T.size) (BC.fz (xs.flatMap (bT T))).len&&s==s&&bh (n+ys.length) j)=J:=by
         have:dK (n*T.size) (BC.fz (xs.flatMap (bT T))).len=J:=ba (by simp only[BC.len];rw[L];omega);rw[this,hmem,hroom];simp[BC.isCells]
        simp only[dB,h1,h3,h5,hg,hcnd,bw,BC.toMx,<-iq,tk,<-da,vL,xC]
       have hl3:(xs++ys).length=n+ys.length:=by rw[bG,L]
       rw[aA (by simp only[cF];omega)]at hnew;refine eL.app1 hinv hi hc hH ha0 hsame (λe=>by have:=(uQ e).2;omega) hdead hnew (λH1 H2 x=>fC.refl x _) (λH1 H2 y x hy=>?_) (λn' hn'=>?_) (by rw[iL,bA,bC.2 (rfl:id=id)];rfl) w1 hr hinv'
       .rw[hval,hl3]at hy;unfold dv at hy;rw[aA (by simp only[eg,cF];omega)]at hy;cases hy;exact kE.refl x _
       .rcases bm.1 hn' with rfl|hn'
        .rw[iL,bA,bC.2 (rfl:id=id)];rfl
        .exact hrd _ hn'
    .cases z
   .cases z
  .cases z
 .rename_i b id bytes sb n _ hv hv2;obtain⟨yb,h1,h2⟩:=bo hi hv;obtain⟨yy,h3,h4⟩:=bo hi hv2;simp only[cg,Jw,af]at h4;split at z
  .rename_i tyi T a xss hb;split at z
   .rename_i hq;simp only[au]at hq;obtain⟨q1,q2⟩:=hq;have q1:=av q1;have q2:=av q2;subst q1 q2;have N:=cL z;clear z;obtain⟨hj,z⟩:=N;have N:=cL z;clear z;obtain⟨L,z⟩:=N;have L:=av L;generalize hxs:xF (T:=T) xss bytes=xs at*
    by_cases hz:n=0
    .have hyy:yy= .emp:=by rw[<- h4];unfold uh;rw[aG (by simpa using hz)]
     have hnil:xs=[]:=ef.1 (by omega);subst hyy hnil;exact Sf hinv hi hH (rdl:=[]) hc h1 h2 h3 rfl (by simp) z
    .have hyy:yy= .G (jK id (bytes.toNat+1)) T.size n:=by rw[<- h4];unfold uh;rw[aA (by simpa using hz)]
     subst hyy;have hg:H.get (jK id (bytes.toNat+1))=Z ⟨tyi,.fz (xs.flatMap (bT T))⟩:=by rw[hH,<-hxs];exact Zg hb hj (by rw[hxs];omega)
     have fl:=d9 (bD T) xs;have tk:(xs.flatMap (bT T)).take (n*T.size)=xs.flatMap (bT T):=by rw[L,<-fl,bW]
     have hb2:dK (n*T.size) (xs.flatMap (bT T)).length=J:=ba (by rw[L];omega);refine Sf hinv hi hH (rdl:=[jK id (bytes.toNat+1)]) hc h1 h2 h3 ?_ (λq hq=>by simp only[aE]at hq;subst hq;rw[iL];exact bC.2 rfl) z;simp only[AV.row?,cr,bw,hg,BC.isCells,eg,BC.len,hb2,BC.toMx];rw[<- iq,tk,L]
   .cases z
  .cases z
 .cases z
variable {L:ξ}
def ape {l c:Operand} (hc:cX P o.op=Z (.zg s i j L l c)) (A:pA co e h nx K (.zg s i j L l c)=Z r):iW P o aa e h nx K r:=by
 obtain⟨H,hH⟩:=gD h;have hfr:=hinv.fresh;simp only[pA]at A;split at A
 .rename_i q T k a k' b hty hv hv2;split at A
  .rename_i hq;simp only[au]at hq;obtain⟨q1,q2⟩:=hq;have q1:=av q1;subst q1;have hz:L=[.slice U 0 0]:=by
    unfold af6 at q2;split at q2
    .rfl
    .cases q2
   subst hz;obtain⟨hcond,A⟩:=cL A;obtain⟨y,h1,h2⟩:=bo hi hv;obtain⟨y2,h3,h4⟩:=bo hi hv2;simp only[cg,af]at h2 h4;subst h2 h4;generalize hn:aS a=n at A;have ha0:dB (.zg s 1 j [.slice U 0 0] l c) (CL e h) H (nm nx)=Z ⟨.G (nm nx) 1 n,[],[nm nx],[(nm nx,⟨s,.fz (repl [.slice U 0 0] n)⟩)],[nm nx]⟩:=by
    simp only[dB,h1,h3,fO,hcond,bw,hn]
   generalize hh':(h.set nx (Z (.I (.rr s T.size) (nx+1) (aF n (0:Int))))).set (nx+1) (Z (.I (.ir (stN q) T) 0 (aF n ([]:Y T.den))))=h' at A;have hg:∀sz,h'.get sz=if sz=nx+1 then Z (.I (.ir (stN q) T) 0 (aF n ([]:Y T.den))) else if sz=nx then Z (.I (.rr s T.size) (nx+1) (aF n (0:Int))) else h.get sz:=λsz=>by
    rw[<- hh',PT.get_set,PT.get_set]
   have hfr2:h.get (nx+1)=U:=by
    cases D:h.get (nx+1) with
    |none=>rfl
    |some b=>have:=hinv.low _ b D;omega
   have hr:b9 h h':=λsz r hi=>by
    rw[bH]at hi ⊢;rw[hg];by_cases f0:sz=nx+1
    .rw[f0,hfr2]at hi;cases hi
    .rw[aA f0];by_cases N:sz=nx
     .rw[N,hfr]at hi;cases hi
     .rw[aA N];exact hi
   have hl:ah (α:=Int) (aF n (0:Int))=n:=cm ..;have hall:∀(m k:Nat),lY (nx+1) T.size k (aF m (0:Int))=aF m .emp:=λm=>by
    induction m with
    |zero=>intro k;rfl
    |succ m ih=>intro k;rw[iU,iU];simp only[lY,ih];rfl
   have hnew:erHF h' (nm nx)=Z ⟨s,.mx (aF n .emp)⟩:=by
    rw[bQ,hg,aA (by omega),aG rfl];show Z (kx.mk s (.mx (lY (nx+1) T.size 0 (aF n (0:Int)))))=_;rw[hall]
   refine ⟨_,_,_,_,_,A,eL.mk' hc hH ha0 [nm nx] (λsz hi=>hi) (λm hm=>?_) (λsz hi b' hb'=>?_) (λH1 H2 d hw1 _ hw2=>⟨λsz hi b b' z F=>?_,λy hy=>?_⟩) (by simp) (λm hm=>?_) (λm hm=>?_) hr ⟨λsz s l hil=>?_,λsz c' hic=>?_⟩ (by omega)⟩
   .have hm:m≠nm nx:=by simpa using hm
    unfold erHF;rw[hg];by_cases f0:ow m=nx+1
    .rw[aG f0,f0,hfr2];simp only[aC,wG];cases ix m with
     |zero=>rfl
     |succ k=>
      show pm k (stN q) T (aF n ([]:Y T.den))=U;unfold pm;rw[fJ];split<;>rfl
    .rw[aA f0];by_cases N:ow m=nx
     .rw[aG N,N,hfr];simp only[aC,wG];cases D:ix m with
      |zero=>exact cN (by rw[pt D,N]) hm
      |succ k=>rfl
     .rw[aA N];cases D:h.get (ow m) with
      |none=>rfl
      |some b=>exact mB hr (λs l e=>hinv.C _ _ l (by rw[D,e])) _ _
   .simp only[aE]at hi;subst hi;exact⟨_,by rw[aG (by simp)];exact eI _ _⟩
   .simp only[aE]at hi;subst hi;rw[hw1 _ (by simp),eI]at z;rw[hw2 _ (by simp),hnew]at F;simp only[af]at z F;subst z F;refine fC.C rfl rfl ?_ λx D=>?_
    .simp only[BC.toMx];exact Tj d n
    .simp only[BC.toMx]at D;rw[List.mem_replicate]at D;rw[D.2];rfl
   .simp only[cg,bH,hg,bw]at hy;rw[aA (by omega)]at hy;simp only[aC,iH,r9,dv,eO,bM,c8,af]at hy;subst hy;rw[hl];exact kE.refl d _
   .simp only[aE]at hm;subst hm;rw[dq];exact bC.2 rfl
   .simp only[aE]at hm;subst hm;rw[dq];omega
   .rw[hg]at hil;split at hil
    .cases hil
    .split at hil
     .cases hil
     .exact eY hr l (hinv.C sz _ l hil)
   .rw[hg]at hic;split at hic
    .omega
    .split at hic
     .omega
     .have:=hinv.low sz c' hic;omega
  .cases A
 .cases A
end ops
mutual
def FV.fl:FV->Bool
 |.raw _=>J
 |.agg l=>FV.flL l
 |.sl _ _=>aa
 |.H _ _=>aa
def FV.flL:Y FV->Bool
 |[]=>J
 |x::r=>x.fl&&FV.flL r
end
def Zo:∀{l:Y FV},FV.flL l=J->∀x∈l,x.fl=J
 |[],_,x,d=>by cases d
 |y::l,h,x,d=>by
  simp only[FV.flL,au]at h;rcases bm.1 d with rfl|d
  .exact h.1
  .exact Zo h.2 x d
def afs:∀{l:Y FV},(∀x∈l,x.fl=J)->FV.flL l=J
 |[],_=>rfl
 |y::l,h=>by simp only[FV.flL,au];exact⟨h y (by simp),afs λx d=>h x (by simp[d])⟩
variable {v:Value}
def m6.flat {O':Nat->Prop} {w w':World} {x:FV} (h:m6 O w x v):x.fl=J->m6 O' w' x v:=by
 induction h with
 |raw v=>intro _;exact .raw v
 |agg cells vs N hcl A d=>intro h;exact .agg cells vs N hcl λj x v z F=>d j x v z F (Zo h x (bf z))
 |_=>intro h;cases h
mutual
def AV.fl:AV->Bool
 |.f x=>x.fl
 |.emp=>J
 |.qv=>J
 |.agg l|.qg l=>AV.flL l
 |.H _ _=>aa
 |.sl _ _ _=>aa
 |.G _ _ _=>aa
 |.mp _=>aa
 |.qy _ l=>AV.flL l
 |.qd _ _=>aa
def AV.flL:Y AV->Bool
 |[]=>J
 |x::r=>x.fl&&AV.flL r
end
def F7:∀{l:Y AV},AV.flL l=J->∀x∈l,x.fl=J
 |[],_,x,d=>by cases d
 |y::l,h,x,d=>by
  simp only[AV.flL,au]at h;rcases bm.1 d with rfl|d
  .exact h.1
  .exact F7 h.2 x d
def ZR:∀{l:Y AV},(∀x∈l,x.fl=J)->AV.flL l=J
 |[],_=>rfl
 |y::l,h=>by simp only[AV.flL,au];exact⟨h y (by simp),ZR λx d=>h x (by simp[d])⟩
def cu.flat {φ':PM} {O':Nat->Prop} {w w':World} (h:cu V O w y v):y.fl=J->cu φ' O' w' y v:=by
 induction h with
 |f h=>intro hf;exact .f (h.flat hf)
 |emp=>intro _;exact .emp
 |qv=>intro _;exact .qv
 |agg D hcl F z=>intro hf;exact .agg D hcl λj y v d A=>z j y v d A (F7 hf y (bf d))
 |qg D F z=>intro hf;exact .qg D λj y v d A=>z j y v d A (F7 hf y (bf d))
 |qy D F z=>intro hf;exact .qy D λj y v d A=>z j y v d A (F7 hf y (bf d))
 |_=>intro hf;cases hf
mutual
def an9 (γ:Nat->Nat):∀x:AV,x.fl=J->x.qx γ=x
 |.f x,_|.emp,_|.qv,_=>rfl
 |.agg l,h|.qg l,h=>by simp only[AV.qx];rw[Fk γ l h]
 |.H _ _,h|.sl _ _ _,h|.qd _ _,h|.G _ _ _,h|.mp _,h=>by cases h
 |.qy _ l,h=>by simp only[AV.qx];rw[Fk γ l h]
def Fk (γ:Nat->Nat):∀l:Y AV,AV.flL l=J->AV.renL γ l=l
 |[],_=>rfl
 |x::r,h=>by
  simp only[AV.flL,au]at h;rw[AV.renL,an9 γ x h.1,Fk γ r h.2]
end
def Ci:∀(T:Ty),T.flat=J->∀x:T.den,∀y∈bT T x,y.fl=J
 |.int _,_,x,y,d|.bool,_,x,y,d|.str,_,x,y,d=>by simp only[bT,aE]at d;subst d;rfl
 |.sl _,h,x,y,d=>by cases h
 |.st t,h,x,y,d=>Ci t h x y d
 |.pr a b,h,x,y,d=>by
  simp only[Ty.flat,au]at h;simp only[bT,bE]at d;exact d.elim (Ci a h.1 x.1 y) (Ci b h.2 x.2 y)
 |.un,_,x,y,d=>by simp[bT]at d
 |.ex,h,_,_,_|.sm,h,_,_,_=>by cases h
def ajw (T:Ty) (h:T.flat=J) (x:T.den):(fO T x).fl=J:=by
 cases d:T.one with
 |true=>
  have:=Ci T h x (fO T x) (by rw[(Fp T x d).1];simp);exact this
 |false=>rw[r_ T x d];exact afs (Ci T h x)
def SX (a b:Ty):(spr a b).flat=(a.flat&&b.flat):=by
 cases a<;>cases b<;>simp[spr,I1,Ty.flat]
def Lq :∀{a b:Y TV},rT i (a++b)=J->rT i a=J/\rT i b=J
 |[],b,h=>⟨rfl,h⟩
 |x::r,b,h=>by
  simp only[iE,rT,au]at h ⊢;obtain⟨h1,h2⟩:=Lq h.2;exact⟨⟨h.1,h1⟩,h2⟩
def Y4 {d:Y p?} (h:rT 0 (d.map λp=>.H (g p.1) p.2)=J):d=[]:=by
 cases d with
 |nil=>rfl
 |cons p r=>simp[rT,Kf]at h
mutual
def ain {g:Nat->Nat} {h:bk}:∀(p:PV) (x:p.ty.den) (cs:Y TV) (l:Y AV),p.ty.flat=J->oT g p x=Z cs->rT 0 cs=J->cO h cs=Z l->∀y∈l,y.fl=J
 |.d T,x,cs,l,hf,hp,_,hl,y,hy=>by
  have:=(mY h 40 T x cs hp).1;rw[hl]at this;cases this;obtain⟨q,hq,rfl⟩:=cq.1 hy;exact Ci T hf x q hq
 |.H i q,x,cs,l,hf,hp,hlt,hl,y,hy|.qw i q z,x,cs,l,hf,hp,hlt,hl,y,hy=>by
  simp only[oT,af]at hp;subst hp;simp[rT,Kf]at hlt
 |.qy q ps,x,cs,l,hf,hp,hlt,hl,y,hy=>by
  simp only[oT,af]at hp;subst hp;simp only[rT,Kf,au]at hlt;have:=Y4 hlt.1;subst this;simp only[cO,cg,wI,af]at hl;subst hl;rw[aE]at hy;subst hy;rfl
 |.ob i q,x,cs,l,hf,hp,hlt,hl,y,hy|.G i,x,cs,l,hf,hp,hlt,hl,y,hy|.mp i,x,cs,l,hf,hp,hlt,hl,y,hy=>by
  simp only[oT,af]at hp;subst hp;simp[rT,Kf]at hlt
 |.nil,x,cs,l,hf,hp,hlt,hl,y,hy|.emp,x,cs,l,hf,hp,hlt,hl,y,hy=>by
  simp only[oT,af]at hp;subst hp;simp only[cO,cg,af]at hl;subst hl;simp only[aE]at hy;subst hy;rfl
 |.agg ps,x,cs,l,hf,hp,hlt,hl,y,hy=>KV ps x cs l hf hp hlt hl y hy
def KV {g:Nat->Nat} {h:bk}:∀(ps:Y PV) (x:(PV.tyL ps).den) (cs:Y TV) (l:Y AV),(PV.tyL ps).flat=J->sF g ps x=Z cs->rT 0 cs=J->cO h cs=Z l->∀y∈l,y.fl=J
 |[],x,cs,l,hf,hp,hlt,hl,y,hy=>by
  simp only[sF,af]at hp;subst hp;simp only[cO,af]at hl;subst hl;cases hy
 |p::ps,x,cs,l,hf,hp,hlt,hl,y,hy=>by
  simp only[PV.tyL]at hf;rw[SX,au]at hf;simp only[sF]at hp;split at hp
  .rename_i a ha;split at hp
   .rename_i b hb;cases hp;obtain⟨a',b',rfl,e1,e2⟩:=DX hl;have hsp:=Lq hlt;rcases bE.1 hy with hy|hy
    .exact ain p _ a a' hf.1 ha hsp.1 e1 y hy
    .exact KV ps _ b b' hf.2 hb hsp.2 e2 y hy
   .cases hp
  .cases hp
end
def ail {p:PV} {x:p.ty.den} (hf:p.ty.flat=J) (hp:sM g p x=Z u) (hlt:Kf 0 u=J) (A:cg h u=Z y):y.fl=J:=by
 cases p with
 |d T=>
  simp only[sM,af]at hp;subst hp;simp only[cg,af]at A;subst A;exact ajw T hf x
 |agg F=>
  simp only[sM]at hp;split at hp
  .rename_i l L;cases hp;simp only[cg]at A;split at A
   .rename_i l' D;cases A;exact ZR (KV F _ l l' hf L hlt D)
   .cases A
  .cases hp
 |qy q F=>
  simp only[sM,af]at hp;subst hp;have:=Y4 hlt;subst this;simp only[cg,cO,wI,af]at A;subst A;rfl
 |nil|emp=>simp only[sM,af]at hp;subst hp;simp only[cg,af]at A;subst A;rfl
 |_=>simp only[sM,af]at hp;subst hp;simp[Kf]at hlt
def To :∀(z:Y PV) (x:(PV.tyL z).den) (d:Y TV) (l:Y AV),(PV.tyL z).flat=J->rA g z x=Z d->rT 0 d=J->cO h d=Z l->AV.flL l=J
 |[],x,d,l,hf,hp,hlt,A=>by
  simp only[rA,af]at hp;subst hp;simp only[cO,af]at A;subst A;rfl
 |p::z,x,d,l,hf,hp,hlt,A=>by
  simp only[PV.tyL]at hf;rw[SX,au]at hf;simp only[rA]at hp;split at hp
  .rename_i a L;split at hp
   .rename_i b F;cases hp;obtain⟨y,D,rfl,e1,e2⟩:=dh A;simp only[rT,au]at hlt;simp only[AV.flL,au];exact⟨ail hf.1 L hlt.1 e1,To z _ b D hf.2 F hlt.2 e2⟩
   .cases hp
  .cases hp
def ai4:∀{l:Y AV},AV.flL l=J->(Em l).fl=J
 |[],_=>rfl
 |[x],h=>by simp only[AV.flL,au]at h;exact h.1
 |x::y::r,h=>h
variable {k:Oper}
def ak8 {e:h_} {c:cD} {l:Y TV} (hinv:gV h i) (sp:ri P f c) {x:c.pre.ty.den} {σ:PT Nat} {sm:Nat} (A:Kx 0 c.pre l h x j σ sm) {vs:Y TV} {hp:bk} {l1:Y (M eG)} (I:pB c.pre x vs hp l1) {y:c.post.ty.den} (hm:c.m x=Z y) {rs:Y TV} {hq:bk} {l2:Y (M eG)} (B:pB c.post y rs hq l2) (hp0:l! c.pre.bs=0) (hq0:l! c.post.bs=0) (hfl:(PV.tyL c.post.vs).flat=J)
 (g:Nat->Nat) {la:Y AV} (hla:cO h l=Z la)
 (hexec:∀(φ:PM) (E:Nat->Prop) (h':HF) (w:World) (a:Act),(∀t,.tmp t∈k.op.operands->∀y,fB e h t=Z y->cu φ (tot E φ h') w y (a.tmps.getD t undef))->sq φ E h' w->∃us:ξ,(execOp a.eval k).run P w= .ok (.enter f us.toArray) w/\lV φ (tot E φ h') w la us):
 eL P k aa e h i (Th (lC g rs)) j 0 h i:=by
 obtain⟨x1,m1,x2,m2,hx,hmm,gv,gb⟩:=A.ex;have hmr:dG h j:=by rw[hmm];exact (Ko _ _ _ _ gv).or (Kq _ _ _ _ gb)
 have pvg:rA (ip σ) c.pre.vs x1=Z (lC (ip σ) vs):=by
  have L:=vg (ip σ) c.pre.vs x1;have h4:=I.pv;rw[hx,uW]at h4;rw[L,h4];rfl
 obtain⟨lr,hlr⟩:=eR hq rs B.ok;obtain⟨lp,hlp⟩:=eR hp vs I.ok;have hfl':AV.flL lr=J:=To c.post.vs _ rs lr hfl B.pv (by rw[<- hq0];exact B.lt) hlr;have hpe:∀nx,hp.get nx=U:=λnx=>by
  cases F:hp.get nx with
  |none=>rfl
  |some b=>have:=I.lt_len F;omega
 have hqe:∀nx,hq.get nx=U:=λnx=>by
  cases F:hq.get nx with
  |none=>rfl
  |some b=>have:=B.lt_len F;omega
 have rows_hp:∀nx r,eu hp nx=Z r->eu (dM j h) (ip σ nx)=Z r:=λnx r D=>by rw[bH,hpe]at D;cases D
 have rows_hq:∀nx r,eu hq nx=Z r->eu h (g nx)=Z r:=λnx r D=>by rw[bH,hqe]at D;cases D
 have rows_in:zS (dM j h) h:=λm r D=>by
  rw[bH]at D ⊢;rw[iP]at D;split at D
  .rename_i ht;obtain⟨ty,p,T,xs,F⟩:=hmr m ht;rw[F]at D ⊢;exact D
  .exact D
 have hOpT:fZ P k (fB e h) (erHF h) ⟨Em lr,Gz j,[],λ_=>U,[]⟩:=by
  intro φ E h' w a hrd hwr hops hrep hN;obtain⟨us,hrun,hrel⟩:=hexec φ E h' w a hops hrep
  let Hv:HF:=λn=>if n∈Gz j then U else h' n
  have Hv_in:∀n,n∈Gz j->Hv n=U:=λn d=>by simp only[Hv,d,bw]
  have Hv_out:∀n,n∉Gz j->Hv n=h' n:=λn d=>by simp only[Hv,d,c8]
  have hd:rq h' Hv:=λn b F=>by
   by_cases d:n∈Gz j
   .rw[Hv_in n d]at F;cases F
   .rw[Hv_out n d]at F;exact⟨b,F⟩
  have gvv:Ea h h' Hv j:=λnx hi=>⟨hrd _ (mR.2 hi),Hv_in _ (mR.2 hi)⟩
  have V:JW h' Hv:=⟨hd,λn b b' F N=>by
   by_cases d:n∈Gz j
   .rw[Hv_in n d]at N;cases N
   .rw[Hv_out n d,F]at N;cases N;exact fC.refl hd b⟩
  have hrepv:=V.qn hrep;have hlpg:cO (dM j h) (lC (ip σ) vs)=Z (AV.renL (pC (ip σ)) lp):=qB rows_hp vs lp hlp;have hrel1:lV φ (tot E φ Hv) w (AV.renL (pC (ip σ)) lp) us:=
   lV.le hrep (Fh hd rows_in c.pre.vs l x1 m1 _ la _ gv pvg hla hlpg (λnx hi=>gvv nx (by rw[hmm,bA,hi];rfl))) hrel
  let E':Nat->Prop:=λo=>E o\/∃n b,Hv n=Z b/\φ n=Z o
  have T:akp c.pre x vs hp (ip σ) φ E E' Hv w:=by
   refine sq.toId I (λa b ha=>by omega) hrepv (λn yb d=>by have:=(I.erHF d).1;omega) ?_ (λn o y d=>by have:=(I.erHF d).1;omega) ?_
   .rintro o (hE|⟨n,b,h1,L⟩)
    .exact .inl hE
    .exact .inr ⟨n,b,h1,L⟩
   .rintro o (hE|⟨n,b,h1,L⟩)
    .exact hrepv.el o hE
    .obtain⟨k',q1,_,ob,q3,_⟩:=hrepv.at_ n b h1;rw[L]at q1;cases q1;exact (cz.1 q3).1
  have hcalls:=sp.calls x y hm vs hp l1 rs hq l2 lp lr I B hlp hlr (φ1 (l! c.pre.bs) (ip σ) φ) E' w us T.qn (lV.toId T.val (ti vs lp I.lt hlp) hrel1) (λn o hk=>(yM hk).1);unfold Oper.wp;rw[hrun];refine Calls.mono hcalls ?_;rintro en w' ⟨v,φc',rfl,hext,hown,hnm,rp,rv'⟩;have hno:∀o,¬own (φ1 (l! c.pre.bs) (ip σ) φ) (erHF hp) o:=by
   rintro o ⟨n,b,h1,_⟩;obtain⟨bb,L,_⟩:=iR h1;rw[hpe]at L;cases L
  have mv:kf φ φ h' h' w w':=⟨λ_ _ h=>h,hext.mono λo hk=>cN hk (hno o),λ_ _ h=>h⟩
  refine ⟨v,φ,rfl,?_,λ_ _ h=>.inl h,?_,?_⟩
  .rw[vn];exact mv
  .rw[vn];refine hrep.moved mv λo hk=>?_
   obtain⟨n,b,h1,L⟩:=hk;obtain⟨k',q1,_,ob,q3,_⟩:=hrep.at_ n b h1;rw[L]at q1;cases q1;exact hext.jg o (cz.1 q3).1 (hno o)
  .exact rv'.flat (ai4 hfl')
 have hrsg:cO h (lC g rs)=Z (AV.renL (pC g) lr):=qB rows_hq rs lr hlr;refine ⟨⟨_,hOpT,λz hz=>?_,?_,λn d=>?_,by simp,by simp⟩,λ_ _ h=>h,hinv,cA _,nofun⟩
 .rw[Y1 hrsg,Fk _ lr hfl']at hz;cases hz;rfl
 .exact vn _ _
 .obtain⟨nx,rfl,hi⟩:=o7.1 d;rw[dq];exact hi
def cD.full (c:cD):cD:=⟨c.pre,⟨c.post.vs,c.pre.bs⟩,λx=>ay (c.m x) λy=>Z (W9 (PV.tyL c.post.vs) (PB.tyL c.pre.bs) (Rx _ _ y) (NV _ _ x))⟩
def aN (P:Program) (f:FuncId) (c:cD):Prop:=if dK (l! c.pre.bs) (l! c.post.bs)=J then ri P f c else ri P f c.full
def ri.toC {c:cD} (h:ri P f c) (d:dK (l! c.pre.bs) (l! c.post.bs)=J):aN P f c:=by
 unfold aN;rw[aG d];exact h
def aN.holds {c:cD} (h:aN P f c) (d:dK (l! c.pre.bs) (l! c.post.bs)=J):ri P f c:=by
 unfold aN at h;rw[aG d]at h;exact h
def aj9 (a b:Ty) (z:(spr a b).den):W9 a b (Rx a b z) (NV a b z)=z:=by cases a<;>cases b<;>rfl
open Classical in
def roM {pre:Tm} {vs:Y PV} (m:pre.ty.den->M (Tm.ty ⟨vs,pre.bs⟩).den) (x:pre.ty.den):M (Tm.ty ⟨vs,[]⟩).den:=
 ay (m x) λy=>if NV (PV.tyL vs) (PB.tyL pre.bs) y=NV _ _ x then Z (W9 (PV.tyL vs) (PB.tyL []) (Rx (PV.tyL vs) (PB.tyL pre.bs) y) ()) else U
def aN.ro {P:Program} {f:FuncId} {pre:Tm} {vs:Y PV} {m:pre.ty.den->M (Tm.ty ⟨vs,pre.bs⟩).den} {m':pre.ty.den->M (Tm.ty ⟨vs,[]⟩).den} (h:ri P f ⟨pre,⟨vs,pre.bs⟩,m⟩) (L:dK (l! pre.bs) 0=aa) (F:∀x y,m' x=Z y->roM m x=Z y):aN P f ⟨pre,⟨vs,[]⟩,m'⟩:=by
 unfold aN;rw[aA (by show ¬dK (l! pre.bs) 0=J;rw[L];exact Bool.false_ne_true)];refine ⟨h.zw,λx y hxy=>?_⟩;refine h.calls x y ?_;have hxy:ay (m' x) (λy=>Z (W9 (PV.tyL vs) (PB.tyL pre.bs) (Rx (PV.tyL vs) (PB.tyL []) y) (NV _ _ x)))=Z y:=hxy;obtain⟨z,D,hzy⟩:=dX hxy;have h1:=F x z D;unfold roM at h1;obtain⟨y0,A,h2⟩:=dX h1;split at h2
 .rename_i heq;have h2:=fE h2;have hzy:=fE hzy;subst h2;have d:W9 (PV.tyL vs) (PB.tyL pre.bs) (Rx (PV.tyL vs) (PB.tyL pre.bs) y0) (NV (PV.tyL pre.vs) (PB.tyL pre.bs) x)=y:=(ey (λq=>W9 (PV.tyL vs) (PB.tyL pre.bs) q (NV (PV.tyL pre.vs) (PB.tyL pre.bs) x)) (uW (PV.tyL vs) (PB.tyL []) _ ()).symm).trans hzy;rw[<- heq]at d;have:=(aj9 (PV.tyL vs) (PB.tyL pre.bs) y0).symm.trans d;exact A.trans (ey Z this)
 .cases h2
def eL.drop {e:h_} {h':bk} {rd wr W wr':Nat} (t:eL P k aa e h i u rd wr h' j) (hW:∀nx,aO W nx=J->(∀n,ow n=nx->erHF h' n=erHF h n)/\aO rd nx=J) (b:∀nx,aO wr nx=J->aO W nx=J\/aO wr' nx=J):eL P k aa e h i u rd wr' h' j:=by
 obtain⟨⟨f,h1,h2,D,h4,h5,h6⟩,r,nx,g,st⟩:=t;have A:∀n,aO W (ow n)=J->erHF h' n=erHF h n:=λn d=>(hW _ d).1 n rfl
 have hup:∀H:HF,(∀n∈f.wr,H n=erHF h n)->eW H (f.wr.filter λn=> !(aO W (ow n))) f.nw=eW H f.wr f.nw:=λH hH=>by
  funext n;unfold eW;by_cases d:n∈f.wr
  .by_cases z:aO W (ow n)=J
   .rw[aA (by simp[z]),aG d];have:=congrFun D n;unfold eW at this;rw[aG d,A n z]at this;rw[this,hH n d]
   .rw[aG (by simp[d,z]),aG d]
  .rw[aA (by simp[d]),aA d]
 refine ⟨⟨⟨f.val,f.rd++(f.wr.filter λn=>aO W (ow n)),f.wr.filter λn=> !(aO W (ow n)),f.nw,f.N⟩,?_,h2,?_,λn d=>?_,λn d=>?_,h6⟩,r,nx,g,nofun⟩
 .intro φ E H w a hrd hwr hops hrep L;have k1:∀nx∈f.rd,H nx=erHF h nx:=λnx hi=>hrd nx (fW _ hi)
  have k2:∀nx∈f.wr,H nx=erHF h nx:=λnx hi=>by
   cases z:aO W (ow nx) with
   |true=>exact hrd nx (lL _ (by simp[hi,z]))
   |false=>exact hwr nx (by simp[hi,z])
  have:=h1 φ E H w a k1 k2 hops hrep L;simp only[hup H k2];exact this
 .simp only[hup (erHF h) (λ_ _=>rfl)];exact D
 .rcases bE.1 d with d|d
  .exact h4 n d
  .simp only[HE]at d;exact (hW _ d.2).2
 .simp only[HE,cU]at d;rcases b _ (h5 n d.1) with hh|hh
  .rw[d.2]at hh;cases hh
  .exact hh
mutual
def aex {n n':Nat} (hle:n<=n'):∀(v:TV),Kf n v=J->Kf n' v=J
 |.G id,h|.zp id _,h|.ql id _ _ _,h|.H id _,h|.qw id _ _,h|.mp id,h=>by simp only[Kf,NG]at h ⊢;omega
 |.agg l,h|.qg l,h|.qy _ l,h=>xX hle l h
 |.f _ _,_|.zk _ _ _ _ _,_|.emp,_|.nil,_|.undef,_|.np,_|.qv,_|.qd _ _,_=>rfl
 |.sb s,h=>by simp only[Kf,NG]at h ⊢;omega
def xX {n n':Nat} (hle:n<=n'):∀(l:Y TV),rT n l=J->rT n' l=J
 |[],_=>rfl
 |x::r,h=>by
  simp only[rT,au]at h ⊢;exact⟨aex hle x h.1,xX hle r h.2⟩
end
def PO {g g':Nat->Nat} {h:bk}:∀(bs:Y PB) (i:Nat) (x:(PB.tyL bs).den) (m:Nat),Kw bs=J->C3 g h i bs=Z (x,m)->∃l,pF g' bs x=Z l/\l! l=l! bs/\∀j,j<l! bs->∃ty p T xs,l[j]? =Z (Z (.F ty p T xs))/\h.get (g (i+j))=Z (.F ty p T xs)
 |[],i,x,m,_,A=>⟨[],rfl,rfl,λj L=>by simp at L⟩
 |.F ty p T::r,i,x,m,D,A=>by
  simp only[C3]at A;split at A
  .rename_i x1 m1 h1;split at A
   .rename_i x2 m2 h2;cases A;obtain⟨l,q1,q2,q3⟩:=PO (g:=g) (g':=g') (h:=h) r (i+1) x2 m2 D h2;simp only[DW]at h1;split at h1
    .rename_i ty' p' S xs hb;split at h1
     .rename_i N;simp only[au,cF]at N;obtain⟨rfl,rfl⟩:=N;split at h1
      .rename_i z hz;simp only[af]at h1;obtain⟨rfl,_⟩:=h1;obtain⟨es,ez⟩:=gU hz;cases es;subst ez;refine ⟨Z (.F ty p T x1)::l,?_,by simp[q2],λj L=>?_⟩
       .simp only[pF];rw[uW,wL,q1];rfl
       .cases j with
        |zero=>exact⟨ty,p,T,_,rfl,hb⟩
        |succ j=>
         obtain⟨a,b,c,d,w1,w2⟩:=q3 j (by simpa using L);exact⟨a,b,c,d,by simpa using w1,by rw[show i+(j+1)=i+1+j from by omega];exact w2⟩
      .cases h1
     .cases h1
    .cases h1
   .cases A
  .cases A
 |.qf _ _::r,i,x,m,D,A|.C _ _::r,i,x,m,D,A|.mp _ _::r,i,x,m,D,A|.qk::r,i,x,m,D,A=>by cases D
def HV:∀{bs:Y PB},Kw bs=J->DI bs=J
 |[],_=>rfl
 |.F _ _ _::r,h=>HV (bs:=r) h
 |.qf _ _::r,h|.C _ _::r,h|.mp _ _::r,h|.qk::r,h=>by cases h
def HN {h2:bk} :∀(n:Nat),(∀i,i<n->h2.get (g i)=h.get (g i))->vr h h2 g n=J
 |0,_=>rfl
 |n+1,d=>by
  simp only[vr,au];refine ⟨?_,HN n λi hi=>d i (by omega)⟩;have:eu h2 (g n)=eu h (g n):=by rw[bH,bH,d n (by omega)]
  rw[this];cases eu h (g n) with
  |none=>rfl
  |some q=>obtain⟨p,s,k⟩:=q;simp
def Gg (P:Program) (con:FuncId->M cD):Prop:=∀f c,con f=Z c->aN P (f%65536) c
def S5 (hf:f<65536):∀l:Y TV,aie f l%65536=f
 |[]=>Ed hf
 |x::r=>by
  have d:=S5 hf r;unfold aie;split
  .rename_i he;cases he
  .rw[Nat.add_mul_mod_self_left];exact Ed hf
  .rename_i he;cases he;exact d
variable {X:FuncId->M cD}
def ak5 (hcon:Gg P X) {l:Y TV} {c:cD} (h:ang X f l=Z c):aN P f c:=by
 unfold ang at h;split at h
 .rename_i hf;have hf:=R_ hf;split at h
  .rename_i z d;cases h;have:=hcon _ _ d
   rwa [S5 hf]at this
  .have:=hcon _ _ h
   rwa [Ed hf]at this
 .cases h
variable {R:Type}
def ZK (hcon:Gg P X) {e:h_} {l:Y TV} {K:KO R} {r:R} (hinv:gV h i) (d:ZL X f l h i K=Z r) {la:Y AV} (hla:cO h l=Z la)
 (hexec:∀(φ:PM) (E:Nat->Prop) (h':HF) (w:World) (a:Act),Gh P f->(∀t,.tmp t∈k.op.operands->∀y,fB e h t=Z y->cu φ (tot E φ h') w y (a.tmps.getD t undef))->sq φ E h' w->∃us:ξ,(execOp a.eval k).run P w= .ok (.enter f us.toArray) w/\lV φ (tot E φ h') w la us):iW P k aa e h i K r:=by
 unfold ZL at d;split at d
 .rename_i c hc;have spc:=ak5 hcon hc;split at d
  .rename_i x m σ sm hM;split at d
   .rename_i q hq;obtain⟨vs,hp⟩:=q;obtain⟨l1,I⟩:=ya hq;obtain⟨y,hy,d⟩:=dX d;split at d
    .rename_i q2 hq2;obtain⟨rs1,L⟩:=q2;obtain⟨l2,A⟩:=ya hq2;split at d
     .rename_i hcond;simp only[au]at hcond;have hle:=aZ hcond.1;have sp:=spc.holds hcond.1;simp only at d;split at d
      .rename_i rs hrs;have hrs':=hrs;rw[vg,A.pv]at hrs';simp only[bx,af]at hrs';split at d
       .rename_i D;simp only[au]at D;have N:=av D.1.2;refine ⟨_,_,_,_,_,d,?_⟩;rw[<- hrs'];exact ak8 hinv sp (xW hM) I hy A (by omega) N D.2 _ hla λφ E h' w a=>hexec φ E h' w a sp.zw
       .split at d
        .rename_i h2 z;obtain⟨hsr,d⟩:=cL d;refine ⟨_,_,_,_,_,d,?_⟩;rw[<- hrs'];unfold Ps at z;rw[xN,A.pb]at z;simp only[bx,af]at z;exact agb hinv sp (xW hM) I hcond.2 hy A hle (λnx hi=>by
          have:dJ nx (l! c.pre.bs)=J:=ba hi;simp only[this,bw]) (λnx hi=>by
          have:dJ nx (l! c.pre.bs)=aa:=by
           cases D:dJ nx (l! c.pre.bs) with
           |false=>rfl
           |true=>have:=aZ D;omega
          simp only[this];rfl) z.symm hsr hla λφ E h' w a=>hexec φ E h' w a sp.zw
        .cases d
      .cases d
     .rename_i hcond;split at d
      .rename_i hro;simp only[au]at hro;have N:=av hro.1;have hng:=HV hro.2;have sp:ri P f c.full:=by
        unfold aN at spc
        rwa [aA (λD=>hcond (by rw[D,hng];rfl))]at spc
       simp only at d;split at d
       .rename_i rs hrs;split at d
        .rename_i h2 z;have hrs':=hrs;rw[vg,A.pv]at hrs';simp only[bx,af]at hrs';refine ⟨_,_,_,_,_,d,?_⟩;rw[<- hrs'];have B:=xW hM;unfold Ps at z;rw[xN,I.pb]at z;simp only[bx,af]at z;have hqe:∀nx,L.get nx=U:=λnx=>by
          cases D:L.get nx with
          |none=>rfl
          |some b=>have:=A.lt_len D;omega
         have J':pB c.full.post (W9 (PV.tyL c.post.vs) (PB.tyL c.pre.bs) (Rx _ _ y) (NV _ _ x)) rs1 hp l1:=
          ⟨by show rA Kj c.post.vs (Rx (PV.tyL c.post.vs) (PB.tyL c.pre.bs) _)=_;rw[uW];exact A.pv,by show pF Kj c.pre.bs (NV (PV.tyL c.post.vs) (PB.tyL c.pre.bs) _)=_;rw[wL];exact I.pb,I.len,I.at_,eY (λnx r hr=>by rw[bH,hqe]at hr;cases hr) _ A.ok,xX (by omega) _ A.lt,I.C,I.I,I.nox⟩
         obtain⟨x1,m1,x2,m2,hx,hmm,gv,gb⟩:=B.ex;obtain⟨l,q1,q2,q3⟩:=PO (g':=Kj) c.pre.bs 0 x2 m2 hro.2 gb;have hl1:l1=l:=by
          have:=I.pb;rw[hx,wL,q1]at this;cases this;rfl
         subst hl1;have hgi:∀nx,nx<l! c.pre.bs->(if dJ nx (l! c.pre.bs) then ip σ nx else i+(nx-l! c.pre.bs))=ip σ nx:=λnx hi=>by
          have:dJ nx (l! c.pre.bs)=J:=ba hi;simp only[this,bw]
         have hsame:∀nx,nx<l! c.pre.bs->h2.get (ip σ nx)=h.get (ip σ nx):=λnx hi=>by
          obtain⟨ty,p,T,xs,w1,w2⟩:=q3 nx hi;rw[bO]at w2;have:=wP (λnx=>if dJ nx (l! c.pre.bs) then ip σ nx else i+(nx-l! c.pre.bs)) (l1.map (ik (lj (λnx=>if dJ nx (l! c.pre.bs) then ip σ nx else i+(nx-l! c.pre.bs))))) 0 (dM m h) (λa b ha D e=>by
           simp only[bS,q2]at ha D;rw[bO,bO,hgi a ha,hgi b D]at e;exact B.inj a b ha D e) nx (Z (.F ty p T xs)) (by rw[a8,w1];rfl)
          rw[bO,hgi nx hi]at this;rw[<- z,this,w2]
         have t:=agb (o:=k) (e:=e) hinv sp B I hng (y:=W9 (PV.tyL c.post.vs) (PB.tyL c.pre.bs) (Rx _ _ y) (NV _ _ x)) (by show ay (c.m x) _=_;rw[hy];rfl) J' (cA _) (g:=λnx=>if dJ nx (l! c.pre.bs) then ip σ nx else i+(nx-l! c.pre.bs)) hgi (λnx hi=>by
          have:dJ nx (l! c.pre.bs)=aa:=by
           cases D:dJ nx (l! c.pre.bs) with
           |false=>rfl
           |true=>have:=aZ D;have hi:l! c.pre.bs<=nx:=hi;omega
          simp only[this];rfl) z.symm (HN _ λnx hi=>by rw[hgi nx hi];exact hsame nx hi) hla λφ E h' w a=>hexec φ E h' w a sp.zw
         have t':eL P k aa e h i (Th (lC (λnx=>if dJ nx (l! c.pre.bs) then ip σ nx else i+(nx-l! c.pre.bs)) rs1)) (sm|||m) (sm|||m|||(((1<<<(l! c.pre.bs-l! c.pre.bs))-1)<<<i)) h2 (i+(l! c.pre.bs-l! c.pre.bs)):=t;rw[s_,cZ]at t';refine t'.drop (W:=sm) (λnx hi=>?_) (λnx hi=>?_)
         .refine ⟨?_,by rw[bA,hi];rfl⟩;obtain⟨o,d,rfl⟩:=(B.sig nx).1 hi;obtain⟨ty,p,T,xs,_,w2⟩:=q3 o d;rw[bO]at w2;intro n hn;unfold erHF;rw[hn,hsame o d,w2];cases ix n<;>rfl
         .simp only[Nat.shiftLeft_zero,s_,Nat.zero_shiftLeft,Nat.or_zero,bA,jN]at hi;exact hi
        .cases d
       .cases d
      .cases d
    .cases d
   .cases d
  .cases d
 .cases d
variable {W:TypeId->M Ty}
def amo (hcon:Gg P X) {e:h_} {nx:SI} {K:KO R} {r:R} (hinv:gV h i) (hi:sD e h) (d:w9 P k.op=nx) (F:em X W nx e h i K=Z r):iW P k nx.still e h i K r:=by
 have callOps:∀(c:Call),k.op= .call c->∀x,x∈c.operands->x∈k.op.operands:=λc A x D=>by rw[A];exact D
 cases nx with
 |call f args=>
  simp only[em]at F;split at F
  .rename_i l hl;have A:∃c:Call,k.op= .call c/\c.callee= .value (.func f)/\c.args.toList=args:=by
    unfold w9 at d;split at d
    .rename_i nx hi;subst d;unfold Nc at hi;split at hi
     .rename_i c A;split at hi
      .rename_i g hg;simp only[af,SI.call.injEq]at hi;exact⟨c,A,by rw[hg,hi.1],hi.2⟩
      .simp at hi
      .cases hi
     .cases hi
    .split at d<;>cases d
   obtain⟨c,A,h1,h2⟩:=A;obtain⟨la,g1,g2⟩:=EK hi hl;refine ZK hcon hinv F g2 λφ E h' w a hcb hops hrep=>?_
   have hp:Ws φ E h' w a (CL e h) k:=λx y D N=>uX hrep (by rw[Ch];exact hops) D N
   refine ⟨args.map a.eval,?_,XK hp args la (λx D=>callOps c A x (by simp[dI,h1,<-h2]at D ⊢;exact .inr D)) g1⟩;unfold execOp;rw[A];have hm:c.args.map a.eval=(args.map a.eval).toArray:=by rw[<- h2];apply Array.ext';simp
   simp[resolve,h1,Act.eval,Deferred.ofValue,invoke,hm,Ey hcb]
  .cases F
 |jx x args=>
  simp only[em]at F;split at F
  .rename_i f cap l D hl;have A:∃c:Call,k.op= .call c/\c.callee= .value x/\c.args.toList=args:=by
    unfold w9 at d;split at d
    .rename_i nx hi;subst d;unfold Nc at hi;split at hi
     .rename_i c A;split at hi
      .simp at hi
      .rename_i g hg;simp only[af,SI.jx.injEq]at hi;exact⟨c,A,by rw[hg,hi.1],hi.2⟩
      .cases hi
     .cases hi
    .split at d<;>cases d
   obtain⟨c,A,h1,h2⟩:=A;obtain⟨la,g1,g2⟩:=EK hi hl;obtain⟨yx,g3,L⟩:=bo hi D;simp only[cg]at L;split at L
   .rename_i lc hlc;cases L;refine ZK hcon hinv F (oM g2 hlc) λφ E h' w a hcb hops hrep=>?_
    have hp:Ws φ E h' w a (CL e h) k:=λx y D N=>uX hrep (by rw[Ch];exact hops) D N
    have hxv:=hp x _ (callOps c A x (by simp[dI,h1])) g3;have hlv:=XK hp args la (λx D=>callOps c A x (by simp[dI,h1,<-h2]at D ⊢;exact .inr D)) g1;generalize hz:a.eval x=z at hxv;cases hxv with
    |@qy _ _ vs hvl hvr=>
     refine ⟨args.map a.eval++vs,?_,hlv.append (lV.of hvl hvr)⟩;unfold execOp;rw[A];have hm:c.args.map a.eval=(args.map a.eval).toArray:=by rw[<- h2];apply Array.ext';simp
     simp[resolve,h1,hz,Deferred.ofValue,invoke,hm,Ey hcb]
   .cases L
  .cases F
 |op s=>
  have d:s= .zm\/cX P k.op=Z s:=by
   unfold w9 at d;split at d
   .rename_i nx hi;subst d;unfold Nc at hi;split at hi
    .split at hi<;>simp at hi
    .cases hi
   .split at d
    .rename_i q hq;simp only[SI.op.injEq]at d;subst d;exact .inr hq
    .simp only[SI.op.injEq]at d;exact .inl d.symm
  rcases d with rfl|d
  .simp[em]at F
  .exact K_op hinv hi d F
def F_op {e:h_} {s:O1} {K:KO R} {r:R} (hinv:gV h i) (hi:sD e h) (A:cX P k.op=Z s) (d:pA W e h i K s=Z r):iW P k s.still e h i K r:=by
 cases s with
 |load sz F x=>exact apf hinv hi A d
 |store sz x v=>exact ala hinv hi A d
 |zd x=>exact apd hinv hi A d
 |jk off x=>exact asz hinv hi A d
 |jy sz x nx=>exact asy hinv hi A d
 |jv str ok z x o=>exact asw hinv hi A d
 |jw str x o v=>exact asu hinv hi A d
 |app ty sz bytes s x=>exact at1 hinv hi A d
 |zg ty sz bytes z l c=>exact ape hinv hi A d
 |zn neg x=>exact apg hinv hi A d
 |xq ds z x o=>
  have hd:ds=i2:=by
   clear A;generalize D:O1.xq ds z x o=q at d;unfold pA at d;split at d<;>first|(cases D;done)|(cases D;rfl)|cases d
  subst hd;exact asx hinv hi A d
 |jh ds x o v=>
  have hd:ds=i2:=by
   clear A;generalize D:O1.jh ds x o v=q at d;unfold pA at d;split at d<;>first|(cases D;done)|(cases D;rfl)|cases d
  subst hd;exact asv hinv hi A d
 |xj ds x o=>
  have hd:ds=i2:=by
   clear A;generalize D:O1.xj ds x o=q at d;unfold pA at d;split at d<;>first|(cases D;done)|(cases D;rfl)|cases d
  subst hd;exact at0 hinv hi A d
 |_=>exact cN d (by simp[pA])
def aq9 (hcon:Gg P X) {e:h_} {nx:SI} {K:KO R} {r:R} (hinv:gV h i) (hi:sD e h) (d:w9 P k.op=nx) (z:opK X W nx e h i K=Z r):iW P k nx.still e h i K r:=by
 unfold opK at z;split at z
 .split at z
  .rename_i s _;have d:s= .zm\/cX P k.op=Z s:=by
    unfold w9 at d;split at d
    .rename_i nx hi;subst d;unfold Nc at hi;split at hi
     .split at hi<;>simp at hi
     .cases hi
    .split at d
     .rename_i q A;simp only[SI.op.injEq]at d;subst d;exact .inr A
     .simp only[SI.op.injEq]at d;exact .inl d.symm
   rcases d with rfl|d
   .simp[pA]at z
   .exact F_op hinv hi d z
  .cases z
 .exact amo hcon hinv hi d z
def fq (am:Nat) (e z:h_):Prop:=∀k,aO am k=aa->∀d,z.get k=Z d->∃v,e.get k=Z v/\(vO v=J->d=v)
def fq.refl (am:Nat) (e:h_):fq am e e:=λ_ _ d h=>⟨d,h,λ_=>rfl⟩
def fq.trans {a b c:h_} (h1:fq i a b) (h2:fq i b c):fq i a c:=λk d z A=>by
 obtain⟨v1,N,L⟩:=h2 k d z A;obtain⟨v,F,D⟩:=h1 k d v1 N;refine ⟨v,F,λhf=>?_⟩;have:=D hf;subst this;exact L hf
def fq.mono {a b:h_} (h:fq i a b) (hm:∀k,aO i k=J->aO j k=J):fq j a b:=λk d=>h k (by
 cases z:aO i k with
 |false=>rfl
 |true=>rw[hm k z]at d;cases d)
structure agx (P:Program) (ops:Array Oper) (rest:List Oper) (sl:List t8) (am:Nat) (s s':TS) (fs:List FPm) (l:List (Oper×Dq)):Prop where
 ops_:l.map (·.1)=rest
 chain:BS P ops l (fB s.e s.h) (erHF s.h) (fB s'.e s'.h) (erHF s'.h)
 fsl:l! fs=l! l
 sll:l! sl=l! l
 fp:∀(j:Nat) o f q,l[j]? =Z (o,f)->fs[j]? =Z q->(∀n∈f.rd,aO q.rd (ow n)=J)/\∀n∈f.wr,aO q.wr (ow n)=J
 still:∀(j:Nat) o f so,l[j]? =Z (o,f)->sl[j]? =Z so->so.op.still=J->f.rd=[]/\f.wr=[]
 names:∀(j:Nat) o f,l[j]? =Z (o,f)->∀n∈f.N,s.nx<=ow n/\ow n<s'.nx
 xw:∀(i j:Nat) oi fi oj fj,i<j->l[i]? =Z (oi,fi)->l[j]? =Z (oj,fj)->∀n∈fi.N,n∉fj.N
 jf:s.nx<=s'.nx
 qz:gV s'.h s'.nx
 qp:sD s'.e s'.h
 keeps:fq am s.e s'.e
def aim {e:h_} {h':bk} (hi:sD e h) (F:b9 h h') (d:M Nat) (D:cg h' u=Z y):N0 (fB e h) d y=fB (Gt e d u) h':=by
 funext t;have old:(e.get t).bind (cg h)=(e.get t).bind (cg h'):=by
  cases ht:e.get t with
  |none=>rfl
  |some x=>
   obtain⟨z,A⟩:=od h x (hi t x ht);simp only[aC,A,fg F x z A]
 cases d with
 |none=>simp only[N0,Gt,fB];rw[aA (by simp)];exact old
 |some d=>
  simp only[N0,Gt,fB,PT.get_set,af];by_cases hd:d=t
  .subst hd;simp[D]
  .rw[aA hd,aA (λe=>hd e.symm)];exact old
def sD.put {e:h_} {h':bk} (hi:sD e h) (A:b9 h h') (d:M Nat) (D:N9 h' u=J):sD (Gt e d u) h':=λt x z=>by
 cases d with
 |none=>exact mi A x (hi t x z)
 |some d=>
  simp only[Gt,PT.get_set]at z;split at z
  .cases z;exact D
  .exact mi A x (hi t x z)
def UG {e:h_} (ht:e.get i=Z u):fB (e.set i (Z u)) h=fB e h:=by
 funext k;simp only[fB,PT.get_set];by_cases d:k=i
 .subst d;simp[ht]
 .rw[aA d]
def sD.set {e:h_} (hi:sD e h) (ht:e.get i=Z u):sD (e.set i (Z u)) h:=λk x d=>by
 rw[PT.get_set]at d;split at d
 .rename_i z;subst z;cases d;exact hi _ _ ht
 .exact hi k x d
def Ww {e:h_} {g:M (Nat×Bool)} {K:Bool->h_->M R} {r:R} (h:adf e g K=Z r):
 (g=U/\K J e=Z r)\/(∃t want b,g=Z (t,want)/\e.get t=Z (.f .bool b)/\K (b==want) (e.set t (Z (.f .bool b)))=Z r)\/∃t want,g=Z (t,want)/\e.get t=Z .undef/\K aa e=Z r:=by
 unfold adf at h;split at h
 .exact .inl ⟨rfl,h⟩
 .rename_i t want;split at h
  .rename_i b d;refine .inr (.inl ⟨t,want,b,rfl,d,?_⟩);cases want with
   |_=>rcases lT h with ⟨rfl,h⟩|⟨rfl,h⟩<;>exact h
  .rename_i d;exact .inr (.inr ⟨t,want,rfl,d,h⟩)
  .cases h
variable {r:Array Oper}
def K4 (hcon:Gg P X) (ham:∀(j:Nat) (o:Oper) (d:Nat),r[j]? =Z o->o.dst=Z d->aO i d=J):
 ∀(rest:Y Oper) (sl:Y t8) (s:TS) (fs:Y FPm) (K:TS->Y FPm->M R) (ops:R),(∀o∈rest,∃j:Nat,r[j]? =Z o)->tG P r rest=Z sl->N6 X W sl s fs K=Z ops->gV s.h s.nx->sD s.e s.h->∃s' fs' l,K s' (fs.reverse++fs')=Z ops/\agx P r rest sl i s s' fs' l
 |[],sl,s,fs,K,ops,hin,A,z,hH,hE=>by
  simp only[tG,af]at A;subst A;simp only[N6]at z;exact⟨s,[],[],by simpa using z,rfl,.nil _ _,rfl,rfl,by simp,by simp,by simp,by simp,cA _,hH,hE,fq.refl _ _⟩
 |o::rest,sl,s,fs,K,ops,hin,A,z,hH,hE=>by
  simp only[tG]at A;split at A
  .rename_i sl' hsl';have hso:∃g,sl=⟨o.dst,w9 P o.op,g⟩::sl'/\((g=U/\o.guard=U)\/∃j want t,g=Z (t,want)/\o.guard=Z (j,want)/\(r[j]?).bind (·.dst)=Z t):=by
    split at A
    .rename_i hg;simp only[af]at A;exact⟨U,A.symm,.inl ⟨rfl,hg⟩⟩
    .rename_i j want hg;split at A
     .rename_i t ht;simp only[af]at A;exact⟨Z (t,want),A.symm,.inr ⟨j,want,t,rfl,hg,ht⟩⟩
     .cases A
   obtain⟨g,rfl,hg⟩:=hso;simp only[N6]at z;have hdst:∀d,o.dst=Z d->aO i d=J:=λd hd=>by
    obtain⟨j,hj⟩:=hin o (c_ ..);exact ham j o d hj hd
   have hgs:∀t want,g=Z (t,want)->aO i t=J:=λt want hgt=>by
    rcases hg with ⟨h1,_⟩|⟨j,want',t',h1,_,D⟩
    .rw[h1]at hgt;cases hgt
    .rw[h1]at hgt;cases hgt;cases hj:r[j]? with
     |none=>rw[hj]at D;cases D
     |some oj=>rw[hj]at D;exact ham j oj t hj D
   have kput:∀(e:h_) (v:TV),fq i s.e e->fq i s.e (Gt e o.dst v):=λe v hke k z v' hv=>by
    cases hd:o.dst with
    |none=>rw[hd]at hv;exact hke k z v' hv
    |some d=>
     rw[hd]at hv;simp only[Gt,PT.get_set]at hv;split at hv
     .rename_i e2;rw[e2,hdst d hd]at z;cases z
     .exact hke k z v' hv
   have done:∀(f:Dq) (v:TV) (h':bk) (nx' rd wr:Nat) (e:h_),fB e s.h=fB s.e s.h->sD e s.h->fq i s.e e->Nq P r o f (fB s.e s.h) (erHF s.h)->(∃y,cg h' v=Z y/\f.val=y)->eW (erHF s.h) f.wr f.nw=erHF h'->(∀n∈f.rd,aO rd (ow n)=J)->(∀n∈f.wr,aO wr (ow n)=J)->(∀n∈f.N,s.nx<=ow n/\ow n<nx')->b9 s.h h'->gV h' nx'->s.nx<=nx'->((w9 P o.op).still=J->f.rd=[]/\f.wr=[])->
    N6 X W sl' ⟨Gt e o.dst v,h',nx'⟩ (⟨rd,wr⟩::fs) K=Z ops->∃s' fs' l,K s' (fs.reverse++fs')=Z ops/\agx P r (o::rest) (⟨o.dst,w9 P o.op,g⟩::sl') i s s' fs' l:=by
    intro f v h' nx' rd wr e hee hiE hke hst hval hheap hrd hwr hN hrows hinv' hgr hstill hrun;obtain⟨y,hy1,hy2⟩:=hval;obtain⟨s',fs',l,hK,L⟩:=K4 hcon ham rest sl' _ _ K ops (λo' ho'=>hin o' (b8 _ ho')) hsl' hrun hinv' (hiE.put hrows o.dst (Ha _ _ _ hy1));have hg2:nx'<=s'.nx:=L.jf;refine ⟨s',⟨rd,wr⟩::fs',(o,f)::l,by simpa using hK,by simp[L.ops_],.cons hst ?_,by simp[L.fsl],by simp[L.sll],?_,?_,?_,?_,c9 hgr hg2,L.qz,L.qp,(kput e v hke).trans L.keeps⟩
    .have e1:N0 (fB s.e s.h) o.dst f.val=fB (Gt e o.dst v) h':=by rw[<- hee,hy2];exact aim hiE hrows o.dst hy1
     rw[e1,hheap];exact L.chain
    .intro j o' f' q' h1 h2;cases j with
     |zero=>simp at h1 h2;obtain⟨rfl,rfl⟩:=h1;subst h2;exact⟨hrd,hwr⟩
     |succ j=>exact L.fp j o' f' q' (by simpa using h1) (by simpa using h2)
    .intro j o' f' so h1 h2 D;cases j with
     |zero=>simp at h1 h2;obtain⟨rfl,rfl⟩:=h1;subst h2;exact hstill D
     |succ j=>exact L.still j o' f' so (by simpa using h1) (by simpa using h2) D
    .intro j o' f' h1 n hn;cases j with
     |zero=>
      simp at h1;obtain⟨rfl,rfl⟩:=h1;have:=hN n hn;exact⟨this.1,by omega⟩
     |succ j=>
      have:=L.names j o' f' (by simpa using h1) n hn;exact⟨c9 hgr this.1,this.2⟩
    .intro am j oi fi oj fj hij h1 h2 n hn hn';cases j with
     |zero=>omega
     |succ j=>
      have hj:=L.names j oj fj (by simpa using h2) n hn';cases am with
      |zero=>
       simp at h1;obtain⟨rfl,rfl⟩:=h1;have D:=(hN n hn).2;have h4:nx'<=ow n:=hj.1;omega
      |succ am=>exact L.xw am j oi fi oj fj (by omega) (by simpa using h1) (by simpa using h2) n hn hn'
   have runs:∀(e:h_),fB e s.h=fB s.e s.h->sD e s.h->fq i s.e e->(∀f,fZ P o (fB s.e s.h) (erHF s.h) f->Nq P r o f (fB s.e s.h) (erHF s.h))->opK X W (w9 P o.op) e s.h s.nx (λv rd wr h nx=>if N9 h v then N6 X W sl' ⟨Gt e o.dst v,h,nx⟩ (⟨rd,wr⟩::fs) K else U)=Z ops->∃s' fs' l,K s' (fs.reverse++fs')=Z ops/\agx P r (o::rest) (⟨o.dst,w9 P o.op,g⟩::sl') i s s' fs' l:=by
    intro e hee hiE hke hstep z;obtain⟨v,rd,wr,h',nx',hK,T⟩:=aq9 hcon hH hiE rfl z;simp only[]at hK;split at hK
    .rename_i hok;obtain⟨f,t1,t2,t3,t4,t5,t6⟩:=T.ex;rw[hee]at t1;obtain⟨y,hy⟩:=od h' v hok;refine done f v h' nx' rd wr e hee hiE hke (hstep f t1) ⟨y,hy,t2 y hy⟩ t3 t4 t5 t6 T.F T.inv T.jf (λhs=>?_) hK;obtain⟨r0,w0⟩:=T.st hs;subst r0 w0;constructor
     .cases hl:f.rd with
      |nil=>rfl
      |cons n q=>have:=t4 n (by rw[hl];simp);simp at this
     .cases hl:f.wr with
      |nil=>rfl
      |cons n q=>have:=t5 n (by rw[hl];simp);simp at this
    .cases hK
   have skips:∀(e:h_),fB e s.h=fB s.e s.h->sD e s.h->fq i s.e e->Nq P r o td (fB s.e s.h) (erHF s.h)->N6 X W sl' ⟨Gt e o.dst .undef,s.h,s.nx⟩ (⟨0,0⟩::fs) K=Z ops->∃s' fs' l,K s' (fs.reverse++fs')=Z ops/\agx P r (o::rest) (⟨o.dst,w9 P o.op,g⟩::sl') i s s' fs' l:=by
    intro e hee hiE hke hstep z;exact done td .undef s.h s.nx 0 0 e hee hiE hke hstep ⟨_,rfl,rfl⟩ (by funext am;simp[eW,td]) (by simp[td]) (by simp[td]) (by simp[td]) (b9.refl _) hH (cA _) (λ_=>⟨rfl,rfl⟩) z
   rcases Ww z with ⟨h1,z⟩|⟨t,want,b,h1,hb,z⟩|⟨t,want,h1,hb,z⟩
   .refine runs s.e rfl hE (fq.refl _ _) (λf hf=>?_) z;rcases hg with ⟨_,hg⟩|⟨j,want,t,h2,_,_⟩
    .exact .run hg hf
    .rw[h1]at h2;cases h2
   .rcases hg with ⟨h2,_⟩|⟨j,want',t',h2,D,h4⟩
    .rw[h1]at h2;cases h2
    .rw[h1]at h2;cases h2;have hgt:=hgs t want h1;have heb:fB s.e s.h t=Z (.f (.raw (.bool b))):=by simp only[fB,hb,aC,cg];rfl
     have hke:fq i s.e (s.e.set t (Z (.f .bool b))):=λk z v' hv=>by
      rw[PT.get_set]at hv;split at hv
      .rename_i ek;rw[ek,hgt]at z;cases z
      .exact⟨v',hv,λ_=>rfl⟩
     cases hbw:(b==want) with
     |true=>
      rw[hbw]at z;have:b=want:=by simpa using hbw
      subst this;exact runs _ (UG hb) (hE.set hb) hke (λf hf=>.runG j t b D h4 heb hf) z
     |false=>
      rw[hbw]at z;refine skips _ (UG hb) (hE.set hb) hke (.skip j t want D h4 (.bool b) heb ?_ rfl) z;intro hv;cases hv;simp at hbw
   .rcases hg with ⟨h2,_⟩|⟨j,want',t',h2,D,h4⟩
    .rw[h1]at h2;cases h2
    .rw[h1]at h2;cases h2;exact skips _ rfl hE (fq.refl _ _) (.skip j t want D h4 undef (by simp only[fB,hb,aC,cg]) (by unfold undef;simp) rfl) z
  .cases A
def aj0 {sl:Y t8} {s s':TS} {fs:Y FPm} {l:Y v?} {prs:Y p?} (A:agx P r r.toList sl i s s' fs l) (hp:Pt r sl=Z prs) (hok:HS fs prs=J):NIP r l:=by
 unfold Pt at hp;simp only[]at hp;split at hp
 .rename_i hall;simp only[gJ,oR,au]at hall;simp only[af]at hp;have hop:∀(j:Nat) o f,l[j]? =Z (o,f)->r[j]? =Z o:=λj o f D=>by
   have h1:(l.map (·.1))[j]? =Z o:=by rw[a8,D];rfl
   rw[A.ops_]at h1;simpa using h1
  have hsize:∀(j:Nat) o,r[j]? =Z o->j<r.size:=λj o h=>(cz.1 h).1
  have hprs:∀am j,(am,j)∈prs->∃a b,fs[am]? =Z a/\fs[j]? =Z b/\FN a.wr b.rd=J/\FN a.wr b.wr=J/\FN b.wr a.rd=J:=by
   clear hp hall;induction prs with
   |nil=>intro am j h;cases h
   |cons p prs ih=>
    obtain⟨i0,j0⟩:=p;simp only[HS,au,Zn]at hok;intro am j hm;rcases bm.1 hm with h|h
    .cases h;have h1:=hok.1;split at h1
     .rename_i a b ha N;simp only[au]at h1;exact⟨a,b,ha,N,h1.1.1,h1.1.2,h1.2⟩
     .cases h1
    .exact ih hok.2 am j h
  refine ⟨λj o ho e he N=>?_,λam j oi fi L fj hij hi D=>?_,A.xw⟩
  .have:=(hall j (hsize j o ho)).1;rw[ho]at this;simp only[Option.all_some,gJ]at this;have:=this e (by simpa using he);simp[N]at this;exact this
  .have h1:=hop am oi fi hi;have h2:=hop j L fj D;have hcase:=(hall j (hsize j L h2)).2 am hij;rw[h1,h2]at hcase;simp only[jN]at hcase;by_cases F:aO ((Ng r.toList []).getD j 0) am=J
   .left;rw[aB]at F;cases d:(Ng r.toList [])[j]? with
    |none=>rw[d]at F;simp at F
    |some B=>
     rw[d]at F;exact Qo (ops:=r) r.toList [] (λj o D=>by simpa using D) (λj B D=>by simp at D) j B d am (by simpa using F)
   .right;have hap:=hcase.resolve_left F;refine ⟨hap,?_⟩;have hil:am<l! l:=(bq.1 hi).1;have hjl:j<l! l:=(bq.1 D).1;have hsi:=aD (show am<l! sl by rw[A.sll];exact hil);have hsj:=aD (show j<l! sl by rw[A.sll];exact hjl);by_cases hst:(sl[am]'(by rw[A.sll];exact hil)).op.still=J
    .obtain⟨q1,q2⟩:=A.still am oi fi _ hi hsi hst;rw[q1,q2];exact⟨(λx d=>by cases d),(λx _ d=>by cases d)⟩
    .by_cases hst2:(sl[j]'(by rw[A.sll];exact hjl)).op.still=J
     .obtain⟨q1,q2⟩:=A.still j L fj _ D hsj hst2;rw[q1,q2];exact⟨(λx d=>⟨(by simp),(by simp)⟩),(λx d=>by cases d)⟩
     .have hmem:(am,j)∈prs:=by
       rw[<- hp,sv];refine ⟨j,oR.2 (hsize j L h2),?_⟩;rw[List.mem_filterMap];refine ⟨am,oR.2 hij,?_⟩;rw[aA];rw[hsi,hsj];simp only[jN,not_or];exact⟨F,hst,hst2⟩
      obtain⟨a,b,ha,N,d1,d2,d3⟩:=hprs am j hmem;obtain⟨f1,f2⟩:=A.fp am oi fi a hi ha;obtain⟨g1,g2⟩:=A.fp j L fj b D N;refine ⟨λx d=>⟨λz=>?_,λz=>?_⟩,λx d z=>?_⟩
      .have:=zK d1 (ow x) (f2 x d);rw[g1 x z]at this;cases this
      .have:=zK d2 (ow x) (f2 x d);rw[g2 x z]at this;cases this
      .have:=zK d3 (ow x) (g2 x d);rw[f1 x z]at this;cases this
 .cases hp
structure jG (P:Program) (E:Nat->Prop) (nt np:Nat) (φ:PM) (s:TS) (a:Act) (w:World):Prop where
 qn:sq φ E (erHF s.h) w
 env:Qz φ (tot E φ (erHF s.h)) w (fB s.e s.h) a
 dom:∀n k,φ n=Z k->ow n<s.nx
 low:np<=s.nx
 qz:gV s.h s.nx
 qp:sD s.e s.h
 inert:∀d∈a.defers,ahf P d
 size:a.tmps.size=nt
structure xc (np:Nat) (φ φ':PM) (H H':HF) (w w':World):Prop where
 ext:Gf (own φ H) w w'
 qr:∀k,k<w.heap.size->own φ' H' k->own φ H k
 par:∀n,ow n<np->φ' n=φ n
def xc.refl (np:Nat) (φ:PM) (H:HF) (w:World):xc np φ φ H H w w:=⟨Gf.refl _ _,λ_ _ h=>h,λ_ _=>rfl⟩
def xc.trans {φ' φ'':PM} {H' H'':HF} {w w' w'':World} (a:xc i V φ' S H' w w') (b:xc i φ' φ'' H' H'' w' w''):xc i V φ'' S H'' w w'' where
 ext:=⟨b.ext.os.trans a.ext.os,b.ext.tape.trans a.ext.tape,b.ext.output.trans a.ext.output,c9 a.ext.size b.ext.size,
  λk d z=>(b.ext.jg k (dA d a.ext.size) (λh=>z (a.qr k d h))).trans (a.ext.jg k d z),
  λk d=>(b.ext.jd k (dA d a.ext.size)).trans (a.ext.jd k d)⟩
 qr:=λk d h=>a.qr k d (b.qr k (dA d a.ext.size) h)
 par:=λnp hi=>(b.par np hi).trans (a.par np hi)
variable {N:Act} {b:Bool} {m:Exit->Act->World->Prop}
def ae5 {s:TS} {w:World} (hm:P.follows .mixedOrders=J) (hcon:Gg P X) (c:jG P O i j V s N w) {id:Nat} {sl:Y t8} {prs:Y p?} {am:Nat} (ham:∀(np:Nat) (o:Oper) (d:Nat),r[np]? =Z o->o.dst=Z d->aO am d=J)
 (hd:(r.toList.all λo=>match o.dst with|some d=>decide (d<i)|none=>J)=J) (hc:tG P r r.toList=Z sl) (hp:Pt r sl=Z prs) {K:TS->M R} {ops:R} (hr:N6 X W sl s [] (λs' fs=>if HS fs prs then K s' else U)=Z ops) 
 (hQ:∀a' w' s' φ',K s'=Z ops->jG P O i j φ' s' a' w'->xc j V φ' (erHF s.h) (erHF s'.h) w w'->fq am s.e s'.e->m .normal a' w'):(Code.region id r b).wp P m N w:=by
 obtain⟨s',fs',l,A,L⟩:=K4 hcon ham r.toList sl s [] _ ops (λo ho=>by
  obtain⟨np,F⟩:=fY ho;exact⟨np,by simpa using F⟩) hc hr c.qz c.qp
 have A:(if HS fs' prs then K s' else U)=Z ops:=A;by_cases hok:HS fs' prs=J
 .rw[aG hok]at A;refine Tl (φ0:=V) (E:=O) hm L.ops_ L.chain (aj0 L hp hok) ?_ ?_ c.qn c.env ?_
  .intro n D;obtain⟨p,z,D⟩:=sv.1 D;obtain⟨np,F⟩:=fY z;have:=L.names np p.1 p.2 F n D;cases a:V n with
   |none=>rfl
   |some k=>have:=c.dom n k a;omega
  .intro np o ho d hd';have:=gJ.1 hd o (by have:=Array.mem_of_getElem? ho;simpa using this);rw[hd']at this;rw[c.size];simpa using this
  .rintro a' w' ⟨φ',m',d',r',en',df',sz'⟩;have hnm:∀n k,φ' n=Z k->V n=Z k\/(s.nx<=ow n/\ow n<s'.nx):=λn k hik=>by
    rcases d' n k hik with h|h
    .exact .inl h
    .obtain⟨p,z,D⟩:=sv.1 h;obtain⟨np,F⟩:=fY z;exact .inr (L.names np p.1 p.2 F n D)
   have hg:=L.jf;have hlow:=c.low;refine hQ a' w' s' φ' A ⟨r',en',λn k hik=>?_,by omega,L.qz,L.qp,by rw[df'];exact c.inert,by rw[sz'];exact c.size⟩ ⟨m'.ext,m'.qr,λnt hi=>?_⟩ L.keeps
   .rcases hnm n k hik with h|h
    .have:=c.dom n k h;omega
    .exact h.2
   .cases a:V nt with
    |some k=>exact m'.sub _ _ a
    |none=>
     cases hy:φ' nt with
     |none=>rfl
     |some k=>
      rcases hnm nt k hy with h|h
      .rw[a]at h;cases h
      .omega
 .rw[aA hok]at A;cases A
section ren
variable {P:Program} {E:Nat->Prop} {nt np:Nat}
def J_ {s:TS} {w:World} (c:jG P E nt np V s N w) (src:Nat->Nat) (hsrc:∀n,ow n≠s.nx->src n=n) (a:b9 s.h h) (hinv:gV h (s.nx+1))
 (D:∀n b',erHF h n=Z b'->∃b,erHF s.h (src n)=Z b/\∀(φ':PM) (O':Nat->Prop),(∀n,φ' n=V (src n))->(∀x v,cu V (tot E V (erHF s.h)) w x v->cu φ' O' w x v)->∀o,gw V (tot E V (erHF s.h)) w b o->gw φ' O' w b' o)
 (inj:∀n m b b',erHF h n=Z b->erHF h m=Z b'->src n=src m->n=m):∃φ',jG P E nt np φ' ⟨s.e,h,s.nx+1⟩ N w/\xc np V φ' (erHF s.h) (erHF h) w w:=by
 have sub:∀n k,V n=Z k->V (src n)=Z k:=λn k d=>by
  have:=c.dom n k d;rw[hsrc n (by omega)];exact d
 have own_:∀k,own (λn=>V (src n)) (erHF h) k->own V (erHF s.h) k:=by
  rintro k ⟨i,b,h1,h2⟩;obtain⟨b0,F,_⟩:=D i b h1;exact⟨src i,b0,F,h2⟩
 have tot_:∀k,tot E (λn=>V (src n)) (erHF h) k->tot E V (erHF s.h) k:=λk d=>d.imp id (own_ k)
 have keep:∀x v,cu V (tot E V (erHF s.h)) w x v->cu (λn=>V (src n)) (tot E (λn=>V (src n)) (erHF h)) w x v:=λx v h'=>h'.ext sub (Gf.refl _ w) λk _ d=>tot_ k d
 refine ⟨λn=>V (src n),⟨⟨λi j b b' k h1 h2 F h4=>?_,λn b' hb=>?_,c.qn.el,λg cells hg=>(c.qn.gl g cells hg).ext (Gf.refl _ w) λk _ d=>tot_ k d⟩,λt x A=>?_,λn k d=>?_,fQ c.low,hinv,λt x A=>mi a x (c.qp t x A),c.inert,c.size⟩,⟨Gf.refl _ _,λk _ d=>own_ k d,λn hn=>?_⟩⟩
 .obtain⟨b0,q1,_⟩:=D i b h1;obtain⟨b1,q2,_⟩:=D j b' h2;exact inj i j b b' h1 h2 (c.qn.inj _ _ b0 b1 k q1 q2 F h4)
 .obtain⟨b,q1,q2⟩:=D n b' hb;obtain⟨k,p1,p2,o,p3,p4⟩:=c.qn.at_ _ b q1;exact⟨k,p1,p2,o,p3,q2 _ _ (λ_=>rfl) keep o p4⟩
 .simp only[fB]at A;cases he:s.e.get t with
  |none=>rw[he]at A;cases A
  |some q=>
   rw[he]at A;obtain⟨z,L⟩:=od s.h q (c.qp t q he);simp only[aC,fg a q z L,af]at A;subst A;exact keep _ _ (c.env t _ (by simp only[fB,he,aC,L]))
 .have d:V (src n)=Z k:=d;by_cases e:ow n=s.nx
  .show ow n<s.nx+1;omega
  .rw[hsrc n e]at d;have:=c.dom n k d;show ow n<s.nx+1;omega
 .have:=c.low;show V (src n)=V n;rw[hsrc n (by omega)]
def xP {φ':PM} {O':Nat->Prop} {w:World} {l l':Y AV} {o:Obj} (hlen:l! l'=l! l) (A:∀(j:Nat) d,l'[j]? =Z d->d.isCell=J/\∃x,l[j]? =Z x/\∀v,cu V O w x v->cu φ' O' w d v) (h:gw V O w ⟨s,.mx l⟩ o):gw φ' O' w ⟨s,.mx l'⟩ o:=by
 rw[mF rfl]at h ⊢;obtain⟨arr,h1,h2,D⟩:=h;refine ⟨arr,h1,by simp only[BC.len]at h2 ⊢;omega,λj d z=>?_⟩;obtain⟨p1,x,p2,p3⟩:=A j d z;obtain⟨_,v,p4,p5⟩:=D j x p2;exact⟨p1,v,p4,p3 v p5⟩
def K9 {φ':PM} {O':Nat->Prop} {w:World} {l l':Y j?} {o:Obj} (D:l'.map (·.1)=l.map (·.1)) (A:∀(j:Nat) d,l'[j]? =Z d->∃x,l[j]? =Z x/\x.1=d.1/\∀v,cu V O w x.2 v->cu φ' O' w d.2 v) (h:gw V O w ⟨0,.mp l⟩ o):gw φ' O' w ⟨0,.mp l'⟩ o:=by
 obtain⟨ents,clock,h1,h2,F⟩:=h;refine ⟨ents,clock,h1,?_,λj d z=>?_⟩
 .unfold Qu at h2 ⊢;rw[D];exact h2
 .obtain⟨x,p1,p2,p3⟩:=A j d z;obtain⟨v,p4,p5⟩:=F j x p1;exact⟨v,by rw[<- p2];exact p4,p3 v p5⟩
def Z' (n:Nat) (j:Int):(shf n j).toNat=if j.toNat<n then j.toNat else j.toNat+1:=by
 unfold shf;by_cases h:j.toNat<n
 .rw[aG h,aG (by exact ba h)]
 .rw[aA h,aA (λe=>h (R_ e))];rfl
def ug (nx a p m1 m2 len n:Nat):Nat:=if ow n=nx then (match ix n with
 |0=>n
 |k+1=>if k/3<len then jK a (k+1) else if k/3=len then (if k%3=0 then nm p else if k%3=1 then nm m1 else nm m2) else jK a (k+1-3)) else n
def xK (nx a p m1 m2 len k:Nat):ug nx a p m1 m2 len (jK nx (k+1))=if k/3<len then jK a (k+1) else if k/3=len then (if k%3=0 then nm p else if k%3=1 then nm m1 else nm m2) else jK a (k+1-3):=by
 unfold ug;rw[iL,vN,aG rfl]
def YV {p m1 m2 len k:Nat} (h:k/3<len):ug i j p m1 m2 len (jK i (k+1))=jK j (k+1):=by rw[xK,aG h]
def KI (nx a p m1 m2 len:Nat) (j:Int):ug nx a p m1 m2 len (pG nx (shf len j))=pG a j:=by
 unfold pG;rw[xK,Z'];by_cases h:j.toNat<len
 .rw[aG h,aG (by omega)]
 .rw[aA h,aA (by omega),aA (by omega)];rw[show 3*(j.toNat+1)+1-3=3*j.toNat+1 from by omega]
def Zc {e:Y r?} (hm:aja (h.get i)=Z e):erHF h (nm i)=Z ⟨0,.mp (GC e)⟩/\∃K V es,h.get i=Z (.mp K V es):=by
 unfold aja at hm;split at hm
 .rename_i es d;cases hm;exact⟨by rw[bQ,d];rfl,_,_,_,d⟩
 .rename_i d;cases hm;exact⟨by rw[bQ,d];rfl,_,_,_,d⟩
 .cases hm
def EnR (R:AV->AV->Prop):Y j?->Y j?->Prop
 |[],[]=>True
 |x::l,y::l'=>x.1=y.1/\R x.2 y.2/\EnR R l l'
 |_,_=>False
def EnR.get {R:AV->AV->Prop}:∀{l l':Y j?},EnR R l l'->l'.map (·.1)=l.map (·.1)/\∀(j:Nat) d,l'[j]? =Z d->∃x,l[j]? =Z x/\x.1=d.1/\R x.2 d.2
 |[],[],_=>⟨rfl,λj d z=>by simp at z⟩
 |[],_::_,h|_::_,[],h=>h.elim
 |x::l,y::l',h=>by
  obtain⟨q1,q2⟩:=EnR.get h.2.2;refine ⟨by simp only[ca,q1,h.1],λj d z=>?_⟩;cases j with
  |zero=>simp only[dH,af]at z;subst z;exact⟨x,rfl,h.1,h.2.1⟩
  |succ j=>exact q2 j d z
def Mj {R:AV->AV->Prop} {a nx len:Nat} (d:∀j,R (.H (pG a j) 0) (.H (pG nx (shf len j)) 0)):∀es:Y e?,EnR R (wA a es) (wA nx (KL len es))
 |[]=>trivial
 |e::r=>⟨rfl,d e.2,Mj d r⟩
def UK {R:AV->AV->Prop} {a nx len:Nat} (A:∀j,R (.H (pG a j) 0) (.H (pG nx (shf len j)) 0)) {v:AV} (z:R v (.H (pG nx (aR len)) 0)) (k:Γ):∀es:Y e?,EnR R (Mi a k v es) (wA nx (xQ k (aR len) (KL len es)))
 |[]=>⟨rfl,z,trivial⟩
 |e::r=>by
  have D:=UK A z k r;show EnR R (Mi a k v (e::r)) (wA nx (xQ k (aR len) ((e.1,shf len e.2)::KL len r)));simp only[Mi,xQ];by_cases d:k=e.1
  .rw[aG d,Kg.2 d];exact⟨rfl,z,Mj A r⟩
  .rw[aA d];cases F:Oc k e.1 with
   |true=>exact cN (Kg.1 F) d
   |false=>exact⟨rfl,A e.2,D⟩
def B6 {φ':PM} {O':Nat->Prop} {w:World} {off:Nat} (h:φ' j=V i) (z:cu V O w (.H i off) v):cu φ' O' w (.H j off) v:=by
 cases z with
 |H A=>exact .H (h.trans A)
def Q9 {φ':PM} {O':Nat->Prop} {w:World} (h:φ' j=V i) (z:cu V O w (.mp i) v):cu φ' O' w (.mp j) v:=by
 cases z with
 |mp A=>exact .mp (h.trans A)
def J8 {φ':PM} {O':Nat->Prop} {w:World} {sz m:Nat} (h:φ' j=V i) (z:cu V O w (.G i sz m) v):cu φ' O' w (.G j sz m) v:=by
 cases z with
 |G A h1 h2 D=>exact .G (h.trans A) h1 h2 D
def ae2 (a n len:Nat) (B:eG):iH (rnF a n len B)=iH B:=by
 cases B with
 |I F b x=>
  simp only[rnF];split
  .cases F with
   |qc ty=>
    show Z (J,1,ah (fX (shf len) (x:η)))=Z (J,1,ah (α:=Int) x);exact ey (λn=>Z (J,1,n)) ((λ(a:η)=>(bS (shf len):l! (fX (shf len) a)=l! a)) x)
   |_=>rfl
  .rfl
 |_=>rfl
def xt (φ:PM) (O:Nat->Prop) (w:World) (src:Nat->Nat) (b b':kx):Prop:=∀(φ':PM) (O':Nat->Prop),(∀n,φ' n=φ (src n))->(∀x v,cu φ O w x v->cu φ' O' w x v)->∀o,gw φ O w b o->gw φ' O' w b' o
def xt.refl {w:World} (b:kx):xt V O w g b b:=λ_ _ _ keep _ h=>h.mono keep
def UB {w:World} {k:Nat} {ob:BR T} (h1:k%3=0->g (jK i (k+2))=jK j (k+2)) (h2:k%3=0->g (jK i (k+3))=jK j (k+3)):xt V O w g (vT j k s T ob) (vT i k s T ob):=by
 intro φ' O' hφ keep oo hoo;unfold vT at hoo ⊢;by_cases A:k%3=0
 .rw[aG A]at hoo ⊢;refine xP (by simp) (λai D d=>?_) hoo;by_cases L:ai<l! (bT T ob.1)
  .rw[bz (by rw[bS];exact L)]at d ⊢;refine ⟨?_,D,d,λv z=>keep _ _ z⟩;obtain⟨y,F,rfl⟩:=cq.1 (bf d);exact mA T [ob.1] y (by simpa using F)
  .rw[bU (by rw[bS];omega)]at d ⊢;generalize ai-l! (fX AV.f (bT T ob.1))=q at d ⊢
   match q with
   |0=>
    simp only[dH,af]at d ⊢;subst d;exact⟨rfl,_,rfl,λv z=>Q9 (by rw[hφ,h1 A]) z⟩
   |1=>
    simp only[mL,dH,af]at d ⊢;subst d;exact⟨rfl,_,rfl,λv z=>Q9 (by rw[hφ,h2 A]) z⟩
   |q+2=>simp at d
 .rw[aA A]at hoo ⊢;exact hoo.mono keep
def afu {E:Nat->Prop} {w:World} (rep:sq V E S w) {m1 m2:Nat} {H:Ty} {ob:BR H} {la:Y AV} (N:j%3=0) (hle:gO S S la ((bT H ob.1).map .f)) (h1:g (jK i (j+2))=nm m1) (h2:g (jK i (j+3))=nm m2):xt V (tot E V S) w g ⟨s,.mx (la++[.mp (nm m1),.mp (nm m2)])⟩ (vT i j s H ob):=by
 intro φ' O' hφ keep oo hoo;unfold vT;rw[aG N];have hll:=hle.length;refine xP (by simp only[bG];rw[hll];rfl) (λk L d=>?_) hoo;by_cases F:k<(bT H ob.1).length
 .rw[bz (by rw[bS];exact F)]at d;rw[bz (by rw[<- hll,bS];exact F)];obtain⟨x,D,A⟩:=hle.get k L d;refine ⟨?_,x,D,λv z=>keep _ _ (A V E w v rep z)⟩;obtain⟨y,hy,rfl⟩:=cq.1 (bf d);exact mA H [ob.1] y (by simpa using hy)
 .rw[bU (by rw[bS];omega)]at d;rw[bU (by rw[<- hll,bS];omega),<-hll];generalize k-(fX AV.f (bT H ob.1)).length=q at d ⊢
  match q with
  |0=>
   simp only[dH,af]at d ⊢;subst d;exact⟨rfl,_,rfl,λv z=>Q9 (by rw[hφ,h1]) z⟩
  |1=>
   simp only[mL,dH,af]at d ⊢;subst d;exact⟨rfl,_,rfl,λv z=>Q9 (by rw[hφ,h2]) z⟩
  |q+2=>simp at d
def air {w:World} {p m1 m2 len:Nat} {b':kx} (z:sC i (.qc s) (rnX len (.qc s) A)=Z b'):∃b,sC j (.qc s) A=Z b/\xt V O w (ug i j p m1 m2 len) b b':=by
 have z:(if ah (fX (shf len) A)==0 then U else Z (kx.mk s (.mx (fX (λa=>AV.H (pG i a) 0) (fX (shf len) A)))))=Z b':=z;rw[bS]at z;show ∃b,(if ah A==0 then U else Z (kx.mk s (.mx (fX (λa=>AV.H (pG j a) 0) A))))=Z b/\_;split at z
 .cases z
 .rename_i D;rw[aA D];cases z;refine ⟨_,rfl,λφ' O' hφ keep oo hoo=>xP (by simp) (λa L d=>?_) hoo⟩;rw[kZ,a8]at d;rw[a8];cases hjx:A[a]? with
  |none=>rw[hjx]at d;cases d
  |some nx=>
   rw[hjx]at d;simp only[bx,Function.comp,af]at d;subst d;exact⟨rfl,_,rfl,λv F=>B6 (by rw[hφ,KI]) F⟩
variable {z:kx}
def ais {w:World} {p m1 m2 len:Nat} {es:Y e?} (b':sC i .qh (rnX len .qh es)=Z z):∃b,sC j .qh es=Z b/\xt V O w (ug i j p m1 m2 len) b z:=by
 cases b';refine ⟨_,rfl,λφ' O' hφ keep oo hoo=>?_⟩;obtain⟨w1,w2⟩:=EnR.get (Mj (R:=λx y=>∀v,cu V O w x v->cu φ' O' w y v) (a:=j) (nx:=i) (len:=len) (λa v d=>B6 (by rw[hφ,KI]) d) es);exact K9 w1 w2 hoo
def yN {nx a p m1 m2:Nat} (F:j/3<=i):(j/3<i/\ug nx a p m1 m2 i (jK nx (j+1))=jK a (j+1))\/(j/3=i/\j%3=0/\ug nx a p m1 m2 i (jK nx (j+1))=nm p)\/(j/3=i/\j%3=1/\ug nx a p m1 m2 i (jK nx (j+1))=nm m1)\/(j/3=i/\j%3=2/\ug nx a p m1 m2 i (jK nx (j+1))=nm m2):=by
 rw[xK];by_cases D:j/3<i
 .exact .inl ⟨D,by rw[aG D]⟩
 .have z:j/3=i:=by omega
  rw[aA D,aG z];by_cases d:j%3=0
  .exact .inr (.inl ⟨z,d,by rw[aG d]⟩)
  .by_cases A:j%3=1
   .exact .inr (.inr (.inl ⟨z,A,by rw[aA d,aG A]⟩))
   .exact .inr (.inr (.inr ⟨z,by omega,by rw[aA d,aA A]⟩))
structure yD (s:TS) (h':bk) (o ai p m1 m2 len:Nat) (ty:TypeId) (S:Ty) (xs:List (BR S)) (new:BR S) (kk:Γ) (es:List (Γ×Int)):Prop where
 ho:s.h.get o=Z (.qm .qh ai es kk (Z (p,aa,0)))
 ha:∃a0,s.h.get ai=Z (.I (.ar ty S) a0 xs)
 hp:∃l,s.h.get p=Z (.C (Z ty) l)
 g1:∃K V es,s.h.get m1=Z (.mp K V es)
 g2:∃K V es,s.h.get m2=Z (.mp K V es)
 hmm:m1≠m2
 hlen:l! xs=len
 hg:∀i,h'.get i=if i=s.nx then Z (.I (.ar ty S) 0 (xs++[new]:List (BR S))) else if i=m2\/i=m1\/i=p\/i=ai then Z (.qj J 0 0) else if i=o then Z (.I .qh s.nx (xQ kk (aR len) (KL len es))) else (s.h.get i).map (rnF ai s.nx len)
section adr
variable {s:TS} {h':bk} {o ai p m1 m2 len:Nat} {ty:TypeId} {S:Ty} {xs:Y (BR S)} {new:BR S} {kk:Γ} {es:Y e?} (t:yD s h' o ai p m1 m2 len ty S xs new kk es)
include t
def yD.ne:o≠ai/\o≠p/\o≠m1/\o≠m2/\p≠m1/\p≠m2:=by
 obtain⟨d,ha⟩:=t.ha;obtain⟨l,hp⟩:=t.hp;obtain⟨_,_,_,g1⟩:=t.g1;obtain⟨_,_,_,g2⟩:=t.g2;have ho:=t.ho;refine ⟨λe=>?_,λe=>?_,λe=>?_,λe=>?_,λe=>?_,λe=>?_⟩
 .rw[e,ha]at ho;cases ho
 .rw[e,hp]at ho;cases ho
 .rw[e,g1]at ho;cases ho
 .rw[e,g2]at ho;cases ho
 .rw[e,g1]at hp;cases hp
 .rw[e,g2]at hp;cases hp
def yD.F (hi:gV s.h s.nx):b9 s.h h':=λi r d=>by
 obtain⟨N,ha⟩:=t.ha;obtain⟨l,hp⟩:=t.hp;obtain⟨_,_,_,g1⟩:=t.g1;obtain⟨_,_,_,g2⟩:=t.g2;have hfr:=hi.fresh;rw[bH]at d ⊢;rw[t.hg];by_cases L:i=s.nx
 .rw[L,hfr]at d;cases d
 .rw[aA L];by_cases D:i=m2\/i=m1\/i=p\/i=ai
  .rcases D with rfl|rfl|rfl|rfl
   .rw[g2]at d;cases d
   .rw[g1]at d;cases d
   .rw[hp]at d;cases d
   .rw[ha]at d;cases d
  .rw[aA D];by_cases A:i=o
   .rw[A,t.ho]at d;cases d
   .rw[aA A];cases z:s.h.get i with
    |none=>rw[z]at d;cases d
    |some B=>rw[z]at d;simp only[bx,aC]at d ⊢;rw[ae2];exact d
def yD.lows (hi:gV s.h s.nx):o<s.nx/\ai<s.nx/\p<s.nx/\m1<s.nx/\m2<s.nx:=by
 obtain⟨d,ha⟩:=t.ha;obtain⟨l,hp⟩:=t.hp;obtain⟨_,_,_,g1⟩:=t.g1;obtain⟨_,_,_,g2⟩:=t.g2;exact⟨hi.low o _ t.ho,hi.low ai _ ha,hi.low p _ hp,hi.low m1 _ g1,hi.low m2 _ g2⟩
def yD.inv (hi:gV s.h s.nx):gV h' (s.nx+1):=by
 have A:=t.F hi;obtain⟨L,la,D,l1,N⟩:=t.lows hi;refine ⟨λi ty l hil=>?_,λi c' hic=>?_⟩
 .rw[t.hg]at hil;split at hil
  .cases hil
  .split at hil
   .cases hil
   .split at hil
    .cases hil
    .cases d:s.h.get i with
     |none=>rw[d]at hil;cases hil
     |some B=>
      rw[d]at hil;simp only[bx,af]at hil;cases B with
      |C ty2 z=>
       simp only[rnF,eG.C.injEq]at hil;obtain⟨_,rfl⟩:=hil;exact eY A z (hi.C i _ z d)
      |I F b x=>simp only[rnF]at hil;split at hil<;>cases hil
      |_=>cases hil
 .rw[t.hg]at hic;split at hic
  .omega
  .split at hic
   .omega
   .split at hic
    .omega
    .cases d:s.h.get i with
     |none=>rw[d]at hic;cases hic
     |some B=>have:=hi.low i B d;omega
def yD.qj (hi:gV s.h s.nx) (d:ow i=m2\/ow i=m1\/ow i=p\/ow i=ai):erHF h' i=U:=by
 obtain⟨A,la,z,F,D⟩:=t.lows hi;unfold erHF;rw[t.hg,aA (by omega),aG d];simp only[aC];cases ix i<;>rfl
def yD.new0:erHF h' (nm s.nx)=U:=by rw[bQ,t.hg,aG rfl];rfl
def yD.newN (k:Nat):erHF h' (jK s.nx (k+1))=oK s.nx k ty S (xs++[new]):=by rw[kU,t.hg,aG rfl];rfl
def yD.oldN (k:Nat):erHF s.h (jK ai (k+1))=oK ai k ty S xs:=by
 obtain⟨d,ha⟩:=t.ha;rw[kU,ha];rfl
def yD.gt (d:len<i/3):erHF h' (jK s.nx (i+1))=U:=by
 rw[t.newN];unfold oK;rw[bK (by rw[bG,t.hlen];exact d)];rfl
def yD.lt {w:World} (D:i/3<len) (d:erHF h' (jK s.nx (i+1))=Z z):∃b,erHF s.h (jK ai (i+1))=Z b/\xt V O w (ug s.nx ai p m1 m2 len) b z:=by
 rw[t.newN]at d;rw[t.oldN];unfold oK at d ⊢;rw[bz (by rw[t.hlen];exact D)]at d;cases b':xs[i/3]? with
 |none=>rw[b']at d;cases d
 |some ob=>
  rw[b']at d;simp only[bx,af]at d;subst d;exact⟨_,rfl,UB (λA=>YV (k:=i+1) (by omega)) (λA=>YV (k:=i+2) (by omega))⟩
def yD.eqB (d:i/3=len):erHF h' (jK s.nx (i+1))=Z (vT s.nx i ty S new):=by
 rw[t.newN];unfold oK;rw[d,<-t.hlen,uM];rfl
def yD.mapB {w:World} (hi:gV s.h s.nx) (d:erHF h' (nm o)=Z z):∃b,erHF s.h (nm o)=Z b/\xt V O w (ug s.nx ai p m1 m2 len) b z:=by
 obtain⟨N,_⟩:=t.lows hi;obtain⟨L,F,D,A,_⟩:=t.ne;rw[bQ,t.hg,aA (by omega),aA (by rintro (e|e|e|e)<;>omega),aG rfl]at d;cases d;rw[bQ,t.ho];refine ⟨_,rfl,λφ' O' hφ keep oo hoo=>?_⟩;obtain⟨w1,w2⟩:=EnR.get (UK (R:=λx y=>∀v,cu V O w x v->cu φ' O' w y v) (a:=ai) (nx:=s.nx) (len:=len) (λj v b'=>B6 (by rw[hφ,KI]) b') (v:=.H (nm p) 0) (λv b'=>B6 (by
  rw[hφ];show V (ug s.nx ai p m1 m2 len (jK s.nx (3*len+1)))=_;rw[xK,aA (by omega),aG (by omega),aG (by omega)]) b') kk es)
 exact K9 w1 w2 hoo
def yD.oth {w:World} (hi:gV s.h s.nx) (f0:ow i≠s.nx) (N:¬(ow i=m2\/ow i=m1\/ow i=p\/ow i=ai)) (L:ow i≠o) (b':erHF h' i=Z z):∃b,erHF s.h i=Z b/\xt V O w (ug s.nx ai p m1 m2 len) b z:=by
 have hr:=t.F hi;cases D:s.h.get (ow i) with
 |none=>
  unfold erHF at b';rw[t.hg,aA f0,aA N,aA L,D]at b';cases b'
 |some B=>
  have d:NJ h' (ow i) (ix i) (rnF ai s.nx len B)=Z z:=by
   unfold erHF at b';rw[t.hg,aA f0,aA N,aA L,D]at b';exact b'
  have same:rnF ai s.nx len B=B->∃b,erHF s.h i=Z b/\xt V O w (ug s.nx ai p m1 m2 len) b z:=λe=>by
   rw[e,mB hr (λty l e=>hi.C _ _ l (by rw[D,e]))]at d;exact⟨z,by unfold erHF;rw[D];exact d,xt.refl z⟩
  cases B with
  |I F b x=>
   by_cases A:(aqf F&&ax b ai)=J
   .have e0:rnF ai s.nx len (.I F b x)= .I F s.nx (rnX len F x):=by simp only[rnF];rw[aG A]
    rw[e0]at d;simp only[au]at A;have hba:=av A.2;subst hba;cases hix:ix i with
    |succ k=>rw[hix]at d;cases F<;>first|cases d|cases A.1
    |zero=>
     rw[hix]at d;have d:sC s.nx F (rnX len F x)=Z z:=d;have hsrc:erHF s.h i=sC b F x:=by unfold erHF;rw[D,hix];rfl
     rw[hsrc];cases F with
     |qc tyo=>exact air d
     |qh=>exact ais d
     |_=>cases A.1
   .exact same (by simp only[rnF];rw[aA A])
  |_=>exact same rfl
def yD.key (d:erHF h' i=Z z) (A:ow i=s.nx):∃k,i=jK s.nx (k+1)/\k/3<=len:=by
 cases hix:ix i with
 |zero=>rw[pt hix,A,t.new0]at d;cases d
 |succ k=>
  have en:i=jK s.nx (k+1):=by rw[<- A,<-hix,lb]
  refine ⟨k,en,?_⟩;subst en;rcases bu len (k/3) with b|b
  .rw[t.gt b]at d;cases d
  .exact b
def yD.dS (hi:gV s.h s.nx) (d:i/3<=len):erHF h' (ug s.nx ai p m1 m2 len (jK s.nx (i+1)))=U:=by
 refine t.qj hi ?_;rcases yN (nx:=s.nx) (a:=ai) (p:=p) (m1:=m1) (m2:=m2) d with ⟨_,e⟩|⟨_,_,e⟩|⟨_,_,e⟩|⟨_,_,e⟩<;>rw[e]
 .rw[iL];exact .inr (.inr (.inr rfl))
 .rw[dq];exact .inr (.inr (.inl rfl))
 .rw[dq];exact .inr (.inl rfl)
 .rw[dq];exact .inl rfl
def yD.inj1 (A:i/3<=len) (z:j/3<=len) (he:ug s.nx ai p m1 m2 len (jK s.nx (i+1))=ug s.nx ai p m1 m2 len (jK s.nx (j+1))):i=j:=by
 obtain⟨_,_,_,_,L,F⟩:=t.ne;have D:=t.hmm;rcases yN (nx:=s.nx) (a:=ai) (p:=p) (m1:=m1) (m2:=m2) A with ⟨_,e⟩|⟨_,_,e⟩|⟨_,_,e⟩|⟨_,_,e⟩<;>rcases yN (nx:=s.nx) (a:=ai) (p:=p) (m1:=m1) (m2:=m2) z with ⟨_,d⟩|⟨_,_,d⟩|⟨_,_,d⟩|⟨_,_,d⟩<;>rw[e,d]at he<;>clear e d<;>first|omega|(have:=(uQ he).2;omega)|(have:=uj he;omega)
def yD.inj (hi:gV s.h s.nx) {b':kx} (d:erHF h' i=Z z) (hm:erHF h' j=Z b') (he:ug s.nx ai p m1 m2 len i=ug s.nx ai p m1 m2 len j):i=j:=by
 have A:∀i,ow i≠s.nx->ug s.nx ai p m1 m2 len i=i:=λi d=>by unfold ug;rw[aA d]
 by_cases L:ow i=s.nx
 .obtain⟨k,rfl,F⟩:=t.key d L;by_cases b:ow j=s.nx
  .obtain⟨q,rfl,D⟩:=t.key hm b;rw[t.inj1 F D he]
  .rw[A j b]at he;rw[<- he,t.dS hi F]at hm;cases hm
 .rw[A i L]at he;by_cases b:ow j=s.nx
  .obtain⟨q,rfl,D⟩:=t.key hm b;rw[he,t.dS hi D]at d;cases d
  .rw[A j b]at he;exact he
def yD.cfg {w:World} (c:jG P E nt np V s N w) {la:Y AV} (bp:erHF s.h (nm p)=Z ⟨ty,.mx (la++[.mp (nm m1),.mp (nm m2)])⟩) (hle:gO (erHF s.h) (erHF s.h) la ((bT S new.1).map .f)) (b1:erHF s.h (nm m1)=Z ⟨0,.mp (GC new.2.1)⟩) (b2:erHF s.h (nm m2)=Z ⟨0,.mp (GC new.2.2)⟩):∃φ',jG P E nt np φ' ⟨s.e,h',s.nx+1⟩ N w/\xc np V φ' (erHF s.h) (erHF h') w w:=by
 have hi:=c.qz;have hs:∀n,ow n≠s.nx->ug s.nx ai p m1 m2 len n=n:=λn D=>by unfold ug;rw[aA D]
 refine J_ c (ug s.nx ai p m1 m2 len) hs (t.F hi) (t.inv hi) (λn b' d=>?_) λn m b b' D hm he=>t.inj hi D hm he
 by_cases A:ow n=s.nx
 .obtain⟨k,rfl,hk⟩:=t.key d A;rcases yN (nx:=s.nx) (a:=ai) (p:=p) (m1:=m1) (m2:=m2) hk with ⟨g,e⟩|⟨g,z,e⟩|⟨g,z,e⟩|⟨g,z,e⟩<;>rw[e]
  .exact t.lt g d
  .rw[t.eqB g,af]at d;subst d;refine ⟨_,bp,afu c.qn z hle ?_ ?_⟩
   .rw[xK,aA (by omega),aG (by omega),aA (by omega),aG (by omega)]
   .rw[xK,aA (by omega),aG (by omega),aA (by omega),aA (by omega)]
  .rw[t.eqB g,af]at d;subst d;refine ⟨_,b1,?_⟩;unfold vT;rw[aA (by omega),aG z];exact xt.refl _
  .rw[t.eqB g,af]at d;subst d;refine ⟨_,b2,?_⟩;unfold vT;rw[aA (by omega),aA (by omega)];exact xt.refl _
 .rw[hs n A];by_cases a:ow n=m2\/ow n=m1\/ow n=p\/ow n=ai
  .rw[t.qj hi a]at d;cases d
  .by_cases L:ow n=o
   .cases hix:ix n with
    |succ k=>
     unfold erHF at d;rw[t.hg,aA A,aA a,aG L,hix]at d;cases d
    |zero=>
     have en:n=nm o:=by rw[<- L];exact pt hix
     subst en;exact t.mapB hi d
   .exact t.oth hi A a L d
end adr
def amt {s:TS} {w:World} (c:jG P E nt np V s N w) {p:Nat} {kk:Γ} {es:Y e?} (ho:s.h.get i=Z (.qm .qh j es kk (Z (p,aa,0)))) {s':TS} (h:adr s i j p kk es=Z s'):s'.e=s.e/\∃φ',jG P E nt np φ' s' N w/\xc np V φ' (erHF s.h) (erHF s'.h) w w:=by
 unfold adr at h;split at h
 .rename_i ty S a0 xs ty' l ha hp;split at h
  .rename_i hty;have hty:=eq_of_beq hty;subst hty;split at h
   .rename_i z m m1 m2 hpk;split at h
    .rename_i e1 e2 hm1 a;split at h
     .rename_i hq;simp only[au,cU]at hq;obtain⟨q1,q2⟩:=hq;have q1:=av q1;subst q1;have hmm:m1≠m2:=λe=>by rw[e,eP]at q2;cases q2
      obtain⟨b1,K1,V1,es1,g1⟩:=Zc hm1;obtain⟨b2,K2,V2,es2,g2⟩:=Zc a;cases h;refine ⟨rfl,?_⟩;obtain⟨l',d⟩:=eR s.h l (c.qz.C p _ l hp);obtain⟨la1,la2,hlap,hla2,hle⟩:=rC (rq.refl (erHF s.h)) 40 S l z 0 _ l' hpk d Ea.zero;have hla2:la2=[.mp (nm m1),.mp (nm m2)]:=by simp only[cO,cg,af]at hla2;exact hla2.symm
      have bp:erHF s.h (nm p)=Z ⟨ty',.mx (la1++[.mp (nm m1),.mp (nm m2)])⟩:=by rw[bQ,hp];simp only[aC,jY,d];rw[hlap,hla2]
      refine yD.cfg (o:=i) (ai:=j) (p:=p) (m1:=m1) (m2:=m2) (len:=ah (α:=BR S) xs) (ty:=ty') (S:=S) (xs:=xs) (new:=(z,e1,e2)) (kk:=kk) (es:=es) ⟨ho,⟨a0,ha⟩,⟨l,hp⟩,⟨_,_,_,g1⟩,⟨_,_,_,g2⟩,hmm,rfl,λo=>?_⟩ c bp hle b1 b2;rw[PT.get_set,PT.get_set,PT.get_set,PT.get_set,PT.get_set,PT.get_set,PT.get_updI];by_cases L:o=s.nx
      .rw[aG L,aG L];rfl
      .rw[aA L,aA L];by_cases F:o=m2
       .rw[aG F,aG (.inl F)]
       .rw[aA F];by_cases D:o=m1
        .rw[aG D,aG (.inr (.inl D))]
        .rw[aA D];by_cases f3:o=p
         .rw[aG f3,aG (.inr (.inr (.inl f3)))]
         .rw[aA f3];by_cases A:o=j
          .rw[aG A,aG (.inr (.inr (.inr A)))]
          .rw[aA A,aA (λe:o=m2\/o=m1\/o=p\/o=j=>e.elim F λe=>e.elim D λe=>e.elim f3 A)]
     .cases h
    .cases h
   .cases h
  .cases h
 .cases h
def XJ {n:Nat} {ty:TypeId} {xss:Y (Y T.den)} {xs:Y T.den} (h:l! xss<=i):pm i ty T (xss.set n xs)=U:=by
 unfold pm;rw[bK (by rw[iu];exact h)];rfl
def Gp (nx a r j n:Nat):Nat:=if ow n=nx then (match ix n with
 |0=>n
 |k+1=>if k=j then nm r else jK a (k+1)) else n
def xJ (nx a r j k:Nat):Gp nx a r j (jK nx (k+1))=if k=j then nm r else jK a (k+1):=by
 unfold Gp;rw[iL,vN,aG rfl]
def amr {ty:TS} {w:World} (c:jG P E nt np V ty N w) {r n:Nat} {kk:Γ} {z:Nat} (ho:ty.h.get i=Z (.qm (.rr s z) j A kk (Z (r,J,n)))) {s':TS} (h:ams ty i j r n kk.1 s z A=Z s'):s'.e=ty.e/\∃φ',jG P E nt np φ' s' N w/\xc np V φ' (erHF ty.h) (erHF s'.h) w w:=by
 unfold ams at h;split at h
 .rename_i ty2 T a0 xss ty3 p S xs ha hrr;split at h
  .rename_i xs' hxs;split at h
   .rename_i hty;have hty:=eq_of_beq hty;subst hty;cases h;refine ⟨rfl,?_⟩;obtain⟨ee,exs⟩:=gU hxs;cases ee;have exs:xs'=xs:=exs;subst exs;have hfr:=c.qz.fresh;have lo:=c.qz.low i _ ho;have la:=c.qz.low j _ ha;have lr:=c.qz.low r _ hrr;have n1:i≠j:=λe=>by rw[e,ha]at ho;cases ho
    have n2:i≠r:=λe=>by rw[e,hrr]at ho;cases ho
    have n3:j≠r:=λe=>by rw[e,hrr]at ha;cases ha
    generalize hjj:kk.1.toNat=ai;generalize hh':(((ty.h.set i (Z (.I (.rr s z) ty.nx (wn (α:=Int) A ai (aR n))))).set j (Z (.qj J 0 0))).set r (Z (.qj p T.size (ah xs')))).set ty.nx (Z (.I (.ir ty3 T) 0 (Dw (T:=T) xss kk.1 xs')))=h';have hg:∀o,h'.get o=if o=ty.nx then Z (.I (.ir ty3 T) 0 (Dw (T:=T) xss kk.1 xs')) else if o=r then Z (.qj p T.size (ah xs')) else if o=j then Z (.qj J 0 0) else if o=i then Z (.I (.rr s z) ty.nx (wn (α:=Int) A ai (aR n))) else ty.h.get o:=λo=>by
     rw[<- hh',PT.get_set,PT.get_set,PT.get_set,PT.get_set]
    have hdead:∀n,ow n=r\/ow n=j->erHF h' n=U:=λn hn=>by
     unfold erHF;rcases hn with e|e
     .rw[hg,aA (by omega),aG e];simp only[aC];cases ix n<;>rfl
     .rw[hg,aA (by omega),aA (by omega),aG e];simp only[aC];cases ix n<;>rfl
    have hr:b9 ty.h h':=λo q hi=>by
     rw[bH]at hi ⊢;rw[hg];by_cases D:o=ty.nx
     .rw[D,hfr]at hi;cases hi
     .rw[aA D];by_cases L:o=r
      .rw[aG L];rw[L,hrr]at hi;exact hi
      .rw[aA L];by_cases f2:o=j
       .rw[f2,ha]at hi;cases hi
       .rw[aA f2];by_cases f3:o=i
        .rw[aG f3];rw[f3,ho]at hi;simp only[aC,iH,r9,iu]at hi ⊢;exact hi
        .rw[aA f3];exact hi
    have hinv:gV h' (ty.nx+1):=by
     refine ⟨λo s l hil=>?_,λo c' hic=>?_⟩
     .rw[hg]at hil;split at hil
      .cases hil
      .split at hil
       .cases hil
       .split at hil
        .cases hil
        .split at hil
         .cases hil
         .exact eY hr l (c.qz.C o _ l hil)
     .rw[hg]at hic;split at hic
      .omega
      .split at hic
       .omega
       .split at hic
        .omega
        .split at hic
         .omega
         .have:=c.qz.low o c' hic;omega
    have hmN:∀k,erHF h' (jK ty.nx (k+1))=pm k ty3 T (wn xss ai xs'):=λk=>by
     rw[kU,hg,aG rfl,<-hjj];rfl
    have hmO:∀k,erHF ty.h (jK j (k+1))=pm k ty3 T xss:=λk=>by rw[kU,ha];rfl
    have hn0:erHF h' (nm ty.nx)=U:=by rw[bQ,hg,aG rfl];rfl
    refine J_ c (Gp ty.nx j r ai) (λn hn=>by unfold Gp;rw[aA hn]) hr hinv ?_ ?_
    .intro q b' d;by_cases D:ow q=ty.nx
     .cases hix:ix q with
      |zero=>rw[pt hix,D,hn0]at d;cases d
      |succ k=>
       have en:q=jK ty.nx (k+1):=by rw[<- D,<-hix,lb]
       subst en;rw[hmN]at d;rw[xJ];by_cases hk:k=ai
       .rw[aG hk];subst hk;refine ⟨b',?_,λφ' O' hφ keep oo hoo=>hoo.mono keep⟩;rw[bQ,hrr];have hl:k<ah (α:=Y T.den) xss:=by
         rcases bu k (ah (α:=Y T.den) xss) with h1|h1
         .exact h1
         .have d:=(XJ (ty:=ty3) (T:=T) (xss:=xss) (xs:=xs') (n:=k) h1).symm.trans d;cases d
        have d:=(Mb (ty:=ty3) (T:=T) (xss:=xss) (xs:=xs') hl).symm.trans d;unfold XI at d;split at d
        .cases d
        .rename_i hz;simp only[aC,jY];rw[aA (by rw[au];exact λe=>hz e.2)];exact d
       .rw[aA hk,hmO];exact⟨b',(G9 (ty:=ty3) (T:=T) (xss:=xss) (xs:=xs') hk).symm.trans d,λφ' O' hφ keep oo hoo=>hoo.mono keep⟩
     .have hs:Gp ty.nx j r ai q=q:=by unfold Gp;rw[aA D]
      rw[hs];by_cases L:ow q=r\/ow q=j
      .rw[hdead q L]at d;cases d
      .have f1a:ow q≠r:=λe=>L (.inl e)
       have f1b:ow q≠j:=λe=>L (.inr e)
       by_cases f2:ow q=i
       .cases hix:ix q with
        |succ k=>
         unfold erHF at d;rw[hg,aA D,aA f1a,aA f1b,aG f2,hix]at d;cases d
        |zero=>
         have en:q=nm i:=by rw[<- f2];exact pt hix
         subst en;rw[dq]at f1a f1b;rw[bQ,hg,aA (by omega),aA f1a,aA f1b,aG rfl]at d;have d:Z (kx.mk s (.mx (lY ty.nx z 0 (wn (α:=Int) A ai (aR n)))))=Z b':=d;cases d;rw[bQ,ho];refine ⟨⟨s,.mx ((lY j z 0 A).set kk.1.toNat (dv J r z n))⟩,rfl,λφ' O' hφ keep oo hoo=>?_⟩;rw[hjj]at hoo;have cl:∀(N k l:Nat),(uh N k z l).isCell=J:=λN k l=>by unfold uh;split<;>rfl
         refine xP (by rw[iu,lB,lB,iu]) (λo x' ls=>?_) hoo;have ls:=ls.symm.trans (xM ty.nx z (wn (α:=Int) A ai (aR n)) 0 o);rw[bO,db]at ls;by_cases hij:ai=o
         .subst hij;rw[aG rfl]at ls;by_cases hl:ai<ah (α:=Int) A
          .rw[aG hl]at ls;simp only[bx,af]at ls;subst ls;refine ⟨cl _ _ _,_,by rw[db,aG rfl,aG (by rw[lB];exact hl)],λv a=>?_⟩;have hn2:(aR n).toNat=n:=rfl;rw[hn2];unfold dv at a;unfold uh;by_cases hz:n=0
           .rw[aG (by simpa using hz)]at a ⊢;exact keep _ _ a
           .rw[aA (by simpa using hz)]at a ⊢;exact J8 (by rw[hφ,xJ,aG rfl]) a
          .rw[aA hl]at ls;cases ls
         .rw[aA hij]at ls;cases hli:(A:η)[o]? with
          |none=>
           have ls:Z x'=ik _ ((A:η)[o]?):=ls;rw[hli]at ls;cases ls
          |some l=>
           have ls:Z x'=ik _ ((A:η)[o]?):=ls;rw[hli]at ls;simp only[bx,af]at ls;subst ls;refine ⟨cl _ _ _,uh j o z l.toNat,?_,λv a=>?_⟩
           .rw[db,aA hij];have:=xM j z A 0 o;rw[bO]at this;refine this.trans ?_;show ik _ ((A:η)[o]?)=_;rw[hli];rfl
           .unfold uh at a ⊢;by_cases hz:l.toNat=0
            .rw[aG (by simpa using hz)]at a ⊢;exact keep _ _ a
            .rw[aA (by simpa using hz)]at a ⊢;exact J8 (by rw[hφ,xJ,aA (λe=>hij e.symm)]) a
       .have F:(ty.h.get (ow q)).bind (NJ h' (ow q) (ix q))=Z b':=by
         unfold erHF at d;rw[hg,aA D,aA f1a,aA f1b,aA f2]at d;exact d
        cases hx:ty.h.get (ow q) with
        |none=>rw[hx]at F;cases F
        |some B=>
         rw[hx]at F;simp only[aC]at F;rw[mB hr (λs l e=>c.qz.C _ _ l (by rw[hx,e]))]at F;exact⟨b',by unfold erHF;rw[hx];exact F,λφ' O' hφ keep oo hoo=>hoo.mono keep⟩
    .intro q m b b' hn hm he;have key:∀n b,erHF h' n=Z b->ow n=ty.nx->∃k,n=jK ty.nx (k+1):=λn b hn D=>by
      cases hix:ix n with
      |zero=>rw[pt hix,D,hn0]at hn;cases hn
      |succ k=>exact⟨k,by rw[<- D,<-hix,lb]⟩
     have dS:∀k,erHF h' (Gp ty.nx j r ai (jK ty.nx (k+1)))=U:=λk=>by
      refine hdead _ ?_;rw[xJ];split
      .rw[dq];exact .inl rfl
      .rw[iL];exact .inr rfl
     by_cases D:ow q=ty.nx
     .obtain⟨k,rfl⟩:=key q b hn D;by_cases L:ow m=ty.nx
      .obtain⟨k2,rfl⟩:=key m b' hm L;rw[xJ,xJ]at he;have:k=k2:=by
        split at he<;>split at he
        .omega
        .have:=(uQ he).2;omega
        .have:=(uQ he).2;omega
        .have:=(uQ he).2;omega
       rw[this]
      .rw[show Gp ty.nx j r ai m=m from by unfold Gp;rw[aA L]]at he;rw[<- he,dS k]at hm;cases hm
     .rw[show Gp ty.nx j r ai q=q from by unfold Gp;rw[aA D]]at he;by_cases L:ow m=ty.nx
      .obtain⟨k2,rfl⟩:=key m b' hm L;rw[he,dS k2]at hn;cases hn
      .rw[show Gp ty.nx j r ai m=m from by unfold Gp;rw[aA L]]at he;exact he
   .cases h
  .cases h
 .cases h
def AD (nx a n:Nat):Nat:=if ow n=nx then jK a (ix n) else n
def xL (nx a k:Nat):AD nx a (jK nx k)=jK a k:=by
 unfold AD;rw[iL,vN,aG rfl]
def ae1 (a n:Nat) (B:eG):iH (rnG a n B)=iH B:=by
 cases B with
 |I F b x=>
  simp only[rnG];split<;>rfl
 |_=>rfl
def LB {F:t_} (h:af7 F=J):(∃ty S,F= .ar ty S)\/∃ty T,F= .ir ty T:=by
 cases F with
 |ar ty S=>exact .inl ⟨ty,S,rfl⟩
 |ir ty T=>exact .inr ⟨ty,T,rfl⟩
 |_=>cases h
def aav {w:World} {k:Nat} {F:t_} {x:F.ty.den} (d:Br i k F x=Z z):∃b,Br j k F x=Z b/\xt V O w (AD i j) b z:=by
 cases F with
 |ar ty S=>
  simp only[Br,oK]at d ⊢;obtain⟨ob,h1,h2⟩:=dz.1 d;subst h2;exact⟨_,dz.2 ⟨ob,h1,rfl⟩,UB (λ_=>xL i j _) (λ_=>xL i j _)⟩
 |ir ty T=>exact⟨z,d,xt.refl _⟩
 |_=>cases d
def P3 {R:AV->AV->Prop} {a nx:Nat} (d:∀j,R (.H (pG a j) 0) (.H (pG nx j) 0)):∀es:Y e?,EnR R (wA a es) (wA nx es)
 |[]=>trivial
 |e::r=>⟨rfl,d e.2,P3 d r⟩
def aef {w:World} {b':kx} (z:sC i (.qc s) A=Z b'):∃b,sC j (.qc s) A=Z b/\xt V O w (AD i j) b b':=by
 have hob:∀a,AD i j (pG i a)=pG j a:=λa=>xL i j _
 have z:(if ah A==0 then U else Z (kx.mk s (.mx (fX (λa=>AV.H (pG i a) 0) A))))=Z b':=z;show ∃b,(if ah A==0 then U else Z (kx.mk s (.mx (fX (λa=>AV.H (pG j a) 0) A))))=Z b/\_;split at z
 .cases z
 .rename_i D;rw[aA D];cases z;refine ⟨_,rfl,λφ' O' hφ keep oo hoo=>xP (by simp) (λa L d=>?_) hoo⟩;rw[a8]at d ⊢;cases hjx:A[a]? with
  |none=>rw[hjx]at d;cases d
  |some nx=>
   rw[hjx]at d;simp only[bx,af]at d;subst d;exact⟨rfl,_,rfl,λv F=>B6 (by rw[hφ,hob]) F⟩
def aeh {w:World} {es:Y e?} (b':sC i .qh es=Z z):∃b,sC j .qh es=Z b/\xt V O w (AD i j) b z:=by
 have hob:∀a,AD i j (pG i a)=pG j a:=λa=>xL i j _
 cases b';refine ⟨_,rfl,λφ' O' hφ keep oo hoo=>?_⟩;obtain⟨w1,w2⟩:=EnR.get (P3 (R:=λx y=>∀v,cu V O w x v->cu φ' O' w y v) (a:=j) (nx:=i) (λa v d=>B6 (by rw[hφ,hob]) d) es);exact K9 w1 w2 hoo
def aih {w:World} {b':Nat} (D:sC i (.rr s b') A=Z z):∃b,sC j (.rr s b') A=Z b/\xt V O w (AD i j) b z:=by
 have D:Z (kx.mk s (.mx (lY i b' 0 A)))=Z z:=D;cases D;refine ⟨_,rfl,λφ' O' hφ keep oo hoo=>xP (by rw[lB,lB]) (λa L d=>?_) hoo⟩;rw[xM]at d ⊢;cases hjx:A[a]? with
 |none=>rw[hjx]at d;cases d
 |some l=>
  rw[hjx]at d;simp only[bx,af]at d;subst d;refine ⟨by unfold uh;split<;>rfl,uh j (0+a) b' l.toNat,rfl,λv ls=>?_⟩;unfold uh at ls ⊢;by_cases F:(l.toNat==0)=J
  .rw[aG F]at ls ⊢;exact keep _ _ ls
  .rw[aA F]at ls ⊢;exact J8 (by rw[hφ,xL]) ls
def aay {w:World} {F:t_} {x:F.ty.den} (d:sC i F x=Z z):∃b,sC j F x=Z b/\xt V O w (AD i j) b z:=by
 cases F with
 |qc ty=>exact aef d
 |qh=>exact aeh d
 |rr ty b'=>exact aih d
 |_=>cases d
def amu {s:TS} {w:World} (c:jG P E nt np V s N w) {s':TS} (h:amv s i=Z s'):s'.e=s.e/\∃φ',jG P E nt np φ' s' N w/\xc np V φ' (erHF s.h) (erHF s'.h) w w:=by
 unfold amv at h;split at h
 .rename_i F a0 x ha;split at h
  .rename_i hF;cases h;refine ⟨rfl,?_⟩;have hfr:=c.qz.fresh;have la:=c.qz.low i _ ha;have hi:=c.qz;generalize hh':((PT.updI (λ_ b=>rnG i s.nx b) 1 0 s.h).set i (Z (.qj J 0 0))).set s.nx (Z (.I F 0 x))=h';have hg:∀ai,h'.get ai=if ai=s.nx then Z (.I F 0 x) else if ai=i then Z (.qj J 0 0) else (s.h.get ai).map (rnG i s.nx):=λai=>by
    rw[<- hh',PT.get_set,PT.get_set,PT.get_updI]
   have hF0:r9 F x=U:=by rcases LB hF with ⟨_,_,rfl⟩|⟨_,_,rfl⟩<;>rfl
   have hFB:∀q,sC q F x=U:=λq=>by rcases LB hF with ⟨_,_,rfl⟩|⟨_,_,rfl⟩<;>rfl
   have hr:b9 s.h h':=λai q a=>by
    rw[bH]at a ⊢;rw[hg];by_cases D:ai=s.nx
    .rw[D,hfr]at a;cases a
    .rw[aA D];by_cases L:ai=i
     .rw[L,ha]at a;simp only[aC,iH,hF0]at a;cases a
     .rw[aA L];cases A:s.h.get ai with
      |none=>rw[A]at a;cases a
      |some B=>rw[A]at a;simp only[bx,aC]at a ⊢;rw[ae1];exact a
   have hinv:gV h' (s.nx+1):=by
    refine ⟨λai ty l hil=>?_,λai c' hic=>?_⟩
    .rw[hg]at hil;split at hil
     .cases hil
     .split at hil
      .cases hil
      .cases A:s.h.get ai with
       |none=>rw[A]at hil;cases hil
       |some B=>
        rw[A]at hil;simp only[bx,af]at hil;cases B with
        |C ty2 l3=>
         simp only[rnG,eG.C.injEq]at hil;obtain⟨_,rfl⟩:=hil;exact eY hr l3 (hi.C ai _ l3 A)
        |I F b x=>simp only[rnG]at hil;split at hil<;>cases hil
        |_=>cases hil
    .rw[hg]at hic;split at hic
     .omega
     .split at hic
      .omega
      .cases A:s.h.get ai with
       |none=>rw[A]at hic;cases hic
       |some B=>have:=hi.low ai B A;omega
   have hdead:∀n,ow n=i->erHF h' n=U:=λn hn=>by
    unfold erHF;rw[hg,aA (by omega),aG hn];simp only[aC];cases ix n<;>rfl
   have hn0:erHF h' (nm s.nx)=U:=by
    rw[bQ,hg,aG rfl];exact hFB _
   have hmN:∀k,erHF h' (jK s.nx (k+1))=Br s.nx k F x:=λk=>by rw[kU,hg,aG rfl];rfl
   have hmO:∀k,erHF s.h (jK i (k+1))=Br i k F x:=λk=>by rw[kU,ha];rfl
   refine J_ c (AD s.nx i) (λn hn=>by unfold AD;rw[aA hn]) hr hinv (λn b' d=>?_) λn m b b' hn hm he=>?_
   .by_cases D:ow n=s.nx
    .cases hix:ix n with
     |zero=>rw[pt hix,D,hn0]at d;cases d
     |succ k=>
      have en:n=jK s.nx (k+1):=by rw[<- D,<-hix,lb]
      subst en;rw[hmN]at d;rw[xL,hmO];exact aav d
    .have hs:AD s.nx i n=n:=by unfold AD;rw[aA D]
     rw[hs];by_cases L:ow n=i
     .rw[hdead n L]at d;cases d
     .cases A:s.h.get (ow n) with
      |none=>
       unfold erHF at d;rw[hg,aA D,aA L,A]at d;cases d
      |some B=>
       have z:NJ h' (ow n) (ix n) (rnG i s.nx B)=Z b':=by
        unfold erHF at d;rw[hg,aA D,aA L,A]at d;exact d
       have same:rnG i s.nx B=B->∃b,erHF s.h n=Z b/\xt V (tot E V (erHF s.h)) w (AD s.nx i) b b':=λe=>by
        rw[e,mB hr (λty l e=>hi.C _ _ l (by rw[A,e]))]at z;exact⟨b',by unfold erHF;rw[A];exact z,xt.refl b'⟩
       cases B with
       |I G b y=>
        by_cases hc:(!(af7 G)&&ax b i)=J
        .have e0:rnG i s.nx (.I G b y)= .I G s.nx y:=by simp only[rnG];rw[aG hc]
         rw[e0]at z;simp only[au,cU]at hc;have hba:=av hc.2;subst hba;cases hix:ix n with
         |succ k=>
          rw[hix]at z;cases G with
          |ar ty S|ir ty T=>cases hc.1
          |_=>cases z
         |zero=>
          rw[hix]at z;have z:sC s.nx G y=Z b':=z;have hsrc:erHF s.h n=sC b G y:=by unfold erHF;rw[A,hix];rfl
          rw[hsrc];exact aay z
        .exact same (by simp only[rnG];rw[aA hc])
       |_=>exact same rfl
   .have hs:∀n,ow n≠s.nx->AD s.nx i n=n:=λn hn=>by unfold AD;rw[aA hn]
    have key:∀n b,erHF h' n=Z b->ow n=s.nx->AD s.nx i n=jK i (ix n):=λn b hn D=>by unfold AD;rw[aG D]
    by_cases D:ow n=s.nx
    .rw[key n b hn D]at he;by_cases L:ow m=s.nx
     .rw[key m b' hm L]at he;rw[<- lb n,<-lb m,D,L,(uQ he).2]
     .rw[hs m L]at he;rw[<- he,hdead _ (iL ..)]at hm;cases hm
    .rw[hs n D]at he;by_cases L:ow m=s.nx
     .rw[key m b' hm L]at he;rw[he,hdead _ (iL ..)]at hn;cases hn
     .rw[hs m L]at he;exact he
  .cases h
 .cases h
def amw {cty:TS} {w:World} (c:jG P E nt np V cty N w) {id:Nat} {l:Y TV} (hb:cty.h.get i=Z (.C (Z s) l)) (hv:l[j]? =Z (.G id)) {ty:TypeId} {ai:Nat} (D:cty.h.get id=Z (.I (.qc ty) ai A)):∃φ',jG P E nt np φ' ⟨cty.e,((cty.h.set id (Z (.qj J 1 (ah A)))).set cty.nx (Z (.I (.qc ty) ai A))).set i (Z (.C (Z s) (splice l j [.G cty.nx]))),cty.nx+1⟩ N w/\xc np V φ' (erHF cty.h) (erHF (((cty.h.set id (Z (.qj J 1 (ah A)))).set cty.nx (Z (.I (.qc ty) ai A))).set i (Z (.C (Z s) (splice l j [.G cty.nx]))))) w w:=by
 have hfr:=c.qz.fresh;have hidlt:=c.qz.low id _ D;have hblt:=c.qz.low i _ hb;have hbid:i≠id:=λe=>by rw[e,D]at hb;cases hb
 have hbn:i≠cty.nx:=by omega
 have hin:id≠cty.nx:=by omega
 generalize hh2:(((cty.h.set id (Z (.qj J 1 (ah A)))).set cty.nx (Z (.I (.qc ty) ai A))).set i (Z (.C (Z s) (splice l j [.G cty.nx]))))=h2;have kr:∀b,h2.get b=if b=i then Z (.C (Z s) (splice l j [.G cty.nx])) else if b=cty.nx then Z (.I (.qc ty) ai A) else if b=id then Z (.qj J 1 (ah A)) else cty.h.get b:=λb=>by
  rw[<- hh2,PT.get_set,PT.get_set,PT.get_set]
 have hr:b9 cty.h h2:=λb r hi=>by
  rw[bH]at hi ⊢;rw[kr];by_cases e1:b=i
  .subst e1;rw[hb]at hi;cases hi
  .rw[aA e1];by_cases e2:b=cty.nx
   .subst e2;rw[hfr]at hi;cases hi
   .rw[aA e2];by_cases e3:b=id
    .subst e3;rw[aG rfl];rw[D]at hi;exact hi
    .rw[aA e3];exact hi
 have hlo:=c.qz.C i _ l hb;obtain⟨l',hl'⟩:=eR cty.h l hlo;have hrow:cg h2 (.G cty.nx)=Z (dv J cty.nx 1 (l! A)):=by
  simp only[cg,bH,kr];rw[aA hbn.symm];simp only[bw,aC,iH,r9]
 have hsp:cO h2 (splice l j [.G cty.nx])=Z (splice l' j [dv J cty.nx 1 (l! A)]):=oL _ (fT hr _ _ hl') (by simp only[cO,hrow]);obtain⟨y,hy,hey⟩:=lK hl' _ _ hv;have hy0:y=dv J id 1 (l! A):=by
  simp only[cg,bH,D,aC,iH,r9,af]at hey;exact hey.symm
 subst hy0;have hinv:gV h2 (cty.nx+1):=by
  refine ⟨λb ty2 l2 hil=>?_,λb q hiq=>?_⟩
  .rw[kr]at hil;split at hil
   .simp only[af,eG.C.injEq]at hil;obtain⟨_,rfl⟩:=hil;exact li _ _ _ hsp
   .split at hil
    .cases hil
    .split at hil
     .cases hil
     .exact eY hr l2 (c.qz.C b _ l2 hil)
  .rw[kr]at hiq;split at hiq
   .omega
   .split at hiq
    .omega
    .split at hiq
     .omega
     .have:=c.qz.low b q hiq;omega
 have hdead:∀n,ow n=id->erHF h2 n=U:=λn a=>by
  unfold erHF;rw[kr,aA (by omega),aA (by omega),aG a];simp only[aC];cases ix n<;>rfl
 have hm0:∀n k,ow n=cty.nx->ix n=k+1->erHF h2 n=U:=λn k a hk=>by
  unfold erHF;rw[kr,aA (by omega),aG a,hk];rfl
 refine J_ c (λn=>if n=nm cty.nx then nm id else n) (λn a=>by rw[aA (λe=>a (by rw[e,dq]))]) hr hinv (λn b' d=>?_) λn m p q a hm he=>?_
 .show ∃i,erHF cty.h (if n=nm cty.nx then nm id else n)=Z i/\_;by_cases L:ow n=cty.nx
  .cases hix:ix n with
   |succ k=>rw[hm0 n k L hix]at d;cases d
   |zero=>
    have en:n=nm cty.nx:=by rw[<- L];exact pt hix
    rw[aG en];subst en;rw[bQ,kr,aA hbn.symm,aG rfl]at d;rw[bQ,D];exact⟨b',d,λφ' O' hφ keep oo hoo=>hoo.mono keep⟩
  .have en:n≠nm cty.nx:=λe=>L (by rw[e,dq])
   rw[aA en];by_cases F:ow n=id
   .rw[hdead n F]at d;cases d
   .by_cases f2:ow n=i
    .cases hix:ix n with
     |succ k=>
      unfold erHF at d;rw[kr,aG f2,hix]at d;cases d
     |zero=>
      have eb:n=nm i:=by rw[<- f2];exact pt hix
      subst eb;rw[bQ,kr,aG rfl]at d;simp only[aC,jY,hsp,af]at d;subst d;refine ⟨⟨s,.mx l'⟩,by rw[bQ,hb];simp only[aC,jY,hl'],λφ' O' hφ keep oo hoo=>?_⟩;have hlt:j<l! l':=(bq.1 hy).1;have hφ0:φ' (nm cty.nx)=V (nm id):=by rw[hφ];simp
      rw[mF rfl]at hoo ⊢;obtain⟨arr,a1,a2⟩:=hoo;refine ⟨arr,a1,?_⟩;unfold u_ at a2 ⊢;refine ⟨by simp only[BC.len]at a2 ⊢;rw[nB (by simp;omega)];exact a2.1,λo x z=>?_⟩;simp only[BC.get]at z a2;rw[mO (by simp;omega)]at z;split at z
      .obtain⟨q1,v,q2,q3⟩:=a2.2 o x z;exact⟨q1,v,q2,keep _ _ q3⟩
      .split at z
       .rename_i h3 h4;simp only[bP]at h4;have hj:o=j:=by omega
        subst hj;simp only[s_,dH,af]at z;subst z;obtain⟨_,v,a3,a4⟩:=a2.2 _ _ hy;refine ⟨by unfold dv;split<;>rfl,v,a3,?_⟩;unfold dv at a4 ⊢;by_cases hz:l! A=0
        .rw[aG (by simpa using hz)]at a4 ⊢;exact keep _ _ a4
        .rw[aA (by simpa using hz)]at a4 ⊢;exact J8 hφ0 a4
       .obtain⟨q1,v,q2,q3⟩:=a2.2 o x z;exact⟨q1,v,q2,keep _ _ q3⟩
    .cases z:cty.h.get (ow n) with
     |none=>
      unfold erHF at d;rw[kr,aA f2,aA L,aA F,z]at d;cases d
     |some B=>
      unfold erHF at d;rw[kr,aA f2,aA L,aA F,z]at d;simp only[aC]at d;rw[mB hr (λty l e=>c.qz.C _ _ l (by rw[z,e]))]at d;exact⟨b',by unfold erHF;rw[z];exact d,λφ' O' hφ keep oo hoo=>hoo.mono keep⟩
 .have he:(if n=nm cty.nx then nm id else n)=(if m=nm cty.nx then nm id else m):=he;by_cases L:n=nm cty.nx
  .rw[aG L]at he;by_cases F:m=nm cty.nx
   .rw[L,F]
   .rw[aA F]at he;rw[<- he,hdead _ (dq id)]at hm;cases hm
  .rw[aA L]at he;by_cases F:m=nm cty.nx
   .rw[aG F]at he;rw[he,hdead _ (dq id)]at a;cases a
   .rw[aA F]at he;exact he
def amp {s:TS} {w:World} (c:jG P E nt np V s N w) {s':TS} (h:amq s i=Z s'):s'.e=s.e/\∃φ',jG P E nt np φ' s' N w/\xc np V φ' (erHF s.h) (erHF s'.h) w w:=by
 unfold amq at h;split at h
 .rename_i d;exact amt c d h
 .rename_i d;exact amr c d h
 .split at h
  .cases h
  .exact amu c h
 .cases h
def VR {s:TS} {w:World} (c:jG P E nt np V s N w) (F:b9 s.h h) (A:erHF h=erHF s.h) (hinv:gV h (s.nx+1)):jG P E nt np V ⟨s.e,h,s.nx+1⟩ N w/\xc np V V (erHF s.h) (erHF h) w w:=by
 refine ⟨⟨by rw[A];exact c.qn,λt x d=>?_,λn k L=>uL (c.dom n k L),fQ c.low,hinv,λt x d=>mi F x (c.qp t x d),c.inert,c.size⟩,by rw[A];exact xc.refl _ _ _ _⟩;rw[A];simp only[fB]at d;cases he:s.e.get t with
 |none=>rw[he]at d;cases d
 |some q=>
  rw[he]at d;obtain⟨z,D⟩:=od s.h q (c.qp t q he);simp only[aC,fg F q z D,af]at d;subst d;exact c.env t _ (by simp only[fB,he,aC,D])
def aqq {s:TS} {w:World} (c:jG P E nt np V s N w) {φ:Ty} {es:Y (T.den×φ.den)} (L:s.h.get i=Z (.mp T φ es)) (a:mpE T φ es=J) (ty:TypeId) (S:Ty):jG P E nt np V ⟨s.e,(s.h.set i (Z (.I .qh s.nx []))).set s.nx (Z (.I (.ar ty S) 0 [])),s.nx+1⟩ N w/\xc np V V (erHF s.h) (erHF ((s.h.set i (Z (.I .qh s.nx []))).set s.nx (Z (.I (.ar ty S) 0 [])))) w w:=by
 have hfr:=c.qz.fresh;have hlt:=c.qz.low i _ L;generalize F:(s.h.set i (Z (.I .qh s.nx []))).set s.nx (Z (.I (.ar ty S) 0 []))=h';have A:∀id,h'.get id=if id=s.nx then Z (.I (.ar ty S) 0 []) else if id=i then Z (.I .qh s.nx []) else s.h.get id:=λid=>by
  rw[<- F,PT.get_set,PT.get_set]
 have D:b9 s.h h':=λid q hi=>by
  rw[bH]at hi ⊢;rw[A];by_cases z:id=s.nx
  .rw[z,hfr]at hi;cases hi
  .rw[aA z];by_cases d:id=i
   .rw[d,L]at hi;cases hi
   .rw[aA d];exact hi
 refine VR c D ?_ ⟨λid ty l hil=>?_,λid c' hic=>?_⟩
 .funext n;unfold erHF;rw[A];by_cases z:ow n=s.nx
  .rw[aG z,z,hfr];simp only[aC,wG];cases ix n<;>rfl
  .rw[aA z];by_cases d:ow n=i
   .rw[aG d,d,L];simp only[aC];cases ix n with
    |succ k=>rfl
    |zero=>
     simp only[NJ,jY,yW (W8 a),Li a,wI];rfl
   .rw[aA d];cases hx:s.h.get (ow n) with
    |none=>rfl
    |some B=>exact mB D (λty l e=>c.qz.C _ _ l (by rw[hx,e])) _ _
 .rw[A]at hil;split at hil
  .cases hil
  .split at hil
   .cases hil
   .exact eY D l (c.qz.C id _ l hil)
 .rw[A]at hic;split at hic
  .omega
  .split at hic
   .omega
   .have:=c.qz.low id c' hic;omega
def aqm {s:TS} {w:World} (c:jG P E nt np V s N w) (ai:Nat) (ty:TypeId):jG P E nt np V ⟨s.e,s.h.set s.nx (Z (.I (.qc ty) ai [])),s.nx+1⟩ N w/\erHF (s.h.set s.nx (Z (.I (.qc ty) ai [])))=erHF s.h:=by
 have hfr:=c.qz.fresh;have d:b9 s.h (s.h.set s.nx (Z (.I (.qc ty) ai []))):=b9.set λr d=>by rw[bH,hfr]at d;cases d
 have A:erHF (s.h.set s.nx (Z (.I (.qc ty) ai [])))=erHF s.h:=by
  funext n;unfold erHF;rw[PT.get_set];by_cases z:ow n=s.nx
  .rw[aG z,z,hfr];simp only[aC,wG];cases ix n<;>rfl
  .rw[aA z];cases D:s.h.get (ow n) with
   |none=>rfl
   |some B=>exact mB d (λty l e=>c.qz.C _ _ l (by rw[D,e])) _ _
 exact⟨(VR c d A (c.qz.set d (nZ _) (QE _) (λ_ _ he=>by cases he))).1,A⟩
end ren
def BQ:∀(l:Y t8) (acc:Nat),Sc l acc=acc|||Sc l 0
 |[],acc=>by simp[Sc]
 |o::r,acc=>by
  simp only[Sc];cases o.dst with
  |none=>exact BQ r acc
  |some d=>simp only[];rw[BQ r (acc|||fV d),BQ r (0|||fV d),wj,kW]
def Cd:∀(l:ι) (acc:Nat),N' l acc=acc|||N' l 0
 |[],acc=>by simp[N']
 |k::r,acc=>by simp only[N'];rw[Cd r (acc|||fV k),Cd r (0|||fV k),wj,kW]
def kc:∀(l:Y Adj) (acc:Nat),ku l acc=acc|||ku l 0
 |[],acc=>by simp[ku]
 |.nil k _ _::r,acc=>by simp only[ku];rw[kc r (acc|||fV k),kc r (0|||fV k),wj,kW]
 |.qb _ _ _ _::r,acc|.mpt _ _ _::r,acc|.mz _ _::r,acc=>by simp only[ku];exact kc r acc
 |.qx k _::r,acc=>by simp only[ku];rw[kc r (acc|||fV k),kc r (0|||fV k),wj,kW]
 |.pk _ _ _::r,acc|.fmp _ _ _ _::r,acc|.frw _ _ _ _::r,acc|.jm _ _::r,acc=>by simp only[ku];exact kc r acc
def g_:∀(c:TC) (acc:Nat),c.asg acc=acc|||c.asg 0
 |.zl ops _,acc=>BQ ops acc
 |.seq a b,acc=>by simp only[TC.asg];rw[g_ b (a.asg acc),g_ b (a.asg 0),g_ a acc,kW]
 |.zh A a b,acc=>by simp only[TC.asg];rw[g_ b (a.asg _),g_ b (a.asg (N' A.ks 0)),g_ a (N' A.ks acc),g_ a (N' A.ks 0),Cd A.ks acc,kW,kW,kW]
 |.cond _ a b,acc=>by simp only[TC.asg];rw[g_ b (a.asg acc),g_ b (a.asg 0),g_ a acc,kW]
 |.block _ b,acc=>g_ b acc
 |.zj A _ b,acc|.loop A b,acc=>by simp only[TC.asg];rw[g_ b (N' A.ks acc),g_ b (N' A.ks 0),Cd A.ks acc,kW]
 |.defer _ _ t,acc=>by simp[TC.asg]
 |.adj l c,acc=>by simp only[TC.asg];rw[g_ c (ku l acc),g_ c (ku l 0),kc l acc,kW]
 |.split _ _ _ _ c,acc=>g_ c acc
 |.bsp _ a b,acc=>by simp only[TC.asg];rw[g_ b (a.asg acc),g_ b (a.asg 0),g_ a acc,kW]
 |.unl _ b,acc=>g_ b acc
 |.skip,acc|.exit _,acc|.ret,acc|.zm,acc=>by simp[TC.asg]
def uZ {c:TC} (h:aO (c.asg 0) j=J):aO (c.asg i) j=J:=by rw[g_,bA,h];simp
def kD {c:TC} (h:aO i j=J):aO (c.asg i) j=J:=by rw[g_,bA,h];rfl
def Zd:∀{l:ι} {acc k:Nat},k∈l->aO (N' l acc) k=J
 |[],_,_,h=>by cases h
 |x::r,acc,k,h=>by
  simp only[N'];rcases bm.1 h with rfl|h
  .rw[Cd,bA,bA,bC.2 rfl];simp
  .exact Zd h
def VK:∀{l:Y t8} {acc:Nat} {o:t8} {d:Nat},o∈l->o.dst=Z d->aO (Sc l acc) d=J
 |[],_,_,_,h,_=>by cases h
 |x::r,acc,o,d,h,hd=>by
  simp only[Sc];rcases bm.1 h with rfl|h
  .rw[hd];simp only[];rw[BQ,bA,bA,bC.2 rfl];simp
  .exact VK h hd
def Zl:∀{e:h_} {d:ι} {vs:Y TV},kr e d=Z vs->l! vs=l! d/\∀(j k:Nat),d[j]? =Z k->∃v,vs[j]? =Z v/\e.get k=Z v
 |e,[],vs,h=>by simp only[kr,af]at h;subst h;exact⟨rfl,by simp⟩
 |e,k::r,vs,h=>by
  simp only[kr]at h;split at h
  .rename_i v D;split at h
   .rename_i l F;cases h;obtain⟨h1,h2⟩:=Zl F;refine ⟨by simp[h1],λj A z=>?_⟩;cases j with
    |zero=>simp at z;subst z;exact⟨v,rfl,D⟩
    |succ j=>simpa using h2 j A (by simpa using z)
   .cases h
  .cases h
def K8 {e:h_} (hi:sD e h):∀{z:ι} {vs:Y TV},kr e z=Z vs->lZ h vs=J
 |[],vs,d=>by simp only[kr,af]at d;subst d;rfl
 |k::r,vs,d=>by
  simp only[kr]at d;split at d
  .rename_i v A;split at d
   .rename_i l D;cases d;simp only[lZ,au];exact⟨hi k v A,K8 hi D⟩
   .cases d
  .cases d
def Et:∀{e:h_} {z:ι} {vs:Y TV},l! vs=l! z->∀t v,(aa0 e z vs).get t=Z v->(∃j:Nat,z[j]? =Z t/\vs[j]? =Z v)\/(t∉z/\e.get t=Z v)
 |e,[],[],_,t,v,h=>.inr ⟨by simp,h⟩
 |e,[],_::_,d,t,v,h|e,_::_,[],d,t,v,h=>by simp at d
 |e,k::r,u::l,d,t,v,h=>by
  simp only[aa0,PT.get_set]at h;split at h
  .rename_i A;subst A;cases h;exact .inl ⟨0,rfl,rfl⟩
  .rename_i A;rcases Et (by simpa using d) t v h with ⟨j,h1,h2⟩|⟨h1,h2⟩
   .exact .inl ⟨j+1,by simpa using h1,by simpa using h2⟩
   .exact .inr ⟨by simp[A,h1],h2⟩
def vi {e:h_}:∀{z:ι} {k:Nat} {v:TV},(E0 i e z).get k=Z v->k∈z/\e.get k=Z v/\vO v=J/\aO i k=aa
 |[],k,v,h=>by simp[E0,PT.get]at h
 |x::r,k,v,h=>by
  simp only[E0]at h;split at h
  .rename_i u A;split at h
   .rename_i d;simp only[au,cU]at d;rw[PT.get_set]at h;split at h
    .rename_i D;subst D;cases h;exact⟨by simp,A,d.1,d.2⟩
    .obtain⟨h1,h2⟩:=vi h;exact⟨by simp[h1],h2⟩
   .obtain⟨h1,h2⟩:=vi h;exact⟨by simp[h1],h2⟩
  .obtain⟨h1,h2⟩:=vi h;exact⟨by simp[h1],h2⟩
def Lx {e0 e:h_}:∀{z:ι},Kh i e0 e z=J->∀k v,k∈z->e0.get k=Z v->vO v=J->aO i k=aa->∃F,e.get k=Z F
 |[],_,k,v,h,_,_,_=>by cases h
 |x::r,d,k,v,h,A,hf,D=>by
  simp only[Kh,au]at d;rcases bm.1 h with rfl|h
  .have h1:=d.1;rw[A]at h1;simp only[hf,D,yI,yJ]at h1;cases L:e.get k with
   |none=>rw[L]at h1;cases h1
   |some u=>exact⟨u,rfl⟩
  .exact Lx d.2 k v h A hf D
section walk
variable {P:Program} {E:Nat->Prop} {nt np:Nat}
def UE (z:af5 u=J) (d:cg h u=Z y):Le y .emp:=by
 cases u with
 |nil=>simp only[cg,af]at d;subst d;exact Le.nilEmp
 |emp=>simp only[cg,af]at d;subst d;exact Le.refl _
 |_=>cases z
def ZS {s:TS} {w:World} (c:jG P E nt np V s N w) (ty:TypeId) (T:Ty):jG P E nt np V ⟨s.e,s.h.set s.nx (Z (.F ty J T [])),s.nx+1⟩ N w/\erHF (s.h.set s.nx (Z (.F ty J T [])))=erHF s.h/\b9 s.h (s.h.set s.nx (Z (.F ty J T []))):=by
 have hfr:=c.qz.fresh;have A:b9 s.h (s.h.set s.nx (Z (.F ty J T []))):=b9.set λr A=>by rw[bH,hfr]at A;cases A
 have D:erHF (s.h.set s.nx (Z (.F ty J T [])))=erHF s.h:=by
  funext n;by_cases a:n=nm s.nx
  .subst a;rw[bQ,bQ,PT.get_set,aG rfl,hfr];rfl
  .refine mg c.qz A (iA.set (by rw[hfr];rfl) rfl) λi e=>?_
   subst e;rw[PT.get_set,aA (λe=>a (by rw[e]))]
 refine ⟨⟨by rw[D];exact c.qn,?_,λn k hk=>uL (c.dom n k hk),fQ c.low,c.qz.set A (nZ _) (QE _) (λ_ _ he=>by cases he),?_,c.inert,c.size⟩,D,A⟩
 .intro t x d;rw[D];simp only[fB]at d;cases he:s.e.get t with
  |none=>rw[he]at d;cases d
  |some q=>
   rw[he]at d;obtain⟨z,L⟩:=od s.h q (c.qp t q he);simp only[aC,fg A q z L,af]at d;subst d;exact c.env t _ (by simp only[fB,he,aC,L])
 .intro t x d;exact mi A x (c.qp t x d)
def AY :∀{a b:Y TV},lZ h a=J->lZ h b=J->lZ h (a++b)=J
 |[],_,_,d=>d
 |x::r,b,z,d=>by
  simp only[lZ,au]at z;simp only[iE,lZ,au];exact⟨z.1,AY z.2 d⟩
def Pv :∀{a:Y TV} (n:Nat),lZ h a=J->lZ h (a.take n)=J
 |[],n,_=>by simp[lZ]
 |x::r,0,_=>rfl
 |x::r,n+1,d=>by
  simp only[lZ,au]at d;simp only[xA,lZ,au];exact⟨d.1,Pv n d.2⟩
def Pw :∀{a:Y TV} (n:Nat),lZ h a=J->lZ h (a.drop n)=J
 |[],n,_=>by simp[lZ]
 |x::r,0,d=>d
 |x::r,n+1,d=>by
  simp only[lZ,au]at d;simp only[xD];exact Pw n d.2
def AR {l:Y R} {x:R} (h:l[j]? =Z x):splice l j [x]=l:=by
 have d:j<l! l:=by
  rcases bu j (l! l) with h'|h'
  .exact h'
  .rw[bK h']at h;cases h
 rw[aD d,af]at h;unfold splice;subst h;simp
def VS {s:TS} {w:World} (c:jG P E nt np V s N w) {id:Nat} {cty:M TypeId} {l:Y TV} {v:TV} (L:s.h.get id=Z (.C cty l)) (hv:l[j]? =Z v) (hn:af5 v=J) (hu:cg s.h u=Z .emp) (huo:N9 s.h u=J):
 jG P E nt np V ⟨s.e,s.h.set id (Z (.C cty (splice l j [u]))),s.nx⟩ N w/\xc np V V (erHF s.h) (erHF (s.h.set id (Z (.C cty (splice l j [u]))))) w w:=by
 have A:b9 s.h (s.h.set id (Z (.C cty (splice l j [u])))):=b9.set λr A=>by rw[bH,L]at A;cases A
 have hlo:=c.qz.C id _ l L;obtain⟨l',D⟩:=eR s.h l hlo;have hsp:cO s.h (splice l j [u])=Z (splice l' j [.emp]):=oL j D (by simp only[cO,hu]);have hsp':cO (s.h.set id (Z (.C cty (splice l j [u])))) (splice l j [u])=Z (splice l' j [.emp]):=fT A _ _ hsp;obtain⟨y,hy,hey⟩:=lK D j v hv;have hold:erHF s.h (nm id)=Z (ZJ cty l'):=by rw[bQ,L];cases cty<;>(simp only[aC,jY,D];rfl)
 have hnew:erHF (s.h.set id (Z (.C cty (splice l j [u])))) (nm id)=Z (ZJ cty (splice l' j [.emp])):=by
  rw[bQ,PT.get_set,aG rfl];cases cty<;>(simp only[aC,jY,hsp'];rfl)
 have hoth:∀n,n≠nm id->erHF (s.h.set id (Z (.C cty (splice l j [u])))) n=erHF s.h n:=λn a=>by
  refine mg c.qz A (iA.set (by rw[L];rfl) rfl) λi e=>?_
  subst e;rw[PT.get_set,aA (λe=>a (by rw[e]))]
 have hdom:rq (erHF s.h) (erHF (s.h.set id (Z (.C cty (splice l j [u]))))):=λn b F=>by
  by_cases e:n=nm id
  .subst e;exact⟨_,hold⟩
  .rw[hoth n e]at F;exact⟨b,F⟩
 have hcell:∀ty,cty=Z ty->∀x∈l',x.isCell=J:=λty hty x d=>by
  subst hty;obtain⟨k,hk⟩:=fY d;obtain⟨q,_,_,hat⟩:=c.qn.at_ _ _ hold;unfold Z2 at hat;obtain⟨ob,_,hob⟩:=hat;rw[show ZJ (Z ty) l'=⟨ty,.mx l'⟩ from rfl,mF rfl]at hob;obtain⟨arr,_,hca⟩:=hob;exact (hca.2 k x hk).1
 have hV:JW (erHF s.h) (erHF (s.h.set id (Z (.C cty (splice l j [u]))))):=⟨hdom,λn b b' h1 h2=>by
  by_cases e:n=nm id
  .subst e;rw[hold]at h1;cases h1;rw[hnew]at h2;cases h2;have hle:gO (erHF s.h) (erHF (s.h.set id (Z (.C cty (splice l j [u]))))) l' (splice l' j [.emp]):=by
    have:=gO.splice j (gO.refl hdom l') (b:=[y]) (b':=[.emp]) ⟨(UE hn hey).toH hdom,trivial⟩;rw[AR hy]at this;exact this
   cases cty with
   |none=>exact fC.told hle
   |some ty=>
    refine fC.C rfl rfl hle λx d=>?_
    have d:x∈splice l' j [.emp]:=d;unfold splice at d;rw[bE,bE,aE]at d;rcases d with (d|d)|d
    .exact hcell ty rfl x (il d)
    .subst d;rfl
    .exact hcell ty rfl x (List.mem_of_mem_drop d)
  .rw[hoth n e,h1]at h2;cases h2;exact fC.refl hdom b⟩
 refine ⟨⟨hV.qn c.qn,?_,c.dom,c.low,c.qz.set A (c.qz.low id _ L) (cA _) (λty l2 he=>?_),?_,c.inert,c.size⟩,⟨Gf.refl _ _,λk _ ho=>hdom.own ho,λ_ _=>rfl⟩⟩
 .intro t x d;simp only[fB]at d;cases he:s.e.get t with
  |none=>rw[he]at d;cases d
  |some q=>
   rw[he]at d;obtain⟨z,hz⟩:=od s.h q (c.qp t q he);simp only[aC,fg A q z hz,af]at d;subst d;exact (c.env t _ (by simp only[fB,he,aC,hz])).dom hdom
 .simp only[eG.C.injEq]at he;obtain⟨_,rfl⟩:=he;refine eY A _ ?_;unfold splice;exact AY (AY (Pv _ hlo) (by simp only[lZ,huo,fw])) (Pw _ hlo)
 .intro t x d;exact mi A x (c.qp t x d)
def jG.congr {s s':TS} {w:World} (c:jG P E nt np V s N w) (he:∀t,s'.e.get t=s.e.get t) (hh:∀i,s'.h.get i=s.h.get i) (F:s'.nx=s.nx):jG P E nt np V s' N w/\erHF s'.h=erHF s.h:=by
 have D:b9 s.h s'.h:=λi r hi=>by rw[bH]at hi ⊢;rw[hh];exact hi
 have L:erHF s'.h=erHF s.h:=by funext n;exact mg c.qz D (λi k=>by rw[hh]) λi _=>hh i
 refine ⟨⟨by rw[L];exact c.qn,?_,by rw[F];exact c.dom,by rw[F];exact c.low,⟨λi ty l d=>?_,λi b d=>?_⟩,λt v hv=>?_,c.inert,c.size⟩,L⟩
 .intro t x A;rw[L];simp only[fB,he]at A;cases d:s.e.get t with
  |none=>rw[d]at A;cases A
  |some v=>
   rw[d]at A;obtain⟨z,a⟩:=od s.h v (c.qp t v d);simp only[aC,fg D v z a,af]at A;subst A;exact c.env t _ (by simp only[fB,d,aC,a])
 .rw[hh]at d;exact eY D l (c.qz.C i _ l d)
 .rw[hh]at d;rw[F];exact c.qz.low i b d
 .rw[he]at hv;exact mi D v (c.qp t v hv)
def S1 {f:Nat->M R} {r:R}:∀{m i:Nat},spl a f i m=Z r->∃j,a=aR j/\f j=Z r
 |0,i,h=>by cases h
 |m+1,i,h=>by
  simp only[spl]at h;rcases lT h with ⟨h1,h2⟩|⟨_,h2⟩
  .exact⟨i,bl h1,h2⟩
  .exact S1 h2
def adw {s s':TS} {w:World} (c:jG P E nt np V s N w) {kd:IntKind} {v:Int} (h1:afb s i j=Z (kd,v)) (h2:WL s i j kd v=Z s'):jG P E nt np V s' N w/\erHF s'.h=erHF s.h/\∀t,s'.e.get t=s.e.get t:=by
 unfold afb at h1;unfold WL at h2;cases A:s.e.get i with
 |none=>rw[A]at h1;cases h1
 |some x=>
  rw[A]at h1 h2;cases x with
  |f T q=>
   cases T with
   |int kd'=>
    simp only[af,aI]at h1;obtain⟨rfl,rfl⟩:=h1;simp only[af]at h2;subst h2;have he:∀t,(s.e.set i (Z (.f (.int kd') q))).get t=s.e.get t:=λt=>by
     rw[PT.get_set];split
     .rename_i e;subst e;exact A.symm
     .rfl
    obtain⟨L,F⟩:=c.congr (s':=⟨s.e.set i (Z (.f (.int kd') q)),s.h,s.nx⟩) he (λ_=>rfl) rfl;exact⟨L,F,he⟩
   |_=>cases h1
  |H a d=>
   simp only[]at h1 h2;cases D:s.h.get a with
   |none=>rw[D]at h1;cases h1
   |some b=>
    rw[D]at h1 h2;cases b with
    |C ty l=>
     cases ty with
     |none=>cases h1
     |some ty=>
     simp only[]at h1 h2;cases z:l[d+j]? with
     |none=>rw[z]at h1;cases h1
     |some y=>
      rw[z]at h1;cases y with
      |f T q=>
       cases T with
       |int kd'=>
        simp only[af,aI]at h1;obtain⟨rfl,rfl⟩:=h1;simp only[af]at h2;subst h2;have hh:∀k,(s.h.set a (Z (.C (Z ty) (splice l (d+j) [.f (.int kd') q])))).get k=s.h.get k:=λk=>by
         rw[PT.get_set];split
         .rename_i e;subst e;rw[D,AR z]
         .rfl
        obtain⟨L,F⟩:=c.congr (s':=⟨s.e,s.h.set a (Z (.C (Z ty) (splice l (d+j) [.f (.int kd') q]))),s.nx⟩) (λ_=>rfl) hh rfl;exact⟨L,F,λ_=>rfl⟩
       |_=>cases h1
      |_=>cases h1
    |_=>cases h1
  |_=>cases h1
mutual
def Pj (id sz n:Nat):∀v:TV,vO v=J->NS id sz n v=v
 |.f _ _,_|.zk _ _ _ _ _,_|.emp,_|.nil,_|.undef,_|.np,_|.qv,_=>rfl
 |.agg l,h|.qg l,h=>by simp only[NS];rw[Du id sz n l h]
 |.ql _ _ _ _,h|.H _ _,h|.qw _ _ _,h|.G _,h|.zp _ _,h|.mp _,h|.qd _ _,h|.qy _ _,h|.sb _,h=>by cases h
def Du (id sz n:Nat):∀l:Y TV,rU l=J->Eo id sz n l=l
 |[],_=>rfl
 |x::r,h=>by
  simp only[rU,au]at h;simp only[Eo];rw[Pj id sz n x h.1,Du id sz n r h.2]
end
section subs
variable {id sz n:Nat} {h h':bk}
mutual
def QL (hr:b9 h h') (hid:eu h' id=Z (aa,sz,n)):∀(v:TV) (y:AV),cg h v=Z y->cg h' (NS id sz n v)=Z y
 |.qw i s m,y,he=>by
  simp only[cg,af]at he;subst he;simp only[NS];split
  .rename_i hq;simp only[au]at hq;have e1:=av hq.1.1;have e2:=av hq.1.2;have e3:=av hq.2;subst e1 e2 e3;simp only[cg,hid,dv,eO,bM,c8]
  .rfl
 |.agg l,y,he|.qg l,y,he|.qy g l,y,he=>by
  simp only[cg]at he;cases hl:cO h l with
  |none=>rw[hl]at he;cases he
  |some l'=>rw[hl]at he;simp only[NS,cg,xI hr hid l l' hl];exact he
 |.f T v,y,he|.zk T xs j hj off,y,he|.ql _ _ _ _,y,he|.H _ _,y,he|.G _,y,he|.zp _ _,y,he|.emp,y,he|.nil,y,he|.mp _,y,he|.undef,y,he|.np,y,he|.qv,y,he|.qd _ _,y,he|.sb _,y,he=>fg hr _ _ he
def xI (hr:b9 h h') (hid:eu h' id=Z (aa,sz,n)):∀(l:Y TV) (l':Y AV),cO h l=Z l'->cO h' (Eo id sz n l)=Z l'
 |[],l',he=>by simp only[cO,af]at he;subst he;rfl
 |x::r,l',he=>by
  obtain⟨y,l2,rfl,h1,h2⟩:=dh he;simp only[Eo];exact qC (QL hr hid x y h1) (xI hr hid r l2 h2)
end
end subs
def aq7 {s:TS} {w:World} (c:jG P E nt np V s N w) {n:Nat} {s':TS} (hp:pkS s T i j n=Z s'):jG P E nt np V s' N w/\xc np V V (erHF s.h) (erHF s'.h) w w/\fq 0 s.e s'.e:=by
 unfold pkS at hp;split at hp
 .rename_i ty l hb;split at hp
  .rename_i hs;have hs:=av hs;subst hs;split at hp
   .rename_i xs m hpk;split at hp
    .cases hp
    .rename_i hmid;cases hp;have hm:dG s.h m:=QU n l xs m hpk;obtain⟨l',hl⟩:=eR s.h l (c.qz.C i _ l hb);have hidlt:=c.qz.low i _ hb;have kr:∀id,((PT.updI (λ_ b=>WG i T.size n b) 1 0 (dM m s.h)).set i (Z (.F ty aa T xs))).get id=if id=i then Z (.F ty aa T xs) else if aO m id then (s.h.get id).map uC else (s.h.get id).map (WG i T.size n):=λid=>by
      rw[PT.get_set];by_cases e:id=i
      .rw[aG e,aG e]
      .rw[aA e,aA e,PT.get_updI,iP];split
       .cases d:s.h.get id with
        |none=>rfl
        |some b=>
         obtain⟨p1,s1,n1,e1⟩:=Lv b;simp only[bx,e1,WG]
       .rfl
     generalize hH2:((PT.updI (λ_ b=>WG i T.size n b) 1 0 (dM m s.h)).set i (Z (.F ty aa T xs)))=h2 at kr ⊢;have hr:b9 s.h h2:=λid r hi=>by
      rw[bH]at hi ⊢;rw[kr];by_cases e:id=i
      .subst e;rw[hb]at hi;cases hi
      .rw[aA e];cases d:s.h.get id with
       |none=>rw[d]at hi;cases hi
       |some b=>
        rw[d]at hi;split
        .exact Pp hi
        .cases b<;>first|exact hi|cases hi
     have hnone:∀id,aO m id=J->erHF h2 (nm id)=U:=λid hi=>by
      have e:id≠i:=λe=>by subst e;exact hmid hi
      obtain⟨ty',p',T',xs',D⟩:=hm id hi;rw[bQ,kr,aA e,aG hi,D];rfl
     have hme:iA s.h h2:=λid k=>by
      rw[kr];by_cases e:id=i
      .rw[aG e,e,hb];rfl
      .rw[aA e];split
       .rename_i hmi;obtain⟨ty',p',T',xs',D⟩:=hm id hmi;rw[D];rfl
       .cases d:s.h.get id with
        |none=>rfl
        |some b=>cases b<;>rfl
     have hdom:rq (erHF s.h) (erHF h2):=λq b hq=>by
      rcases Mf hme hq with h0|⟨id,cc,rfl,A,h4⟩
      .exact⟨b,h0⟩
      rw[bQ];rw[kr]at A;by_cases e:id=i
      .subst e;rw[hb];simp only[aC,jY,hl];exact⟨_,rfl⟩
      .rw[aA e]at A;cases d:s.h.get id with
       |none=>rw[d]at A;split at A<;>cases A
       |some b0=>
        rw[d]at A;split at A
        .simp only[bx,af]at A;subst A;exact (Me (i:=0) (k:=0) h4).elim
        .simp only[bx,af]at A;subst A;simp only[aC];cases b0 with
         |C ty0 l0=>
          obtain⟨l0',hl0⟩:=eR s.h l0 (c.qz.C id _ l0 d);exact⟨ZJ ty0 l0',by cases ty0<;>(simp only[jY,hl0];rfl)⟩
         |_=>exact⟨_,h4⟩
     have giv:Ea s.h (erHF s.h) (erHF h2) m:=λid hi=>⟨rfl,hnone id hi⟩
     obtain⟨hle,hlen⟩:=EH hdom n l xs m l' hpk hl giv;have hrow:eu h2 i=Z (aa,T.size,n):=by rw[bH,kr,aG rfl,<-hlen];rfl
     have hV:JW (erHF s.h) (erHF h2):=⟨hdom,λq b b' A h4=>by
      rcases Mf hme h4 with h0|⟨id,cc,rfl,h5,h6⟩
      .rw[A]at h0;cases h0;exact fC.refl hdom _
      rw[bQ]at A;rw[kr]at h5;by_cases e:id=i
      .subst e;rw[aG rfl]at h5;cases h5;rw[hb]at A;simp only[aC,jY,hl,af]at A;subst A;simp only[jY,eO,bM,c8,af]at h6;subst h6;refine fC.C rfl rfl hle λx D=>?_
       simp only[BC.toMx]at D;obtain⟨q,hq,rfl⟩:=cq.1 D;exact mA T _ q hq
      .rw[aA e]at h5;cases d:s.h.get id with
       |none=>rw[d]at h5;split at h5<;>cases h5
       |some b0=>
        rw[d]at h5 A;split at h5
        .simp only[bx,af]at h5;subst h5;exact (Me (i:=0) (k:=0) h6).elim
        .simp only[bx,af]at h5;subst h5;have:b=b':=by
          simp only[aC]at A;cases b0 with
          |C ty0 l0=>
           obtain⟨l0',hl0⟩:=eR s.h l0 (c.qz.C id _ l0 d);cases ty0<;>
            (simp only[jY,hl0,af]at A
             simp only[WG,jY,xI hr hrow l0 l0' hl0,af]at h6;rw[<- A,<-h6])
          |F ty1 p1 T1 xs1=>
           have L:jY h2 (.F ty1 p1 T1 xs1)=Z b:=A;exact fE (L.symm.trans h6)
          |qj p1 s1 n1=>
           have L:jY h2 (.qj p1 s1 n1)=Z b:=A;exact fE (L.symm.trans h6)
          |mp K1 V1 es1=>
           have L:jY h2 (.mp K1 V1 es1)=Z b:=A;exact fE (L.symm.trans h6)
          |I F1 a1 x1=>
           have L:jY h2 (.I F1 a1 x1)=Z b:=A;exact fE (L.symm.trans h6)
          |qm F1 a1 x1 k1 p1=>
           have L:jY h2 (.qm F1 a1 x1 k1 p1)=Z b:=A;exact fE (L.symm.trans h6)
         subst this;exact fC.refl hdom b⟩
     refine ⟨⟨hV.qn c.qn,?_,c.dom,c.low,⟨λid ty' l2 d=>?_,λid b d=>?_⟩,?_,c.inert,c.size⟩,⟨Gf.refl _ _,λk _ hk=>hdom.own hk,λ_ _=>rfl⟩,?_⟩
     .intro t x D;simp only[fB,PT.get_updI]at D;cases he:s.e.get t with
      |none=>rw[he]at D;cases D
      |some v=>
       rw[he]at D;obtain⟨z,hz⟩:=od s.h v (c.qp t v he);simp only[bx,aC,QL hr hrow v z hz,af]at D;subst D;exact (c.env t _ (by simp only[fB,he,aC,hz])).dom hdom
     .rw[kr]at d;by_cases e:id=i
      .rw[aG e]at d;cases d
      .rw[aA e]at d;cases hg0:s.h.get id with
       |none=>rw[hg0]at d;split at d<;>cases d
       |some b0=>
        rw[hg0]at d;split at d
        .simp only[bx,af]at d;exact (Bd d).elim
        .simp only[bx,af]at d;cases b0 with
         |C ty0 l0=>
          simp only[WG,eG.C.injEq]at d;obtain⟨_,rfl⟩:=d;obtain⟨l0',hl0⟩:=eR s.h l0 (c.qz.C id _ l0 hg0);exact li _ _ _ (xI hr hrow l0 l0' hl0)
         |_=>cases d
     .rw[kr]at d;by_cases e:id=i
      .subst e;exact hidlt
      .rw[aA e]at d;cases hg0:s.h.get id with
       |none=>rw[hg0]at d;split at d<;>cases d
       |some b0=>exact c.qz.low id b0 hg0
     .intro t x D;simp only[PT.get_updI]at D;cases he:s.e.get t with
      |none=>rw[he]at D;cases D
      |some v=>
       rw[he]at D;simp only[bx,af]at D;subst D;obtain⟨z,hz⟩:=od s.h v (c.qp t v he);exact Ha _ _ _ (QL hr hrow v z hz)
     .intro k _ v' a;simp only[PT.get_updI]at a;cases he:s.e.get k with
      |none=>rw[he]at a;cases a
      |some v=>
       rw[he]at a;simp only[bx,af]at a;subst a;exact⟨v,rfl,λhf=>Pj _ _ _ v hf⟩
   .cases hp
  .cases hp
 .cases hp
def aq2 {s:TS} {w:World} (c:jG P E nt np V s N w) {s':TS} (h:Hu s (.qx i j)=Z s'):∃φ',jG P E nt np φ' s' N w/\xc np V φ' (erHF s.h) (erHF s'.h) w w/\fq (ku [.qx i j] 0) s.e s'.e:=by
 simp only[Hu]at h;split at h
 .rename_i b o hk;split at h
  .rename_i cty l hb;split at h
   .rename_i id hv;split at h
    .rename_i ty p T xs A;cases h;have hfr:=c.qz.fresh;have hidlt:=c.qz.low id _ A;have hblt:=c.qz.low b _ hb;have hbid:b≠id:=λe=>by rw[e,A]at hb;cases hb
     have hbn:b≠s.nx:=by omega
     have hin:id≠s.nx:=by omega
     generalize hh2:(((s.h.set id (Z (.qj p T.size (l! xs)))).set s.nx (Z (.F ty p T xs))).set b (Z (.C (Z cty) (splice l (o+j) [.G s.nx]))))=h2;have kr:∀k,h2.get k=if k=b then Z (.C (Z cty) (splice l (o+j) [.G s.nx])) else if k=s.nx then Z (.F ty p T xs) else if k=id then Z (.qj p T.size (l! xs)) else s.h.get k:=λk=>by
      rw[<- hh2,PT.get_set,PT.get_set,PT.get_set]
     have hr:b9 s.h h2:=λk r hi=>by
      rw[bH]at hi ⊢;rw[kr];by_cases e1:k=b
      .subst e1;rw[hb]at hi;cases hi
      .rw[aA e1];by_cases e2:k=s.nx
       .subst e2;rw[hfr]at hi;cases hi
       .rw[aA e2];by_cases D:k=id
        .subst D;rw[aG rfl];rw[A]at hi;exact hi
        .rw[aA D];exact hi
     have hlo:=c.qz.C b _ l hb;obtain⟨l',hl'⟩:=eR s.h l hlo;have hrow:cg h2 (.G s.nx)=Z (dv p s.nx T.size (l! xs)):=by
      simp only[cg,bH,kr];rw[aA hbn.symm];simp only[bw,aC,iH]
     have hsp:cO h2 (splice l (o+j) [.G s.nx])=Z (splice l' (o+j) [dv p s.nx T.size (l! xs)]):=oL _ (fT hr _ _ hl') (by simp only[cO,hrow]);obtain⟨y,hy,hey⟩:=lK hl' _ _ hv;have hy0:y=dv p id T.size (l! xs):=by
      simp only[cg,bH,A,aC,iH,af]at hey;exact hey.symm
     subst hy0;have hold:erHF s.h (nm b)=Z ⟨cty,.mx l'⟩:=by rw[bQ,hb];simp only[aC,jY,hl']
     have hnew:erHF h2 (nm b)=Z ⟨cty,.mx (splice l' (o+j) [dv p s.nx T.size (l! xs)])⟩:=by
      rw[bQ,kr,aG rfl];simp only[aC,jY,hsp]
     have hdead:erHF h2 (nm id)=U:=by rw[bQ,kr,aA hbid.symm,aA hin,aG rfl];rfl
     have hnx2:erHF h2 (nm s.nx)=if p&&l! xs==0 then U else Z ⟨ty,.fz (xs.flatMap (bT T))⟩:=by rw[bQ,kr,aA hbn.symm,aG rfl];rfl
     have hid0:erHF s.h (nm id)=if p&&l! xs==0 then U else Z ⟨ty,.fz (xs.flatMap (bT T))⟩:=by rw[bQ,A];rfl
     have hoth:∀n,n≠nm b->n≠nm s.nx->n≠nm id->erHF h2 n=erHF s.h n:=λn e1 e2 D=>mg c.qz hr (iA.of λk=>by
      rw[kr];by_cases f1:k=b
      .rw[aG f1,f1,hb];exact .inr ⟨rfl,rfl⟩
      .rw[aA f1];by_cases f2:k=s.nx
       .rw[aG f2,f2,hfr];exact .inr ⟨rfl,rfl⟩
       .rw[aA f2];by_cases f3:k=id
        .rw[aG f3,f3,A];exact .inr ⟨rfl,rfl⟩
        .rw[aA f3];exact .inl rfl) λk e=>by
      subst e;rw[kr,aA (λe=>e1 (by rw[e])),aA (λe=>e2 (by rw[e])),aA (λe=>D (by rw[e]))]
     have hnb:nm b≠nm s.nx:=λe=>hbn (uj e)
     have hbi:nm b≠nm id:=λe=>hbid (uj e)
     have hni:nm s.nx≠nm id:=λe=>hin (uj e).symm
     have hinv:gV h2 (s.nx+1):=by
      refine ⟨λk ty2 l2 hil=>?_,λk q hiq=>?_⟩
      .rw[kr]at hil;split at hil
       .simp only[af,eG.C.injEq]at hil;obtain⟨_,rfl⟩:=hil;exact li _ _ _ hsp
       .split at hil
        .cases hil
        .split at hil
         .cases hil
         .exact eY hr l2 (c.qz.C k _ l2 hil)
      .rw[kr]at hiq;split at hiq
       .omega
       .split at hiq
        .omega
        .split at hiq
         .omega
         .have:=c.qz.low k q hiq;omega
     have hE:∀t x,fB s.e h2 t=Z x->fB s.e s.h t=Z x:=λt x d=>by
      simp only[fB]at d ⊢;cases he:s.e.get t with
      |none=>rw[he]at d;cases d
      |some q=>
       rw[he]at d;obtain⟨z,hz⟩:=od s.h q (c.qp t q he);simp only[aC,fg hr q z hz,af]at d;subst d;simp only[aC,hz]
     by_cases hp:(p&&l! xs==0)=J
     ·
      have hH:erHF h2=erHF s.h:=by
       funext n;by_cases e1:n=nm b
       .subst e1;rw[hold,hnew];have:dv p s.nx T.size (l! xs)=dv p id T.size (l! xs):=by unfold dv;rw[aG hp,aG hp]
        rw[this,AR hy]
       .by_cases e2:n=nm s.nx
        .subst e2;rw[hnx2,aG hp,bQ,hfr];rfl
        .by_cases D:n=nm id
         .subst D;rw[hdead,hid0,aG hp]
         .exact hoth n e1 e2 D
      refine ⟨V,⟨by rw[hH];exact c.qn,λt x d=>by rw[hH];exact c.env t x (hE t x d),λn q a=>uL (c.dom n q a),fQ c.low,hinv,λt x d=>mi hr x (c.qp t x d),c.inert,c.size⟩,by rw[hH];exact xc.refl _ _ _ _,fq.refl _ _⟩
     .have hid1:erHF s.h (nm id)=Z ⟨ty,.fz (xs.flatMap (bT T))⟩:=by rw[hid0,aA hp]
      obtain⟨kk,k1,k2,ob,k3,k4⟩:=c.qn.at_ _ _ hid1;have hφn:V (nm s.nx)=U:=by
       cases a:V (nm s.nx) with
       |none=>rfl
       |some q=>have:=c.dom _ q a;rw[dq]at this;omega
      let nw:HF:=λn=>if n=nm s.nx then Z ⟨ty,.fz (xs.flatMap (bT T))⟩ else U
      have hsh:Hx w w kk ob:=⟨rfl,rfl,rfl,rfl,k3,λ_ _=>rfl,λ_=>rfl⟩
      obtain⟨φ',p1,p2,p3,p4⟩:=c.qn.wren hid1 k1 hφn hsh k4 nw (by simp[nw]) (by simp only[nw];rw[aA hni.symm]);have hb1:eW (erHF s.h) [nm s.nx,nm id] nw (nm b)=Z ⟨cty,.mx l'⟩:=by
       unfold eW;rw[aA (by simp[hnb,hbi]),hold]
      obtain⟨kb,b1,b2,ob2,b3,b4⟩:=p4.at_ _ _ hb1;have hlt:o+j<l! l':=by
       rcases bu (o+j) (l! l') with h'|h'
       .exact h'
       .rw[bK h']at hy;cases hy
      have hob:gw φ' (tot E φ' (eW (erHF s.h) [nm s.nx,nm id] nw)) w ⟨cty,.mx (splice l' (o+j) [dv p s.nx T.size (l! xs)])⟩ ob2:=by
       rw[mF rfl]at b4 ⊢;obtain⟨arr,a1,a2⟩:=b4;refine ⟨arr,a1,?_⟩;unfold u_ at a2 ⊢;refine ⟨by simp only[BC.len]at a2 ⊢;rw[nB (by simp;omega)];exact a2.1,λoff x d=>?_⟩;simp only[BC.get]at d a2;rw[mO (by simp;omega)]at d;split at d
       .exact a2.2 off x d
       .split at d
        .rename_i h3 L;simp only[bP]at L;have hj:off=o+j:=by omega
         subst hj;simp only[s_,dH,af]at d;subst d;obtain⟨_,v,a3,a4⟩:=a2.2 _ _ hy;unfold dv at a4 ⊢;rw[aA hp]at a4 ⊢;refine ⟨rfl,v,a3,?_⟩;cases a4 with
         |@G _ _ _ cc q hφq hn hc hs2=>
          have:=p2.sub _ _ k1;rw[this,af]at hφq;subst hφq;exact .G p1 hn hc hs2
        .exact a2.2 off x d
      obtain⟨q1,q2⟩:=p4.wset hb1 b1 (⟨rfl,rfl,rfl,rfl,b3,λ_ _=>rfl,λ_=>rfl⟩:Hx w w kb ob2) hob (λn=>if n=nm b then Z ⟨cty,.mx (splice l' (o+j) [dv p s.nx T.size (l! xs)])⟩ else U) (by simp);have hH:eW (eW (erHF s.h) [nm s.nx,nm id] nw) [nm b] (λn=>if n=nm b then Z ⟨cty,.mx (splice l' (o+j) [dv p s.nx T.size (l! xs)])⟩ else U)=erHF h2:=by
       funext n;by_cases e1:n=nm b
       .subst e1;rw[hnew];simp[eW]
       .by_cases e2:n=nm s.nx
        .subst e2;rw[hnx2,aA hp];simp[eW,nw,hnb.symm]
        .by_cases D:n=nm id
         .subst D;rw[hdead];simp[eW,nw,hbi.symm,hni.symm]
         .rw[hoth n e1 e2 D];simp[eW,e1,e2,D]
      rw[hH]at q1 q2;have m:=p2.trans q1;refine ⟨φ',⟨q2,λt x d=>m.zq (c.env t x (hE t x d)),λn q a=>?_,fQ c.low,hinv,λt x d=>mi hr x (c.qp t x d),c.inert,c.size⟩,⟨Gf.refl _ _,m.qr,λk hi=>?_⟩,fq.refl _ _⟩
      .rcases p3 n q a with L|L
       .exact uL (c.dom n q L)
       .simp only[aE]at L;subst L;rw[dq];exact nZ _
      .cases a:φ' k with
       |none=>
        cases hq2:V k with
        |none=>rfl
        |some z=>rw[p2.sub _ _ hq2]at a;cases a
       |some z=>
        rcases p3 _ _ a with L|L
        .exact L.symm
        .simp only[aE]at L;subst L;rw[dq]at hi;have:=c.low;omega
    .rename_i ty ai js A;cases h;obtain⟨φ',p1,p2⟩:=amw c hb hv A;exact⟨φ',p1,p2,fq.refl _ _⟩
    .cases h
   .cases h
  .cases h
 .rename_i id hk;split at h
  .rename_i ty p T xs A;cases h;have hfr:=c.qz.fresh;have hidlt:=c.qz.low id _ A;have hin:id≠s.nx:=by omega
   generalize hh2:((s.h.set id (Z (.qj p T.size (l! xs)))).set s.nx (Z (.F ty p T xs)))=h2;have kr:∀k,h2.get k=if k=s.nx then Z (.F ty p T xs) else if k=id then Z (.qj p T.size (l! xs)) else s.h.get k:=λk=>by
    rw[<- hh2,PT.get_set,PT.get_set]
   have hr:b9 s.h h2:=λk r hi=>by
    rw[bH]at hi ⊢;rw[kr];by_cases e2:k=s.nx
    .subst e2;rw[hfr]at hi;cases hi
    .rw[aA e2];by_cases D:k=id
     .subst D;rw[aG rfl];rw[A]at hi;exact hi
     .rw[aA D];exact hi
   have hrow:cg h2 (.G s.nx)=Z (dv p s.nx T.size (l! xs)):=by
    simp only[cg,bH,kr,bw,aC,iH]
   have hrow0:cg s.h (.G id)=Z (dv p id T.size (l! xs)):=by
    simp only[cg,bH,A,aC,iH]
   have hdead:erHF h2 (nm id)=U:=by rw[bQ,kr,aA hin,aG rfl];rfl
   have hnx2:erHF h2 (nm s.nx)=if p&&l! xs==0 then U else Z ⟨ty,.fz (xs.flatMap (bT T))⟩:=by rw[bQ,kr,aG rfl];rfl
   have hid0:erHF s.h (nm id)=if p&&l! xs==0 then U else Z ⟨ty,.fz (xs.flatMap (bT T))⟩:=by rw[bQ,A];rfl
   have hoth:∀n,n≠nm s.nx->n≠nm id->erHF h2 n=erHF s.h n:=λn e2 D=>mg c.qz hr (iA.of λk=>by
    rw[kr];by_cases f2:k=s.nx
    .rw[aG f2,f2,hfr];exact .inr ⟨rfl,rfl⟩
    .rw[aA f2];by_cases f3:k=id
     .rw[aG f3,f3,A];exact .inr ⟨rfl,rfl⟩
     .rw[aA f3];exact .inl rfl) λk e=>by
    subst e;rw[kr,aA (λe=>e2 (by rw[e])),aA (λe=>D (by rw[e]))]
   have hni:nm s.nx≠nm id:=λe=>hin (uj e).symm
   have hinv:gV h2 (s.nx+1):=by
    refine ⟨λk ty2 l2 hil=>?_,λk q hiq=>?_⟩
    .rw[kr]at hil;split at hil
     .cases hil
     .split at hil
      .cases hil
      .exact eY hr l2 (c.qz.C k _ l2 hil)
    .rw[kr]at hiq;split at hiq
     .omega
     .split at hiq
      .omega
      .have:=c.qz.low k q hiq;omega
   have hE:∀t x,t≠i->fB (s.e.set i (Z (.G s.nx))) h2 t=Z x->fB s.e s.h t=Z x:=λt x ht d=>by
    simp only[fB,PT.get_set]at d ⊢;rw[aA ht]at d;cases he:s.e.get t with
    |none=>rw[he]at d;cases d
    |some q=>
     rw[he]at d;obtain⟨z,hz⟩:=od s.h q (c.qp t q he);simp only[aC,fg hr q z hz,af]at d;subst d;simp only[aC,hz]
   have hIE:sD (s.e.set i (Z (.G s.nx))) h2:=λt x d=>by
    simp only[PT.get_set]at d;split at d
    .cases d;exact Ha _ _ _ hrow
    .exact mi hr x (c.qp t x d)
   have hKp:fq (ku [.qx i j] 0) s.e (s.e.set i (Z (.G s.nx))):=λt ht v' hv'=>by
    simp only[PT.get_set]at hv';split at hv'
    .rename_i et;subst et;simp only[ku]at ht;rw[bA,bC.2 rfl]at ht;simp at ht
    .exact⟨v',hv',λ_=>rfl⟩
   have hk0:=c.env i (dv p id T.size (l! xs)) (by simp only[fB,hk,aC,hrow0]);by_cases hp:(p&&l! xs==0)=J
   .have hH:erHF h2=erHF s.h:=by
     funext n;by_cases e2:n=nm s.nx
     .subst e2;rw[hnx2,aG hp,bQ,hfr];rfl
     .by_cases D:n=nm id
      .subst D;rw[hdead,hid0,aG hp]
      .exact hoth n e2 D
    have hsame:dv p s.nx T.size (l! xs)=dv p id T.size (l! xs):=by unfold dv;rw[aG hp,aG hp]
    refine ⟨V,⟨by rw[hH];exact c.qn,λt x d=>?_,λn q a=>uL (c.dom n q a),fQ c.low,hinv,hIE,c.inert,c.size⟩,by rw[hH];exact xc.refl _ _ _ _,hKp⟩;rw[hH];by_cases ht:t=i
    .subst ht;simp only[fB,PT.get_set,bw,aC,hrow,af]at d;subst d;rw[hsame];exact hk0
    .exact c.env t x (hE t x ht d)
   .have hid1:erHF s.h (nm id)=Z ⟨ty,.fz (xs.flatMap (bT T))⟩:=by rw[hid0,aA hp]
    obtain⟨kk,k1,k2,ob,k3,k4⟩:=c.qn.at_ _ _ hid1;have hφn:V (nm s.nx)=U:=by
     cases a:V (nm s.nx) with
     |none=>rfl
     |some q=>have:=c.dom _ q a;rw[dq]at this;omega
    let nw:HF:=λn=>if n=nm s.nx then Z ⟨ty,.fz (xs.flatMap (bT T))⟩ else U
    have hsh:Hx w w kk ob:=⟨rfl,rfl,rfl,rfl,k3,λ_ _=>rfl,λ_=>rfl⟩
    obtain⟨φ',p1,p2,p3,p4⟩:=c.qn.wren hid1 k1 hφn hsh k4 nw (by simp[nw]) (by simp only[nw];rw[aA hni.symm]);have hH:eW (erHF s.h) [nm s.nx,nm id] nw=erHF h2:=by
     funext n;by_cases e2:n=nm s.nx
     .subst e2;rw[hnx2,aA hp];simp[eW,nw]
     .by_cases D:n=nm id
      .subst D;rw[hdead];simp[eW,nw,hni.symm]
      .rw[hoth n e2 D];simp[eW,e2,D]
    rw[hH]at p2 p4;refine ⟨φ',⟨p4,λt x d=>?_,λn q a=>?_,fQ c.low,hinv,hIE,c.inert,c.size⟩,⟨Gf.refl _ _,p2.qr,λk hi=>?_⟩,hKp⟩
    .by_cases ht:t=i
     .subst ht;simp only[fB,PT.get_set,bw,aC,hrow,af]at d;subst d;unfold dv at hk0 ⊢;rw[aA hp]at hk0 ⊢;generalize N.tmps.getD t undef=z at hk0;cases hk0 with
      |@G _ _ _ cc q hφq hn hc hs2=>
       rw[k1,af]at hφq;subst hφq;exact .G p1 hn hc hs2
     .exact p2.zq (c.env t x (hE t x ht d))
    .rcases p3 n q a with L|L
     .exact uL (c.dom n q L)
     .simp only[aE]at L;subst L;rw[dq];exact nZ _
    .cases a:φ' k with
     |none=>
      cases hq2:V k with
      |none=>rfl
      |some z=>rw[p2.sub _ _ hq2]at a;cases a
     |some z=>
      rcases p3 _ _ a with L|L
      .exact L.symm
      .simp only[aE]at L;subst L;rw[dq]at hi;have:=c.low;omega
  .cases h
 .cases h
def anm {s:TS} {w:World} (c:jG P E nt np V s N w) {ad:Adj} {s':TS} (h:Hu s ad=Z s') (hnr:∀k off,ad≠ .qx k off) (hnt:∀k off,ad≠ .jm k off):jG P E nt np V s' N w/\xc np V V (erHF s.h) (erHF s'.h) w w/\fq (ku [ad] 0) s.e s'.e:=by
 cases ad with
 |qx k off=>exact cN rfl (hnr k off)
 |jm k off=>exact cN rfl (hnt k off)
 |fmp k off ty S=>
  simp only[Hu]at h;split at h
  .split at h
   .rename_i K' V' es D;split at h
    .rename_i hE;cases h;obtain⟨h1,h2⟩:=aqq c D hE ty S;exact⟨h1,h2,fq.refl _ _⟩
    .cases h
   .cases h;exact⟨c,xc.refl _ _ _ _,fq.refl _ _⟩
   .cases h
  .cases h
 |frw k off off2 ty=>
  simp only[Hu]at h;split at h
  .rename_i o id q _ _;split at h
   .rename_i ai es cty l ho D;split at h
    .rename_i v hv;split at h
     .rename_i hn;cases h;obtain⟨F,L⟩:=aqm c ai ty;have hid:id≠s.nx:=λe=>by have:=c.qz.low id _ D;omega
      obtain⟨c2,t2⟩:=VS F (id:=id) (cty:=cty) (l:=l) (v:=v) (u:=.G s.nx) (by show (s.h.set s.nx _).get id=_;rw[PT.get_set,aA hid];exact D) hv hn (by simp only[cg,bH,PT.get_set,bw,aC,iH,r9,dv];rfl) (by simp only[N9,bH,PT.get_set,bw];rfl);exact⟨c2,by rw[<- L];exact t2,fq.refl _ _⟩
     .cases h;exact⟨c,xc.refl _ _ _ _,fq.refl _ _⟩
    .cases h
   .cases h
  .cases h
 |nil k ty T=>
  simp only[Hu]at h;split at h
  .rename_i v hv;split at h
   .rename_i hn;cases h;obtain⟨F,L,A⟩:=ZS c ty T;refine ⟨⟨F.qn,?_,F.dom,F.low,F.qz,?_,F.inert,F.size⟩,by rw[L];exact xc.refl _ _ _ _,?_⟩
    .intro t x d;simp only[fB,PT.get_set]at d;split at d
     .rename_i et;subst et;simp only[aC,cg,bH,PT.get_set,bw,iH,dv,lm,cr,fw,af]at d;subst d;obtain⟨z,a⟩:=od s.h v (c.qp _ v hv);rw[L];exact UE hn a _ _ _ _ (c.env _ _ (by simp only[fB,hv,aC,a]))
     .exact F.env t x d
    .intro t x d;simp only[PT.get_set]at d;split at d
     .cases d;simp only[N9,bH,PT.get_set,bw];rfl
     .exact F.qp t x d
    .intro t ht v' hv';simp only[PT.get_set]at hv';split at hv'
     .rename_i et;subst et;simp only[ku]at ht;rw[bA,bC.2 rfl]at ht;simp at ht
     .exact⟨v',hv',λ_=>rfl⟩
   .cases h;exact⟨c,xc.refl _ _ _ _,fq.refl _ _⟩
  .cases h
 |qb k off ty T=>
  simp only[Hu]at h;split at h
  .rename_i id o hk;split at h
   .rename_i cty l D;split at h
    .rename_i v hv;split at h
     .rename_i hn;cases h;obtain⟨F,L,A⟩:=ZS c ty T;have hid:id≠s.nx:=λe=>by have:=c.qz.low id _ D;omega
      obtain⟨c2,t2⟩:=VS F (id:=id) (cty:=cty) (l:=l) (v:=v) (u:=.G s.nx) (by show (s.h.set s.nx _).get id=_;rw[PT.get_set,aA hid];exact D) hv hn (by simp only[cg,bH,PT.get_set,bw,aC,iH,dv,lm,cr,fw]) (by simp only[N9,bH,PT.get_set,bw];rfl);exact⟨c2,by rw[<- L];exact t2,fq.refl _ _⟩
     .cases h;exact⟨c,xc.refl _ _ _ _,fq.refl _ _⟩
    .cases h
   .cases h
  .cases h
 |mpt k K φ=>
  simp only[Hu]at h;split at h
  .rename_i id hk;split at h
   .rename_i K' V' es D;split at h
    .rename_i hE;cases h;have A:b9 s.h (s.h.set id (Z (.mp K φ []))):=b9.set λr A=>by rw[bH,D]at A;cases A
     have L:erHF (s.h.set id (Z (.mp K φ [])))=erHF s.h:=by
      funext n;by_cases hn:n=nm id
      .subst hn;rw[bQ,bQ,PT.get_set,aG rfl,D];simp only[aC,jY,yW (W8 (wv.1 hE).1),yW (wv.1 hE).2,Li (wv.1 hE).1,wI]
      .refine mg c.qz A (iA.set (by rw[D];rfl) rfl) λi e=>?_
       subst e;rw[PT.get_set,aA (λe=>hn (by rw[e]))]
     refine ⟨⟨by rw[L];exact c.qn,?_,c.dom,c.low,c.qz.set A (c.qz.low id _ D) (cA _) (λ_ _ he=>by cases he),λt x d=>mi A x (c.qp t x d),c.inert,c.size⟩,by rw[L];exact xc.refl _ _ _ _,fq.refl _ _⟩;intro t x d;rw[L];simp only[fB]at d;cases he:s.e.get t with
     |none=>rw[he]at d;cases d
     |some q=>
      rw[he]at d;obtain⟨z,a⟩:=od s.h q (c.qp t q he);simp only[aC,fg A q z a,af]at d;subst d;exact c.env t _ (by simp only[fB,he,aC,a])
    .cases h;exact⟨c,xc.refl _ _ _ _,fq.refl _ _⟩
   .cases h
  .cases h
 |mz k n=>
  simp only[Hu]at h;split at h
  .rename_i id hk;split at h
   .rename_i K' V' es D;split at h
    .rename_i hE;cases h;have A:b9 s.h (s.h.set id (Z (.C U (aF n .nil)))):=b9.set λr A=>by rw[bH,D]at A;cases A
     have hold:erHF s.h (nm id)=Z ⟨0,.mp []⟩:=by rw[bQ,D];simp only[aC,jY,yW (W8 hE),Li hE,wI]
     have hvs:∀(h:bk) m,cO h (aF m .nil)=Z (aF m (.f (.raw (.slice U 0 0)))):=λh m=>by
      induction m with
      |zero=>rfl
      |succ m ih=>rw[iU,iU];simp only[cO,cg,ih]
     have hnew:erHF (s.h.set id (Z (.C U (aF n .nil)))) (nm id)=Z ⟨1,.mp (pP 0 (aF n (.f (.raw (.slice U 0 0)))))⟩:=by
      rw[bQ,PT.get_set,aG rfl];simp only[aC,jY,hvs]
     have hoth:∀q,q≠nm id->erHF (s.h.set id (Z (.C U (aF n .nil)))) q=erHF s.h q:=λq hn'=>mg c.qz A (iA.set (by rw[D];rfl) rfl) λi e=>by
      subst e;rw[PT.get_set,aA (λe=>hn' (by rw[e]))]
     have hdom:rq (erHF s.h) (erHF (s.h.set id (Z (.C U (aF n .nil))))):=λq b hb'=>by
      by_cases e:q=nm id
      .subst e;exact⟨_,hold⟩
      .rw[hoth q e]at hb';exact⟨b,hb'⟩
     have hV:JW (erHF s.h) (erHF (s.h.set id (Z (.C U (aF n .nil))))):=⟨hdom,λq b b' h1 h2=>by
      by_cases e:q=nm id
      .subst e;rw[hold]at h1;cases h1;rw[hnew]at h2;cases h2;exact fC.lay n
      .rw[hoth q e,h1]at h2;cases h2;exact fC.refl hdom b⟩
     refine ⟨⟨hV.qn c.qn,?_,c.dom,c.low,c.qz.set A (c.qz.low id _ D) (cA _) (λty l2 he=>?_),λt x d=>mi A x (c.qp t x d),c.inert,c.size⟩,⟨Gf.refl _ _,λk _ ho=>hdom.own ho,λ_ _=>rfl⟩,fq.refl _ _⟩
     .intro t x d;simp only[fB]at d;cases he:s.e.get t with
      |none=>rw[he]at d;cases d
      |some q=>
       rw[he]at d;obtain⟨z,a⟩:=od s.h q (c.qp t q he);simp only[aC,fg A q z a,af]at d;subst d;exact (c.env t _ (by simp only[fB,he,aC,a])).dom hdom
     .simp only[eG.C.injEq]at he;obtain⟨_,rfl⟩:=he;exact li _ _ _ (hvs _ n)
    .cases h
   .cases h;exact⟨c,xc.refl _ _ _ _,fq.refl _ _⟩
  .cases h
 |pk k off T=>
  simp only[Hu]at h;split at h
  .obtain⟨h1,h2,h3⟩:=aq7 c h;exact⟨h1,h2,h3.mono λk hk=>by simp at hk⟩
  .cases h
def anl {s:TS} {w:World} (c:jG P E nt np V s N w) {ad:Adj} {s':TS} (h:Hu s ad=Z s'):∃φ',jG P E nt np φ' s' N w/\xc np V φ' (erHF s.h) (erHF s'.h) w w/\fq (ku [ad] 0) s.e s'.e:=by
 by_cases z:∃k off,ad= .qx k off
 .obtain⟨k,off,rfl⟩:=z;exact aq2 c h
 .by_cases d:∃k off,ad= .jm k off
  .obtain⟨k,off,rfl⟩:=d;simp only[Hu]at h;split at h
   .obtain⟨he,φ',h1,h2⟩:=amp c h;exact⟨φ',h1,h2,by rw[he];exact fq.refl _ _⟩
   .cases h
  .exact⟨V,anm c h (λk off e=>z ⟨k,off,e⟩) λk off e=>d ⟨k,off,e⟩⟩
def Sh {φ:PM} {a:Act} {w:World}:∀{l:Y Adj} {s s':TS},jG P E nt np φ s a w->VQ s l=Z s'->∃φ',jG P E nt np φ' s' a w/\xc np φ φ' (erHF s.h) (erHF s'.h) w w/\fq (ku l 0) s.e s'.e
 |[],s,s',c,h=>by simp only[VQ,af]at h;subst h;exact⟨φ,c,xc.refl _ _ _ _,fq.refl _ _⟩
 |ad::r,s,s',c,h=>by
  simp only[VQ]at h;split at h
  .rename_i N h1;obtain⟨φ1,L,A,k1⟩:=anl c h1;obtain⟨φ2,F,z,k2⟩:=Sh L h;refine ⟨φ2,F,A.trans z,(k1.mono ?_).trans (k2.mono ?_)⟩
   .intro k d;cases ad with
    |nil q ty T|qx q off=>simp only[ku]at d ⊢;rw[kc,bA,d];rfl
    |_=>simp[ku]at d
   .intro k d;cases ad with
    |nil q ty T|qx q off=>simp only[ku];rw[kc,bA,d];simp
    |_=>simp only[ku];exact d
  .cases h
mutual
def Ut {h:bk}:∀(v:TV) (y:AV),vO v=J->cg h v=Z y->y.all (λ_=>aa)=J
 |.f _ _,y,_,he|.zk _ _ _ _ _,y,_,he|.emp,y,_,he|.nil,y,_,he|.undef,y,_,he|.np,y,_,he|.qv,y,_,he=>by simp only[cg,af]at he;subst he;rfl
 |.agg l,y,hl,he|.qg l,y,hl,he=>by
  simp only[cg]at he;split at he
  .rename_i l' hl';cases he;exact G5 l l' hl hl'
  .cases he
 |.ql _ _ _ _,_,h,_|.H _ _,_,h,_|.qw _ _ _,_,h,_|.G _,_,h,_|.zp _ _,_,h,_|.mp _,_,h,_|.qd _ _,_,h,_|.qy _ _,_,h,_=>by cases h
def G5 {h:bk}:∀(l:Y TV) (l':Y AV),rU l=J->cO h l=Z l'->AV.allL (λ_=>aa) l'=J
 |[],l',_,he=>by simp only[cO,af]at he;subst he;rfl
 |x::r,l',hl,he=>by
  obtain⟨y,l2,rfl,e1,e2⟩:=dh he;simp only[rU,au]at hl;simp only[AV.allL,au];exact⟨Ut x y hl.1 e1,G5 r l2 hl.2 e2⟩
end
mutual
def Zm (h:bk):∀(v:TV),vO v=J->N9 h v=J
 |.f _ _,_|.zk _ _ _ _ _,_|.emp,_|.nil,_|.undef,_|.np,_|.qv,_=>rfl
 |.agg l,hl|.qg l,hl=>L4 h l hl
 |.ql _ _ _ _,h|.H _ _,h|.qw _ _ _,h|.G _,h|.zp _ _,h|.mp _,h|.qd _ _,h|.qy _ _,h=>by cases h
def L4 (h:bk):∀(l:Y TV),rU l=J->lZ h l=J
 |[],_=>rfl
 |x::r,hl=>by
  simp only[rU,au]at hl;simp only[lZ,au];exact⟨Zm h x hl.1,L4 h r hl.2⟩
end
structure Seen (np:Nat) (t:Tm) (x:t.ty.den) (us:List TV) (h1:bk) (φ φ':PM) (H:HF) (E:Nat->Prop) (w:World) (la lu:List AV):Prop where
 qn:sq φ' E (erHF h1) w
 val:∀(j:Nat) y v,lu[j]? =Z y->∃z,la[j]? =Z z/\(cu φ (tot E φ H) w z v->cu φ' (tot E φ' (erHF h1)) w y v)
 len:l! lu=l! la
 tot_:∀k,tot E φ' (erHF h1) k->tot E φ H k
 qr:∀k,own φ' (erHF h1) k->own φ H k
 dom:∀n k,φ' n=Z k->ow n<l! t.bs
 par:∀n,ow n<np->ow n<l! t.bs->φ' n=φ n
def NY {t:Tm} {x:t.ty.den} {us:Y TV} {h1:bk} {N:Y (M eG)} (I:pB t x us h1 N) (hinv:gV h i) {vs:Y TV} {σ:PT Nat} {sm:Nat} (g:Kx np t vs h x j σ sm) {la:Y AV} (hla:cO h vs=Z la) {w:World} (r:sq V E (erHF h) w):∃φ' lu,cO h1 us=Z lu/\Seen np t x us h1 V φ' (erHF h) E w la lu:=by
 obtain⟨x1,m1,x2,m2,hx,hmm,gv,gb⟩:=g.ex;have hmr:dG h j:=by rw[hmm];exact (Ko _ _ _ _ gv).or (Kq _ _ _ _ gb)
 have pvg:rA (ip σ) t.vs x1=Z (lC (ip σ) us):=by
  have h3:=vg (ip σ) t.vs x1;have A:=I.pv;rw[hx,uW]at A;rw[h3,A];rfl
 have pbg:pF (ip σ) t.bs x2=Z (N.map (ik (lj (ip σ)))):=by
  have h3:=xN (ip σ) t.bs x2;have A:=I.pb;rw[hx,wL]at A;rw[h3,A];rfl
 have hbm:∀nx b,N[nx]? =Z (Z b)->∃b0,h.get (ip σ nx)=Z b0/\BM (ip σ) h j b0 (lj (ip σ) b):=λnx b d=>by
  obtain⟨b0,q1,q2⟩:=L2 t.bs 0 x2 m2 _ gb pbg nx (lj (ip σ) b) (by rw[a8,d];rfl);rw[bO]at q1;exact⟨b0,q1,q2.mono λm hj=>by rw[hmm,bA,hj];simp⟩
 let F:bk:=CA (ip σ) 0 (N.map (ik (lj (ip σ)))) PT.leaf
 have hv_at:∀nx b,N[nx]? =Z (Z b)->F.get (ip σ nx)=Z (lj (ip σ) b):=λnx b d=>by
  have:=wP (ip σ) (N.map (ik (lj (ip σ)))) 0 PT.leaf (λa b ha d=>by
   simp only[bS,I.len]at ha d;simp only[bO];exact g.inj a b ha d) nx (Z (lj (ip σ) b)) (by rw[a8,d];rfl)
  rw[bO]at this;exact this
 have hv_ex:∀m c,F.get m=Z c->∃nx b,N[nx]? =Z (Z b)/\m=ip σ nx/\c=lj (ip σ) b:=λm c hj=>by
  by_cases hex:∃nx,nx<N.length/\m=ip σ nx
  .obtain⟨nx,hi,rfl⟩:=hex;have hcc:=aD hi;cases hcv:N[nx] with
   |some b=>rw[hcv]at hcc;rw[hv_at nx b hcc]at hj;cases hj;exact⟨nx,b,hcc,rfl,rfl⟩
   |none=>
    rw[hcv]at hcc;have:=wP (ip σ) (N.map (ik (lj (ip σ)))) 0 PT.leaf (λa b ha d=>by
     simp only[bS,I.len]at ha d;simp only[bO];exact g.inj a b ha d) nx U (by rw[a8,hcc];rfl)
    rw[bO]at this;have hj':(CA (ip σ) 0 (N.map (ik (lj (ip σ)))) PT.leaf).get (ip σ nx)=Z c:=hj;rw[this]at hj';simp[PT.get]at hj'
  .have:F.get m=(PT.leaf:bk).get m:=wO (ip σ) _ 0 _ m λk D=>by
    simp only[bS]at D;rw[bO];exact λe=>hex ⟨k,D,e⟩
   rw[this]at hj;simp[PT.get]at hj
 have rows_in:zS F h:=λm q L=>by
  rw[bH]at L ⊢;cases hc:F.get m with
  |none=>rw[hc]at L;cases L
  |some c=>
   rw[hc]at L;obtain⟨nx,b,q1,rfl,rfl⟩:=hv_ex m c hc;obtain⟨b0,q2,q3⟩:=hbm nx b q1;rw[q2];simp only[aC]at L ⊢;rw[<- q3.G];exact L
 have rows_h1:∀nx q,eu h1 nx=Z q->eu F (ip σ nx)=Z q:=λnx q L=>by
  rw[bH]at L ⊢;cases d:h1.get nx with
  |none=>rw[d]at L;cases L
  |some b=>
   rw[d]at L;rw[hv_at nx b ((I.at_ nx b).1 d)];simp only[aC,KN]at L ⊢;exact L
 have hd:rq (erHF h) (erHF F):=λn y hy=>by
  obtain⟨c,h3,A⟩:=iR hy;obtain⟨nx,b,q1,e,rfl⟩:=hv_ex _ c h3;obtain⟨b0,q2,q3⟩:=hbm nx b q1;unfold erHF;rw[e,q2];rw[e]at A;cases D:ix n with
  |zero=>
   rw[D]at A;exact BM.erB_some hinv q2 q3 A
  |succ k=>
   rw[D]at A;exact⟨y,(q3.mem _ _).trans A⟩
 have gvv:Ea h (erHF h) (erHF F) j:=λnx hi=>⟨rfl,by
  cases hc:erHF F (nm nx) with
  |none=>rfl
  |some y=>
   obtain⟨c,h3,A⟩:=iR hc;rw[dq]at h3;obtain⟨k,b,q1,rfl,rfl⟩:=hv_ex nx c h3;have D:k<t.bs.length:=by rw[<- I.len];exact (bq.1 q1).1
   have h5:=g.disj _ hi;rw[(g.sig _).2 ⟨k,D,rfl⟩]at h5;cases h5⟩
 have φ:JW (erHF h) (erHF F):=⟨hd,λn b b' d hb'=>by
  obtain⟨c,h3,A⟩:=iR hb';obtain⟨nx,bb,q1,e,rfl⟩:=hv_ex _ c h3;obtain⟨b0,q2,q3⟩:=hbm nx bb q1;unfold erHF at d;rw[e,q2]at d;rw[e]at A;have d:NJ h (ip σ nx) (ix n) b0=Z b:=d;cases D:ix n with
  |zero=>
   rw[D]at A d;exact BM.view hd gvv rows_in q3 d A
  |succ k=>
   rw[D]at A d;have:=(q3.mem _ _).symm.trans d;have A:wx (ip σ nx) k (lj (ip σ) bb)=Z b':=A;rw[A]at this;cases this;exact fC.refl hd _⟩
 have rv:=φ.qn r;have T:akp t x us h1 (ip σ) V E E (erHF F) w:=by
  have hat:∀n y,erHF h1 n=Z y->erHF F (pC (ip σ) n)=Z (y.qx (pC (ip σ))):=λn y hn=>by
   obtain⟨b,d,hyb⟩:=iR hn;unfold erHF;rw[xg,yZ,hv_at _ b ((I.at_ _ b).1 d)];exact Cg rows_h1 hyb
  refine sq.toId I g.inj rv hat (λk D=>.inl D) (λn k y hn A hE=>?_) rv.el;obtain⟨k',p1,p2,_⟩:=rv.at_ _ _ (hat n y hn);rw[A]at p1;cases p1;exact p2 hE
 obtain⟨lu,hlu⟩:=eR h1 us I.ok;have hlug:cO F (lC (ip σ) us)=Z (AV.renL (pC (ip σ)) lu):=qB rows_h1 us lu hlu;have hle:=Fh hd rows_in t.vs vs x1 m1 _ la _ gv pvg hla hlug (λnx hi=>gvv nx (by rw[hmm,bA,hi];rfl));have hall:=ti us lu I.lt hlu;refine ⟨_,lu,hlu,T.qn,λm y v hy=>?_,?_,λk D=>hd.tot (T.tot_ k D),λk D=>hd.own (T.qr k D),λn k D=>?_,λnx hi d=>?_⟩
 .rw[oc]at hle;obtain⟨z,hz,hlz⟩:=hle.get m (y.qx (pC (ip σ))) (by rw[a8,hy];rfl);exact⟨z,hz,λhr=>T.val y v (ny hall y (bf hy)) (hlz _ _ _ _ r hr)⟩
 .have:=hle.length;rw[oc,bS]at this;exact this
 .exact (yM D).1
 .rw[adc d];unfold pC;rw[g.fix _ hi,lb]
def Rd {s':TS} {w:World} (c:jG P E nt np V s' N w) {A:Ann} {s0 s1:TS} {x:A.D} (d:OA np A i s0 s'=Z x) (L:I4 A i s0 x=Z s1)
 (hk:∀k,k∈A.zq->k∉A.ks->∀v,s0.e.get k=Z v->vO v=J->aO i k=aa->∀a,s'.e.get k=Z a->a=v):∃φ',jG P E nt np φ' s1 N w/\xc np V φ' (erHF s'.h) (erHF s1.h) w w:=by
 unfold OA at d;split at d
 .rename_i hc;simp only[au]at hc;have hnp:=aZ hc.1;split at d
  .rename_i s2 h2;obtain⟨φ2,c2,t2,_⟩:=Sh c h2;split at d
   .rename_i vs hvs;split at d
    .rename_i z m σ sm hM;cases d;have g:=xW hM;unfold I4 at L;split at L
     .rename_i us h1 hi;obtain⟨l1,I⟩:=ya hi;split at L
      .rename_i hlen;have hlen:=av hlen;cases L;obtain⟨g1,g2⟩:=Zl hvs;have hvok:lZ s2.h vs=J:=K8 c2.qp hvs;obtain⟨la,hla⟩:=eR s2.h vs hvok;obtain⟨φ',lu,hlu,S⟩:=NY (E:=E) I c2.qz g hla c2.qn;refine ⟨φ',⟨S.qn,?_,S.dom,hnp,⟨λam ty l hl=>(I.C am _ l hl).1,λam b hb=>I.lt_len hb⟩,?_,c.inert,c.size⟩,t2.trans ⟨Gf.refl _ _,λk _ h=>S.qr k h,λam hi=>S.par am hi (by omega)⟩⟩
       .intro t y F;simp only[fB]at F;cases ht:(aa0 (E0 i s0.e A.zq) A.ks us).get t with
        |none=>rw[ht]at F;cases F
        |some v=>
         rw[ht]at F;simp only[aC]at F;rcases Et hlen t v ht with ⟨j,q1,q2⟩|⟨q1,q2⟩
         .obtain⟨y',p1,p2⟩:=lK hlu j v q2;rw[F]at p2;cases p2;obtain⟨z,p3,p4⟩:=S.val j y (N.tmps.getD t undef) p1;refine p4 ?_;obtain⟨v0,p5,p6⟩:=g2 j t q1;obtain⟨z',p7,p8⟩:=lK hla j v0 p5;rw[p3]at p7;cases p7;exact c2.env t _ (by simp only[fB,p6,aC,p8])
         .obtain⟨k1,k2,k3,k4⟩:=vi q2;obtain⟨a,k5⟩:=Lx hc.2 t v k1 k2 k3 k4;have:=hk t k1 q1 v k2 k3 k4 a k5;subst this;have h3:=c.env t y (by simp only[fB,k5,aC];rw[UF s'.h h1 a k3];exact F);exact h3.restrict (p:=λ_=>aa) (λam k hi _=>by cases hi) (λk hk=>by
           have h4:=S.tot_ k hk;rcases h4 with h4|h4
           .exact .inl h4
           .exact .inr (by
             have hkl:k<w.heap.size:=by
              obtain⟨n,b,e1,e2⟩:=h4;obtain⟨k',p1,_,ob,p3,_⟩:=c2.qn.at_ n b e1;rw[e2]at p1;cases p1;exact (cz.1 p3).1
             exact t2.qr k hkl h4)) (Ut a y k3 F)
       .intro t v hv;rcases Et hlen t v hv with ⟨j,q1,q2⟩|⟨q1,q2⟩
        .obtain⟨y',_,p2⟩:=lK hlu j v q2;exact Ha _ _ _ p2
        .exact Zm _ v (vi q2).2.2.1
      .cases L
     .cases L
    .cases d
   .cases d
  .cases d
 .cases d
def Gq {A:Ann} {z L:TS} {x:A.D} (d:I4 A i z x=Z L):fq (N' A.ks 0) z.e L.e/\∀k,k∉A.ks->∀v,L.e.get k=Z v->z.e.get k=Z v:=by
 unfold I4 at d;split at d
 .rename_i us h1 hi;split at d
  .rename_i hlen;have hlen:=av hlen;cases d;have key:∀k,k∉A.ks->∀v,(aa0 (E0 i z.e A.zq) A.ks us).get k=Z v->z.e.get k=Z v:=λk F v N=>by
    rcases Et hlen k v N with ⟨j,q1,_⟩|⟨_,q2⟩
    .exact cN (bf q1) F
    .exact (vi q2).2.1
   refine ⟨λk F v' N=>?_,key⟩;have hnk:k∉A.ks:=λhm=>by rw[Zd hm]at F;cases F
   exact⟨v',key k hnk v' N,λ_=>rfl⟩
  .cases d
 .cases d
end walk
inductive Er:TC->SC->Prop
 |skip:Er .skip .skip
 |zl (ops:List t8) (prs:List (Nat×Nat)):Er (.zl ops prs) (.zl ops prs)
 |seq {a b:TC} {a' b':SC}:Er a a'->Er b b'->Er (.seq a b) (.seq a' b')
 |zh (A:Ann) {a b:TC} {a' b':SC}:Er a a'->Er b b'->Er (.zh A a b) (.seq a' b')
 |cond (c:Nat) {a b:TC} {a' b':SC}:Er a a'->Er b b'->Er (.cond c a b) (.cond c a' b')
 |block (id:Nat) {b:TC} {b':SC}:Er b b'->Er (.block id b) (.block id b')
 |zj (A:Ann) (id:Nat) {b:TC} {b':SC}:Er b b'->Er (.zj A id b) (.block id b')
 |loop (A:Ann) {b:TC} {b':SC}:Er b b'->Er (.loop A b) (.loop b')
 |exit (id:Nat):Er (.exit id) (.exit id)
 |ret:Er .ret .ret
 |defer (f:FuncId) (c:List Operand) (t:Nat):Er (.defer f c t) (.defer f c t)
 |adj (l:List Adj) {c:TC} {c':SC}:Er c c'->Er (.adj l c) c'
 |split (k off lo n:Nat) {c:TC} {c':SC}:Er c c'->Er (.split k off lo n c) c'
 |bsp (t:Nat) {a b:TC} {c':SC}:Er a c'->Er b c'->Er (.bsp t a b) c'
 |unl (n:Nat) {b:TC} {b':SC}:Er b b'->Er (.unl n b) (.loop b')
 |zm (c:SC):Er .zm c
def Ej {H:PT ahg} {c:TC} {d:SC} (h:Er c d):Er (KA H i c) d:=by
 unfold KA;split
 .exact .adj _ h
 .exact .split _ _ _ _ h
 .exact .bsp _ (.split _ _ _ _ h) h
 .exact h
def zL (H:PT ahg):∀(c:SC) (n:Nat),Er (FO H c n).1 c
 |.skip,n=>Ej .skip
 |.zl o p,n=>Ej (.zl o p)
 |.seq a b,n=>by
  have h1:=zL H a (n+1);have h2:=zL H b (FO H a (n+1)).2;simp only[FO];split
  .exact .zh _ h1 h2
  .exact .seq h1 h2
 |.cond c a b,n=>by
  have h1:=zL H a (n+1);have h2:=zL H b (FO H a (n+1)).2;simp only[FO];exact Ej (.cond c h1 h2)
 |.block id b,n=>by
  have h1:=zL H b (n+1);simp only[FO];split
  .exact .zj _ id h1
  .exact .block id h1
 |.loop b,n=>by
  have h1:=zL H b (n+1);simp only[FO];split
  .exact .loop _ h1
  .exact .unl _ h1
  .exact .zm _
 |.exit id,n=>Ej (.exit id)
 |.ret,n=>Ej .ret
 |.defer f c t,n=>.defer f c t
 |.zm,n=>.zm _
def aae {σ:Type} {step:σ->M (σ⊕R)} {x:σ} {r:R} (h:iter step x=Z r):∃n,iterN step n x=Z r:=by
 unfold iter at h;split at h
 .exact⟨_,h⟩
 .cases h
def Zf {α:Type} {o:M (R⊕α)} {k:α->M R} {r:R} (h:jn o k=Z r):(∃x,o=Z (.inr x)/\k x=Z r)\/o=Z (.inl r):=by
 unfold jn at h;split at h
 .exact .inl ⟨_,rfl,h⟩
 .cases h;exact .inr rfl
 .cases h
section inv
variable {P:Program} {nt:Nat}
def IL (id:Nat) (ops:Array Oper) (z:Bool):cK P nt (.region id ops z)= .zm\/
 ((ops.toList.all λo=>match o.dst with|some d=>decide (d<nt)|none=>J)=J/\
   ((∃f caps t,Zz ops z=Z (f,caps,t)/\cK P nt (.region id ops z)= .defer f caps t)\/
    ∃l prs,tG P ops ops.toList=Z l/\Pt ops l=Z prs/\cK P nt (.region id ops z)= .zl l prs)):=by
 simp only[cK];split
 .rename_i hd;split
  .rename_i f caps t h;exact .inr ⟨hd,.inl ⟨f,caps,t,h,rfl⟩⟩
  .split
   .rename_i l A;split
    .rename_i prs hp;exact .inr ⟨hd,.inr ⟨l,prs,A,hp,rfl⟩⟩
    .exact .inl rfl
   .exact .inl rfl
 .exact .inl rfl
def I6:Code->Bool
 |.cond (.const (.bool _)) _ _=>aa
 |_=>J
def mh (P:Program) (nt:Nat) (c:Code):∃d,I6 d=J/\cK P nt d=cK P nt c/\∀Q a w,d.wp P Q a w->c.wp P Q a w:=by
 have self:∀c:Code,I6 c=J->∃d,I6 d=J/\cK P nt d=cK P nt c/\∀Q a w,d.wp P Q a w->c.wp P Q a w:=λc h=>⟨c,h,rfl,λ_ _ _ h=>h⟩
 induction c with
 |cond o x y ihx ihy=>
  cases o with
  |const v=>
   cases v with
   |bool b=>
    cases b with
    |true=>
     obtain⟨d,h1,h2,z⟩:=ihx;exact⟨d,h1,h2,λQ a w h=>wp_cond_true rfl (z Q a w h)⟩
    |false=>
     obtain⟨d,h1,h2,z⟩:=ihy;exact⟨d,h1,h2,λQ a w h=>wp_cond_false rfl (z Q a w h)⟩
   |_=>exact self _ rfl
  |_=>exact self _ rfl
 |_=>exact self _ rfl
variable {d:Operand}
def Ly {α:Prop} {x y:Code} {sc:SC} (o:I6 (.cond d x y)=J) (h:cK P nt (.cond d x y)=sc) (h1:sc≠ .zm) (h2:∀t a b,sc≠ .cond t a b):α:=by
 cases d with
 |tmp q=>exact (h2 _ _ _ h.symm).elim
 |const v=>cases v<;>first|exact (h1 h.symm).elim|cases o
 |_=>exact (h1 h.symm).elim
def aje {c:Code} {sl:Y t8} {prs:Y p?} (A:I6 c=J) (h:cK P nt c= .zl sl prs):∃id ops z,c= .region id ops z/\(ops.toList.all λo=>match o.dst with|some d=>decide (d<nt)|none=>J)=J/\tG P ops ops.toList=Z sl/\Pt ops sl=Z prs:=by
 cases c with
 |region id ops z=>
  rcases IL (P:=P) (nt:=nt) id ops z with h1|⟨hd,⟨f,caps,t,_,h1⟩|⟨l,p,h2,D,h1⟩⟩
  .rw[h1]at h;cases h
  .rw[h1]at h;cases h
  .rw[h1]at h;cases h;exact⟨id,ops,z,rfl,hd,h2,D⟩
 |cond o x y=>exact Ly A h (by simp) (by simp)
 |_=>simp[cK]at h
def qK {c:Code} {sc:SC} (h:cK P nt c=sc) (h1:sc≠ .zm) (h2:∀a b,sc≠ .zl a b) (A:∀a b t,sc≠ .defer a b t):∀id ops z,c≠ .region id ops z:=by
 rintro id ops z rfl;rcases IL (P:=P) (nt:=nt) id ops z with d|⟨_,⟨f,caps,t,_,d⟩|⟨l,p,_,_,d⟩⟩<;>rw[d]at h
 .exact h1 h.symm
 .exact A _ _ _ h.symm
 .exact h2 _ _ h.symm
def af8 {c:Code} (d:I6 c=J) (h:cK P nt c= .skip):c= .skip:=by
 have nr:=qK h (by simp) (by simp) (by simp);cases c with
 |skip=>rfl
 |region id ops z=>exact cN rfl (nr id ops z)
 |cond o x y=>exact Ly d h (by simp) (by simp)
 |_=>simp[cK]at h
def ajd {c:Code} (d:I6 c=J) (h:cK P nt c= .ret):c= .ret:=by
 have nr:=qK h (by simp) (by simp) (by simp);cases c with
 |ret=>rfl
 |region id ops z=>exact cN rfl (nr id ops z)
 |cond o x y=>exact Ly d h (by simp) (by simp)
 |_=>simp[cK]at h
def af9 {c:Code} (d:I6 c=J) (h:cK P nt c= .exit i):c= .exit i:=by
 have nr:=qK h (by simp) (by simp) (by simp);cases c with
 |exit id=>simp[cK]at h;rw[h]
 |region id ops z=>exact cN rfl (nr id ops z)
 |cond o x y=>exact Ly d h (by simp) (by simp)
 |_=>simp[cK]at h
def Zh {c:Code} {a b:SC} (d:I6 c=J) (h:cK P nt c= .seq a b):∃x y,c= .seq x y/\cK P nt x=a/\cK P nt y=b:=by
 have nr:=qK h (by simp) (by simp) (by simp);cases c with
 |seq x y=>simp[cK]at h;exact⟨x,y,rfl,h.1,h.2⟩
 |region id ops z=>exact cN rfl (nr id ops z)
 |cond o x y=>exact Ly d h (by simp) (by simp)
 |_=>simp[cK]at h
def afa {c:Code} {a b:SC} (d:I6 c=J) (h:cK P nt c= .cond i a b):∃x y,c= .cond (.tmp i) x y/\cK P nt x=a/\cK P nt y=b:=by
 have nr:=qK h (by simp) (by simp) (by simp);cases c with
 |cond o x y=>
  cases o with
  |tmp q=>simp[cK]at h;obtain⟨rfl,h1,h2⟩:=h;exact⟨x,y,rfl,h1,h2⟩
  |const v=>cases v<;>first|(simp [cK]at h;done)|cases d
  |_=>simp[cK]at h
 |region id ops z=>exact cN rfl (nr id ops z)
 |_=>simp[cK]at h
def PI {c:Code} {b:SC} (d:I6 c=J) (h:cK P nt c= .block i b):∃y,c= .block i y/\cK P nt y=b:=by
 have nr:=qK h (by simp) (by simp) (by simp);cases c with
 |block id y=>simp[cK]at h;obtain⟨rfl,h1⟩:=h;exact⟨y,rfl,h1⟩
 |region i ops z=>exact cN rfl (nr i ops z)
 |cond o x y=>exact Ly d h (by simp) (by simp)
 |_=>simp[cK]at h
def TJ {c:Code} {b:SC} (d:I6 c=J) (h:cK P nt c= .loop b):∃y,c= .loop y/\cK P nt y=b:=by
 have nr:=qK h (by simp) (by simp) (by simp);cases c with
 |loop y=>simp[cK]at h;exact⟨y,rfl,h⟩
 |region id ops z=>exact cN rfl (nr id ops z)
 |cond o x y=>exact Ly d h (by simp) (by simp)
 |_=>simp[cK]at h
end inv
def am8 (P:Program) (E:Nat->Prop) (nt np:Nat) (φ:PM) (s:TS) (w:World) (am:Nat) (K:Ex->TS->M R) (r:R):Exit->Act->World->Prop:=
 λe d w'=>∃ex s' φ',e=ex.to/\K ex s'=Z r/\jG P E nt np φ' s' d w'/\xc np φ φ' (erHF s.h) (erHF s'.h) w w'/\fq am s.e s'.e
def jG.bool {s:TS} {w:World} (c:jG P O i j V s N w) {t:Nat} (ht:s.e.get t=Z (.f .bool b)):N.eval (.tmp t)= .bool b:=
 eV (c.env t _ (by simp only[fB,ht,aC,cg];rfl))
def jG.qv {s:TS} {w:World} (c:jG P O i j V s N w) {t:Nat} (ht:s.e.get t=Z .qv):∃b,N.eval (.tmp t)= .bool b:=by
 have:=c.env t .qv (by simp only[fB,ht,aC,cg]);show ∃b,N.tmps.getD t undef= .bool b;generalize N.tmps.getD t undef=z at this;cases this with
 |qv=>exact⟨_,rfl⟩
def abr {a b:M R} {r:R} (h:Hp a b=Z r):a=Z r/\b=Z r:=by
 unfold Hp at h;split at h
 .rename_i e;exact⟨h,by rw[<- e];exact h⟩
 .cases h
def amn {E:Nat->Prop} {inert:FuncId->Bool} (hm:P.follows .mixedOrders=J) (hcon:Gg P X) (hin:Sq P inert):
 ∀{tc:TC} {sc:SC},Er tc sc->∀(c:Code),cK P i c=sc->∀(R:Type) (s:TS) (K:Ex->TS->M R) (r:R),oS j X W inert tc s K=Z r->∀(φ:PM) (a:Act) (w:World),jG P E i j φ s a w->c.wp P (am8 P E i j φ s w (tc.asg 0) K r) a w:=by
 intro tc sc hE;induction hE with
 |skip=>
  intro c L R s K r h φ a w g;obtain⟨c',hn,F,hsim⟩:=mh P i c;refine hsim _ _ _ ?_;rw[<- F]at L;rw[af8 hn L];exact wp_skip ⟨.normal,s,φ,rfl,h,g,xc.refl _ _ _ _,fq.refl _ _⟩
 |zl ops prs=>
  intro c L R s K r h φ a w g;obtain⟨c',hn,F,hsim⟩:=mh P i c;refine hsim _ _ _ ?_;rw[<- F]at L;obtain⟨id,os,dr,rfl,h1,h2,h3⟩:=aje hn L;simp only[oS]at h;refine ae5 (K:=λs'=>K .normal s') hm hcon g (am:=Sc ops 0) (λnp o d ho hd=>?_) h1 h2 h3 h λa' w' s' φ' q1 q2 q3 q4=>⟨.normal,s',φ',rfl,q1,q2,q3,q4⟩
  have hmem:o∈os.toList:=by have:=Array.mem_of_getElem? ho;simpa using this
  have key:∀(rest:Y Oper) (sl:Y t8),tG P os rest=Z sl->∀o∈rest,∃so∈sl,so.dst=o.dst:=by
   intro rest;induction rest with
   |nil=>intro sl _ o ho;cases ho
   |cons x rest ih=>
    intro sl hsl o ho;simp only[tG]at hsl;split at hsl
    .rename_i l hl;have:∃so,sl=so::l/\so.dst=x.dst:=by
      split at hsl
      .simp only[af]at hsl;exact⟨_,hsl.symm,rfl⟩
      .split at hsl
       .simp only[af]at hsl;exact⟨_,hsl.symm,rfl⟩
       .cases hsl
     obtain⟨so,rfl,hso⟩:=this;rcases bm.1 ho with rfl|ho
     .exact⟨so,by simp,hso⟩
     .obtain⟨q,hq,hq2⟩:=ih l hl o ho;exact⟨q,by simp[hq],hq2⟩
    .cases hsl
  obtain⟨so,hso,hd2⟩:=key os.toList ops h2 o hmem;exact VK hso (by rw[hd2];exact hd)
 |@seq x y x' y' _ _ ihx ihy=>
  intro c L R s K r h φ a w g;obtain⟨c',hn,F,hsim⟩:=mh P i c;refine hsim _ _ _ ?_;rw[<- F]at L;obtain⟨cx,cy,rfl,h1,h2⟩:=Zh hn L;simp only[oS]at h;refine wp_seq (wp_mono (ihx cx h1 R s _ r h φ a w g) ?_);rintro e a' w' ⟨ex,s',φ',rfl,z,g',st,N⟩;have kp':fq ((TC.seq x y).asg 0) s.e s'.e:=N.mono λk z=>by simp only[TC.asg];exact kD z
  cases ex with
  |normal=>
   refine wp_mono (ihy cy h2 R s' K r z φ' a' w' g') ?_;rintro e2 a2 w2 ⟨ex2,s2,φ2,rfl,hk2,g2,st2,kp2⟩;exact⟨ex2,s2,φ2,rfl,hk2,g2,st.trans st2,kp'.trans (kp2.mono λk z=>by simp only[TC.asg];exact uZ z)⟩
  |exit id=>exact⟨.exit id,s',φ',rfl,z,g',st,kp'⟩
  |ret=>exact⟨.ret,s',φ',rfl,z,g',st,kp'⟩
 |@zh A x y x' y' _ _ ihx ihy=>
  intro c L R s K r h φ a w g;obtain⟨c',hn,F,hsim⟩:=mh P i c;refine hsim _ _ _ ?_;rw[<- F]at L;obtain⟨cx,cy,rfl,h1,h2⟩:=Zh hn L;simp only[oS]at h;have sub1:∀k,aO (x.asg 0) k=J->aO ((TC.zh A x y).asg 0) k=J:=λk z=>by simp only[TC.asg];exact kD (uZ z)
  have sub2:∀k,aO (y.asg 0) k=J->aO ((TC.zh A x y).asg 0) k=J:=λk z=>by simp only[TC.asg];exact uZ z
  have sub3:∀k,aO (N' A.ks 0) k=J->aO ((TC.zh A x y).asg 0) k=J:=λk z=>by simp only[TC.asg];exact kD (kD z)
  rcases Zf h with ⟨d,h3,h4⟩|h3
  .refine wp_seq (wp_mono (ihx cx h1 _ s _ _ h3 φ a w g) ?_);rintro e a' w' ⟨ex,s',φ',rfl,z,g',st,N⟩;cases ex with
   |normal=>
    simp only[]at z;obtain⟨d',q1,q2⟩:=dX z;simp only[af,Sum.inr.injEq]at q2;subst q2;split at h4
    .rename_i s1 hs1;obtain⟨φ1,g1,st1⟩:=Rd g' q1 hs1 λk _ _ v hv hf ha v' hv'=>by
      obtain⟨v0,e1,e2⟩:=N k ha v' hv';rw[hv]at e1;cases e1;exact e2 hf
     refine wp_mono (ihy cy h2 R s1 K r h4 φ1 a' w' g1) ?_;rintro e2 a2 w2 ⟨ex2,s2,φ2,rfl,hk2,g2,st2,kp2⟩;exact⟨ex2,s2,φ2,rfl,hk2,g2,(st.trans st1).trans st2,((Gq hs1).1.mono sub3).trans (kp2.mono sub2)⟩
    .cases h4
   |_=>simp only[]at z;obtain⟨_,_,q2⟩:=dX z;simp at q2
  .refine wp_seq (wp_mono (ihx cx h1 _ s _ _ h3 φ a w g) ?_);rintro e a' w' ⟨ex,s',φ',rfl,z,g',st,N⟩;cases ex with
   |normal=>simp only[]at z;obtain⟨_,_,q2⟩:=dX z;simp at q2
   |exit id=>
    simp only[]at z;obtain⟨r',q1,q2⟩:=dX z;simp only[af,Sum.inl.injEq]at q2;subst q2;exact⟨.exit id,s',φ',rfl,q1,g',st,N.mono sub1⟩
   |ret=>
    simp only[]at z;obtain⟨r',q1,q2⟩:=dX z;simp only[af,Sum.inl.injEq]at q2;subst q2;exact⟨.ret,s',φ',rfl,q1,g',st,N.mono sub1⟩
 |@cond t x y x' y' _ _ ihx ihy=>
  intro c L R s K r h φ a w g;obtain⟨c',hn,F,hsim⟩:=mh P i c;refine hsim _ _ _ ?_;rw[<- F]at L;obtain⟨cx,cy,rfl,h1,h2⟩:=afa hn L;simp only[oS]at h;split at h
  .rename_i b hb;rcases lT h with ⟨rfl,h⟩|⟨rfl,h⟩
   .refine wp_cond_true (g.bool hb) (wp_mono (ihx cx h1 R s K r h φ a w g) ?_);rintro e a' w' ⟨ex,s',φ',rfl,z,g',st,N⟩;exact⟨ex,s',φ',rfl,z,g',st,N.mono λk z=>by simp only[TC.asg];exact kD z⟩
   .refine wp_cond_false (g.bool hb) (wp_mono (ihy cy h2 R s K r h φ a w g) ?_);rintro e a' w' ⟨ex,s',φ',rfl,z,g',st,N⟩;exact⟨ex,s',φ',rfl,z,g',st,N.mono λk z=>by simp only[TC.asg];exact uZ z⟩
  .rename_i hb;obtain⟨ha,hbb⟩:=abr h;obtain⟨bv,hbv⟩:=g.qv hb;cases bv with
   |true=>
    refine wp_cond_true hbv (wp_mono (ihx cx h1 R s K r ha φ a w g) ?_);rintro e a' w' ⟨ex,s',φ',rfl,z,g',st,N⟩;exact⟨ex,s',φ',rfl,z,g',st,N.mono λk z=>by simp only[TC.asg];exact kD z⟩
   |false=>
    refine wp_cond_false hbv (wp_mono (ihy cy h2 R s K r hbb φ a w g) ?_);rintro e a' w' ⟨ex,s',φ',rfl,z,g',st,N⟩;exact⟨ex,s',φ',rfl,z,g',st,N.mono λk z=>by simp only[TC.asg];exact uZ z⟩
  .cases h
 |@block id b b' _ ih=>
  intro c L R s K r h φ a w g;obtain⟨c',hn,F,hsim⟩:=mh P i c;refine hsim _ _ _ ?_;rw[<- F]at L;obtain⟨cb,rfl,h1⟩:=PI hn L;simp only[oS]at h;refine wp_block (wp_mono (ih cb h1 R s _ r h φ a w g) ?_);rintro e a' w' ⟨ex,s',φ',rfl,z,g',st,N⟩;cases ex with
  |normal=>exact⟨.normal,s',φ',rfl,z,g',st,N⟩
  |ret=>exact⟨.ret,s',φ',rfl,z,g',st,N⟩
  |exit nt=>
   simp only[Ex.to,Exit.inBlock];simp only[]at z;split at z
   .rename_i hb;rw[aG (av hb)];exact⟨.normal,s',φ',rfl,z,g',st,N⟩
   .rename_i hb;rw[aA (λe=>hb (by rw[e];exact eP id))];exact⟨.exit nt,s',φ',rfl,z,g',st,N⟩
 |@zj A id b b' _ ih=>
  intro c L R s K r h φ a w g;obtain⟨c',hn,F,hsim⟩:=mh P i c;refine hsim _ _ _ ?_;rw[<- F]at L;obtain⟨cb,rfl,h1⟩:=PI hn L;simp only[oS]at h;have sub1:∀k,aO (b.asg 0) k=J->aO ((TC.zj A id b).asg 0) k=J:=λk z=>by simp only[TC.asg];exact uZ z
  have sub3:∀k,aO (N' A.ks 0) k=J->aO ((TC.zj A id b).asg 0) k=J:=λk z=>by simp only[TC.asg];exact kD z
  rcases Zf h with ⟨d,h3,h4⟩|h3
  .refine wp_block (wp_mono (ih cb h1 _ s _ _ h3 φ a w g) ?_);rintro e a' w' ⟨ex,s',φ',rfl,z,g',st,N⟩;have fin:ay (OA j A (b.asg 0) s s') (λx=>Z (cw (α:=R) x))=Z (cw d)->am8 P E i j φ s w ((TC.zj A id b).asg 0) K r .normal a' w':=by
    intro z;obtain⟨d',q1,q2⟩:=dX z;simp only[af,Sum.inr.injEq]at q2;subst q2;split at h4
    .rename_i s1 hs1;obtain⟨φ1,g1,st1⟩:=Rd g' q1 hs1 λk _ _ v hv hf ha v' hv'=>by
      obtain⟨v0,e1,e2⟩:=N k ha v' hv';rw[hv]at e1;cases e1;exact e2 hf
     exact⟨.normal,s1,φ1,rfl,h4,g1,st.trans st1,(Gq hs1).1.mono sub3⟩
    .cases h4
   cases ex with
   |normal=>exact fin z
   |ret=>simp only[]at z;obtain⟨_,_,q2⟩:=dX z;simp at q2
   |exit nt=>
    simp only[Ex.to,Exit.inBlock];simp only[]at z;split at z
    .rename_i hb;rw[aG (av hb)];exact fin z
    .obtain⟨_,_,q2⟩:=dX z;simp at q2
  .refine wp_block (wp_mono (ih cb h1 _ s _ _ h3 φ a w g) ?_);rintro e a' w' ⟨ex,s',φ',rfl,z,g',st,N⟩;cases ex with
   |normal=>simp only[]at z;obtain⟨_,_,q2⟩:=dX z;simp at q2
   |ret=>
    simp only[]at z;obtain⟨r',q1,q2⟩:=dX z;simp only[af,Sum.inl.injEq]at q2;subst q2;exact⟨.ret,s',φ',rfl,q1,g',st,N.mono sub1⟩
   |exit nt=>
    simp only[Ex.to,Exit.inBlock];simp only[]at z;split at z
    .obtain⟨_,_,q2⟩:=dX z;simp at q2
    .rename_i hb;rw[aA (λe=>hb (by rw[e];exact eP id))];obtain⟨r',q1,q2⟩:=dX z;simp only[af,Sum.inl.injEq]at q2;subst q2;exact⟨.exit nt,s',φ',rfl,q1,g',st,N.mono sub1⟩
 |@loop A b b' _ ih=>
  intro c L R s K r h φ a w g;obtain⟨c',hn,F,hsim⟩:=mh P i c;refine hsim _ _ _ ?_;rw[<- F]at L;obtain⟨cb,rfl,h1⟩:=TJ hn L;simp only[oS]at h;obtain⟨x0,hx0,h⟩:=dX h;obtain⟨n,hn⟩:=aae h;have sub1:∀k,aO (b.asg 0) k=J->aO ((TC.loop A b).asg 0) k=J:=λk z=>by simp only[TC.asg];exact uZ z
  have sub3:∀k,aO (N' A.ks 0) k=J->aO ((TC.loop A b).asg 0) k=J:=λk z=>by simp only[TC.asg];exact kD z
  obtain⟨step,hstep⟩:∃step:A.D->M (A.D⊕R),step=λx=>(match I4 A (b.asg 0) s x with
   |some s'=>oS j X W inert b s' λex s'=>(match ex with
    |.normal=>ay (OA j A (b.asg 0) s s') λy=>Z (wF y)
    |ex=>ay (K ex s') λr=>Z (cw r))
   |none=>U):=⟨_,rfl⟩
  have hn:iterN step n x0=Z r:=by rw[hstep];exact hn
  have stepEq:∀x,step x=(match I4 A (b.asg 0) s x with
   |some s'=>oS j X W inert b s' λex s'=>(match ex with
    |.normal=>ay (OA j A (b.asg 0) s s') λy=>Z (wF y)
    |ex=>ay (K ex s') λr=>Z (cw r))
   |none=>U):=λx=>by rw[hstep]
  let Inv:Nat->Act->World->Prop:=λn a w'=>∃x s1 φ1,iterN step n x=Z r/\I4 A (b.asg 0) s x=Z s1/\jG P E i j φ1 s1 a w'/\xc j φ φ1 (erHF s.h) (erHF s1.h) w w'
  have head:∀(n:Nat) (x:A.D),iterN step n x=Z r->∃s1,I4 A (b.asg 0) s x=Z s1:=by
   intro n x hn;cases n with
   |zero=>cases hn
   |succ n=>
    simp only[iterN]at hn;cases hr:I4 A (b.asg 0) s x with
    |some s1=>exact⟨s1,rfl⟩
    |none=>rw[stepEq,hr]at hn;cases hn
  refine Ek Inv ?_ (n:=n) ?_
  .rintro n a1 w1 ⟨x,s1,φ1,hi,hr,g1,st1⟩;cases n with
   |zero=>cases hi
   |succ n=>
    simp only[iterN]at hi;have hse:=stepEq x;rw[hr]at hse;simp only[]at hse;obtain⟨kp1,kp1'⟩:=Gq hr;split at hi
    .rename_i y hy;rw[hy]at hse;refine wp_mono (ih cb h1 _ s1 _ _ hse.symm φ1 a1 w1 g1) ?_;rintro e a' w' ⟨ex,s',φ',rfl,z,g',st,N⟩;cases ex with
     |normal=>
      simp only[]at z;obtain⟨d',q1,q2⟩:=dX z;simp only[af,Sum.inl.injEq]at q2;subst q2;obtain⟨s2,hs2⟩:=head n d' hi;obtain⟨φ2,g2,st2⟩:=Rd g' q1 hs2 λk hkk hks v hv hf ha v' hv'=>by
       obtain⟨v0,e1,e2⟩:=N k ha v' hv';have:=kp1' k hks v0 e1;rw[hv]at this;cases this;exact e2 hf
      exact⟨n,by omega,d',s2,φ2,hi,hs2,g2,(st1.trans st).trans st2⟩
     |_=>simp only[]at z;obtain⟨_,_,q2⟩:=dX z;simp at q2
    .rename_i r' hy;cases hi;rw[hy]at hse;refine wp_mono (ih cb h1 _ s1 _ _ hse.symm φ1 a1 w1 g1) ?_;rintro e a' w' ⟨ex,s',φ',rfl,z,g',st,N⟩;cases ex with
     |normal=>simp only[]at z;obtain⟨_,_,q2⟩:=dX z;simp at q2
     |exit id=>
      simp only[]at z;obtain⟨r',q1,q2⟩:=dX z;simp only[af,Sum.inr.injEq]at q2;subst q2;exact⟨.exit id,s',φ',rfl,q1,g',st1.trans st,(kp1.mono sub3).trans (N.mono sub1)⟩
     |ret=>
      simp only[]at z;obtain⟨r',q1,q2⟩:=dX z;simp only[af,Sum.inr.injEq]at q2;subst q2;exact⟨.ret,s',φ',rfl,q1,g',st1.trans st,(kp1.mono sub3).trans (N.mono sub1)⟩
    .cases hi
  .obtain⟨s1,hs1⟩:=head n x0 hn;obtain⟨φ1,g1,st1⟩:=Rd g hx0 hs1 λk _ _ v hv _ _ v' hv'=>by rw[hv]at hv';cases hv';rfl
   exact⟨x0,s1,φ1,hn,hs1,g1,st1⟩
 |exit id=>
  intro c L R s K r h φ a w g;obtain⟨c',hn,F,hsim⟩:=mh P i c;refine hsim _ _ _ ?_;rw[<- F]at L;rw[af9 hn L];exact wp_exit ⟨.exit id,s,φ,rfl,h,g,xc.refl _ _ _ _,fq.refl _ _⟩
 |ret=>
  intro c L R s K r h φ a w g;obtain⟨c',hn,F,hsim⟩:=mh P i c;refine hsim _ _ _ ?_;rw[<- F]at L;rw[ajd hn L];exact wp_ret ⟨.ret,s,φ,rfl,h,g,xc.refl _ _ _ _,fq.refl _ _⟩
 |defer f caps t=>
  intro c L R s K r h φ a w g;simp only[oS]at h;cases h
 |@adj l tc' sc' _ ih=>
  intro c L R s K r h φ a w g;obtain⟨c',hn,F,hsim⟩:=mh P i c;refine hsim _ _ _ ?_;rw[<- F]at L;simp only[oS]at h;split at h
  .rename_i s1 hs1;obtain⟨φ1,g1,st1,kp1⟩:=Sh g hs1;refine wp_mono (ih c' L R s1 K r h φ1 a w g1) ?_;rintro e a' w' ⟨ex,s',φ',rfl,z,g',st,N⟩;exact⟨ex,s',φ',rfl,z,g',st1.trans st,(kp1.mono λk z=>by simp only[TC.asg];exact kD z).trans (N.mono λk z=>by simp only[TC.asg];exact uZ z)⟩
  .cases h
 |@split k off lo n tc' sc' _ ih=>
  intro c L R s K r h φ a w g;obtain⟨c',hn,F,hsim⟩:=mh P i c;refine hsim _ _ _ ?_;rw[<- F]at L;simp only[oS]at h;split at h
  .rename_i kd v hv;obtain⟨np,hj,h2⟩:=S1 h;subst hj;split at h2
   .rename_i s1 hs1;obtain⟨g1,hH,he⟩:=adw g hv hs1;refine wp_mono (ih c' L R s1 K r h2 φ a w g1) ?_;rintro e a' w' ⟨ex,s',φ',rfl,z,g',st,N⟩;exact⟨ex,s',φ',rfl,z,g',by rw[<- hH];exact st,λk z v' hv'=>by
     obtain⟨v,q1,q2⟩:=N k z v' hv';exact⟨v,by rw[<- he];exact q1,q2⟩⟩
   .cases h2
  .cases h
 |@bsp t x y sc' _ _ ihx ihy=>
  intro c L R s K r h φ a w g;simp only[oS]at h;split at h
  .rename_i v hv;rcases lT h with ⟨rfl,h⟩|⟨rfl,h⟩
   .have he:∀q,(s.e.set t (Z (.f .bool J))).get q=s.e.get q:=λq=>by
     rw[PT.get_set];split
     .rename_i e;subst e;exact hv.symm
     .rfl
    obtain⟨g1,hH⟩:=g.congr (s':=⟨s.e.set t (Z (.f .bool J)),s.h,s.nx⟩) he (λ_=>rfl) rfl;refine wp_mono (ihx c L R _ K r h φ a w g1) ?_;rintro e a' w' ⟨ex,s',φ',rfl,z,g',st,N⟩;exact⟨ex,s',φ',rfl,z,g',by rw[<- hH];exact st,λk z v' hv'=>by
     obtain⟨v,q1,q2⟩:=(N.mono λk z=>by simp only[TC.asg];exact kD z) k z v' hv';exact⟨v,by rw[<- he];exact q1,q2⟩⟩
   .have he:∀q,(s.e.set t (Z (.f .bool aa))).get q=s.e.get q:=λq=>by
     rw[PT.get_set];split
     .rename_i e;subst e;exact hv.symm
     .rfl
    obtain⟨g1,hH⟩:=g.congr (s':=⟨s.e.set t (Z (.f .bool aa)),s.h,s.nx⟩) he (λ_=>rfl) rfl;refine wp_mono (ihy c L R _ K r h φ a w g1) ?_;rintro e a' w' ⟨ex,s',φ',rfl,z,g',st,N⟩;exact⟨ex,s',φ',rfl,z,g',by rw[<- hH];exact st,λk z v' hv'=>by
     obtain⟨v,q1,q2⟩:=(N.mono λk z=>by simp only[TC.asg];exact uZ z) k z v' hv';exact⟨v,by rw[<- he];exact q1,q2⟩⟩
  .cases h
 |@unl n b b' _ ih=>
  intro c L R s K r h φ a w g;obtain⟨c',hn,F,hsim⟩:=mh P i c;refine hsim _ _ _ ?_;rw[<- F]at L;obtain⟨cb,rfl,h1⟩:=TJ hn L;simp only[oS]at h
  let Inv:Nat->Act->World->Prop:=λm a w'=>∃s1 φ1,ai3 (λs K=>oS j X W inert b s K) m s1 K=Z r/\jG P E i j φ1 s1 a w'/\xc j φ φ1 (erHF s.h) (erHF s1.h) w w'/\fq (b.asg 0) s.e s1.e
  refine Ek Inv ?_ (n:=n) ⟨s,φ,h,g,xc.refl _ _ _ _,fq.refl _ _⟩;rintro m a1 w1 ⟨s1,φ1,hi,g1,st1,kp1⟩;cases m with
  |zero=>cases hi
  |succ m=>
   simp only[ai3]at hi;refine wp_mono (ih cb h1 R s1 _ r hi φ1 a1 w1 g1) ?_;rintro e a' w' ⟨ex,s',φ',rfl,z,g',st,N⟩;cases ex with
   |normal=>exact⟨m,nZ m,s',φ',z,g',st1.trans st,kp1.trans N⟩
   |exit id=>exact⟨.exit id,s',φ',rfl,z,g',st1.trans st,kp1.trans N⟩
   |ret=>exact⟨.ret,s',φ',rfl,z,g',st1.trans st,kp1.trans N⟩
 |zm sc'=>
  intro c L R s K r h;simp[oS]at h
def QO {s:TS} {w:World} (hinv:gV s.h s.nx) (hiE:sD s.e s.h) (r:sq V O (erHF s.h) w) (en:Qz V (tot O V (erHF s.h)) w (fB s.e s.h) N):∀(D:Y ResultVar) (rvs:Y RV) (l:Y TV),w7 P D=Z rvs->Tb s rvs=Z l->
 ∃la vs,cO s.h l=Z la/\(D.mapM (aa3 N.tmps)).run P w= .ok vs w/\lV V (tot O V (erHF s.h)) w la vs
 |[],rvs,l,z,d=>by
  simp only[w7,af]at z;subst z;simp only[Tb,af]at d;subst d;exact⟨[],[],rfl,by simp,trivial⟩
 |.tmp t::D,rvs,l,z,d=>by
  simp only[w7]at z;split at z
  .rename_i rvs' hrs;cases z;simp only[Tb]at d;split at d
   .rename_i v A;split at d
    .rename_i l' F;cases d;obtain⟨la,vs,h0,h1,h2⟩:=QO hinv hiE r en D rvs' l' hrs F;simp only[rvT]at A;obtain⟨y,hy⟩:=od s.h v (hiE t v A);refine ⟨y::la,N.tmps.getD t undef::vs,qC hy h0,?_,en t y (by simp only[fB,A,aC,hy]),h2⟩;simp only[List.mapM_cons,ec,aa3,pT,cM];show ((D.mapM (aa3 N.tmps)).run P w).andThen _=_;rw[h1];rfl
    .cases d
   .cases d
  .cases z
 |.cell ad t::D,rvs,l,z,d=>by
  simp only[w7]at z;split at z
  .rename_i rvs' sz ag hrs hsz hag;cases z;simp only[Tb]at d;split at d
   .rename_i v A;split at d
    .rename_i l' F;cases d;obtain⟨la,vs,h0,h1,h2⟩:=QO hinv hiE r en D rvs' l' hrs F;simp only[rvT]at A;split at A
     .rename_i id off hp;split at A
      .rename_i ty q hb;obtain⟨q',L⟩:=eR s.h q (hinv.C id _ q hb);obtain⟨y,e1,e2⟩:=YS L A;obtain⟨H,hH⟩:=gD s.h;have hR:xa H sz ag (.H (nm id) off)=Z ⟨y,[nm id],[],[],[]⟩:=by
        have hg:H.get (nm id)=Z ⟨ty,.mx q'⟩:=by rw[hH,bQ,hb];simp only[aC,jY,L]
        simp only[xa,hg,e2]
       obtain⟨_,_,_,h3⟩:=VN (P:=P) hsz hag hR;obtain⟨qq,a,h4,h5,h6⟩:=h3 V O (erHF s.h) w _ (λi _=>by rw[hH]) r (en ad _ (by simp only[fB,hp,aC,cg]));refine ⟨y::la,a::vs,qC e1 h0,?_,h6,h2⟩;have hone:(aa3 N.tmps (.cell ad t)).run P w= .ok a w:=by
        simp only[aa3,ec,h4,asAddr,pT,cM,h5]
       rw[List.mapM_cons];simp only[ec,hone,cM,h1,pT]
      .cases A
     .cases A
    .cases d
   .cases d
  .cases z
def Hr:∀(args:Y TV) (k t:Nat) (x:TV),(Nj k args).get t=Z x->k<=t/\args[t-k]? =Z x
 |[],k,t,x,h=>by simp[Nj,PT.get]at h
 |y::args,k,t,x,h=>by
  rw[Nj,PT.get_set]at h;split at h
  .rename_i d;subst d;cases h;exact⟨cA _,by simp⟩
  .obtain⟨h1,h2⟩:=Hr args (k+1) t x h;refine ⟨by omega,?_⟩;rw[show t-k=t-(k+1)+1 from by omega];simpa using h2
def aej {l:Y TV} (z:lZ h l=J) (D:l[j]? =Z u):N9 h u=J:=by
 obtain⟨l',A⟩:=eR h l z;obtain⟨y,_,d⟩:=lK A j u D;exact Ha _ _ _ d
def WE {inert:FuncId->Bool} (hm:P.follows .mixedOrders=J) (hcon:Gg P X) (hin:Sq P inert) {sf:SF} (hf:BK P f=Z sf) (D:FT) (m:D.pre.ty.den->M D.post.ty.den) (hmod:∀x y,m x=Z y->adq X W inert (Z sf) D x=Z y):ri P f ⟨D.pre,D.post,m⟩:=by
 obtain⟨fn,c,hfn,hb,hnm,hcode,hres,hnt⟩:=Vx hf;refine ⟨⟨fn,hfn,by rw[hb];rfl,hnm⟩,λx y hxy vs hp l1 rs L l2 la lr I A hla hlr φ E w N hrep hrel hdom=>?_⟩;have ht:=hmod x y hxy;unfold adq at ht;simp only[]at ht;split at ht
 .rename_i args h hins;obtain⟨l1',I'⟩:=ya hins;have e1:args=vs:=by have h1:=I.pv;have h2:=I'.pv;rw[h1]at h2;cases h2;rfl
  have e2:l1'=l1:=by have h1:=I.pb;have h2:=I'.pb;rw[h1]at h2;cases h2;rfl
  subst e1 e2;have hget:∀i,h.get i=hp.get i:=λi=>by
   cases h3:hp.get i with
   |some b=>exact (I'.at_ i b).2 ((I.at_ i b).1 h3)
   |none=>
    cases h4:h.get i with
    |none=>rfl
    |some b=>have:=(I.at_ i b).2 ((I'.at_ i b).1 h4);rw[h3]at this;cases this
  have hrow:∀i,eu h i=eu hp i:=λi=>by rw[bH,bH,hget]
  have herH:erHF h=erHF hp:=by
   funext n;unfold erHF;rw[hget];cases h3:hp.get (ow n) with
   |none=>rfl
   |some b=>
    simp only[aC];refine mB (λi r hr=>by rw[hrow];exact hr) (λty l e=>?_) _ _;exact (I.C _ _ l (by rw[h3,e])).1
  have hla':cO h args=Z la:=fT (λi r hr=>by rw[hrow];exact hr) args la hla;split at ht
  .rename_i hle;simp only[au]at hle;have hle2:=aZ hle.2;have hle:=aZ hle.1;have hlen:=hrel.length;have hargl:args.length=la.length:=(gT hla).symm;refine calls_of_wp_defers hfn hb ?_;have hcfg:jG P E fn.ntmps D.pre.bs.length φ ⟨Nj 0 args,h,D.pre.bs.length⟩ {tmps:=N.toArray++uc (fn.ntmps-N.toArray.size) undef,defers:=[]} w:=by
    refine ⟨by rw[herH];exact hrep,?_,hdom,cA _,⟨λi ty l hl=>(I'.C i _ l hl).1,λi b hbb=>I'.lt_len hbb⟩,?_,by simp,by simp;omega⟩
    .intro t z F;simp only[fB]at F;cases hx:(Nj 0 args).get t with
     |none=>rw[hx]at F;cases F
     |some v0=>
      rw[hx]at F;obtain⟨_,h2⟩:=Hr args 0 t v0 hx;rw[Nat.sub_zero]at h2;obtain⟨y0,q1,q2⟩:=lK hla' t v0 h2;simp only[aC]at F;rw[F]at q2;cases q2;obtain⟨v,h3,h4⟩:=hrel.get t z q1;have hlt:t<N.length:=(bq.1 h3).1;have:(N.toArray++uc (fn.ntmps-N.toArray.size) undef).getD t undef=v:=by
       rw[g9,Array.getElem?_append];simp only[kX,hlt,bw,lM,h3,nY]
      show cu φ _ w z ((N.toArray++uc (fn.ntmps-N.toArray.size) undef).getD t undef);rw[this,herH];exact h4
    .intro t v0 hv0;obtain⟨_,h2⟩:=Hr args 0 t v0 hv0;exact aej I'.ok h2
   refine wp_mono (amn (E:=E) hm hcon hin (zL D.hints sf.code 0) c hcode.symm _ _ _ _ ht φ _ w hcfg) ?_;rintro e a' w' ⟨ex,s',φ',rfl,d,g',st,_⟩;have fin:∀(s':TS) (φ':PM),jG P E fn.ntmps D.pre.bs.length φ' s' a' w'->xc D.pre.bs.length φ φ' (erHF h) (erHF s'.h) w w'->(match Tb s' sf.res with
    |some l=>(match DK D.pre.bs.length D.post l s'.h with
     |some ⟨y,_,_,_⟩=>(match C0 D.post y with|some _=>Z y|none=>U)
     |none=>U)
    |none=>U)=Z y->Leaves P fn a'.tmps (λen w'=>∃v φ',en= .returned v/\Gf (own φ (erHF hp)) w w'/\(∀k,k<w.heap.size->own φ' (erHF L) k->own φ (erHF hp) k)/\(∀n,ow n<D.pre.bs.length->φ' n=φ n)/\sq φ' E (erHF L) w'/\cu φ' (tot E φ' (erHF L)) w' (Em lr) v) a'.defers .returning w':=by
    intro s' φ' g' st d;split at d
    .rename_i l hl;split at d
     .rename_i y' m' σ sm hM;split at d
      .cases d;obtain⟨lo,rvs,q0,q1,q2⟩:=QO g'.qz g'.qp g'.qn g'.env fn.results.toList sf.res l hres hl;have g:=xW hM;obtain⟨φ2,lu,hlu,S⟩:=NY (np:=D.pre.bs.length) (E:=E) A g'.qz g q0 g'.qn;rw[hlr]at hlu;cases hlu;have hresults:(results fn a'.tmps).run P w'= .ok (if h:rvs.toArray.size=1 then rvs.toArray[0] else .tuple rvs.toArray) w':=by
        rw[WU,Array.mapM_eq_mapM_toList];simp only[ec,Sem.run_map,q1,cM,pT]
       have hrl:lV φ2 (tot E φ2 (erHF L)) w' lr rvs:=by
        refine lV.of (by rw[q2.length,S.len]) λj z v F hv=>?_
        obtain⟨z0,p1,p2⟩:=S.val j z v F;obtain⟨v',p3,p4⟩:=q2.get j z0 p1;rw[hv]at p3;cases p3;exact p2 p4
       have hval:cu φ2 (tot E φ2 (erHF L)) w' (Em lr) (if h:rvs.toArray.size=1 then rvs.toArray[0] else .tuple rvs.toArray):=by
        have hll:=hrl.length;clear hlr S;cases lr with
        |nil=>
         cases rvs with
         |nil=>exact cu.qg (vs:=[]) rfl (by intro j x v hx;simp at hx)
         |cons _ _=>exact hrl.elim
        |cons z lr=>
         cases rvs with
         |nil=>exact hrl.elim
         |cons v rvs=>
          cases lr with
          |nil=>
           cases rvs with
           |nil=>exact hrl.1
           |cons _ _=>exact hrl.2.elim
          |cons y l=>
           cases rvs with
           |nil=>exact hrl.2.elim
           |cons u rvs=>
            rw[dif_neg (by simp)];refine cu.qg (vs:=v::u::rvs) (by simpa using hll) λj x' v' hx hv=>?_
            obtain⟨v'',q1,q2⟩:=hrl.get j x' hx;rw[hv]at q1;cases q1;exact q2
       have st':xc D.pre.bs.length φ φ' (erHF hp) (erHF s'.h) w w':=by rw[<- herH];exact st
       refine EU hresults ⟨_,φ2,rfl,st'.ext,λk d ho=>st'.qr k d (S.qr k ho),λi hi=>?_,S.qn,hval⟩ a'.defers g'.inert;rw[S.par i hi (dA hi hle2),st'.par i hi]
      .cases d
     .cases d
    .cases d
   have fin2:(match VQ s' (aqs D) with
    |some s=>(match Tb s sf.res with
     |some l=>(match DK D.pre.bs.length D.post l s.h with
      |some ⟨y,_,_,_⟩=>(match C0 D.post y with|some _=>Z y|none=>U)
      |none=>U)
     |none=>U)
    |none=>U)=Z y->Leaves P fn a'.tmps (λen w'=>∃v φ',en= .returned v/\Gf (own φ (erHF hp)) w w'/\(∀k,k<w.heap.size->own φ' (erHF L) k->own φ (erHF hp) k)/\(∀n,ow n<D.pre.bs.length->φ' n=φ n)/\sq φ' E (erHF L) w'/\cu φ' (tot E φ' (erHF L)) w' (Em lr) v) a'.defers .returning w':=by
    intro d;split at d
    .rename_i s2 ha;obtain⟨φ3,c3,t3,_⟩:=Sh g' ha;exact fin s2 φ3 c3 (st.trans t3) d
    .cases d
   cases ex with
   |exit id=>cases d
   |_=>exact fin2 d
  .cases ht
 .cases ht
abbrev A!:=FuncId×cD
def Yi:Y A!->FuncId->M cD
 |[],_=>U
 |(g,c)::r,f=>if ax g f then Z c else Yi r f
def O9 (P:Program):Y A!->Prop
 |[]=>True
 |p::r=>aN P (p.1%65536) p.2/\O9 P r
def ZF :∀{l:Y A!},O9 P l->Gg P (Yi l)
 |[],_,f,c,h=>by simp[Yi]at h
 |(g,d)::r,z,f,c,h=>by
  simp only[Yi]at h;split at h
  .rename_i A;have:=av A;subst this;cases h;exact z.1
  .exact ZF z.2 f c h
def Um {inert:FuncId->Bool} (hm:P.follows .mixedOrders=J) (hin:Sq P inert) {l:Y A!} (z:O9 P l) {D:FT} {m:D.pre.ty.den->M D.post.ty.den} (d:(BK P f).isSome=J) (he:∀x,adq (Yi l) W inert (BK P f) D x=m x):ri P f ⟨D.pre,D.post,m⟩:=by
 obtain⟨A,hf⟩:=jI.1 d;exact WE hm (ZF z) hin hf D m λx y hxy=>by rw[<- hf,he];exact hxy
def ri.sub {pre post:Tm} {m m':pre.ty.den->M post.ty.den} (h:ri P f ⟨pre,post,m⟩) (d:∀x y,m' x=Z y->m x=Z y):ri P f ⟨pre,post,m'⟩:=
 ⟨h.zw,λx y hxy=>h.calls x y (d x y hxy)⟩
def aN.sub {P:Program} {f:FuncId} {pre post:Tm} {m m':pre.ty.den->M post.ty.den} (h:aN P f ⟨pre,post,m⟩) (d:dK (l! pre.bs) (l! post.bs)=J) (z:∀x y,m' x=Z y->m x=Z y):aN P f ⟨pre,post,m'⟩:=
 ((h.holds d).sub z).toC d
def s5 {b:Nat}:∀(x y:Y R),chk (bh (ah x) b) (λ_=>Z x)=Z y->aL (ax (ah x) 0) (Hp (Z ([]:Y R)) (chk (bh (ah ([]:Y R)+ah x) b) λ_=>(Z (([]:Y R)++x)))) (chk (bh (ah ([]:Y R)+ah x) b) λ_=>(Z (([]:Y R)++x)))=Z y:=by
 intro x y h;rw[m8,lm,bO,h];cases x with
 |nil=>
  obtain⟨_,h⟩:=cL h;cases h;show Hp (Z []) (Z [])=_;unfold Hp;rw[aG rfl]
 |cons a r=>rfl
def XE {pre post:Tm} (d:(BK P f).isSome=J):ri P f ⟨pre,post,λ_=>U⟩:=by
 obtain⟨A,hf⟩:=jI.1 d;obtain⟨fn,c,hfn,z,hnm,_⟩:=Vx hf;exact⟨⟨fn,hfn,by rw[z];rfl,hnm⟩,λx y h=>by cases h⟩
def ri.orElse {pre post:Tm} {m m':pre.ty.den->M post.ty.den} (h:ri P f ⟨pre,post,m⟩) (h':ri P f ⟨pre,post,m'⟩):ri P f ⟨pre,post,λx=>match m x with|some y=>Z y|none=>m' x⟩:=
 ⟨h.zw,λx y hxy=>by
   cases hm:m x with
   |some z=>rw[show (cD.m ⟨pre,post,λx=>match m x with|some y=>Z y|none=>m' x⟩ x)=Z z by show (match m x with|some y=>Z y|none=>m' x)=Z z;rw[hm]]at hxy;cases hxy;exact h.calls x _ hm
   |none=>rw[show (cD.m ⟨pre,post,λx=>match m x with|some y=>Z y|none=>m' x⟩ x)=m' x by show (match m x with|some y=>Z y|none=>m' x)=m' x;rw[hm]]at hxy;exact h'.calls x y hxy⟩
def aN.orE {pre post:Tm} {m m':pre.ty.den->M post.ty.den} (d:dK (l! pre.bs) (l! post.bs)=J) (h:aN P f ⟨pre,post,m⟩) (h':aN P f ⟨pre,post,m'⟩):aN P f ⟨pre,post,λx=>AI.orE (m x) (m' x)⟩:=by
 have e:(λx=>AI.orE (m x) (m' x))=λx=>match m x with|some y=>Z y|none=>m' x:=by funext x;cases m x<;>rfl
 rw[e];exact ((h.holds d).orElse (h'.holds d)).toC d
def adm (P:Program) (f:Ty->TypeId->Bool):Y Field->Nat->Ty->Bool
 |[],_,.un=>J
 |[x],off,T=>ax x.offset off&&f T x.type&&ax (P.cellsOf x.type) T.size
 |x::y::r,off,.pr a b=>ax x.offset off&&f a x.type&&ax (P.cellsOf x.type) a.size&&adm P f (y::r) (off+a.size) b
 |_,_,_=>aa
def WD (P:Program) (f:Ty->TypeId->Bool) (e:TypeId):Nat->Ty->Bool
 |1,T=>f T e&&ax (P.cellsOf e) T.size
 |m+2,.pr a b=>f a e&&ax (P.cellsOf e) a.size&&WD P f e (m+1) b
 |_,_=>aa
def Dt (P:Program):Nat->Ty->TypeId->Bool
 |0,_,_=>aa
 |n+1,T,t=>match T,P.underlying t with
  |.int k,Z (.int d)=>k==d
  |.bool,Z .bool=>J
  |.str,Z .string=>J
  |.sl g,Z (.slice e)=>Dt P n g e&&ax (P.cellsOf e) g.size&&dJ 0 g.size
  |.st g,Z (.struct z)=>adm P (Dt P n) z.toList 0 g&&ax (P.cellsOf t) g.size
  |.st g,Z (.array m e)=>WD P (Dt P n) e m g&&ax (P.cellsOf t) g.size
  |_,_=>aa
def YO:(T:Ty)->T.den->Prop
 |.int k,n=>(Lit.int k n).wf=J
 |.str,s=>ah s<=maxLen
 |.sl g,xs=>ah xs<=maxLen/\∀x∈(xs:Y g.den),YO g x
 |.st t,v=>YO t v
 |.pr a b,v=>YO a v.1/\YO b v.2
 |_,_=>True
def Nu (W:World) (T:Ty) (x:T.den) (cs:ξ):Prop:=l! cs=T.size/\∀(j:Nat) y v,(bT T x)[j]? =Z y->cs[j]? =Z v->m6 (λ_=>False) W y v
def M_ (z:R) (P:Nat->R->Prop):∀n:Nat,(∀i,i<n->∃a,P i a)->∃l:Y R,l! l=n/\∀i x,l[i]? =Z x->P i x
 |0,_=>⟨[],rfl,λi x h=>by simp at h⟩
 |n+1,h=>by
  obtain⟨l,A,hp⟩:=M_ z P n (λi hi=>h i (by omega));obtain⟨a,D⟩:=h n (by omega);refine ⟨l++[a],by simp[A],λi x d=>?_⟩;by_cases hi:i<l! l
  .rw[bz hi]at d;exact hp i x d
  .rw[bU (by omega)]at d;by_cases h0:i-l! l=0
   .rw[h0]at d;simp at d;subst d;rw[show i=n from by omega];exact D
   .rw[bK (by simp;omega)]at d;cases d
def Addr.add_plain {a:Addr} (h:a.spot=U) (n:Nat):a.add n=⟨a.block,a.off+n,U⟩:=by
 unfold Addr.add;split
 .rename_i h0;subst h0;cases a;simp at h;subst h;rfl
 .rfl
def abo {w:World} {a:Addr} (h:w.cell? a=Z v):a.spot=U:=by
 unfold QD at h;split at h
 .split at h
  .cases h
  .rename_i d;cases hh:a.spot with
   |none=>rfl
   |some _=>simp[hh]at d
 .cases h
variable {L:ξ}
def Nu.sub {W:World} {x:T.den} (h:Nu W T x ((L.drop i).take j)) (A:j=T.size) (D:i+j<=l! L):∀(n:Nat) y v,(bT T x)[n]? =Z y->L[i+n]? =Z v->m6 (λ_=>False) W y v:=λn y v d z=>by
 refine h.2 n y v d ?_;have F:n<T.size:=by have:=(bq.1 d).1;rwa [bD]at this
 rw[cP,aG (by omega),im];exact z
section
variable {H:Type} {enc:TypeId×Value->H} {P:Program} {W:World} {base:Nat} {sp:Nat->Bool} {hd:Bool}
def Y8 {f:Ty->TypeId->Bool} {m:Nat} (L:∀(T:Ty) (t:TypeId) (cs:ξ) x,f T t=J->DataW.trod enc P W base sp hd m t cs=Z x->∃v,Nu W T v cs/\YO T v) (cs:ξ) (ts:Y (DataW H×Y MemPlace)):
 ∀(fs:Y Field) (off k:Nat) (T:Ty),adm P f fs off T=J->off+T.size<=l! cs->(∀(i:Nat) (fl:Field),fs[i]? =Z fl->∃z,DataW.trod enc P W base sp hd m fl.type ((cs.drop fl.offset).take (P.cellsOf fl.type))=Z z)->
 ∃v,(∀(j:Nat) y u,(bT T v)[j]? =Z y->cs[off+j]? =Z u->m6 (λ_=>False) W y u)/\YO T v
 |[],off,k,.un,_,_,_=>⟨(),λj y u d=>by simp[bT]at d,trivial⟩
 |[x],off,k,T,h,hl,F=>by
  simp only[adm,au]at h;obtain⟨⟨h1,h2⟩,D⟩:=h;have h1:=av h1;have D:=av D;obtain⟨z,N⟩:=F 0 x rfl;obtain⟨v,A,hw⟩:=L T _ _ _ h2 N;rw[h1]at A;exact⟨v,A.sub D (by omega),hw⟩
 |x::x'::r,off,k,.pr a b,h,hl,F=>by
  simp only[adm,au]at h;obtain⟨⟨⟨h1,h2⟩,D⟩,h4⟩:=h;have h1:=av h1;have D:=av D;simp only[Ty.size]at hl;obtain⟨z,N⟩:=F 0 x rfl;obtain⟨v,A,hw⟩:=L a _ _ _ h2 N;rw[h1]at A;have A:=A.sub D (by omega);obtain⟨v',hv',hw'⟩:=Y8 L cs ts (x'::r) (off+a.size) (k+1) b h4 (by omega) (λi fl hi=>F (i+1) fl (by simpa using hi));refine ⟨(v,v'),λj y u d hu=>?_,hw,hw'⟩;simp only[bT]at d;by_cases hj:j<a.size
  .rw[bz (by rw[bD];exact hj)]at d;exact A j y u d hu
  .rw[bU (by rw[bD];omega),bD]at d;exact hv' _ y u d (by rw[show off+a.size+(j-a.size)=off+j from by omega];exact hu)
def Y9 {f:Ty->TypeId->Bool} {m:Nat} (F:∀(T:Ty) (t:TypeId) (cs:ξ) x,f T t=J->DataW.trod enc P W base sp hd m t cs=Z x->∃v,Nu W T v cs/\YO T v) (cs:ξ):
 ∀(n i:Nat) (T:Ty),WD P f s n T=J->i*P.cellsOf s+T.size<=l! cs->(∀j,j<n->∃z,DataW.trod enc P W base sp hd m s ((cs.drop ((i+j)*P.cellsOf s)).take (P.cellsOf s))=Z z)->
 ∃v,(∀(j:Nat) y u,(bT T v)[j]? =Z y->cs[i*P.cellsOf s+j]? =Z u->m6 (λ_=>False) W y u)/\YO T v
 |0,i,T,h,_,_=>by unfold WD at h;cases h
 |1,i,T,h,hl,D=>by
  simp only[WD,au]at h;have h3:=av h.2;obtain⟨z,L⟩:=D 0 (by omega);obtain⟨v,d,hw⟩:=F T _ _ _ h.1 L;rw[cZ]at d;exact⟨v,d.sub h3 (by omega),hw⟩
 |n+2,i,T,h,hl,D=>by
  cases T with
  |pr a b=>
   simp only[WD,au]at h;obtain⟨⟨h1,h2⟩,h4⟩:=h;have h3:=av h2;simp only[Ty.size]at hl;obtain⟨z,L⟩:=D 0 (by omega);obtain⟨v,d,hw⟩:=F a _ _ _ h1 L;rw[cZ]at d;have d:=d.sub h3 (by omega);obtain⟨v',hv',N⟩:=Y9 F cs (n+1) (i+1) b h4 (by rw[QF,Nat.one_mul];omega) (λj hj=>by have:=D (j+1) (by omega);rwa [show i+(j+1)=i+1+j from by omega]at this);refine ⟨(v,v'),λj y u A hu=>?_,hw,N⟩;simp only[bT]at A;by_cases hj:j<a.size
   .rw[bz (by rw[bD];exact hj)]at A;exact d j y u A hu
   .rw[bU (by rw[bD];omega),bD]at A;exact hv' _ y u A (by rw[QF,Nat.one_mul,show i*P.cellsOf s+P.cellsOf s+(j-a.size)=i*P.cellsOf s+j from by omega];exact hu)
  |_=>unfold WD at h;cases h
def Kb:∀(n:Nat) (T:Ty) (t:TypeId) (fuel:Nat) (cs:ξ) x,Dt P n T t=J->(∀b,sp b=J)->DataW.trod enc P W base sp hd fuel t cs=Z x->∃v,Nu W T v cs/\YO T v
 |0,_,_,_,_,_,h,_,_=>by unfold Dt at h;cases h
 |n+1,T,t,fuel,cs,x,h,hsp,ht=>by
  unfold Dt at h;split at h
  .rename_i k k' A;have hk:=eq_of_beq h;subst hk;obtain⟨m,rfl,_,F⟩:=DataW.trod_int A ht;refine ⟨m,⟨rfl,λj y v d z=>?_⟩,F⟩;cases j with
   |zero=>simp[bT]at d z;subst d z;exact .raw _
   |succ j=>simp[bT]at d
  .rename_i A;obtain⟨b,rfl,_⟩:=DataW.trod_bool A ht;refine ⟨b,⟨rfl,λj y v d z=>?_⟩,trivial⟩;cases j with
   |zero=>simp[bT]at d z;subst d z;exact .raw _
   |succ j=>simp[bT]at d
  .rename_i A;obtain⟨s,rfl,_,hs⟩:=DataW.trod_string A ht;refine ⟨s.data.toList,⟨rfl,λj y v d z=>?_⟩,by simpa[YO] using hs⟩;cases j with
   |zero=>simp[bT]at d z;subst d z;exact .raw _
   |succ j=>simp[bT]at d
  .rename_i g e A;simp only[au]at h;obtain⟨⟨h1,h2⟩,h3⟩:=h;have h2:=av h2;have h3:0<g.size:=aZ h3;rcases Go.Deep.open_slice A ht with ⟨rfl,_⟩|⟨a,len,cap,m,k,D,Pl,rfl,hb,hl,hm,hmm,_,hi⟩
   .refine ⟨[],⟨rfl,λj y v d z=>?_⟩,by simp[YO]⟩;cases j with
    |zero=>simp[bT]at d z;subst d z;exact .nil _ _ (by unfold maxLen;omega)
    |succ j=>simp[bT]at d
   .rw[hsp,aG rfl]at hmm;rw[h2]at hi;obtain⟨xs,hx1,hx2⟩:=M_ g.zero (λi (v:g.den)=>∃cs',W.cells? base (a.add (i*g.size)) g.size=Z cs'/\Nu W g v cs'/\YO g v) len (λi hil=>by
     obtain⟨cs',hc,htt⟩:=hi i (by omega);obtain⟨v,z,F⟩:=Kb n g e k cs' _ h1 hsp htt;exact⟨v,cs',hc,z,F⟩)
    refine ⟨xs,⟨rfl,λj y v d z=>?_⟩,by show ah xs<=maxLen;omega,λy d=>?_⟩
    .cases j with
     |succ j=>simp[bT]at d
     |zero=>
      simp[bT]at d z;subst d z;by_cases h0:len=0
      .have:xs=[]:=ef.1 (by omega);subst this h0;exact .nil _ _ hm
      .obtain⟨x0,hx0⟩:∃x0,xs[0]? =Z x0:=⟨xs[0]'(by omega),aD (by omega)⟩
       obtain⟨cs0,hc0,_⟩:=hx2 0 x0 hx0;obtain⟨_,hcl0,hat0⟩:=World.cells?_some hc0;have hca:=hat0 0 h3;rw[aD (by omega)]at hca;have hspot:a.spot=U:=by
        have:=abo hca;simpa[Addr.add] using this
       have hblk:=World.block_lt_of_cell? W _ hca;rw[Nat.zero_mul,Addr.add_plain hspot,Addr.add_plain rfl]at hca hblk;have hcell:∀(i j:Nat) x,xs[i]? =Z x->j<g.size->∃cs',W.cell? ⟨a.block,a.off+(i*g.size+j),U⟩=cs'[j]? /\j<l! cs'/\Nu W g x cs':=λi j x hx N=>by
        obtain⟨cs',hc,hr,_⟩:=hx2 i x hx;obtain⟨_,hcl,hat⟩:=World.cells?_some hc;have:=hat j N;rw[Addr.add_plain hspot,Addr.add_plain rfl,ud]at this;exact⟨cs',this,by omega,hr⟩
       have hflat:∀j,j<l! xs*g.size->∃x,xs[j/g.size]? =Z x/\j%g.size<g.size/\j=j/g.size*g.size+j%g.size:=λj N=>by
        have h5:j/g.size<l! xs:=Nat.div_lt_of_lt_mul (by rw[wH];exact N);exact⟨xs[j/g.size],aD h5,Nat.mod_lt _ h3,by rw[wH];exact (Nat.div_add_mod j g.size).symm⟩
       have hlen:l! (List.flatMap (bT g) xs)=l! xs*g.size:=d9 (bD g) xs;obtain⟨ab,ao,az⟩:=a;cases hspot;rw[<- hx1];refine .sl (List.flatMap (bT g) xs) (l! xs) cap ab ao (λj=>(W.cell? ⟨ab,ao+j,U⟩).getD undef) (by omega) hm (λh=>h) hblk (mA g xs) (λj N=>?_) (λj y d=>?_)
       .obtain⟨x,hx,hjs,hje⟩:=hflat j (by omega);obtain⟨cs',g1,g2,_⟩:=hcell _ _ x hx hjs;rw[<- hje]at g1;simp only[g1,aD g2,nY]
       .have N:j<l! xs*g.size:=by rw[<- hlen];exact (bq.1 d).1
        obtain⟨x,hx,hjs,hje⟩:=hflat j N;obtain⟨cs',g1,g2,g3⟩:=hcell _ _ x hx hjs;rw[<- hje]at g1;simp only[g1];rw[aD g2];refine g3.2 (j%g.size) y _ ?_ (aD g2);obtain⟨r,hr⟩:=G6 (bD g) xs (j/g.size) x hx;have:((List.flatMap (bT g) xs).drop (j/g.size*g.size))[j%g.size]? =Z y:=by rw[im,<-hje];exact d
        rw[hr,bz (by rw[bD];exact hjs)]at this;exact this
    .obtain⟨i,L⟩:=fY d;obtain⟨_,_,_,F⟩:=hx2 i y L;exact F
  .rename_i g fs A;simp only[au]at h;have h2:=av h.2;obtain⟨xs,m,rfl,_,hl,hxl,hg⟩:=DataW.trod_struct A ht;obtain⟨v,z,F⟩:=Y8 (f:=Dt P n) (m:=m) (λT t cs x h1 h2=>Kb n T t m cs x h1 hsp h2) cs xs fs.toList 0 0 g h.1 (by omega) (λi fl hi=>by
    have L:fs[i]? =Z fl:=by simpa using hi
    have:=hg i fl L;have hlt:i<l! xs:=by rw[hxl];exact (cz.1 L).1
    rw[aD hlt]at this;exact⟨_,this⟩)
   exact⟨v,⟨by rw[hl,h2];rfl,λj y u d A=>z j y u d (by rw[bO];exact A)⟩,F⟩
  .rename_i g m e A;simp only[au]at h;have h2:=av h.2;obtain⟨xs,q,rfl,_,hl,hxl,hg⟩:=DataW.trod_array A ht;obtain⟨v,z,F⟩:=Y9 (f:=Dt P n) (m:=q) (λT t cs x h1 h2=>Kb n T t q cs x h1 hsp h2) cs m 0 g h.1 (by omega) (λj N=>by
    have:=hg j N;rw[aD (by omega)]at this;rw[bO];exact⟨_,this⟩)
   exact⟨v,⟨by rw[hl,h2];rfl,λj y u d A=>z j y u d (by rw[Nat.zero_mul,bO];exact A)⟩,F⟩
  .cases h
def Ts {r:Reach} (d:Dt P i T s=J) (h1:T.one=J) (h:J1 P W r j s v):v.cells.toList=[v]:=by
 cases i with
 |zero=>unfold Dt at d;cases d
 |succ i=>
  unfold Dt at d;unfold J1 at h;cases v with
  |agg cs=>
   exfalso;split at d<;>rename_i z<;>first|(rw [z]at h;simp only[]at h;unfold Cell.okWide at h;rw[z]at h;unfold Cell.ok at h;rw[z]at h;simp at h)|cases h1|cases d
  |_=>rfl
def W1 {r:Reach} (d:Dt P i T s=J) (h1:T.one=aa) (h:J1 P W r j s v):∃cs,v= .agg cs:=by
 cases i with
 |zero=>unfold Dt at d;cases d
 |succ i=>
  unfold Dt at d;unfold J1 at h;split at d<;>rename_i z<;>first|(rw [z]at h;obtain⟨cs,h,_⟩:=h;exact⟨cs,h⟩)|cases h1|cases d
def open_arg {n:Nat} {d:DataW H} {D:Y MemPlace} {r:Reach} (A:Dt P n T s=J) (hsp:∀b,sp b=J) (hok:J1 P W r i s v) (h:DataW.Trod enc P W base sp hd s v d D):∃x,m6 (λ_=>False) W (fO T x) v/\YO T x:=by
 obtain⟨fuel,hf⟩:=h;obtain⟨x,z,L⟩:=Kb n T s fuel _ _ A hsp hf;refine ⟨x,?_,L⟩;by_cases h1:T.one=J
 .obtain⟨e1,e2⟩:=Fp T x h1;exact z.2 0 _ v (by rw[e1];rfl) (by rw[Ts A h1 hok];rfl)
 .obtain⟨cs,rfl⟩:=W1 A (by simpa using h1) hok;rw[r_ T x (by simpa using h1)];have hl:l! cs.toList=l! (bT T x):=by rw[bD];exact z.1
  have:=m6.agg (O:=λ_=>False) (w:=W) (bT T x) cs.toList hl (pi T x) (λj y u F N=>z.2 j y u F N);simpa using this
end
def SH {w:WT} {l:Y ET} (d:Cm (w,l)) {H:WkH} (A:HK w l H):Ok (mT (w,l)) λy=>y.2=0/\∃tm la sp wa wt st se op re ar si ei,WkG w l (l! l) y.1 tm la sp wa wt st se op re ar si ei/\H (l! l) y.1 tm la sp wa wt st se op re ar si ei:=by
 obtain⟨a,z⟩:=aho d;unfold mT iK;refine aQ z (hX (aw (PQ d A) ?_));rintro y ⟨c,tm,la,sp,wa,wt,st,se,op,re,ar,si,ei,rfl,g,h⟩;exact aj ⟨rfl,tm,la,sp,wa,wt,st,se,op,re,ar,si,ei,g,h⟩
def SJ {w:WT} {l:Y ET} (h:¬Cm (w,l)):mT (w,l)=Z ([],12):=by
 obtain⟨⟨a,b⟩,e,d⟩:=YM w l;have z:¬b=0:=λg=>h (d.1 g)
 refine cf ?_;unfold mT iK;exact aQ e (cj (λ_=>aj rfl) λg=>(z g).elim)
def Wt {w:WT} {l:Y ET} (h:¬Cm (w,l)):ju (w,l)=Z ([],12):=by
 obtain⟨⟨a,b⟩,e,d⟩:=YM w l;have z:¬b=0:=λg=>h (d.1 g)
 refine cf ?_;unfold ju tT jH ki kh aY bi bt b7 dc fx kl lA NF cW cY dN bn bR iK bI bY jZ bc c7 aH cS;exact aQ e (cj (λ_=>aj rfl) λg=>(z g).elim)
set_option maxRecDepth 10000 in
def SE {w:WT} {l:Y ET} (tr:Cm (w,l)):Ok (ju (w,l)) λy=>y.2=0:=by
 have hl:l! l<=400:=tr.len;obtain⟨a,ha⟩:=aho tr;unfold ju tT jH ki kh aY bi bt b7 dc fx kl lA NF cW cY dN bn bR iK bI bY jZ bc c7 aH cS;refine aQ ha (hX (aw (PQ tr (H:=λ_ _ _ _ _ _ _ _ _ _ _ _ _ _=>True) ⟨trivial,λ_ _ _ _ _ _ _ _ _ _ _ _ _ _ _ _ _ _ _=>trivial⟩) ?_));rintro y ⟨c,tm,la,sp,wa,wt,st,se,op,re,ar,si,ei,rfl,g,_⟩;dsimp only;have hcl:=g.ci.k.cl;have htl:=g.ci.k.tl;refine dO (l! l) (by omega) (λb x=>∃r,x=((b:Int),(w,l),(w,l),r,c,tm,la,sp,wa,wt,st,se,op,re,si,ei,ar)/\l! r<=b*400) ?_ ?_ ⟨[],rfl,by simp⟩
 .rintro b x hb ⟨r,rfl,hr⟩;have hev:Sy w (eN l b):=tr.ev _ (XO hb);refine gQ ?_;refine aV (λx=>∃r,x=((w,l),(w,l),r,c,tm,la,sp,wa,wt,st,se,op,re,si,ei,ar)/\l! r<=(b+1)*400) ?_ ?_
  .refine eQ (aT ?_);dsimp only;have hge:geti gx l (b:Int)=eN l b:=rfl;rw[hge];refine aV (λx=>∃f,x=(f,(w,l),(w,l),r,eN l b,c,tm,la,sp,wa,wt,st,se,op,re,si,ei,ar)) ?_ ?_
   .refine aQ (Hw _) (di (λ_=>aj ⟨_,rfl⟩) λh=>?_);have hc:=hev.nm.ce (bl h);exact aJ hc.1 hc.2 (aT (aj ⟨_,rfl⟩))
   rintro x ⟨f,rfl⟩;dsimp only;refine aM (λ_=>aj ⟨r,rfl,by omega⟩) λ_=>?_
   refine c6 (a? (a? ?_));have htk:l! (dg (aS (b:Int)) l)=b:=by rw[cv,bF];omega
   refine dO b (by omega) (λj x=>∃r,x=((j:Int),(w,l),(w,l),r,eN l b,c,tm,la,sp,wa,wt,st,se,op,re,si,ei,ar)/\l! r<=b*400+j) ?_ ?_ ⟨r,rfl,by omega⟩
   .rintro j x hj ⟨r,rfl,hr⟩;refine gQ ?_ (by dsimp only;rw[htk];simp only[ak];omega);have hgj:geti gx (dg (aS (b:Int)) l) (j:Int)=eN l j:=by
     rw[bF];show geti gx (dg b l) (j:Int)=geti gx l (j:Int);rw[Oy,Oy,aB,aB,List.getElem?_take_of_lt hj]
    refine aV (λx=>∃r,x=((w,l),(w,l),r,eN l b,c,tm,la,sp,wa,wt,st,se,op,re,si,ei,ar)/\l! r<=b*400+(j+1)) ?_ ?_
    .refine aJ (by dsimp only;omega) (by dsimp only;rw[htk];omega) (aT ?_);dsimp only;rw[hgj];refine aV (λx=>∃f,x=(f,(w,l),(w,l),r,eN l b,eN l j,c,tm,la,sp,wa,wt,st,se,op,re,si,ei,ar)) ?_ ?_
     .exact aQ (Hw _) (di (λ_=>aj ⟨_,rfl⟩) λh=>cj (λ_=>aj ⟨_,rfl⟩) λ_=>aj ⟨_,rfl⟩)
     rintro x ⟨f,rfl⟩;dsimp only;refine aM (λ_=>aj ⟨r,rfl,by omega⟩) λ_=>?_
     refine aV (λx=>∃f,x=(f,(w,l),(w,l),r,eN l b,c,tm,la,sp,wa,wt,st,se,op,re,si,ei,ar)) ?_ ?_
     .exact aK (λ_=>aj ⟨_,rfl⟩) λ_=>aj ⟨_,rfl⟩
     rintro x ⟨f,rfl⟩;dsimp only;refine aV (λx=>∃f,x=(f,(w,l),(w,l),r,eN l b,c,tm,la,sp,wa,wt,st,se,op,re,si,ei,ar)) ?_ ?_
     .refine aM (λ_=>?_) λ_=>aj ⟨_,rfl⟩
      refine eQ (eQ (aT (eQ (eQ (aT ?_)))));have hth:0<=(geti fP tm (j:Int)).2:=g.ci.k.jt (i:=(j:Int)) (by omega) (by omega);exact aQ (Yg _ hth) (aj ⟨_,rfl⟩)
     rintro x ⟨f,rfl⟩;dsimp only;refine aM (λ_=>a_ ?_ (by omega) (aj ⟨_,rfl,?_⟩)) λ_=>aj ⟨r,rfl,by omega⟩
     .rw[bP];omega
     .rw[bG,bP];omega
    rintro x ⟨r,rfl,hr⟩;refine aj ⟨r,?_,hr⟩;show (be .i64 ((j:Int)+1),_)=_;rw[fA]
   .rintro x ⟨r,rfl,hr⟩;exact gC (aj ⟨r,rfl,by omega⟩) (by dsimp only;rw[htk];simp only[ak];omega)
  rintro x ⟨r,rfl,hr⟩;refine aj ⟨r,?_,hr⟩;show (be .i64 ((b:Int)+1),_)=_;rw[fA]
 .rintro x ⟨r,rfl,hr⟩;exact gC (aj rfl)
def Pr (w:WT) (l:Y ET):mq (w,l)=Z J:=by
 refine cf ?_;unfold mq bn bc aH;refine aw (ahp w l) λy A=>?_
 by_cases h:Cm (w,l)
 .refine aw (SH h (H:=λ_ _ _ _ _ _ _ _ _ _ _ _ _ _=>True) ⟨trivial,λ_ _ _ _ _ _ _ _ _ _ _ _ _ _ _ _ _ _ _=>trivial⟩) λz d=>aw (SE h) λr D=>aK (λ_=>gk (aK (λ_=>aK (λ_=>aj (aj (bj ?_))) λg=>(g D).elim) λg=>(g d.1).elim)) λg=>(g (A.2 h)).elim
  obtain⟨_,tm,la,sp,wa,wt,st,se,op,re,ar,si,ei,g,_⟩:=d;show aR (l! z.1)=aR (l! l);rw[g.ci.k.cl]
 .exact aQ (SJ h) (aQ (Wt h) (aK (λg=>(h (A.1 g)).elim) λ_=>gk (uA (uA (aj (aj rfl))))))
def ahq (a b c:η) (at_ fi n:Int) (ha:l! a<=9223372036854775807) (hx:∀z∈a,0<=z/\z<=255) (hc:l! c<=9223372036854775807) (hy:∀z∈c,0<=z/\z<=255) (h0:0<=at_/\at_<=255) (m:Int) (N:0<=m) (m1:m<=1000000):Ok (ng ((a,b,c),m,at_,fi,n)) λ_=>True:=by
 unfold ng aY bi bt b7 dc cW cY dN iX bn kj bI bY bc aH;refine aw (Sj a b c m N m1 ha hx hc hy) ?_;rintro⟨w,l⟩ L;have hl:=L.len;dsimp only at hl;refine aK (λ_=>aj trivial) λD=>?_
 have D:¬(l! l:Int)=0:=D;have F:0<=bJ (be .i64 at_) (aR (l! l))/\bJ (be .i64 at_) (aR (l! l))<(l! l:Int):=by
  rw[ic];exact⟨Int.tmod_nonneg _ h0.1,Int.tmod_lt_of_pos _ (by dsimp only[ak];omega)⟩
 dsimp only at F ⊢;generalize bJ (be .i64 at_) (aR (l! l))=j at F ⊢;obtain⟨d,A⟩:=F;have hls:=L.ls _ (bZ (T:=gx) (xs:=l) (j:=j) d A);obtain⟨ls1,ls2⟩:=hls;refine a! (xO D (aJ d A ?_));refine aV (λ_=>True) ?_ λ_ _=>aj trivial
 refine aK (λ_=>aJ d A (aj trivial)) λ_=>aK (λ_=>aJ d A (aj trivial)) λ_=>aK (λ_=>aJ d A (aj trivial)) λ_=>aK (λ_=>aJ d A (aj trivial)) λ_=>aK (λ_=>aJ d A (aj trivial)) λ_=>aK (λ_=>aJ d A (aT ?_)) λ_=>aK (λ_=>aJ d A (aT ?_)) λ_=>?_
 .exact a! (a_ (by rw[bP];omega) (by omega) (aJ d A (aj trivial)))
 .exact a! (a_ (by rw[bP];omega) (by omega) (aJ d A (aj trivial)))
 refine aV (λx=>x.2.2.2.2.2.2.2=l) (aj rfl) ?_;rintro⟨x1,x2,x3,x4,x5,x6,x7,x8⟩ e;dsimp only at e;subst e;refine aM (λ_=>?_) λ_=>aj trivial
 have w1:be .i64 (j+1)=j+1:=ic;dsimp only;rw[w1];refine c6 (c6 (QY rfl (dm d (a? (c6 (a? (a? (a_ ?_ (by omega) (aM (λ_=>aj trivial) λ_=>aj trivial)))))))));rw[cv,lW];omega
def R9 (h:(Lit.int .u8 a).wf=J):0<=a/\a<=255:=⟨bl (wv.1 h).1,bl (wv.1 h).2⟩
def Ga (t:R?) (a b c:η) (at_ d n:Int) (N:l! a<=9223372036854775807) (F:∀z∈a,0<=z/\z<=255) (L:l! c<=9223372036854775807) (D:∀z∈c,0<=z/\z<=255) (h0:0<=at_/\at_<=255):Ok (kO (t,(a,b,c),at_,d,n)) λy=>y=J:=by
 obtain⟨w,l⟩:=t;unfold kO aY bi bt bN cY bR bc aH;refine aV (λx=>x.2=((w,l),(a,b,c),at_,d,n)) (aW (λ_=>aj rfl) λ_=>aW (λ_=>aj rfl) λ_=>aj rfl) ?_;rintro⟨q,x⟩ e;dsimp only at e;subst e;refine aM (λ_=>aQ ZM (aj rfl)) λ_=>?_
 refine gk (aQ (Pr w l) (uA (aw (ahq a b c at_ d n N F L D h0 20 (by omega) (by omega)) ?_)));rintro⟨w1,A⟩ _;exact aQ (Pr w1 A) (uA (aQ ZM (aj (aj rfl))))
def WeakRefuses_law (x:(WT×Y ET)×(η×η×η)×Int×j!) (w:YO (.pr (.st (.pr oO (.sl gx))) (.pr (.st (.pr (.sl (.int .u8)) (.pr (.sl (.int .u8)) (.sl (.int .u8))))) (.st (.pr (.int .u8) (.pr (.int .u8) (.int .i8)))))) x):kO x=Z J:=by
 obtain⟨t,⟨a,b,c⟩,at_,F,n⟩:=x;obtain⟨_,⟨⟨D,w0⟩,_,⟨A,w2⟩⟩,q1,_⟩:=w;obtain⟨y,h,rfl⟩:=Ga t a b c at_ F n D (λz d=>R9 (w0 z d)) A (λz d=>R9 (w2 z d)) (R9 q1);exact h
def inert (_:FuncId):Bool:=aa
def TK:Sq Tryz.prog inert:=λ_ h=>by cases h
def d_ :Y (Nat×R)->PT R
 |[]=>.leaf
 |p::r=>(d_ r).set p.1 (Z p.2)
noncomputable abbrev Pg:Program:=Tryz.prog
def cn (D:FT) (m:D.pre.ty.den->M D.post.ty.den):cD:=⟨D.pre,D.post,m⟩
def aqk:Pg.follows .mixedOrders=J:=by kernel_rfl
def ac {c:cD} {l:Y A!} (h:aN Pg f c) (t:O9 Pg l) (hf:dJ f 65536=J:=by rfl):O9 Pg ((f,c)::l):=⟨by rw[Ed (R_ hf)];exact h,t⟩
def ac2 {c:cD} {l:Y A!} (q:FuncId) (d:q%65536=f) (h:aN Pg f c) (t:O9 Pg l):O9 Pg ((q,c)::l):=⟨by rw[d];exact h,t⟩
def an:O9 Pg []:=trivial
inductive OI {R:Type}:Option R->Option R->Prop where
 |rfl {a:Option R}:OI a a
 |chk {b:Bool} {k k':Option R} (h:mK k k'):OI (chk b λ_=>k) (chk b λ_=>k')
 |aL {b:Bool} {t f t' f':Option R} (h1:mK t t') (h2:mK f f'):OI (aL b t f) (aL b t' f')
 |lt {α:Type} {x:α} {k k':α->Option R} (h:∀y,mK (k y) (k' y)):OI (lt x k) (lt x k')
 |jn {α:Type} {o o':Option (R⊕α)} {k k':α->Option R} (h:mK o o') (hk:∀x,mK (k x) (k' x)):OI (jn o k) (jn o' k')
 |ay {α:Type} {o o':Option α} {k k':α->Option R} (h:mK o o') (hk:∀x,mK (k x) (k' x)):OI (ay o k) (ay o' k')
 |iter {σ:Type} {f g:σ->Option (σ⊕R)} {x:σ} (h:∀x,mK (f x) (g x)):OI (hZ f x) (iter g x)
def OI.o {a b:M R} (h:OI a b):mK a b:=by
 cases h with
 |rfl=>exact mK.rfl
 |chk h=>exact mK.chk h
 |aL h g=>exact mK.bcase h g
 |lt h=>exact mK.lt h
 |jn h g=>exact mK.jn h g
 |ay h g=>exact mK.obind h g
 |iter h=>exact mK.iter h
def mk (D:FT) (m:D.pre.ty.den->M D.post.ty.den) {l:Y A!} (F:O9 Pg l) (d:TypeId->M Ty) (he:∀x,adq (Yi l) d inert (BK Pg f) D x=m x:=by intro x;kernel_rfl) (z:(BK Pg f).isSome=J:=by kernel_rfl) (A:dK (l! D.pre.bs) (l! D.post.bs)=J:=by kernel_rfl):aN Pg f (cn D m):=(Um aqk TK F z he).toC A
def B_ (D:FT) (m n:D.pre.ty.den->M D.post.ty.den) (A:∀x,mK (m x) (n x)) {l:Y A!} (L:O9 Pg l) (d:TypeId->M Ty) (he:∀x,adq (Yi l) d inert (BK Pg f) D x=n x:=by intro x;kernel_rfl) (z:(BK Pg f).isSome=J:=by kernel_rfl) (F:dK (l! D.pre.bs) (l! D.post.bs)=J:=by kernel_rfl):aN Pg f (cn D m):=((Um aqk TK L z he).sub A).toC F
def HW (D:FT) (d:(BK Pg f).isSome=J:=by kernel_rfl) (z:dK (l! D.pre.bs) (l! D.post.bs)=J:=by kernel_rfl):aN Pg f (cn D λ_=>U):=(XE d).toC z
def ŷ (n:Nat)(k l:Y Nat)(a:Y PV)(b:Y PB):Nat×ahg:=(n,.j ⟨k,l,⟨a,b⟩,[]⟩)
def Ÿ (n:Nat)(k l:Y Nat)(a:Y PV)(b:Y PB)(z:Y Adj):Nat×ahg:=(n,.j ⟨k,l,⟨a,b⟩,z⟩)
abbrev Ź (a:Y PV)(b:Y PB)(c:Y PV)(d:Y PB)(h:PT ahg):FT:=⟨⟨a,b⟩,⟨c,d⟩,h⟩
def ź (a:Y PV)(b:Y PB)(c:Y PV)(d:Y PB)(h:PT ahg)(m:(Ź a b c d h).pre.ty.den->M (Ź a b c d h).post.ty.den):cD:=cn (Ź a b c d h) m
def Z!:PV:=.d aP
def Z?:PV:=.d .bool
def À:PB:=.F 2 J aP
def Á:PV:=.H 0 0
def Â:PB:=.F 56 J (.sl aP)
def Ã:PB:=.C 58 [.d gx]
def Ä:PB:=.F 3 J aP
def Å:PB:=.F 3 aa aP
def Æ:PB:=.F 4 J .bool
def Ç:PB:=.C 123 [.d wi]
def È:PV:=.d eZ
def É:PB:=.C 81 [.d jL]
def Ê:PB:=.C 170 [.d fP]
def Ë:PV:=.H 1 0
def Ì:PB:=.I (.ir 3 aP) 0
def Í:PB:=.C 28 [.d oO]
def Î:PV:=.d gx
def Ð:PV:=.d (.sl aP)
def Ò:PV:=.d (.sl hJ)
def Ó:PV:=.d oO
def Ô:PV:=.d (.sl .str)
def Õ:PV:=.d Ka24
def Ö:PB:=.F 9 J .str
def Ø:PB:=.C 203 [.d sx]
def Ù:PB:=.I (.ar 141 l7) 0
def Ú:PV:=.H 2 0
def Û:PB:=.C 31 [.d Ka24]
def Ü:PV:=.d jL
def Ý:PB:=.C 113 [.d AK]
def Þ:PV:=.H 3 0
def ß:PB:=.F 152 J hJ
def à:PV:=.d wi
def á:PV:=.G 3
def â:PV:=.nil
def ã:PV:=.G 4
def ä:PB:=.F 150 J dF
def å:PV:=.G 6
def ç:PV:=.d fP
def è:PV:=.d (.sl dF)
def é:PV:=.d .str
def ê:PV:=.G 7
def ë:PV:=.G 5
def ì:PV:=.d nz
def í:PV:=.H 4 0
def î:PV:=.G 11
def ï:PB:=.I (.rr 56 1) 13
def ð:PB:=.C 167 [.d Qy]
def ñ:PB:=.C 190 [.d eZ]
def ò:PB:=.F 71 J fP
def ó:PV:=.G 2
def ô:PV:=.G 0
def õ:PV:=.d Gd
def ö:PV:=.d (.sl IW)
def ø:PV:=.d sx
def ù:PV:=.G 1
def ú:PB:=.C 78 [.d Gd]
def û:PB:=.I (.rr 56 1) 12
def ü:PV:=.ob 12 0
def ý:PV:=.qy 61 [(15,0),(16,0),(0,0)]
def þ:PV:=.qy 64 [(15,0),(0,0),(16,0)]
def Ā:PV:=.d .ex
def ā:PB:=.C 3 [.d aP]
def Ă:PV:=.d xy
def ă:PB:=.qf 9 .str
def Ą:PV:=.d Qy
def ą:PB:=.qk
def Ć:PV:=.d (.sl mD)
def ć:PV:=.d (.sl s7)
def Ċ:PV:=.d AK
def ċ:PB:=.I (.qc 137) 11
def Č:PV:=.d (.sl nK)
def č:PV:=.d (.sl pR)
def Ď:PV:=.d (.sl uv)
def ď:PV:=.G 8
def Đ:PB:=.C 78 [.G 2,.d aP,.G 3,.G 4]
def đ:PB:=.I (.rr 56 1) 14
def Ē:PV:=.d .sm
def ē:PB:=.qf 213 .sm
def Ĕ:PV:=.H 16 0
def ĕ:PB:=.C 213 [.d .sm]
def Ė:PV:=.G 10
def ė:PB:=.C 211 [.d .ex]
def Ę:PV:=.H 6 0
def ę:PB:=.F 9 aa .str
def ě:PV:=.d (.sl .sm)
def ĝ:PB:=.F 150 aa dF
def ğ:PV:=.qy 95 [(1,0)]
def Ġ:PV:=.H 15 0
def Ģ:PV:=.H 5 0
def Ĥ:PV:=.H 14 0
def ĥ:PV:=.G 12
def Ħ:PB:=.F 213 J .sm
def ħ:PB:=.C 190 [.d aP,.G 3,.G 4,.d aP]
def ĩ:PV:=.qy 60 [(14,0)]
def Ī:PB:=.C 186 [.d yE]
def ī:PB:=.C 78 [.G 4,.d aP,.G 5,.G 6]
def Ĭ:PV:=.d JY
def ĭ:PV:=.qw 1 1 4
def Į:PB:=.I .qh 11
def į:PB:=.C 98 [.d pR]
def İ:PB:=.F 98 J pR
def ı:PV:=.H 7 0
def Ĳ:PB:=.I (.rr 56 1) 15
def Ĵ:PV:=.qw 4 1 4
def ĵ:PB:=.F 203 J sx
def Ķ:PV:=.d (.sl gx)
def ķ:PV:=.d (.sl fP)
def ĸ:PB:=.C 118 [.d xy]
def Ĺ:PV:=.G 9
def ļ:PB:=.F 58 J gx
def Ŀ:PB:=.mp nK .un
def ŀ:PB:=.C 63 [.d mD]
def Ł:PV:=.d (.int .u8)
def ń:PV:=.d Ge
def Ũ:PB:=.C 123 [à]
def Ů:PB:=.C 170 [ç]
def ť:PB:=.C 58 [Î]
def Ų:PB:=.C 31 [Õ]
def ŧ:PB:=.C 81 [Ü]
def Ň:Y PB:=[Ų,ŧ]
def Ū:PB:=.C 203 [ø]
def ŗ:Y PV:=[Z!,ì,Ò]
def ō:Y PV:=(è::ŗ)
def Ŏ:Y PV:=[Á,Ë,Ú]
def ŏ:Y PV:=[Ć,ć,Č,Ô,Ô,č]
def Ő:Y PB:=[ä,Æ,ß,À,À]
def Ŕ:Y PB:=[À,Â]
def ũ:PB:=.C 113 [Ċ]
def Ř:Y PB:=[Ä,Ä,Ä,Ä]
def Ŗ:Y PV:=[Z!,Z!]
def Ŧ:PB:=.C 28 [Ó]
def ř:Y PB:=[ũ,ŧ,Ŧ]
def Ŝ:Y PV:=[Ë,Z!,Z!,Z?,Z?,Z?,Z?]
def ŵ:PB:=.C 78 [õ]
def Ş:Y PB:=[ŧ,ť]
def ş:Y PB:=[Ŧ,ť]
def Š:Y PV:=[Z!,È,È]
def š:Y PV:=[Z!,Z!,Z!,Z!,Z!]
def Ţ:Y PB:=[.F 63 J mD,.F 94 J s7,.F 96 J nK,Ö]
def ţ:Y PB:=[Ŧ,į]
def ū:PB:=.C 167 [Ą]
def Ŭ:PB:=.C 190 [È]
def ŭ:PB:=.C 3 [Z!]
def ů:PB:=.C 213 [Ē]
def Ű:PB:=.C 211 [Ā]
def ű:PB:=.C 78 [ó,Z!,á,ã]
def Ŵ:PB:=.C 190 [Z!,á,ã,Z!]
def Ŷ:PB:=.C 118 [Ă]
abbrev wE:Y PV:=(š++[â,â])
def Ï:PB:=.C 58 wE
abbrev xv:Y PV:=[â,Z!,â,â,â,â,â]
def Ñ:PB:=.C 118 xv
def Ļ:PB:=.C 81 xv
def Ś:Y PB:=[Ů,Ñ,Ï,ť]
abbrev amf:Y PV:=(Ŝ++[ã])
abbrev amj:Y PV:=[Z!,Z!,é,é,â,Z!,Z!,é,â,â,â]
abbrev La2:Y PB:=[.C 207 amf,ũ,ą,.C 213 amj,ă]
abbrev Qx:Y PV:=(Ŏ++[Þ,í,Ģ,Ę,ı,Z?])
abbrev La4:Y PB:=[.C 199 (ŏ++Ô::ó::Ŗ),ą,ĵ]
abbrev La5:Y PB:=[.C 199 (ŏ++Ô::ù::Ŗ),ĵ]
abbrev La6:Y PV:=[Z!,î,ĥ,Z!]
def ÿ:PB:=.C 190 La6
def œ:Y PB:=[Ů,Ñ,Ï,ť,ÿ,Ū,À,À]
abbrev La7:Y PB:=[.C 167 [â,â],.C 207 [Ģ,Z!,Z!,Z?,Z?,Z?,Z?,å],.C 167 [ö,ê],ę,.C 197 [é,Z!,ď,Ĺ],ũ,ă,.F 197 J uv,ę,Ħ]
abbrev La8:Y PB:=[.C 237 [ö,Ď,Z!,ù,å,ê],ē,ą,ą,ů,ū,Ö,Ö]
abbrev La9:Y PV:=(ō++[ď,Ĺ,.qw 10 4 4])
def ĺ:PB:=.C 118 La9
def ŉ:Y PB:=(Ũ::ĺ::œ)
abbrev al2:Y PB:=[.C 118 (ō++[å,ê,.qw 8 4 4]),Ů,Ñ,Ï,ť,Ŭ,À,À,.C 190 [È,È,È,È]]
abbrev amg:Y PV:=(Ŝ++[ó])
abbrev Sm:Y PV:=[ń,Z!]
def Ě:PB:=.C 113 Sm
abbrev YH:Y PB:=[.C 207 amg,Ě,ă]
abbrev O8:Y PV:=(Ŏ++[Þ,í,Ģ,Ę,ı,Z!])
abbrev aof:Y PV:=(ō++[ď,Ĺ,.qw 10 4 3])
def Ŋ:Y PB:=(Ũ::.C 118 aof::œ)
abbrev ap0:Y PB:=(Ŋ++.C 190 (Z!::î::ĥ::Š)::Ŕ)
abbrev aoz:Y PB:=(Ŋ++.C 190 [È,Z!,î,ĥ,Z!,È]::Ŕ)
abbrev aoy:Y PB:=(Ŋ++.C 190 [È,È,Z!,î,ĥ,Z!]::Ŕ)
abbrev ami:Y PV:=(ō++[ď,Ĺ,.qw 10 4 2])
def Œ:Y PB:=(Ũ::.C 118 ami::œ)
abbrev aox:Y PB:=(Œ++.C 190 [Z!,î,ĥ,Z!,È]::Ŕ)
abbrev aow:Y PB:=(Œ++.C 190 [È,Z!,î,ĥ,Z!]::Ŕ)
abbrev acg:Y PB:=[.C 237 [ö,Ď,Z!,ù,ã,ë],ē,ą,ą,Ö,Ö]
abbrev O7:Y PV:=(Ŏ++[Þ,í,Ģ,Ę,Z?])
abbrev iB:Y PV:=[Á,Z?]
abbrev acf:Y PB:=[.C 237 [ö,Ď,Z!,ù,ó,á],ē,Ö,Ö]
abbrev aov:Y PB:=(Ũ::.C 118 (ō++[ď,Ĺ,.qw 10 4 1])::Ů::Ñ::Ï::ť::ÿ::Ū::À::À::ÿ::Ŕ)
abbrev O6:Y PV:=(Ŏ++[Þ,í,Ģ,Ę])
abbrev aou:Y PB:=(ŉ++.C 190 [Z!,î,ĥ,Z!,È,È,È]::Ŕ)
abbrev aot:Y PB:=(ŉ++.C 190 (È::Z!::î::ĥ::Š)::Ŕ)
abbrev aos:Y PB:=(ŉ++.C 190 [È,È,Z!,î,ĥ,Z!,È]::Ŕ)
abbrev aor:Y PB:=(ŉ++.C 190 [È,È,È,Z!,î,ĥ,Z!]::Ŕ)
abbrev Ny:Y PB:=[Ŧ,ŧ,ť,Ļ]
abbrev O5:Y PV:=(Ŏ++[Þ,í,Ģ])
abbrev aoq:Y PB:=[.C 118 (ō++[å,ê,.qw 8 4 3]),Ů,Ñ,Ï,ť,Ŭ,À,À,.C 190 [È,È,È]]
abbrev V6:Y PV:=(ō++[ê,ď,.qw 9 4 4])
def Ĝ:PB:=.C 118 V6
def ņ:Y PB:=(Ũ::Ĝ::Ś)
abbrev sr:Y PV:=[Á,Ë,Z?]
abbrev wh:Y PV:=(Ŏ++[Þ,Z?])
abbrev aku:Y PV:=[â,â,â,â,â,â]
def ł:PB:=.C 28 aku
abbrev aoo:Y PB:=(ū::ł::.C 28 [ã,ë,å,ê,â,â]::.C 240 [.d IW]::Ţ)
abbrev YG:Y PV:=[â,â,â,â,â,â,â]
def Ľ:PB:=.C 31 YG
abbrev art:Y PV:=(ŏ++[ë])
abbrev as5:Y PB:=[ū,.C 123 YG,.C 123 art,.C 199 (ŏ++Ô::å::Ŗ),.C 186 [Z!,å],.F 186 J yE,ĵ]
abbrev JX:Y PV:=[ô,Z!,ù,ó]
def Ğ:PV:=.agg JX
def ġ:PV:=.agg [.agg JX,.G 3,.G 4,.qw 5 4 2]
def ų:PV:=.agg [Ğ,á,ã,.qw 5 4 2]
abbrev aon:Y PB:=(ř++ļ::.C 56 [ë,å,ê,ď]::Ř)
abbrev Hz:Y PV:=(Ŏ++[Z!])
abbrev Nx:Y PV:=[Z!,Ð,Ĭ,Z!]
def ĉ:PB:=.C 190 Nx
abbrev ace:Y PV:=(ō++[ê,ď,.qw 9 4 3])
def Ĩ:PB:=.C 118 ace
def ň:Y PB:=(Ũ::Ĩ::Ś)
abbrev aom:Y PB:=(ř++.C 56 [ã,ë,å,ê]::Ř)
abbrev Hy:Y PV:=(Ŏ++[Z?])
abbrev wg:Y PV:=[Á,Ë,Z!]
abbrev Nw:Y PV:=[Z!,Ė,î,Z!]
def Ĉ:PB:=.C 190 Nw
abbrev akt:Y PV:=[Z!,ô,ù,Z!]
abbrev Z0:Y PV:=[Z!,â,â,Z!]
def Ń:PB:=.C 190 Z0
abbrev aol:Y PB:=[À,Â,Ū,.C 190 akt,Ń]
abbrev aok:Y PB:=[.C 237 [ö,Ď,Z!,ã,ë,å],ą,ą,ą,ē,Ö,Ö]
abbrev wd:Y PV:=[â,Z!,â,â]
def æ:PB:=.C 78 wd
def ŝ:Y PB:=[ŵ,æ]
abbrev aoj:Y PB:=[ű,æ,ä,Æ,ß]
abbrev Nv:Y PV:=[Á,Þ,Z?]
abbrev as4:Y PB:=[.C 118 (ō++[å,ê,.qw 8 4 2]),Ů,Ñ,Ï,ť,Ŭ,À,À,.C 190 [È,È]]
abbrev as3:Y PB:=[Ľ,ũ,.C 31 art,ŧ,.F 58 aa gx,ļ]
abbrev rn:Y PB:=[Ŧ]
abbrev as2:Y PB:=(ř++ļ::.C 56 [ê,ď,Ĺ,Ė]::ť::ŧ::Ř)
abbrev al1:Y PB:=[ł,.C 28 [ó,á,ã,ë,å,ê],.F 63 aa mD,.F 94 aa s7,.F 96 aa nK,ę,ę,İ]
abbrev wD:Y PV:=[Á,Z!]
abbrev ah5:Y PV:=[ó,á,ã,ë]
def ĳ:PB:=.C 56 ah5
def ŕ:Y PB:=(ũ::ĳ::Ř)
abbrev as1:Y PB:=(ŕ++[Ï,.C 58 (š++[Ð,â])])
abbrev al0:Y PV:=(ō++[ê,ď,.qw 9 4 2])
def ľ:PB:=.C 118 al0
def Ō:Y PB:=(Ũ::ľ::Ś)
abbrev O4:Y PV:=[Ă,Î,Z?]
abbrev as0:Y PB:=(ŕ++[ŧ,Ŧ,Ï,Ï])
abbrev arz:Y PB:=(ū::ł::.C 28 [á,ã,ë,å,â,â]::Ţ)
abbrev aoi:Y PV:=(ō++[á,ã,ë])
abbrev O3:Y PV:=[à,Ă,ç]
abbrev aoh:Y PB:=[ä,Æ,ß,.C 78 JX,Ä]
abbrev ah8:Y PV:=[á,Z!,ã,ë]
abbrev ary:Y PB:=[Ŧ,.C 78 ah8,æ,ä,Æ,ß]
abbrev xu:Y PV:=Ŗ
abbrev aog:Y PB:=[ļ,Ũ,Ŷ,Ñ]
abbrev arx:Y PB:=(Ī::Ŵ::Ń::Ŕ)
abbrev arw:Y PB:=[.C 207 amf,ũ,ą,Ħ,ă]
abbrev aoe:Y PV:=(Ŝ++[á])
abbrev arv:Y PB:=[Ï,Ŭ,Ū,.C 58 (š++[ã,â]),Ä]
abbrev Sl:Y PB:=[ů]
abbrev akz:Y PV:=[.agg [Ğ,á,ã,.qw 5 4 4]]
abbrev V5:Y PB:=[ū]
abbrev aod:Y PB:=[Ŧ,Ī,Ū]
abbrev aky:Y PB:=[ū,.C 197 [.d uv]]
abbrev akx:Y PB:=[ū,Ű]
abbrev aoc:Y PB:=[ä,Æ,ß]
abbrev aob:Y PB:=[Ŧ,Ö,ŀ]
abbrev akw:Y PB:=[Ŧ,Ū]
abbrev akv:Y PV:=[Á,í,Ģ,Z?]
abbrev aoa:Y PV:=(Ŏ++[Þ,í,Z!])
abbrev YF:Y PB:=[Ŧ,ŵ]
abbrev ao9:Y PB:=[ũ,Ä,Ä]
abbrev acd:Y PB:=[Ŧ,Ö]
abbrev ao8:Y PB:=[ť,Ļ,.C 81 aoi,À,À,Ä]
abbrev aru:Y PB:=(Ě::ĳ::Ř)
abbrev V4:Y PB:=[Ě]
abbrev O2:Y PV:=[Ð,Z!]
abbrev acb:Y PB:=[ũ]
abbrev YE:Y PV:=[Á,ù,Z!]
abbrev aca:Y PB:=[.C 240 [.d IW]]
abbrev ao7:Y PV:=[.agg [Ğ,á,ã,.qw 5 4 3]]
abbrev ahd:Y PB:=Ŕ
abbrev ahc:Y PB:=[Ũ,Ŷ]
abbrev ahb:Y PB:=[Ŧ,Ī]
abbrev rh:Y PV:=[Ð]
def Ņ:PB:=.C 56 rh
abbrev aha:Y PV:=(Ŏ++[Þ])
abbrev amh:Y PV:=(ō++[ê,ď,.qw 9 4 1])
def ś:Y PB:=[Ũ,.C 118 amh,Ů,Ñ,Ï,ť]
abbrev ah9:Y PB:=[ŵ,Ä]
abbrev V7:Y PV:=(Á::Ŗ)
def tyT:PT Ty:=d_ [(2,aP),(3,aP),(4,.bool),(9,.str),(48,fP),(56,(.sl aP)),(58,gx),(63,mD),(71,fP),(75,nz),(94,s7),(96,nK),(98,pR),(150,dF),(152,hJ),(170,fP),(186,yE),(190,eZ),(197,uv),(203,sx),(211,.ex),(213,.sm),(240,IW)]
def co (t:TypeId):M Ty:=tyT.get t
def OM:=ź [] [] [Ô] [] .leaf pL
def M3:=ź [é] [] [Z?] [] (d_ [ŷ 8 [0,3] [4] [Z!] []]) kM
def Vv:=ź [Ł] [] [Z?] [] (d_ [ŷ 2 [] [2] [Z?] []]) mJ
def Yf:=ź [Ł] [] [Z?] [] (d_ [ŷ 2 [] [2] [Z?] []]) vI
def Ye:=ź [Ł] [] [Z?] [] (d_ [ŷ 2 [] [2] [Z?] []]) qR
def Vw:=ź [é] [] [Z?] [] (d_ [ŷ 3 [0] [21] [Z?] [],ŷ 14 [0] [3] [Z!] []]) fG
def X8:=ź [Z?] [] [Z!] [] .leaf f_
def X9:=ź xu [] [Z!,Z?] [] .leaf vG
def Vr:=ź (Z!::Ŗ) [] [Z!,Z?] [] (d_ [ŷ 91 [] [6,7] [Z!,Z?] [],ŷ 97 [] [6,7] [Z!,Z?] []]) tN
def X_:=ź xu [] [Z!] [] (d_ [ŷ 12 [] [5] [Z!] []]) sR
def OL:=ź [Z!] [] [Z!] [] (d_ [ŷ 4 [0] [3] [Z?] [],ŷ 10 [0] [10] [Z?] [],ŷ 16 [] [17] [Z?] []]) pK
def qD:=Ź [Ā] [] [Z?] [] (d_ [ŷ 2 [] [1,3] iB [Ű],ŷ 5 [] [1,50] iB [Ű],ŷ 16 [] [1,4] wD [Ű]])
def JB:cD:=cn qD lx
def I_ (n:Nat):cD:=cn qD (jX n)
def Yd:=ź [Ā] [] [Z?] [] (d_ [ŷ 2 [] [2] [Z?] []]) sS
def ut:=Ź [Ē] [] [Z?] [] (d_ [ŷ 3 [] [1,13] iB Sl,ŷ 10 [] [1,3] iB Sl,ŷ 13 [] [1,47] iB Sl,ŷ 21 [] [1,66] iB Sl,ŷ 29 [] [1,95] iB Sl,ŷ 36 [] [1,4] iB Sl,ŷ 39 [] [1,130] iB Sl,ŷ 46 [] [1,5] iB Sl,ŷ 49 [] [1,157] iB Sl,ŷ 56 [] [2] [Z?] []])
def I9 (n:Nat):cD:=cn ut (iz n)
def pj:=Ź [ě] [] [Z?] [] (d_ [ŷ 6 [0] [3] [Z!] []])
def Hk:cD:=cn pj sT
def GH (n:Nat):cD:=cn pj (fS n)
def JA:=ź [.d IW] [] [Z?] [] (d_ [ŷ 3 [] [1,31] iB aca,ŷ 11 [] [1,50] iB aca,ŷ 18 [] [2] [Z?] []]) nj
def Vu:=ź [Ą] [] [Z?] [] (d_ [ŷ 6 [] [1,3] wD V5,ŷ 27 [] [1,4] wD V5,ŷ 42 [4] [1,5,6] wg aky,ŷ 59 [4] [1,56] iB V5]) tP
def ak3:=ź [Ô,é] [] [Z!] [] (d_ [ŷ 6 [0,1] [5] [Z!] []]) lh
def Vt:=ź [ö,é] [] [Z!] [] (d_ [ŷ 6 [0,1] [5] [Z!] []]) jC
def OK:=ź [Ď,é] [] [Z!] [] (d_ [ŷ 6 [0,1] [5] [Z!] []]) i_
def Vs:=ź [Ą,Z!,é] [] [Z!] [] (d_ [ŷ 3 [2] [3,27] iB V5,ŷ 52 [7] [3,56] iB V5]) tO
def abd:=ź (Ą::Z!::é::Ŗ) [] [Z!] [] (d_ [ŷ 13 [] [25] [Z?] []]) io
def zI:=Ź [Ā] [] xu [] (d_ [ŷ 8 [] [1,4,5,6] (Á::Z!::Ŗ) [Ű]])
def Yb:cD:=cn zI Lg
def Xd (n:Nat):cD:=cn zI (qV n)
def zH:=Ź [Ą,Z!,Ā] [] [Z!] [] (d_ [ŷ 7 [1] [3,5,7] wg akx,ŷ 21 [1] [3,5,7,8] (Á::Ë::Ŗ) akx,ŷ 23 [1,7,8] [3,5,33] sr akx])
def X':cD:=cn zH Lf
def Xc (n:Nat):cD:=cn zH (qU n)
def abe:=ź [Ą,Z!,Ā] [] [Z!] [] (d_ [ŷ 13 [1] [3,5,22] sr akx]) oZ
def RZ:=ź [Z?] [] [Z!] [] .leaf dy
def ak2:=ź xu [] [Z!] [] .leaf ko
def Hj:=ź [Á,Z!,Z!,é] acf [Z?] acf (d_ [ŷ 6 [1,2,3] [0,9] wD acf,ŷ 17 [1,2,3,9] [0,46] iB acf]) eJ
def OH:=ź [Á,Ē] acf [Z!] acg (d_ [(1,(.a [.qx 0 4,.qx 0 5])),ŷ 28 [6,7,8,9,30] [0,3,5,67] akv La8,ŷ 41 [] [4] [Z!] acg,ŷ 44 [6,7,8,9,30] [0,3,5,91] akv La8,ŷ 51 [] [4] [Z!] acg,ŷ 63 [] [4] [Z!] acg,ŷ 66 [6,7,8,9,30] [0,3,5,119] akv La8,ŷ 89 [] [4] [Z!] acg,ŷ 108 [] [0,3,187] [Á,í,Z?] [.C 237 [ö,Ď,Z!,ù,ë,å],ē,ą,ą,ů,Ö,Ö],ŷ 131 [] [4] [Z!] acg,ŷ 137 [6] [0,3,5,14] [Á,í,Ģ,Z!] La8,ŷ 139 [6] [0,3,5,14] [Á,í,Ģ,Z!] La8,ŷ 140 [6,14] [0,3,5,253] akv La8]) pJ
def tF:=Ź [Á,ě] acf xu aok (d_ [(1,(.a [.qx 0 3,.qx 0 4,.qx 0 5])),ŷ 6 [1] [0,6] wD aok,ŷ 19 [1,6] [0,7,8] [Á,í,Z!] [.C 237 [ö,Ď,Z!,ë,å,ê],ą,ą,ą,ů,ē,Ö,Ö],ŷ 37 [1,6] [0,8,9] V7 aok])
def OJ:cD:=cn tF CZ
def Ob (n:Nat):cD:=cn tF (nG n)
def zJ:=Ź [ě] [] [Z!] [] (d_ [ŷ 8 [0] [3,4] xu []])
def Yc:cD:=cn zJ Lh
def Xe (n:Nat):cD:=cn zJ (qW n)
def Ya:=ź [ö] [] xu [] (d_ [ŷ 8 [0] [4,5,6,7,8] (Z!::Z!::Z!::Ŗ) [],ŷ 16 [0,8] [4,5,6,7] (Z!::Z!::Ŗ) [],ŷ 38 [0,8] [4,5,6,7,9] [Z!,Z!,Z!,Z!,Á] aca,ŷ 39 [0,4,5,6,7,8,36] [9,39] iB aca,ŷ 47 [0,4,5,6,7,8,36] [9,47] iB aca,ŷ 61 [0,4,5,6,7,8] [9,69] iB aca]) vH
def RY:=ź [Ą] [] xu [] (d_ [ŷ 6 [] [1,4] wD V5,ŷ 17 [4] [1,5,37] sr aky,ŷ 29 [] [1,6] wD V5,ŷ 51 [6] [1,7,8] wg aky,ŷ 62 [6,8] [1,7,90] sr aky]) rP
def R1:=ź [Ą] [] xu [] (d_ [ŷ 44 [] [1,8,9] V7 V5,(67,(.a [.qb 10 3 213 .sm,.qb 10 4 9 .str,.qb 10 5 9 .str])),ŷ 69 [] [1,10,11] wg [ū,.C 237 [ö,Ď,Z!,ó,á,ã],ē,Ö,Ö]]) lG
def zG:=Ź [ô,Z!,Z!,ě] [İ] [ù,Z!] [ą,İ] (d_ [(1,(.a [.qx 0 0])),ŷ 6 [1,3] [0,2,10] (ù::Ŗ) [ą,İ],(25,(.a [.nil 8 98 pR]))])
def X2:cD:=cn zG Ld
def Xb (n:Nat):cD:=cn zG (qT n)
def Vo:=ź [ć,é] [] [Z!] [] (d_ [ŷ 6 [0,1] [5] [Z!] []]) mH
def Vq:=ź [Ó,é] [] [Z!] [] (d_ [ŷ 6 [1] [2,5] wD rn]) mI
def X6:=ź [Ą] [] [Ó] [] (d_ [Ÿ 18 [] [1,2,3,6] Hz arz [.qb 3 0 63 mD,.qb 3 1 94 s7,.qb 3 2 96 nK,.qb 3 3 9 .str],ŷ 31 [6] [1,2,3] Ŏ arz,ŷ 32 [6,31] [1,2,3,7,39] wh aoo,ŷ 42 [6] [1,2,3,7,8] (Ŏ++[Þ,Z!]) aoo,ŷ 53 [6,31] [1,2,3,7,65] wh aoo,(69,(.a [.qb 3 5 98 pR])),Ÿ 71 [] [1,2,3,9] Hz [ū,ł,.C 28 [á,ã,ë,å,ê,ď],.F 63 J mD,.F 94 J s7,.F 96 J nK,Ö,Ö,İ] [.qb 3 4 9 .str]]) vF
def X3:=ź [Ó] [] [Ô,Z?] [] (d_ [Ÿ 8 [] [1,4,5] YE acd [.nil 4 9 .str],ŷ 15 [] [1,4,5] YE acd,ŷ 37 [5] [1,4,6,51] [Á,ù,Ú,Z?] aob,ŷ 48 [5] [1,4,6,7] [Á,ù,Ú,Z!] aob,ŷ 59 [5,7] [1,4,6,93] [Á,ù,Ú,Z?] aob,ŷ 72 [] [1,4,9] YE acd,ŷ 87 [] [1,4,10] YE acd]) qP
def Jz:=ź [Ó] [] [Z?] [] (d_ [ŷ 3 [] [1,49] iB rn,ŷ 24 [3] [1,5] wD rn,ŷ 33 [3,5] [1,79] iB rn,ŷ 45 [] [1,6] wD rn,ŷ 56 [6] [1,109] iB rn,ŷ 68 [] [1,8] wD rn,ŷ 76 [8] [1] [Á] rn,ŷ 80 [8] [1,9,132] sr ţ,ŷ 87 [8] [1,9,146] sr ţ,ŷ 90 [8] [1,165] iB rn]) iy
def M2:=ź [ø] [] rh [] (d_ [ŷ 6 [4] [1,5] iB [Ū],ŷ 24 [4] [1,13] iB [Ū],ŷ 46 [4] [1,37] iB [Ū]]) kL
def Vp:=ź [Z!] [] [Z?] [] (d_ [ŷ 2 [] [2] [Z?] []]) qZ
def X4:=ź [.d (.sl sx),Z!] [] [Z?] [] (d_ [ŷ 6 [0] [1,5] xu [],ŷ 14 [0,5] [1] [Z!] [],ŷ 16 [0,1,5] [19] [Z?] []]) vD
def ak1:=ź xu [] [Z?] [] (d_ [ŷ 2 [] [4] [Z?] []]) kn
def X5:=ź (Ó::Ŗ) [] [Z?] [] (d_ [ŷ 2 [] [6] [Z?] []]) sQ
def RU:=ź [Ó,ø] [] [Z?] [] (d_ [ŷ 9 [] [4] [Z?] [],ŷ 15 [] [4] [Z?] [],ŷ 30 [6] [2,3,59] sr akw,ŷ 37 [] [4] [Z?] [],ŷ 40 [6] [2,3,78] sr akw,ŷ 55 [] [4] [Z?] [],ŷ 58 [6] [2,3,98] sr akw,ŷ 72 [6] [2,3,108] sr akw,ŷ 97 [] [4] [Z?] [],ŷ 103 [] [4] [Z?] []]) rN
def Hi:=ź [Ó,Z!,.d yE] [] [Z?] [] (d_ [ŷ 5 [1,7] [3,5,26] sr ahb,ŷ 16 [1,7] [3,5,8] wg ahb,ŷ 28 [1,7,8] [3,5,9,67] Hy aod,ŷ 36 [1,7,8] [3,5,9,100] Hy aod,ŷ 44 [1,7,8] [3,5,9,122] Hy aod,ŷ 56 [1,7,8,10] [3,5,11] wg ahb]) mo
def X7:=ź [à] [] [Z?] [] (d_ [ŷ 3 [] [1,17] iB [Ũ],ŷ 14 [] [1,3] wD [Ũ]]) qQ
def RW:=ź [Á,ø] La5 [] La4 .leaf cV
def sg:=Ź [Á,Ā,Z!] La5 [] La4 (d_ [ŷ 2 [] [] [] La4])
def M0:cD:=cn sg jB
def Lt (n:Nat):cD:=cn sg (jE n)
def Jy:=ź [Á,Ē] La5 [] La4 .leaf nh
def OG:=ź [Á,é] La5 [Z!] La5 (d_ [ŷ 6 [1] [0,5] wD La5]) kz
def sh:=Ź [Á,ě] La5 [] La4 (d_ [(1,(.a [.qx 0 7])),ŷ 3 [1] [0,4] wD La4])
def M1:cD:=cn sh vE
def Lu (n:Nat):cD:=cn sh (dZ n)
def xo:=Ź [Á,Ē] La5 [] La4 (d_ [(1,(.a [.qx 0 7])),ŷ 10 [] [] [] La4,ŷ 15 [4,25] [0,3,31] [Á,Ú,Z?] [.C 199 (ŏ++Ô::á::Ŗ),ą,ů,ĵ]])
def Oa (n:Nat):cD:=cn xo (eU n)
def sj:=Ź [Á,Ē] La5 [] La4 .leaf
def EW (n:Nat):cD:=cn sj (dt n)
def ur:=Ź (Á::Ē::Z!::Ŗ) La5 [] La4 .leaf
def I8 (n:Nat):cD:=cn ur (dT n)
def RX:=ź [Ą] [] (à::Ŗ) [] (d_ [Ÿ 20 [] [1,2,7,8,9] (Ŏ++Ŗ) [ū,.C 123 YG,.C 123 (ŏ++[á]),.F 186 J yE] [.qb 7 6 186 yE],(32,(.a [.qb 10 7 203 sx])),ŷ 45 [8,9] [1,2,7,10,11,12] aoa as5,ŷ 59 [8,9,12,13] [1,2,7,10,11,14] aoa as5]) rO
def ag5:=ź O2 [] [Z?] [] (d_ [ŷ 6 [0,1] [5] [Z!] []]) pI
def ag4:=ź O2 [] rh [] (d_ [ŷ 6 [0,1] [5] [Z!] [],ŷ 8 [0,1,5] [18] [Z?] [],ŷ 16 [0,1,5] [32] [Z?] []]) xV
def X1:=ź [Ð,Ð] [] rh [] (d_ [ŷ 8 [0,1] [5,6] O2 [],ŷ 23 [1] [5,7] O2 []]) sP
def OF:=ź [Z!] [] [Z!] [] (d_ [ŷ 3 [0] [8] [Z?] []]) nD
def abc:=ź [È] [] [.agg akt] ahd (d_ [Ÿ 8 [] [1,2,3,4] Hz (Ŭ::Ń::Ŵ::Ŕ) [.qb 3 2 56 (.sl aP)]]) cE
def abb:=ź [ø,.agg akt] ahd [.agg akt,Z?] ahd (d_ [ŷ 8 [6] [2,3,4,7] [Ú,Þ,í,Z!] aol,ŷ 17 [6,7] [2,3,4,33] [Ú,Þ,í,Z?] aol,ŷ 32 [] [2,3,4,8,9,10] [Ú,Þ,í,Z!,Z?,Ð] aol]) xU
def Vn:=ź [.d yE,È] [] [È,Z?] [] (d_ [ŷ 3 [] [2,3,4,23] Hy [Ī,Ŭ,Ń],ŷ 16 [] [2,3,4,6] Hz arx,ŷ 26 [6] [2,3,4,44] Hy arx]) oG
def XZ:=ź [Ó] [] [õ] [] (d_ [Ÿ 8 [] [1,2,3,4] Hz [Ŧ,æ,.C 78 [á,Z!,â,â],ä] [.qb 3 0 150 dF],Ÿ 23 [] [1,2,3,5] Hz [Ŧ,æ,.C 78 [á,Z!,ã,â],ä,Æ] [.qb 3 2 4 .bool],Ÿ 38 [] [1,2,3,6] Hz [Ŧ,æ,.C 78 ah8,ä,Æ,ß] [.qb 3 3 152 hJ],ŷ 49 [6] [1,2,3,7] aha [Ŧ,æ,.C 78 [ã,Z!,ë,å],.C 152 [.d hJ],ä,Æ,ß]]) qN
def ab9:=ź [Ó,õ] [] [Z?] [] (d_ [ŷ 6 [] [2,3,5] wg YF,ŷ 15 [5] [2,3,31] sr YF,ŷ 23 [] [4] [Z?] []]) oY
def ak0:=ź xu [] [Z?] [] (d_ [ŷ 2 [] [4] [Z?] []]) rM
def XY:=ź (Ó::Ŗ) [] [Z?] [] (d_ [ŷ 6 [2,7] [3,8] iB rn,ŷ 36 [2,7] [3,18] iB rn,ŷ 46 [2,7] [3,26] iB rn,ŷ 53 [] [6] [Z?] [],ŷ 56 [2,7] [3,43] iB rn,ŷ 71 [] [6] [Z?] [],ŷ 74 [2,7] [3,61] iB rn,ŷ 92 [2,7] [3,71] iB rn,ŷ 102 [2] [3,79] iB rn]) qM
def RQ:=ź (Ó::õ::Z!::Ŗ) [] [Z?] [] (d_ [ŷ 3 [2,3,4] [5,6,30] sr YF,ŷ 25 [] [10] [Z?] [],ŷ 50 [] [10] [Z?] [],ŷ 56 [] [10] [Z?] [],ŷ 59 [2,4,70] [5,6,11,119] Hy [Ŧ,ŵ,.C 152 [.d hJ]],ŷ 99 [2,4,70] [5,6,160] sr YF,ŷ 116 [] [10] [Z?] [],ŷ 122 [] [10] [Z?] []]) iZ
def RP:=ź [õ,Z!] [] rh [] (d_ [Ÿ 8 [1] [2,5,6] YE ah9 [.nil 5 3 aP],ŷ 16 [1,6] [2,5] [Á,ù] ah9,ŷ 17 [1,6] [2,5,30] [Á,ù,Z?] ah9]) oX
def RO:=ź O2 [] rh [] (d_ [Ÿ 8 [0,1] [5,6] [ô,Z!] [Ä] [.nil 5 3 aP],ŷ 16 [0,1,6] [5] [ô] [Ä]]) rL
def aba:=ź [õ] [] [Ğ] aoc (d_ [Ÿ 8 [] [1,2,3,4] Hz (ŝ++[.C 78 ah8,ä,Æ,ß]) [.qb 3 0 150 dF]]) iO
def nH:=Ź [Ğ,Z!] aoc rh aoc (d_ [Ÿ 8 [1] [2,5,6] [Þ,ã,Z!] aoh [.nil 5 3 aP],ŷ 16 [1,6] [2,5] [Þ,ã] aoh,ŷ 17 [1,6] [2,5,30] [Þ,ã,Z?] aoh])
def OE:cD:=cn nH nC
def MZ:cD:=⟨nH.pre,⟨nH.post.vs,[]⟩,kK⟩
def X0:=ź (Ó::õ::Z!::Z!::Ŗ) [] [õ,Z!,Z?] [] (d_ [ŷ 17 [] [7,12,15] wg aoj,ŷ 26 [2,4,5,15,30] [6,7,12,45] Hy ary,ŷ 34 [2,4,5,15,30] [6,7,12,54] Hy ary,ŷ 90 [] [7,12,17] wg aoj,ŷ 109 [18] [7,12,19] wg aoj]) qO
def XX:=ź [à] [] [Ă] [] (d_ [Ÿ 16 [] [1,2,3,4] Hz [Ũ,Ñ,.C 118 (ō++[á,â,â]),À] [.qb 3 4 2 aP],Ÿ 31 [] [1,2,3,5] Hz [Ũ,Ñ,.C 118 (ō++[á,ã,â]),À,À] [.qb 3 5 2 aP],Ÿ 46 [] [1,2,3,6] Hz [Ũ,Ñ,.C 118 aoi,À,À,.F 190 J eZ] [.qb 3 6 190 eZ]]) vC
def ab7:=ź [à,Ă] [] [Z?] [] (d_ [ŷ 3 [] [2,3,46] sr ahc,ŷ 14 [] [2,3,5] wg ahc,ŷ 25 [5] [2,3,97] sr ahc]) xT
def ab5:=ź [Z!] [] [Z!] [] (d_ [ŷ 5 [0] [3,10] [ô,Z?] [Å]]) xR
def U4:=ź [ø,È] [] [Z!] [] (d_ [ŷ 6 [6] [2,3,7] sr [Ū,Ŭ],ŷ 28 [] [2,40] iB [Ū]]) tM
def RN:=ź [à,Ă,Z!] [] [Î,Z?] [] (d_ [ŷ 3 [2] [3,4,6,25] Hy [Ũ,Ŷ,Ï],Ÿ 54 [] [6,8,9,10] aha arv [.qb 10 5 3 aP],ŷ 59 [] [6,8,9,10,98] wh [Ï,Ŭ,Ū,Ï],Ÿ 68 [] [6,10] [Á,Ë] [Ï,.C 58 (š++[ó,á]),Ä,Ä] [.qb 10 6 3 aP],ŷ 69 [] [6,8,9,10,123] wh arv]) oW
def XV:=ź [Ó] [] [Ü] [] (d_ [Ÿ 8 [] [1,2,3,4] Hz [Ŧ,Ļ,.C 81 aoi,À,.F 2 aa aP,Å] [.qb 3 4 2 aP]]) oh
def ab4:=ź [Ó,Ü] [] [Z?] [] (d_ [ŷ 2 [] [4] [Z?] []]) sO
def ajz:=ź xu [] [Z?] [] (d_ [ŷ 2 [] [4] [Z?] []]) EQ
def RM:=ź O2 [] [Z?] [] (d_ [ŷ 6 [0,1] [5] [Z!] [],ŷ 15 [0,1,5] [40] [Z?] []]) lE
def XT:=ź [Ü,Î] [] [Z?] [] (d_ [ŷ 21 [] [4] [Z?] [],ŷ 24 [7] [2,3,40] sr Ş,ŷ 47 [] [4] [Z?] []]) qL
def ab3:=ź [Ó,Ü,Î] [] [Ü,Z?] [] (d_ [ŷ 3 [] [3,4,5,6,46] wh Ny,ŷ 10 [] [3,4,5,6] aha Ny,ŷ 11 [] [3,4,5,6,55] wh Ny,ŷ 21 [] [3,4,5,6,78] wh Ny,ŷ 28 [] [3,4,5,6,8] wh Ny,ŷ 31 [] [3,4,5,6,110] wh Ny,ŷ 39 [] [3,4,5,6,125] wh Ny,ŷ 47 [] [3,4,5,6,154] wh Ny,ŷ 58 [] [3,4,5,6,9,10] aoa [Ŧ,ŧ,ť,Ļ,.C 81 [â,Z!,â,â,ë,å,ê],À,À,Ä],ŷ 66 [] [5,6,9] Ŏ ao8,ŷ 72 [] [5,6,9] Ŏ ao8]) oV
def XU:=ź [Ķ,Z!,Z!,Ð] [] [Z?] [] (d_ [ŷ 6 [0,1,2,3] [9] [Z!] [],ŷ 23 [0,1,2,3,9] [10,11,12] [Z!,Z?,Z!] [],ŷ 31 [0,1,2,3,9,12] [10,11] [Z!,Z?] [],ŷ 38 [0,1,2,3,9,10,12] [11] [Z?] []]) og
def XW:=ź [Õ] [] xu [] (d_ [ŷ 24 [] [1,4,5] wg Ň,ŷ 38 [5] [1,4,7,63] Hy (Ň++[ŧ])]) ol
def Vm:=ź [Ă] [] [.agg [Ğ,á,ã,.qw 5 4 1]] (Ő++.C 190 [Z!,å,ê,Z!]::Ŕ) (d_ [(8,(.u 2))]) oF
def Vc:=ź O3 [] O4 [] (d_ [(27,(.s 5 0 0 1)),ŷ 37 [] [3,4,5,6,7,9,14,15,16] O8 aov,ŷ 38 [16,77] [3,4,5,6,7,9,14,15,78] Qx aov,ŷ 83 [16] [3,4,5,6,7,9,14] O6 (ś++Ĉ::À::À::Ĉ::Ŕ),ŷ 84 [16] [3,4,5,6,7,9,14,15,154] Qx aov,ŷ 95 [] [4,5,6,7,9,14] O5 [.C 118 (ō++[å,ê,.qw 8 4 1]),Ů,Ñ,Ï,ť,Ŭ,À,À,Ŭ],ŷ 96 [] [3,4,5,6,7,9,14,183] O7 (ś++[ĉ,À,À,ĉ]),(102,(.s 5 0 0 1)),(104,(.a [.pk 4 6 eZ]))]) gr
def Vl:=ź [Ă] [] [ų] (Ő++.C 190 [Z!,å,ê,Z!,È]::Ŕ) (d_ [(8,(.u 3))]) oE
def Vb:=ź O3 [] O4 [] (d_ [(27,(.s 5 0 0 1)),ŷ 37 [] [3,4,5,6,7,9,14,15,16] O8 aox,ŷ 38 [16,77] [3,4,5,6,7,9,14,15,78] Qx aox,ŷ 83 [16] [3,4,5,6,7,9,14] O6 (Ō++Ĉ::À::À::.C 190 [Z!,Ė,î,Z!,È]::Ŕ),ŷ 84 [16] [3,4,5,6,7,9,14,15,154] Qx aox,ŷ 95 [] [4,5,6,7,9,14] O5 as4,ŷ 96 [] [3,4,5,6,7,9,14,183] O7 (Ō++[ĉ,À,À,.C 190 [Z!,Ð,Ĭ,Z!,È]]),(102,(.s 5 0 0 1)),(104,(.a [.pk 4 6 eZ]))]) gS
def Vk:=ź [Ă] [] [ų] (Ő++.C 190 [È,Z!,å,ê,Z!]::Ŕ) (d_ [(8,(.u 3))]) oD
def Va:=ź O3 [] O4 [] (d_ [(27,(.s 5 0 1 1)),ŷ 37 [] [3,4,5,6,7,9,14,15,16] O8 aow,ŷ 38 [16,77] [3,4,5,6,7,9,14,15,78] Qx aow,ŷ 83 [16] [3,4,5,6,7,9,14] O6 (Ō++Ĉ::À::À::.C 190 [È,Z!,Ė,î,Z!]::Ŕ),ŷ 84 [16] [3,4,5,6,7,9,14,15,154] Qx aow,ŷ 95 [] [4,5,6,7,9,14] O5 as4,ŷ 96 [] [3,4,5,6,7,9,14,183] O7 (Ō++[ĉ,À,À,.C 190 [È,Z!,Ð,Ĭ,Z!]]),(102,(.s 5 0 1 1)),(104,(.a [.pk 4 6 eZ]))]) gp
def Vj:=ź [Ă] [] ao7 (Ő++.C 190 (Z!::å::ê::Š)::Ŕ) (d_ [(8,(.u 4))]) oC
def U':=ź O3 [] O4 [] (d_ [(27,(.s 5 0 0 1)),ŷ 37 [] [3,4,5,6,7,9,14,15,16] O8 ap0,ŷ 38 [16,77] [3,4,5,6,7,9,14,15,78] Qx ap0,ŷ 83 [16] [3,4,5,6,7,9,14] O6 (ň++Ĉ::À::À::.C 190 (Z!::Ė::î::Š)::Ŕ),ŷ 84 [16] [3,4,5,6,7,9,14,15,154] Qx ap0,ŷ 95 [] [4,5,6,7,9,14] O5 aoq,ŷ 96 [] [3,4,5,6,7,9,14,183] O7 (ň++[ĉ,À,À,.C 190 (Z!::Ð::Ĭ::Š)]),(102,(.s 5 0 0 1)),(104,(.a [.pk 4 6 eZ]))]) ky
def Vi:=ź [Ă] [] ao7 (Ő++.C 190 [È,Z!,å,ê,Z!,È]::Ŕ) (d_ [(8,(.u 4))]) oB
def U_:=ź O3 [] O4 [] (d_ [(27,(.s 5 0 1 1)),ŷ 37 [] [3,4,5,6,7,9,14,15,16] O8 aoz,ŷ 38 [16,77] [3,4,5,6,7,9,14,15,78] Qx aoz,ŷ 83 [16] [3,4,5,6,7,9,14] O6 (ň++Ĉ::À::À::.C 190 [È,Z!,Ė,î,Z!,È]::Ŕ),ŷ 84 [16] [3,4,5,6,7,9,14,15,154] Qx aoz,ŷ 95 [] [4,5,6,7,9,14] O5 aoq,ŷ 96 [] [3,4,5,6,7,9,14,183] O7 (ň++[ĉ,À,À,.C 190 [È,Z!,Ð,Ĭ,Z!,È]]),(102,(.s 5 0 1 1)),(104,(.a [.pk 4 6 eZ]))]) jA
def Vh:=ź [Ă] [] ao7 (Ő++.C 190 [È,È,Z!,å,ê,Z!]::Ŕ) (d_ [(8,(.u 4))]) oA
def U9:=ź O3 [] O4 [] (d_ [(27,(.s 5 0 2 1)),ŷ 37 [] [3,4,5,6,7,9,14,15,16] O8 aoy,ŷ 38 [16,77] [3,4,5,6,7,9,14,15,78] Qx aoy,ŷ 83 [16] [3,4,5,6,7,9,14] O6 (ň++Ĉ::À::À::.C 190 [È,È,Z!,Ė,î,Z!]::Ŕ),ŷ 84 [16] [3,4,5,6,7,9,14,15,154] Qx aoy,ŷ 95 [] [4,5,6,7,9,14] O5 aoq,ŷ 96 [] [3,4,5,6,7,9,14,183] O7 (ň++[ĉ,À,À,.C 190 [È,È,Z!,Ð,Ĭ,Z!]]),(102,(.s 5 0 2 1)),(104,(.a [.pk 4 6 eZ]))]) iw
def Vg:=ź [Ă] [] akz (Ő++.C 190 [Z!,å,ê,Z!,È,È,È]::Ŕ) (d_ [(8,(.u 5))]) oz
def dQ:=Ź O3 [] O4 [] (d_ [(27,(.s 5 0 0 1)),ŷ 37 [] [3,4,5,6,7,9,14,15,16] O8 aou,ŷ 38 [16,77] [3,4,5,6,7,9,14,15,78] Qx aou,ŷ 83 [16] [3,4,5,6,7,9,14] O6 (ņ++Ĉ::À::À::.C 190 [Z!,Ė,î,Z!,È,È,È]::Ŕ),ŷ 84 [16] [3,4,5,6,7,9,14,15,154] Qx aou,ŷ 95 [] [4,5,6,7,9,14] O5 al2,ŷ 96 [] [3,4,5,6,7,9,14,183] O7 (ņ++[ĉ,À,À,.C 190 [Z!,Ð,Ĭ,Z!,È,È,È]]),(102,(.s 5 0 0 1)),(104,(.a [.pk 4 6 eZ]))])
def U8:cD:=cn dQ ou
def Vf:=ź [Ă] [] akz (Ő++.C 190 (È::Z!::å::ê::Š)::Ŕ) (d_ [(8,(.u 5))]) oy
def U7:=ź O3 [] O4 [] (d_ [(27,(.s 5 0 1 1)),ŷ 37 [] [3,4,5,6,7,9,14,15,16] O8 aot,ŷ 38 [16,77] [3,4,5,6,7,9,14,15,78] Qx aot,ŷ 83 [16] [3,4,5,6,7,9,14] O6 (ņ++Ĉ::À::À::.C 190 (È::Z!::Ė::î::Š)::Ŕ),ŷ 84 [16] [3,4,5,6,7,9,14,15,154] Qx aot,ŷ 95 [] [4,5,6,7,9,14] O5 al2,ŷ 96 [] [3,4,5,6,7,9,14,183] O7 (ņ++[ĉ,À,À,.C 190 (È::Z!::Ð::Ĭ::Š)]),(102,(.s 5 0 1 1)),(104,(.a [.pk 4 6 eZ]))]) oq
def Ve:=ź [Ă] [] akz (Ő++.C 190 [È,È,Z!,å,ê,Z!,È]::Ŕ) (d_ [(8,(.u 5))]) ox
def U6:=ź O3 [] O4 [] (d_ [(27,(.s 5 0 2 1)),ŷ 37 [] [3,4,5,6,7,9,14,15,16] O8 aos,ŷ 38 [16,77] [3,4,5,6,7,9,14,15,78] Qx aos,ŷ 83 [16] [3,4,5,6,7,9,14] O6 (ņ++Ĉ::À::À::.C 190 [È,È,Z!,Ė,î,Z!,È]::Ŕ),ŷ 84 [16] [3,4,5,6,7,9,14,15,154] Qx aos,ŷ 95 [] [4,5,6,7,9,14] O5 al2,ŷ 96 [] [3,4,5,6,7,9,14,183] O7 (ņ++[ĉ,À,À,.C 190 [È,È,Z!,Ð,Ĭ,Z!,È]]),(102,(.s 5 0 2 1)),(104,(.a [.pk 4 6 eZ]))]) mG
def Vd:=ź [Ă] [] akz (Ő++.C 190 [È,È,È,Z!,å,ê,Z!]::Ŕ) (d_ [(8,(.u 5))]) ov
def U5:=ź O3 [] O4 [] (d_ [(27,(.s 5 0 3 1)),ŷ 37 [] [3,4,5,6,7,9,14,15,16] O8 aor,ŷ 38 [16,77] [3,4,5,6,7,9,14,15,78] Qx aor,ŷ 83 [16] [3,4,5,6,7,9,14] O6 (ņ++Ĉ::À::À::.C 190 [È,È,È,Z!,Ė,î,Z!]::Ŕ),ŷ 84 [16] [3,4,5,6,7,9,14,15,154] Qx aor,ŷ 95 [] [4,5,6,7,9,14] O5 al2,ŷ 96 [] [3,4,5,6,7,9,14,183] O7 (ņ++[ĉ,À,À,.C 190 [È,È,È,Z!,Ð,Ĭ,Z!]]),(102,(.s 5 0 3 1)),(104,(.a [.pk 4 6 eZ]))]) lF
def ab8:cD:=cn dQ B9
def ab6:=ź [à,Ă,â,ķ] [] [Ķ,Ă] [] (d_ [(1,(.a [.nil 2 58 gx])),ŷ 6 [3] [2,4,5,9,10] [ô,Ë,Ú,Þ,Z!] aog,ŷ 8 [3,10] [2,4,5,9,22] [ô,Ë,Ú,Þ,Z?] aog,ŷ 14 [3,10] [2,4,5,9] [ô,Ë,Ú,Þ] aog]) xS
def ag3:=ź [à,ķ] [] [Õ,Ă] [] .leaf Bb
def JQ:=ź wD V4 [Z!] V4 (d_ [ŷ 3 [1] [0,18] iB acb]) bV
def abg:=ź [Z!] [] [Ā] [] .leaf sV
def Yj:=ź [é] [] [Ā] [] .leaf qS
def R3:=ź [Z!,Ā,Ā] [] [Ā] [] .leaf o6
def R4:=ź [é,Ā] [] [Ē] [] .leaf kq
def Vz:=ź [] [] [ö] [] .leaf tQ
def OU:=ź [ń] [] [ķ] [] (d_ [Ÿ 8 [0] [3,4] [ô,Z!] [.F 170 J fP] [.nil 3 170 fP]]) pN
def pl:=Ź wD YH [Ā] YH (d_ [ŷ 8 [1,6] [0,4,5,14] [Á,Þ,ã,Z?] [.C 207 amg,ũ,ă,.C 211 [Z!,Z!,é,â],ę]])
def Hn:cD:=cn pl fo
def GJ (n:Nat):cD:=cn pl (iQ n)
def FZ:=ź [Á,é] YH [Z?] YH .leaf eT
def nU:=Ź V7 YH [ã] [.C 207 aoe,Ě,ą,ă,Ħ] (d_ [(1,(.a [.qx 0 7])),Ÿ 8 [1,2] [0,7,8] [Á,á,Z!] arw [.nil 7 213 .sm],ŷ 10 [1,2,8] [0,7,22] [Á,á,Z?] arw,(21,(.a [.nil 6 213 .sm]))])
def FY:cD:=cn nU rQ
def EX (n:Nat):cD:=cn nU (dU n)
def sZ:=Ź wD YH [Ē] [.C 207 aoe,Ě,ą,ă] (d_ [(1,(.a [.qx 0 7])),ŷ 6 [1,5] [0,4,6] Nv La2,ŷ 28 [1,5,6] [0,4,74] Nv La2,Ÿ 33 [] [4,7] [Þ,í] [.C 207 (Ŝ++[ë]),ũ,ą,.C 213 amj,.C 213 [Z!,Z!,é,é,â,Z!,Z!,é,.d (.sl .ex),å,ê],ă,Ħ,Ħ] [.qb 7 10 213 .sm],ŷ 42 [1,5,6] [0,4,100] Nv La2,ŷ 56 [1,5,6] [0,4,133] Nv La2,ŷ 64 [1,5,6] [0,4,165] Nv La2,ŷ 70 [1,5,6] [0,4,188] Nv La2,ŷ 82 [1,5,6] [0,4,210] Nv La2,ŷ 94 [5,6] [0,4,235] Nv La2,ŷ 100 [5] [0,4,258] Nv La2,ŷ 106 [5] [0,4,278] Nv La2,ŷ 114 [] [0,4,308] Nv La2])
def GI (n:Nat):cD:=cn sZ (eK n)
def sk:=Ź [Á,é,Z!] YH [ě] [.C 207 aoe,Ě,ą,ă] .leaf
def EY (n:Nat):cD:=cn sk (ej n)
def OT:=ź [ń] [] [Ą] [] (d_ [(5,(.a [.qb 3 7 9 .str])),Ÿ 14 [5] [2,3,4,6,7] (Ŏ++[á,Z!]) [.C 167 [â,â],.C 207 [í,Z!,Z!,Z?,Z?,Z?,Z?,ë],.C 167 [ö,å],ę,ũ,ă,.F 197 J uv] [.qb 4 1 197 uv],Ÿ 27 [5,7] [2,3,4,6,8] (Ŏ++[á,í]) La7 [.qb 8 3 213 .sm],Ÿ 34 [5,7] [2,3,4,6,8,9] (Ŏ++[á,í,Z!]) La7 [.qb 8 3 213 .sm],ŷ 48 [5,7] [2,3,4,6,8] (Ŏ++[á,í]) La7,ŷ 49 [5,7] [2,3,4,6,8,79] (Ŏ++[á,í,Z?]) La7]) pM
def Yk:=ź [ń] [] [à] [] .leaf yX
def VB:=ź [ń,ń] [] [Õ] [] .leaf tR
def RK:=ź [] [] [Ó] [] (d_ [Ÿ 8 [21] [0,1,22] wg al1 [.qb 1 5 98 pR],ŷ 22 [2,21,22] [0,1,3] wg al1]) oU
def MY:=ź [Ü] [] rh [] (d_ [Ÿ 8 [8,9] [3,10] [ô,Z!] [Ä] [.nil 3 3 aP],ŷ 16 [8,9,10] [3] [ô] [Ä]]) mm
def RI:=ź [] [] rh [] .leaf uR
def OD:=ź V7 V4 [Z!] V4 (d_ [ŷ 6 [2,7] [0,8] iB acb,ŷ 16 [2,7] [0,16] iB acb,ŷ 26 [2,7] [0,21] iB acb,ŷ 44 [2,7] [0,26] iB acb,ŷ 70 [2] [0,33] iB acb]) pH
def RH:=ź (Á::Ü::Ŗ) V4 [Z!] V4 (d_ [ŷ 18 [10] [0,5,24] sr [ũ,ŧ]]) rI
def U2:=ź [Á,ù] [Ě,Ä] rh [Ě,Ä] (d_ [Ÿ 8 [9] [0,1,5,8,10] [Á,ù,ó,ù,Z!] ao9 [.nil 5 3 aP],ŷ 16 [9,10] [0,1,5,8] [Á,ù,ó,ù] ao9,ŷ 19 [7,9,10] [0,1,5,8,24] [Á,ù,ó,ù,Z?] ao9]) gR
def RJ:=ź [Á,Ü,Ó,ĭ] aru [Î] aru (d_ [ŷ 8 [9] [0,3,5,6,8,11] [Á,ĭ,Ę,ı,.H 8 0,.H 9 0] as0,ŷ 9 [9] [0,3,5,6,8,11,36] [Á,ĭ,Ę,ı,.H 8 0,.H 9 0,Z?] as0,ŷ 18 [9] [0,3,8,11] [Á,ĭ,Ę,ı] as1,ŷ 19 [9] [0,3,8,11,74] [Á,ĭ,Ę,ı,Z?] (ŕ++[Ï,Ï]),(22,(.s 9 0 0 4)),ŷ 24 [] [8,11] [Ę,ı] (ŕ++[Ï,.C 58 (š++[Ð,Ð])]),ŷ 25 [9] [0,3,8,11,89] [Á,ĭ,Ę,ı,Z?] as1,(28,(.s 9 0 0 4))]) rJ
def U3:=ź [Á,Ü,Ó,Z!,Z?] V4 [Ķ] V4 (d_ [(8,(.a [.qb 12 0 3 aP,.qb 12 1 3 aP,.qb 12 2 3 aP,.qb 12 3 3 aP])),ŷ 9 [3,11] [0,6,7,12] (Ŏ++[.qw 3 1 4]) aom,(10,(.u 5)),ŷ 18 [3,4,11,22,23] [0,6,7,12] (Ŏ++[.qw 3 1 4]) aom,ŷ 21 [3,4,11,13,22,23] [0,6,7,12,39] (Ŏ++[.qw 3 1 4,Z?]) aom,Ÿ 29 [3] [0,6,7,11,12] (Ŏ++[á,Ĵ]) aon [.nil 11 58 gx],ŷ 31 [3] [0,6,7,11,12,65] (Ŏ++[á,Ĵ,Z?]) aon,ŷ 36 [3] [0,6,7,11,12] (Ŏ++[á,Ĵ]) aon,ŷ 47 [3] [0,6,7,11,12,14,15] (Ŏ++[á,Ĵ,Ģ,Ę]) as2,ŷ 48 [3] [0,6,7,11,12,14,15,87] (Ŏ++[á,Ĵ,Ģ,Ę,Z?]) as2,(51,(.s 14 0 0 4))]) tL
def RL:=ź Sm [] [Õ] [] (d_ [ŷ 2 [1] [0,4] [ń,Á] [Ľ],ŷ 22 [1,9] [4,5,6,7,8,10] (Ŏ++[Þ,ã,Z!]) [Ľ,ũ,.C 31 (ŏ++[â]),ŧ,.F 58 aa gx],Ÿ 37 [1,48] [4,5,6,7,47,49] (Ŏ++[Þ,ã,Z!]) as3 [.qb 6 6 58 gx],ŷ 45 [1,48,49] [4,5,6,7,47] (Ŏ++[Þ,ã]) as3]) rK
def Hh:=ź [.d (.st (.pr Ge (.pr Ge Ge))),Z!] [] [Õ] [] .leaf mn
def Om:aN Pg 99 OM:=mk _ _ an co
def LQ:aN Pg 69 M3:=mk _ _ (ac Om an) co
def H3:aN Pg 68 Vv:=mk _ _ an co
def XD:aN Pg 100 Yf:=mk _ _ an co
def XC:aN Pg 70 Ye:=mk _ _ (ac H3 (ac XD an)) co
def tS:aN Pg 31 Vw:=mk _ _ (ac H3 (ac LQ (ac XC an))) co
def LP:aN Pg 193 X8:=mk _ _ an co
def Xv:aN Pg 182 X9:=mk _ _ (ac LP an) co
def Uj:aN Pg 184 Vr:=mk _ _ (ac LP an) co
def Xw:aN Pg 181 X_:=mk _ _ an co
def Ol:aN Pg 199 OL:=mk _ _ an co
def yc:∀n:Nat,aN Pg 194 (I_ n)
 |0=>HW qD
 |n+1=>mk qD (qA (jX n)) (ac tS (ac (yc n) (ac Ol an))) co
def Aa:aN Pg 194 JB:=(yc fuel)
def XB:aN Pg 195 Yd:=mk _ _ an co
def sY:∀n:Nat,aN Pg 185 (I9 n)/\aN Pg 161 (GH n)
 |0=>⟨HW ut,HW pj⟩
 |n+1=>⟨mk ut (qu (iz n) (fS n)) (ac tS (ac (sY n).2 (ac Aa (ac XB an)))) co,mk pj (pf (iz n) (fS n)) (ac (sY n).1 an) co⟩
def G0:aN Pg 161 Hk:=(sY fuel).2
def Je:aN Pg 160 JA:=mk _ _ (ac tS an) co
def Ul:aN Pg 132 Vu:=mk _ _ (ac tS (ac Je (ac G0 an))) co
def wS:aN Pg 32 ak3:=mk _ _ an co
def wR:aN Pg 162 Vt:=mk _ _ an co
def xm:aN Pg 163 OK:=mk _ _ an co
def Uk:aN Pg 196 Vs:=mk _ _ (ac wS (ac wR (ac xm an))) co
def PK:aN Pg 188 abd:=mk _ _ (ac Uk an) co
def H6:∀n:Nat,aN Pg 197 (Xd n)
 |0=>HW zI
 |n+1=>mk zI (zu (qV n)) (ac (H6 n) an) co
def Xz:aN Pg 197 Yb:=(H6 fuel)
def H5:∀n:Nat,aN Pg 198 (Xc n)
 |0=>HW zH
 |n+1=>mk zH (zo (qU n)) (ac PK (ac (H5 n) an)) co
def Xx:aN Pg 198 X':=(H5 fuel)
def aam:aN Pg 189 abe:=mk _ _ (ac Aa (ac Xz (ac Xx an))) co
def Rt:aN Pg 190 RZ:=mk _ _ an co
def ajh:aN Pg 187 ak2:=mk _ _ an co
def GZ:aN Pg 186 Hj:=mk _ _ an co
def Oi:aN Pg 164 OH:=mk _ _ (ac wS (ac wR (ac xm (ac GZ (ac ajh (ac PK (ac aam (ac Rt an)))))))) co
def Bh:∀n:Nat,aN Pg 136 (Ob n)
 |0=>HW tF
 |n+1=>mk tF (tB (nG n)) (ac (Bh n) (ac Oi an)) co
def Oj:aN Pg 136 OJ:=(Bh fuel)
def H7:∀n:Nat,aN Pg 135 (Xe n)
 |0=>HW zJ
 |n+1=>mk zJ (zA (qW n)) (ac (H7 n) an) co
def XA:aN Pg 135 Yc:=(H7 fuel)
def Xy:aN Pg 133 Ya:=mk _ _ (ac wR an) co
def Rs:aN Pg 134 RY:=mk _ _ (ac wS (ac wR (ac xm an))) co
def za:aN Pg 108 R1:=mk _ _ (ac Ul (ac Xy (ac Rs (ac XA (ac Oj an))))) co
def H4:∀n:Nat,aN Pg 138 (Xb n)
 |0=>HW zG
 |n+1=>mk zG (zi (qT n)) (ac (H4 n) an) co
def Xq:aN Pg 138 X2:=(H4 fuel)
def HY:aN Pg 137 Vo:=mk _ _ an co
def H0:aN Pg 191 Vq:=mk _ _ an co
def Xu:aN Pg 109 X6:=mk _ _ (ac za (ac HY (ac Xq an))) co
def Xr:aN Pg 30 X3:=mk _ _ an co
def z_:aN Pg 17 Jz:=mk _ _ (ac Xr (ac tS (ac wS an))) co
def vQ:aN Pg 112 M2:=mk _ _ an co
def HZ:aN Pg 154 Vp:=mk _ _ an co
def Xs:aN Pg 127 X4:=mk _ _ (ac HZ an) co
def Rq:aN Pg 128 ak1:=mk _ _ an co
def Xt:aN Pg 153 X5:=mk _ _ (ac Rq an) co
def Rp:aN Pg 126 RU:=mk _ _ (ac Rq (ac Xt an)) co
def GY:aN Pg 106 Hi:=mk _ _ (ac vQ (ac Rp (ac Xs (ac Rq an)))) co
def DV:aN Pg 80 X7:=mk _ _ (ac z_ (ac GY an)) co
def o_:aN Pg 111 RW:=mk _ _ an co
def Ac:∀n:Nat,aN Pg 169 (Lt n)
 |0=>HW sg
 |n+1=>mk sg (rX (jE n)) (ac wS (ac o_ (ac (Ac n) (ac H0 an)))) co
def vP:aN Pg 169 M0:=(Ac fuel)
def Jd:aN Pg 165 Jy:=mk _ _ (ac wS (ac o_ (ac vP (ac H0 an)))) co
def Oh:aN Pg 168 OG:=mk _ _ an co
def lz:∀n:Nat,aN Pg 110 (Lu n)/\aN Pg 139 (Oa n)/\aN Pg 166 (EW n)/\aN Pg 167 (I8 n)
 |0=>⟨HW sh,HW xo,HW sj,HW ur⟩
 |n+1=>⟨mk sh (rY (dZ n) (eU n) (dt n) (dT n)) (ac (lz n).2.1 an) co,mk xo (tA (dZ n) (eU n) (dt n) (dT n)) (ac wS (ac o_ (ac HY (ac Jd (ac (lz n).2.2.1 (ac (lz n).2.2.2 (ac Oh (ac vP an)))))))) co,mk sj (nP (dZ n) (eU n) (dt n) (dT n)) (ac (lz n).1 (ac o_ (ac vP an))) co,mk ur (qo (dZ n) (eU n) (dt n) (dT n)) (ac (lz n).1 (ac o_ an)) co⟩
def LO:aN Pg 110 M1:=(lz fuel).1
def Rr:aN Pg 83 RX:=mk _ _ (ac za (ac Xu (ac LO (ac o_ (ac vQ an))))) co
def LN:aN Pg 74 ag5:=mk _ _ an co
def afj:aN Pg 101 ag4:=mk _ _ an co
def LM:aN Pg 77 X1:=mk _ _ (ac afj an) co
def Og:aN Pg 183 OF:=mk _ _ an co
def my:aN Pg 158 abc:=mk _ _ an co
def aal:aN Pg 159 abb:=mk _ _ (ac LM (ac vQ (ac Xv (ac Og (ac Uj an))))) co
def kC:aN Pg 131 Vn:=mk _ _ (ac HZ (ac my (ac aal an))) co
def LL:aN Pg 33 XZ:=mk _ _ an co
def GW:aN Pg 71 ab9:=mk _ _ an co
def Zk:aN Pg 72 ak0:=mk _ _ an co
def Xo:aN Pg 73 XY:=mk _ _ (ac Zk an) co
def E9:aN Pg 36 RQ:=mk _ _ (ac GW (ac Zk (ac Xo (ac LN an)))) co
def Ro:aN Pg 75 RP:=mk _ _ an co
def Rn:aN Pg 78 RO:=mk _ _ an co
def mw:aN Pg 76 aba:=mk _ _ an co
def Of:aN Pg 75 OE:=mk nH nC an co
def LK:aN Pg 75 MZ:= @aN.ro Pg 75 nH.pre nH.post.vs nC kK (Of.holds rfl) rfl (λx _ h=>by rw[show kK x=ay (nC x) λy=>same y.2 x.2 (Z y.1) from rfl]at h;exact h)
def kP:aN Pg 39 X0:=mk _ _ (ac E9 (ac LN (ac LK (ac mw (ac LM (ac Rn an)))))) co
def Xn:aN Pg 82 XX:=mk _ _ (ac LL (ac DV an)) co
def aaj:aN Pg 155 ab7:=mk _ _ (ac GW (ac DV an)) co
def aah:aN Pg 156 ab5:=mk _ _ an co
def TX:aN Pg 157 U4:=mk _ _ (ac Xw an) co
def je:aN Pg 129 RN:=mk _ _ (ac aaj (ac aah (ac TX an))) co
def LI:aN Pg 18 XV:=mk _ _ (ac LL an) co
def aag:aN Pg 34 ab4:=mk _ _ (ac GW an) co
def ajg:aN Pg 35 ajz:=mk _ _ an co
def Rm:aN Pg 37 RM:=mk _ _ an co
def Xl:aN Pg 38 XT:=mk _ _ (ac LN (ac Ro an)) co
def GV:aN Pg 19 ab3:=mk _ _ (ac aag (ac ajg (ac E9 (ac Rm (ac Xl (ac kP an)))))) co
def Xm:aN Pg 20 XU:=mk _ _ an co
def LJ:aN Pg 9 XW:=mk _ _ (ac z_ (ac LI (ac GV (ac Xm an)))) co
def Pd (t:TypeId):M Ty:=if ax t 190 then Z (.pr .un eZ) else co t
def Ui:aN Pg 130 Vm:=mk _ _ (ac mw (ac my an)) Pd
def T9:aN Pg 107 Vc:=mk _ _ (ac kP (ac je (ac Ui (ac kC an)))) Pd
def Uh:aN Pg 130 Vl:=mk _ _ (ac mw (ac my an)) Pd
def T8:aN Pg 107 Vb:=mk _ _ (ac kP (ac je (ac Uh (ac kC an)))) Pd
def Ug:aN Pg 130 Vk:=mk _ _ (ac mw (ac my an)) Pd
def T7:aN Pg 107 Va:=mk _ _ (ac kP (ac je (ac Ug (ac kC an)))) Pd
def Uf:aN Pg 130 Vj:=mk _ _ (ac mw (ac my an)) Pd
def T6:aN Pg 107 U':=mk _ _ (ac kP (ac je (ac Uf (ac kC an)))) Pd
def Ue:aN Pg 130 Vi:=mk _ _ (ac mw (ac my an)) Pd
def T5:aN Pg 107 U_:=mk _ _ (ac kP (ac je (ac Ue (ac kC an)))) Pd
def Ud:aN Pg 130 Vh:=mk _ _ (ac mw (ac my an)) Pd
def T4:aN Pg 107 U9:=mk _ _ (ac kP (ac je (ac Ud (ac kC an)))) Pd
def Uc:aN Pg 130 Vg:=mk _ _ (ac mw (ac my an)) Pd
def T3:aN Pg 107 U8:=mk dQ ou (ac kP (ac je (ac Uc (ac kC an)))) Pd
def Ub:aN Pg 130 Vf:=mk _ _ (ac mw (ac my an)) Pd
def T2:aN Pg 107 U7:=mk _ _ (ac kP (ac je (ac Ub (ac kC an)))) Pd
def Ua:aN Pg 130 Ve:=mk _ _ (ac mw (ac my an)) Pd
def TZ:aN Pg 107 U6:=mk _ _ (ac kP (ac je (ac Ua (ac kC an)))) Pd
def T_:aN Pg 130 Vd:=mk _ _ (ac mw (ac my an)) Pd
def TY:aN Pg 107 U5:=mk _ _ (ac kP (ac je (ac T_ (ac kC an)))) Pd
end
end Go.Proofs.YtlimcnhpkfopcaaGreatDoor.AI
