/-
  Texts of the proof, part 3 of 6: what is used to prove the statement. No condition.
-/
import Derived.Test.YtlimcnhpkfopcaaGreatDoorWeakRefusesQ1
import Derived.KernelRfl
import Derived.WalkSpells
import Derived.Laws.CopyRow
import Derived.Deep.AppendSrc
import Derived.Laws.AppendOwn
namespace Go.Proofs.YtlimcnhpkfopcaaGreatDoor.AI
open Go.RowKit
set_option maxRecDepth 100000
set_option maxHeartbeats 4000000
set_option linter.unusedVariables false
set_option linter.unusedSimpArgs false
set_option linter.defProp false
open _root_.Array renaming length_toList→iV,getElem?_push→xE,range→AA
open _root_.Bool renaming true→J,false→aa,not_false→k_,not_true→yI,false_or→yJ
open Builtin renaming zeroCells→mM,firstCells→zY
open Call renaming operands→dI
open Instr renaming sliceBounds→gZ,sliceBound→iF,sliceAt→l8,slice→pX
open _root_.Int renaming ofNat_eq_natCast→ak,ofNat→aR,toNat→aS,reduceNeg→aU,reduceEq→aX,toNat_natCast→bF,le_trans→fk
open IntKind renaming wrap→pW
open _root_.List renaming length→l!,length→ah,replicate→aF,length_singleton→bP,length_cons→bX,take→dg,map→fX,replicate_succ→iU,range→kY,length_nil→lm,nodup_cons→ua,foldl_cons→ub,map_drop→ue,getElem?_concat_length→uM,set→wn,ext_getElem?→BU,set_cons_zero→NH,mem_or_eq_of_mem_set→O_
open _root_.Nat renaming add_zero→cZ,min→jM,mod_eq_of_lt→Ed,le_succ→QE
open _root_.Option renaming some→Z,none→U,bind_some→aC,map_some→bx,getD_some→nY
open _root_.Prod renaming a→aY,b→bi,c→bt,e→bN,d→b7,g→cW,h→cY,f→dc,m→dN,i→fx,p→iX,l→jH,j→kh,n→ki,k→kl,o→lA,ext→oP,q→s9,r→yH,D→NF
open Result renaming andThen_ok→cM
open Sem renaming run_bind→ec,run→ia,run_pure→pT
open _root_.Sum renaming inr→cw
open World renaming shape?→s8,cell?→QD
noncomputable section
def nW (w:WT) (e:ET):Int:=if e.2.1=7\/e.2.1=9\/e.2.1=11 then e.2.2.1 else if e.2.1=16 then (geti nK w.2.2.1 e.2.2.1).2 else if e.2.1=13 then (l! w.2.1:Int) else -1
def OZ (w:WT) (e:ET):Int:=if e.2.1=6\/e.2.1=8\/e.2.1=10 then e.2.2.1 else if e.2.1=17 then (geti nK w.2.2.1 e.2.2.1).2 else if e.2.1=12 then (l! w.2.1:Int) else -1
variable {e:ET} {B:WT}
def HP (hev:Sy B e):mj (B,e)=Z (nW B e):=by
 refine cf ?_;obtain⟨nm,D,A,cd⟩:=hev;obtain⟨t,k,o,v,s,r1,r2⟩:=e;dsimp only at nm D A;unfold mj aY bt bn bY bc aH;dsimp only;refine aV (λx=>x=(decide (k=7\/k=9\/k=11),B,t,k,o,v,s,r1,r2)) ?_ ?_
 .refine aK (λg=>aj ?_) λz=>aK (λg=>aj ?_) λd=>aj ?_
  .dsimp only;rw[bj (show k=7 from g),bj (show k=7\/k=9\/k=11 from .inl g)]
  .dsimp only;rw[bj (show k=9 from g),bj (show k=7\/k=9\/k=11 from .inr (.inl g))]
  .have z:¬k=7:=z;have d:¬k=9:=d;dsimp only;have:decide (k=11)=decide (k=7\/k=9\/k=11):=by simp[z,d]
   rw[this]
 .rintro x rfl;unfold nW;dsimp only;refine aK (λg=>aj ?_) λz=>?_
  .rw[aG g]
  rw[aA z];refine aK (λg=>?_) λd=>?_
  .have g:k=16:=g;obtain⟨L,F⟩:=nm.cd ⟨by omega,by omega⟩;rw[aG g];exact aJ L F (aT (aj rfl))
  have d:¬k=16:=d;rw[aA d];refine aK (λg=>aj ?_) λN=>aj ?_
  .rw[aG g];rfl
  .rw[aA N]
def IR (hev:Sy B e):ml (B,e)=Z (OZ B e):=by
 refine cf ?_;obtain⟨nm,D,A,cd⟩:=hev;obtain⟨t,k,o,v,s,r1,r2⟩:=e;dsimp only at nm D A;unfold ml aY bt bn bY bc aH;dsimp only;refine aV (λx=>x=(decide (k=6\/k=8\/k=10),B,t,k,o,v,s,r1,r2)) ?_ ?_
 .refine aK (λg=>aj ?_) λz=>aK (λg=>aj ?_) λd=>aj ?_
  .dsimp only;rw[bj (show k=6 from g),bj (show k=6\/k=8\/k=10 from .inl g)]
  .dsimp only;rw[bj (show k=8 from g),bj (show k=6\/k=8\/k=10 from .inr (.inl g))]
  .have z:¬k=6:=z;have d:¬k=8:=d;dsimp only;have:decide (k=10)=decide (k=6\/k=8\/k=10):=by simp[z,d]
   rw[this]
 .rintro x rfl;unfold OZ;dsimp only;refine aK (λg=>aj ?_) λz=>?_
  .rw[aG g]
  rw[aA z];refine aK (λg=>?_) λd=>?_
  .have g:k=17:=g;obtain⟨L,F⟩:=nm.cd ⟨by omega,by omega⟩;rw[aG g];exact aJ L F (aT (aj rfl))
  have d:¬k=17:=d;rw[aA d];refine aK (λg=>aj ?_) λN=>aj ?_
  .rw[aG g];rfl
  .rw[aA N]
def OpI (n:Nat) (op:Y e?):Prop:=∀x∈op,0<=x.2/\x.2<(n:Int)
def ReI (n:Nat) (re:η):Prop:=∀v∈re,0<=v/\v<(n:Int)
variable {i:Nat} {a:Int}
def adv (h0:0<=a) (h1:a<(i:Int)):shf i a=a:=by
 unfold shf;rw[aG (by exact ba (by omega))]
variable {A:η}
def ReI.shf (h:ReI i A):A.map (AI.shf i)=A:=by
 have:A.map (AI.shf i)=A.map id:=nA λv d=>adv (h v d).1 (h v d).2
 rw[this,List.map_id]
def OpI.shf {op:Y e?} (h:OpI i op):KL i op=op:=by
 unfold KL;have:op.map (λe=>(e.1,AI.shf i e.2))=op.map id:=nA λx d=>by rw[adv (h x d).1 (h x d).2];rfl
 rw[this,List.map_id]
def DL {k d:Γ}:Oc k d=J↔k=d:=by
 unfold Oc;rw[au,bB,bB];exact⟨λh=>oP h.1 h.2,λh=>by rw[h];exact⟨rfl,rfl⟩⟩
def rE (k:Γ):∀{op:Y e?},ui k op=J->(k,fc k op)∈op
 |[],h=>by cases h
 |e::r,h=>by
  simp only[ui,fc]at h ⊢;cases d:Oc k e.1 with
  |true=>
   rw[DL.1 d];exact c_ ..
  |false=>
   rw[d,yJ]at h;exact b8 _ (rE k h)
def EO (k:Γ) {x:e?}:∀{op:Y e?},x∈AZ k op->x∈op
 |[],h=>by cases h
 |e::r,h=>by
  simp only[AZ]at h;cases d:Oc k e.1 with
  |true=>rw[d]at h;exact b8 _ h
  |false=>
   rw[d]at h;rcases bm.1 h with h|h
   .exact h▸c_ ..
   .exact b8 _ (EO k h)
def OpI.del {op:Y e?} (h:OpI i op) (k:Γ):OpI i (AZ k op):=λx d=>h x (EO k d)
def UO (j:Int) (o:WO):WO:=((o.1.1,o.1.2.1,o.1.2.2.1,j,o.1.2.2.2.2),o.2)
abbrev b6 (ar:Y WO) (i:Int):WO:=dV l7 ar i
def scQ (w:WT) (e:ET) (op:Y e?):Bool:=ui (e.1,nW w e) op
def I3 (w:WT) (e:ET) (op:Y e?):Y e?:=if scQ w e op=J then AZ (e.1,nW w e) op else op
def Ev (w:WT) (e:ET) (op:Y e?) (re:η):η:=if scQ w e op=J then re++[fc (e.1,nW w e) op] else re
def Cr (w:WT) (j:Int) (e:ET) (op:Y e?) (ar:Y WO):Y WO:=if scQ w e op=J then qY (S:=l7) ar (fc (e.1,nW w e) op) (UO j (b6 ar (fc (e.1,nW w e) op))) else ar
def scO (w:WT) (e:ET) (op:Y e?) (ar:Y WO):Y e?:=if 0<=OZ w e then xQ (e.1,OZ w e) (l! ar:Int) (I3 w e op) else I3 w e op
def scA (w:WT) (j:Int) (e:ET) (op:Y e?) (ar:Y WO):Y WO:=if 0<=OZ w e then Cr w j e op ar++[((e.1,OZ w e,j,-1,decide (e.2.1=8)),[],[])] else Cr w j e op ar
def adx (w:WT) (j:Int) (e:ET) (op:Y e?) (ar:Y WO):l! (Cr w j e op ar)=l! ar:=by
 unfold Cr qY;split
 .exact iu ..
 .rfl
variable {j:Nat} {Q:Y ET}
def S6 (hev:Sy B e) {c:Y η} {tm:Y Γ} {sp wa wt st se:η} {op:Y e?} {re:η} {ar:Y WO} {si ei:Y η}
 (h1:OpI (l! ar) op) (h2:ReI (l! ar) re) (N:l! re<=1000):
 iI (((j:Int),e),(B,Q),c,tm,A,sp,wa,wt,st,se,op,re,ar,si,ei)=Z ((B,Q),c,tm,A,sp,wa,wt,st,se,scO B e op ar,si,ei,Ev B e op re,scA B (j:Int) e op ar):=by
 refine cf ?_;unfold iI jH ki kh yH aY bi bt b7 dc fx kl lA Prod.s jR kj bI bc;dsimp only;refine aQ (HP hev) ?_;refine aM (λD=>?_) λD=>?_
 .have hm:=rE _ D;have la:=h1 _ hm;dsimp only at la;have d:scQ B e op=J:=D;refine aJ la.1 la.2 (a! (aQ (IR hev) ?_));have F:ah (qY (S:=l7) ar (fc (e.1,nW B e) op) (UO (j:Int) (b6 ar (fc (e.1,nW B e) op))))=l! ar:=by unfold qY;exact iu ..
  have L:ReI (l! ar) (re++[fc (e.1,nW B e) op]):=λv z=>by
   rcases bE.1 z with z|z
   .exact h2 v z
   .simp only[aE]at z;subst z;exact la
  refine dW (λg=>aj ?_) λg=>aj ?_
  .unfold scO scA Ev I3 Cr;rw[aG g,aG g,aG d,aG d,aG d];have e1:=(h1.del (e.1,nW B e)).shf;have e2:=L.shf;rw[<- F]at e1 e2;refine oP rfl (oP rfl (oP rfl (oP rfl (oP rfl (oP rfl (oP rfl (oP rfl (oP rfl (oP ?_ (oP rfl (oP rfl (oP ?_ rfl))))))))))))
   .show xQ (e.1,OZ B e) (aR (ah (qY (S:=l7) ar (fc (e.1,nW B e) op) (UO (j:Int) (b6 ar (fc (e.1,nW B e) op)))))) (KL (ah (qY (S:=l7) ar (fc (e.1,nW B e) op) (UO (j:Int) (b6 ar (fc (e.1,nW B e) op))))) (AZ (e.1,nW B e) op))=_;rw[e1,F];rfl
   .exact e2
  .unfold scO scA Ev I3 Cr;rw[aA (Int.not_le.2 g),aA (Int.not_le.2 g),aG d,aG d,aG d];rfl
 .have d:¬scQ B e op=J:=by unfold scQ;rw[D];simp
  refine aQ (IR hev) (dW (λg=>aj ?_) λg=>aj ?_)
  .unfold scO scA Ev I3 Cr;rw[aG g,aG g,aA d,aA d,aA d,h1.shf,h2.shf];rfl
  .unfold scO scA Ev I3 Cr;rw[aA (Int.not_le.2 g),aA (Int.not_le.2 g),aA d,aA d,aA d]
section
def ak4 (c:η) (a:Int) (u:Nat):kA (c,a,(u:Int))=Z (decide (a<=c.getD u 0)):=by
 unfold kA;dsimp only;rw[YN];rfl
def cvr (clk:η) (x:Γ):Bool:=decide (x.1<=clk.getD x.2.toNat 0)
def Yg (clk:η) {x:Γ} (h:0<=x.2):kA (clk,x)=Z (cvr clk x):=by
 obtain⟨a,b⟩:=x;dsimp only at h;have e:b=((b.toNat:Nat):Int):=by omega
 unfold cvr;dsimp only;rw[e,ak4,bF]
def jc (c:Y η) (i:Int):η:=c.getD i.toNat []
def jt (tm:Y Γ) (i:Int):Γ:=tm.getD i.toNat (0,0)
abbrev WO.th (o:WO):Int:=o.1.1
abbrev WO.lk (o:WO):Int:=o.1.2.1
abbrev WO.bg (o:WO):Int:=o.1.2.2.1
abbrev WO.en (o:WO):Int:=o.1.2.2.2.1
abbrev WO.rd (o:WO):Bool:=o.1.2.2.2.2
def sW (P Q:WO):Bool:=decide (P.lk=Q.lk)&&(!decide (P.th=Q.th)&&(!(P.rd&&Q.rd)&&fM P.en Q.bg))
abbrev mbg (o:Int) (m:Y r?):Bool:=vM (K:=.int .i64) (V:=.bool) o m aa
def Su (P:WO) (e:ET):Bool:=mbg e.2.2.1 P.2.2||(decide (e.2.1=4)&&mbg e.2.2.1 P.2.1)
def AB (c:Y η) (ar:Y WO) (q:Int) (e:ET) (clk:η) (p:Int):η:=if sW (b6 ar p) (b6 ar q)=J/\Su (b6 ar p) e=J then jl clk (jc c (b6 ar p).en) else clk
def vm (c:Y η) (tm:Y Γ) (ar:Y WO) (q:Int) (s:η×Bool) (p:Int):η×Bool:=if sW (b6 ar p) (b6 ar q)=J/\cvr s.1 (jt tm (b6 ar p).bg)=J/\cvr s.1 (jt tm (b6 ar p).en)=aa then (jl s.1 (jc c (b6 ar p).en),J) else s
structure CkL (T j:Nat) (c:List η) (tm:List Γ):Prop where
 cl:l! c=j
 tl:l! tm=j
 ln:∀i:Nat,i<j->l! (c.getD i [])=T
 th:∀i:Nat,i<j->0<=(tm.getD i (0,0)).2
def EnI (j:Nat) (ar:Y WO) (re:η):Prop:=∀p∈re,(0<=p/\p<(l! ar:Int))/\(0<=(b6 ar p).bg/\(b6 ar p).bg<(j:Int))/\(0<=(b6 ar p).en/\(b6 ar p).en<(j:Int))
def CkL.jc {c:Y η} {tm:Y Γ} (h:CkL i j c tm) {T:Int} (h0:0<=T) (h1:T<(j:Int)):l! (AI.jc c T)=i:=h.ln _ (by omega)
def CkL.jt {T:Nat} {c:Y η} {tm:Y Γ} (h:CkL T j c tm) {i:Int} (h0:0<=i) (h1:i<(j:Int)):0<=(AI.jt tm i).2:=h.th _ (by omega)
def adi {c:Y η} {tm:Y Γ} (h:CkL i j c tm) {ar:Y WO} (d:l! A=i) {p:Int} (h0:0<=(b6 ar p).en) (h1:(b6 ar p).en<(j:Int)):l! (AB c ar a e A p)=i:=by
 unfold AB;split
 .rw[GM,d,h.jc h0 h1];exact Nat.max_self _
 .exact d
def adh {c:Y η} {tm:Y Γ} (h:CkL i j c tm) {ar:Y WO} {s:η×Bool} (d:l! s.1=i) {p:Int} (h0:0<=(b6 ar p).en) (h1:(b6 ar p).en<(j:Int)):(vm c tm ar a s p).1.length=i:=by
 unfold vm;split
 .show (l! (jl s.1 _))=i;rw[GM,d,h.jc h0 h1];exact Nat.max_self _
 .exact d
variable {w:WT} {l:Y ET} {c:Y η} {tm:Y Γ} {la sp wa wt st se:η} {op:Y e?} {re:η} {ar:Y WO} {si ei:Y η}
def Z6 (F:i<=4) (h:CkL i j c tm) (hp:(0<=a/\a<(l! ar:Int))/\(0<=(b6 ar a).bg/\(b6 ar a).bg<(j:Int))/\(0<=(b6 ar a).en/\(b6 ar a).en<(j:Int))) (D:l! A=i):
 j9 (a,(w,l),c,tm,la,sp,wa,wt,st,se,op,re,ar,si,ei,e,A)=Z ((w,l),c,tm,la,sp,wa,wt,st,se,op,re,ar,si,ei,e,if Su (b6 ar a) e=J then jl A (jc c (b6 ar a).en) else A):=by
 refine cf ?_;obtain⟨⟨p0,p1⟩,_,n0,d⟩:=hp;unfold j9 jH ki kh yH Prod.u Prod.v aY bi bt b7 dc fx kl lA Prod.E ck bn kj jZ aH;dsimp only;refine aV (λx=>x=((a,Su (b6 ar a) e),(w,l),c,tm,la,sp,wa,wt,st,se,op,re,ar,si,ei,e,A)) ?_ ?_
 .refine aJ p0 p1 (aJ p0 p1 ?_);refine aM (λg=>aj ?_) λg=>?_
  .have g:mbg e.2.2.1 (b6 ar a).2.2=J:=g;unfold Su;rw[g];rfl
  have g:mbg e.2.2.1 (b6 ar a).2.2=aa:=g;refine aK (λz=>aJ p0 p1 (aJ p0 p1 (aj ?_))) λz=>aj ?_
  .unfold Su;rw[g,bj (show e.2.1=4 from z)];rfl
  .unfold Su;rw[g,b_ (show ¬e.2.1=4 from z)];rfl
 .rintro x rfl;dsimp only;refine aM (λg=>?_) λg=>aj ?_
  .have clk:=h.cl;refine aJ p0 p1 (aT ?_);refine aJ n0 (by have d:(b6 ar a).en<(j:Int):=d;rw[clk];exact d) (aJ n0 (by rw[clk];exact d) (aT ?_));refine aQ (Sn A (jc c (b6 ar a).en) (by unfold big;omega) (by rw[h.jc n0 d];unfold big;omega)) (aj ?_);rw[aG g]
  .rw[aA (by rw[g];simp)]
variable {b:Bool}
def Z5 (F:i<=4) (h:CkL i j c tm) (hp:(0<=a/\a<(l! ar:Int))/\(0<=(b6 ar a).bg/\(b6 ar a).bg<(j:Int))/\(0<=(b6 ar a).en/\(b6 ar a).en<(j:Int))) (D:l! A=i):
 j8 (a,(w,l),c,tm,la,sp,wa,wt,st,se,op,re,ar,si,ei,A,b)=Z ((w,l),c,tm,la,sp,wa,wt,st,se,op,re,ar,si,ei,if cvr A (jt tm (b6 ar a).bg)=J/\cvr A (jt tm (b6 ar a).en)=aa then (jl A (jc c (b6 ar a).en),J) else (A,b)):=by
 refine cf ?_;obtain⟨⟨p0,p1⟩,⟨b0,b1⟩,n0,d⟩:=hp;have clk:=h.cl;have ht:=h.tl;unfold j8 jH ki kh yH Prod.u Prod.v aY bi bt b7 dc fx kl lA kj jZ aH;dsimp only;refine aV (λx=>x=((a,cvr A (jt tm (b6 ar a).bg)&& !cvr A (jt tm (b6 ar a).en)),(w,l),c,tm,la,sp,wa,wt,st,se,op,re,ar,si,ei,A,b)) ?_ ?_
 .refine aJ p0 p1 (aT (aJ b0 (by rw[ht];exact b1) (aJ b0 (by rw[ht];exact b1) (aT ?_))));refine aQ (Yg A (h.jt b0 b1)) ?_;refine aM (λg=>?_) λg=>aj ?_
  .refine aJ p0 p1 (aT (aJ n0 (by rw[ht];exact d) (aJ n0 (by rw[ht];exact d) (aT ?_))));refine aQ (Yg A (h.jt n0 d)) (aj ?_);have g:cvr A (jt tm (b6 ar a).bg)=J:=g;dsimp only;rw[g,eg];rfl
  .have g:cvr A (jt tm (b6 ar a).bg)=aa:=g;dsimp only;rw[g,eO]
 .rintro x rfl;dsimp only;refine aM (λg=>?_) λg=>aj ?_
  .refine aJ p0 p1 (aT ?_);refine aJ n0 (by rw[clk];exact d) (aJ n0 (by rw[clk];exact d) (aT ?_));refine aQ (Sn A (jc c (b6 ar a).en) (by unfold big;omega) (by rw[h.jc n0 d];unfold big;omega)) (aj ?_);rw[aG (by simpa using g)]
  .rw[aA (by simpa using g)]
variable {R:Type}
def aev {Q:R->Prop} {P S:WO} {q:Int} (p0:0<=a) (p1:a<(i:Int)) (q0:0<=q) (q1:q<(i:Int)) {k:Bool->M R} (d:Ok (k (sW P S)) Q):
 Ok (chk (fm a i) λ_=>lt P.lk λz4=>chk (fm q i) λ_=>lt S.lk λz5=>aL (decide (z4=z5)) (chk (fm a i) λ_=>lt P.th λz6=>chk (fm q i) λ_=>lt S.th λz7=>aL (!decide (z6=z7)) (chk (fm a i) λ_=>lt P.rd λz8=>aL z8 (chk (fm q i) λ_=>lt S.rd λz9=>aL (!z9) (chk (fm a i) λ_=>lt P.en λF=>chk (fm q i) λ_=>lt S.bg λD=>k (fM F D)) (k aa)) (chk (fm a i) λ_=>lt P.en λA=>chk (fm q i) λ_=>lt S.bg λz=>k (fM A z))) (k aa)) (k aa)) Q:=by
 unfold sW at d;refine aJ p0 p1 (aT (aJ q0 q1 (aT ?_)));refine aK (λg1=>?_) λg1=>?_
 .rw[bj g1,eg]at d;refine aJ p0 p1 (aT (aJ q0 q1 (aT ?_)));refine cj (λg2=>?_) λg2=>?_
  .rw[b_ g2,k_,eg]at d;refine aJ p0 p1 (aT ?_);refine aM (λN=>?_) λN=>?_
   .rw[N,eg]at d;refine aJ q0 q1 (aT ?_);refine di (λL=>?_) λL=>?_
    .rw[L,k_,eg]at d;exact aJ p0 p1 (aT (aJ q0 q1 (aT d)))
    .rw[L,yI,eO]at d;exact d
   .rw[N,eO,k_,eg]at d;exact aJ p0 p1 (aT (aJ q0 q1 (aT d)))
  .rw[bj g2,yI,eO]at d;exact d
 .rw[b_ g1,eO]at d;exact d
def xH (d:R) {xs:Y R} (h:i<l! xs):xs.take (i+1)=xs.take i++[xs.getD i d]:=by
 rw[List.take_add_one,aD h,aB,aD h];rfl
def L1 (d:R) {xs:Y R} (h:i<l! xs):xs.getD i d∈xs:=by
 rw[aB,aD h];exact wJ h
def US (N:i<=4) (h:CkL i j c tm) (q0:0<=a) (q1:a<(l! ar:Int)) (D:EnI j ar re) (hrl:l! re<=1000) (F:l! A=i):
 kJ (a,(w,l),c,tm,la,sp,wa,wt,st,se,op,re,ar,si,ei,e,A)=Z ((w,l),c,tm,la,sp,wa,wt,st,se,op,re,ar,si,ei,e,re.foldl (AB c ar a e) A):=by
 refine cf ?_;unfold kJ rW jH ki kh aY bi bt b7 dc fx kl lA ck bn bR iK kj bI bc c7 aH cS;dsimp only;refine dO (l! re) (by omega) (λT x=>x=((a,(T:Int)),(w,l),c,tm,la,sp,wa,wt,st,se,op,re,ar,si,ei,e,(re.take T).foldl (AB c ar a e) A)/\l! ((re.take T).foldl (AB c ar a e) A)=i) ?_ ?_ ⟨by simp,by simpa using F⟩
 .rintro T x hi ⟨rfl,hcl⟩;refine gQ ?_;have hpe:=D _ (L1 0 hi);have hiA:ul re (T:Int)=re.getD T 0:=Kk re T;generalize hp:re.getD T 0=p at*
  obtain⟨⟨p0,p1⟩,L,clk⟩:=hpe;refine aV (λx=>x=(a,(w,l),c,tm,la,sp,wa,wt,st,se,op,re,ar,si,ei,e,AB c ar a e ((re.take T).foldl (AB c ar a e) A) p)) ?_ ?_
  .refine eQ (eQ ?_);dsimp only;rw[hiA];refine aV (λx=>x=((a,p,sW (b6 ar p) (b6 ar a)),(w,l),c,tm,la,sp,wa,wt,st,se,op,re,ar,si,ei,e,(re.take T).foldl (AB c ar a e) A)) ?_ ?_
   .with_reducible exact aev (P:=b6 ar p) (S:=b6 ar a) (k:=λb=>Z (cw ((a,p,b),(w,l),c,tm,la,sp,wa,wt,st,se,op,re,ar,si,ei,e,(re.take T).foldl (AB c ar a e) A))) p0 p1 q0 q1 (aj rfl)
   .rintro x rfl;dsimp only;refine aM (λg=>?_) λg=>aj ?_
    .refine aQ (Z6 N h ⟨⟨p0,p1⟩,L,clk⟩ hcl) (a9 (by simp only[eP,fw]) (aj ?_));dsimp only;unfold AB;by_cases d:Su (b6 ar p) e=J
     .rw[aG d,aG ⟨g,d⟩]
     .rw[aA d,aA (λz=>d z.2)]
    .unfold AB;rw[aA (λz=>by rw[g]at z;cases z.1)]
  .rintro x rfl;refine aj ⟨?_,?_⟩
   .rw[xH 0 hi,gW,hp];show ((_,be .i64 ((T:Int)+1)),_)=_;rw[fA];rfl
   .rw[xH 0 hi,gW,hp];exact adi h hcl clk.1 clk.2
 .rintro x ⟨rfl,_⟩;refine gC (aj ?_);rw[bW]
def UR (hT:i<=4) (h:CkL i j c tm) (q0:0<=a) (q1:a<(l! ar:Int)) (F:EnI j ar re) (hrl:l! re<=1000) (L:l! A=i):
 kI (a,(w,l),c,tm,la,sp,wa,wt,st,se,op,re,ar,si,ei,A,b)=Z ((w,l),c,tm,la,sp,wa,wt,st,se,op,re,ar,si,ei,re.foldl (vm c tm ar a) (A,b)):=by
 refine cf ?_;unfold kI rV jH ki kh aY bi bt b7 dc fx kl lA ck bn bR iK kj bI bc c7 aH cS;dsimp only;refine dO (l! re) (by omega) (λT x=>x=((a,(T:Int)),(w,l),c,tm,la,sp,wa,wt,st,se,op,re,ar,si,ei,(re.take T).foldl (vm c tm ar a) (A,b))/\((re.take T).foldl (vm c tm ar a) (A,b)).1.length=i) ?_ ?_ ⟨by simp,by simpa using L⟩
 .rintro T x hi ⟨rfl,hcl⟩;refine gQ ?_;have hpe:=F _ (L1 0 hi);have hiA:ul re (T:Int)=re.getD T 0:=Kk re T;generalize hp:re.getD T 0=p at*
  obtain⟨⟨p0,p1⟩,N,D⟩:=hpe;refine aV (λx=>x=(a,(w,l),c,tm,la,sp,wa,wt,st,se,op,re,ar,si,ei,vm c tm ar a ((re.take T).foldl (vm c tm ar a) (A,b)) p)) ?_ ?_
  .refine eQ (eQ ?_);dsimp only;rw[hiA];refine aV (λx=>x=((a,p,sW (b6 ar p) (b6 ar a)),(w,l),c,tm,la,sp,wa,wt,st,se,op,re,ar,si,ei,(re.take T).foldl (vm c tm ar a) (A,b))) ?_ ?_
   .with_reducible exact aev (P:=b6 ar p) (S:=b6 ar a) (k:=λd=>Z (cw ((a,p,d),(w,l),c,tm,la,sp,wa,wt,st,se,op,re,ar,si,ei,(re.take T).foldl (vm c tm ar a) (A,b)))) p0 p1 q0 q1 (aj rfl)
   .rintro x rfl;dsimp only;generalize (re.take T).foldl (vm c tm ar a) (A,b)=s at*
    obtain⟨sc,sa⟩:=s;refine aM (λg=>?_) λg=>aj ?_
    .refine aQ (Z5 hT h ⟨⟨p0,p1⟩,N,D⟩ hcl) (a9 (by simp only[eP,fw]) (aj ?_));dsimp only;unfold vm;by_cases clk:cvr sc (jt tm (b6 ar p).bg)=J/\cvr sc (jt tm (b6 ar p).en)=aa
     .rw[aG clk,aG ⟨g,clk⟩]
     .rw[aA clk,aA (λz=>clk z.2)]
    .unfold vm;rw[aA (λz=>by rw[g]at z;cases z.1)]
  .rintro x rfl;refine aj ⟨?_,?_⟩
   .rw[xH 0 hi,gW,hp];show ((_,be .i64 ((T:Int)+1)),_)=_;rw[fA];rfl
   .rw[xH 0 hi,gW,hp];exact adh h hcl D.1 D.2
 .rintro x ⟨rfl,_⟩;refine gC (aj ?_);rw[bW]
end
def zZ (a b:η):Prop:=∀u:Nat,a.getD u 0<=b.getD u 0
def zZ.rfl :zZ A A:=λ_=>eE _
def zZ.trans {a c:η} (h:zZ a A) (h':zZ A c):zZ a c:=λu=>fk (h u) (h' u)
def an5 (a b:Int):a<=oI a b:=by unfold oI;by_cases h:fM a b=J<;>simp only[h,bw]<;>first|(have:=mV.1 h;omega)|simp
def an4 (a b:Int):b<=oI a b:=by
 unfold oI;by_cases h:fM a b=J
 .rw[aG h];exact eE _
 .have:=fH.1 (Bool.eq_false_iff.2 h);rw[aA h];omega
def Zj (a b:Int):oI a b=a\/oI a b=b:=by
 unfold oI;by_cases h:fM a b=J
 .right;simp[h]
 .left;simp[h]
def Ls (a b:η):zZ a (jl a b):=λu=>by rw[Re];exact an5 _ _
def Ra (a b:η):zZ b (jl a b):=λu=>by rw[Re];exact an4 _ _
def MV {b:η} (h:zZ A b) {x:Γ} (d:cvr A x=J):cvr b x=J:=by
 unfold cvr at d ⊢;rw[bB]at d ⊢;exact fk d (h _)
def RD (ar:Y WO) (q:Int) (e:ET):Y WO:=if e.2.1=4 then qY (S:=l7) ar q (vx (S:=l7) 1 (b6 ar q) (vJ (K:=.int .i64) (V:=.bool) e.2.2.1 J (sG (S:=l7) 1 (b6 ar q)))) else qY (S:=l7) ar q (vx (S:=l7) 0 (b6 ar q) (vJ (K:=.int .i64) (V:=.bool) e.2.2.1 J (sG (S:=l7) 0 (b6 ar q))))
def S7 {ar:Y WO} (q0:0<=a) (q1:a<(l! ar:Int)):j7 ((a,e),ar)=Z (RD ar a e):=by
 refine cf ?_;unfold j7 RD aY bi ck bn;dsimp only;refine aK (λg=>?_) λg=>?_
 .exact aJ q0 q1 (aJ q0 q1 (aj (by rw[aG (show e.2.1=4 from g)])))
 .exact aJ q0 q1 (aJ q0 q1 (aj (by rw[aA (show ¬e.2.1=4 from g)])))
def Hw (e:ET):mS e=Z (decide (e.2.1=3\/e.2.1=4)):=by
 refine cf ?_;unfold mS bn aH;refine aV (λx=>x=decide (e.2.1=3\/e.2.1=4)) ?_ ?_
 .refine aK (λg=>aj ?_) λg=>aj ?_
  .exact (bj (Or.inl g)).symm
  .have g:¬e.2.1=3:=g;show decide (e.2.1=4)=_;simp[g]
 .rintro x rfl;exact aj rfl
def QZ {ar:Y WO} (o:WO) (i:Int) (h:a.toNat<l! ar):b6 (qY (S:=l7) ar a o) i=if i.toNat=a.toNat then o else b6 ar i:=by
 unfold b6 qY dV;rw[aB,db];by_cases e:a.toNat=i.toNat
 .rw[aG e,aG (by omega),aG e.symm];rfl
 .rw[aA e,aA (λz=>e z.symm),<-aB]
structure ZW (ar ar':List WO):Prop where
 ln:l! ar'=l! ar
 hd:∀i:Int,(b6 ar' i).1=(b6 ar i).1
 eq:∀i:Int,(b6 ar i).en≠ -1->b6 ar' i=b6 ar i
def ZW.rfl (ar:Y WO):ZW ar ar:=⟨Eq.refl _,λ_=>Eq.refl _,λ_ _=>Eq.refl _⟩
def ag2 (ar:Y WO) (q:Int) (e:ET):l! (RD ar q e)=l! ar:=by
 unfold RD qY;split<;>exact iu ..
def UM {ar:Y WO} (e:ET) (i:Int) (h:a.toNat<l! ar):b6 (RD ar a e) i=if i.toNat=a.toNat then (if e.2.1=4 then ((b6 ar a).1,(b6 ar a).2.1,vJ (K:=.int .i64) (V:=.bool) e.2.2.1 J (b6 ar a).2.2) else ((b6 ar a).1,vJ (K:=.int .i64) (V:=.bool) e.2.2.1 J (b6 ar a).2.1,(b6 ar a).2.2)) else b6 ar i:=by
 unfold RD;by_cases g:e.2.1=4
 .rw[aG g,aG g,QZ _ _ h];rfl
 .rw[aA g,aA g,QZ _ _ h];rfl
def ZW.ent {ar ar':Y WO} (h:ZW ar ar') (e:ET) (D:a.toNat<l! ar) (z:(b6 ar a).en= -1):ZW ar (RD ar' a e):=by
 obtain⟨h1,h2,A⟩:=h;have hi:∀i:Int,i.toNat=a.toNat->b6 ar i=b6 ar a:=λi hi=>by unfold b6 dV;rw[hi]
 refine ⟨by rw[ag2,h1],λi=>?_,λi d=>?_⟩
 .rw[UM e i (by omega)];split
  .rename_i hiq;rw[hi i hiq];split<;>exact h2 a
  .exact h2 i
 .rw[UM e i (by omega),aA]
  .exact A i d
  .intro hiq;rw[hi i hiq]at d;exact d z
def ZW.mat {ar ar':Y WO} (h:ZW ar ar') (p q:Int):sW (b6 ar' p) (b6 ar' q)=sW (b6 ar p) (b6 ar q):=by
 unfold sW WO.lk WO.th WO.rd WO.en WO.bg;rw[h.hd p,h.hd q]
def ZW.EnI {ar ar':Y WO} (h:ZW ar ar') {re:η} (z:EnI j ar re):AI.EnI j ar' re:=λp hp=>by
 obtain⟨⟨a,b⟩,A,d,f⟩:=z p hp;have e:=h.eq p (by omega);rw[h.ln,e];exact⟨⟨a,b⟩,A,d,f⟩
def alq {I:η->Prop} {c:Y η} {ar:Y WO} {q:Int} :∀(L:η) (clk:η),I clk->(∀clk p,p∈L->sW (b6 ar p) (b6 ar q)=J->Su (b6 ar p) e=J->I clk->I (jl clk (jc c (b6 ar p).en)))->
 I (L.foldl (AB c ar q e) clk)/\zZ clk (L.foldl (AB c ar q e) clk)/\∀p∈L,sW (b6 ar p) (b6 ar q)=J->Su (b6 ar p) e=J->zZ (jc c (b6 ar p).en) (L.foldl (AB c ar q e) clk)
 |[],clk,h,_=>⟨h,zZ.rfl,λp hp=>by cases hp⟩
 |p::L,clk,h,A=>by
  have h1:I (AB c ar q e clk p)/\zZ clk (AB c ar q e clk p)/\(sW (b6 ar p) (b6 ar q)=J->Su (b6 ar p) e=J->zZ (jc c (b6 ar p).en) (AB c ar q e clk p)):=by
   unfold AB;by_cases g:sW (b6 ar p) (b6 ar q)=J/\Su (b6 ar p) e=J
   .rw[aG g];exact⟨A clk p (c_ ..) g.1 g.2 h,Ls _ _,λ_ _=>Ra _ _⟩
   .rw[aA g];exact⟨h,zZ.rfl,λa b=>cN ⟨a,b⟩ g⟩
  obtain⟨a,b,d⟩:=alq L _ h1.1 λclk p hp=>A clk p (b8 _ hp)
  refine ⟨a,h1.2.1.trans b,λD z m1 m2=>?_⟩;rcases bm.1 z with rfl|z
  .exact (h1.2.2 m1 m2).trans b
  .exact d D z m1 m2
def SM (tm:Y Γ) (ar:Y WO) (re:η) (clk:η):Nat:=l! (re.filter λp=> !cvr clk (jt tm (b6 ar p).en))
def WC {tm:Y Γ} {ar:Y WO} {re:η} {b:η} (h:zZ A b):SM tm ar re b<=SM tm ar re A:=by
 unfold SM;induction re with
 |nil=>exact cA _
 |cons p r d=>
  simp only[List.filter_cons];cases z:cvr A (jt tm (b6 ar p).en) with
  |true=>rw[MV h z];exact d
  |false=>
   cases cvr b (jt tm (b6 ar p).en) with
   |true=>simp only[yI,bM,c8,k_,bw,bX];omega
   |false=>simp only[k_,bw,bX];omega
def amm {tm:Y Γ} {ar:Y WO} {re:η} {b:η} (h:zZ A b) {p:Int} (hp:p∈re) (h0:cvr A (jt tm (b6 ar p).en)=aa) (h1:cvr b (jt tm (b6 ar p).en)=J):SM tm ar re b<SM tm ar re A:=by
 induction re with
 |nil=>cases hp
 |cons x r d=>
  have hle:=WC (tm:=tm) (ar:=ar) (re:=r) h;unfold SM at d hle ⊢;simp only[List.filter_cons];rcases bm.1 hp with rfl|hp
  .rw[h0,h1];simp only[yI,bM,c8,k_,bw,bX];omega
  .have d:=d hp;cases z:cvr A (jt tm (b6 ar x).en) with
   |true=>rw[MV h z];exact d
   |false=>
    cases cvr b (jt tm (b6 ar x).en) with
    |true=>simp only[yI,bM,c8,k_,bw,bX];omega
    |false=>simp only[k_,bw,bX];omega
def aee {I:η->Prop} {c:Y η} {tm:Y Γ} {ar:Y WO} {q:Int} {re:η} (htm:∀p∈re,cvr (jc c (b6 ar p).en) (jt tm (b6 ar p).en)=J):∀(L:η) (s:η×Bool),(∀p∈L,p∈re)->I s.1->(∀clk p,p∈L->sW (b6 ar p) (b6 ar q)=J->cvr clk (jt tm (b6 ar p).bg)=J->I clk->I (jl clk (jc c (b6 ar p).en)))->
 I (L.foldl (vm c tm ar q) s).1/\zZ s.1 (L.foldl (vm c tm ar q) s).1/\((L.foldl (vm c tm ar q) s).2=J->s.2=J\/SM tm ar re (L.foldl (vm c tm ar q) s).1<SM tm ar re s.1)/\
 ((L.foldl (vm c tm ar q) s).2=aa->s.2=aa/\(L.foldl (vm c tm ar q) s).1=s.1/\∀p∈L,sW (b6 ar p) (b6 ar q)=J->cvr s.1 (jt tm (b6 ar p).bg)=J->cvr s.1 (jt tm (b6 ar p).en)=J)
 |[],s,_,h,_=>⟨h,zZ.rfl,λh=>.inl h,λh=>⟨h,rfl,λp hp=>by cases hp⟩⟩
 |p::L,s,hL,h,A=>by
  have hpr:=hL p (c_ ..);by_cases g:sW (b6 ar p) (b6 ar q)=J/\cvr s.1 (jt tm (b6 ar p).bg)=J/\cvr s.1 (jt tm (b6 ar p).en)=aa
  .have e1:vm c tm ar q s p=(jl s.1 (jc c (b6 ar p).en),J):=by unfold vm;rw[aG g]
   obtain⟨a,b,d,f⟩:=aee htm L (jl s.1 (jc c (b6 ar p).en),J) (λp hp=>hL p (b8 _ hp)) (A s.1 p (c_ ..) g.1 g.2.1 h) λclk p hp=>A clk p (b8 _ hp)
   simp only[ub,e1];have hlt:SM tm ar re (jl s.1 (jc c (b6 ar p).en))<SM tm ar re s.1:=amm (Ls _ _) hpr g.2.2 (MV (Ra _ _) (htm p hpr));refine ⟨a,(Ls _ _).trans b,λ_=>.inr (Nat.lt_of_le_of_lt (WC b) hlt),λhf=>?_⟩;have:=(f hf).1;cases this
  .have e1:vm c tm ar q s p=s:=by unfold vm;rw[aA g]
   obtain⟨a,b,d,f⟩:=aee htm L s (λp hp=>hL p (b8 _ hp)) h λclk p hp=>A clk p (b8 _ hp)
   simp only[ub,e1];refine ⟨a,b,d,λhf=>?_⟩;obtain⟨f1,N,f3⟩:=f hf;refine ⟨f1,N,λD z m1 m2=>?_⟩;rcases bm.1 z with rfl|z
   .cases F:cvr s.1 (jt tm (b6 ar D).en) with
    |true=>rfl
    |false=>exact cN ⟨m1,m2,F⟩ g
   .exact f3 D z m1 m2
def SD (j:Int) (e:ET) (sp:η):l! (I0 j e sp)=l! sp:=by unfold I0;split<;>simp only[cR]
def SA (j:Int) (e:ET) (wt wa:η):l! (IZ j e wt wa)=l! wa:=by
 unfold IZ;split
 .split<;>simp only[cR]
 .split<;>simp only[Q5]
def ZT (k j:Int) (e:ET) (st:η) (si:Y η):l! (OY k j e st si)=l! st:=by unfold OY;split<;>simp only[iu]
def F8 (e:ET) (op:Y e?) (ar:Y WO):Nat->Y WO
 |0=>ar
 |n+1=>if ui (e.1,(n:Int)) op=J then RD (F8 e op ar n) (fc (e.1,(n:Int)) op) e else F8 e op ar n
def agq {op:Y e?} {ar:Y WO} (h:ui (e.1,(i:Int)) op=J):F8 e op ar (i+1)=RD (F8 e op ar i) (fc (e.1,(i:Int)) op) e:=aG h
def akj {op:Y e?} {ar:Y WO} (h:¬ui (e.1,(i:Int)) op=J):F8 e op ar (i+1)=F8 e op ar i:=aA h
def s6 (w:WT) (e:ET) (op:Y e?) (ar:Y WO):Y WO:=if e.2.1=3\/e.2.1=4 then F8 e op ar (l! w.2.1+1) else ar
def Nn {e:ET} {op:Y e?} {ar:Y WO} (h1:OpI (l! ar) op) (h2:∀x∈op,(b6 ar x.2).en= -1):∀n,ZW ar (F8 e op ar n)
 |0=>ZW.rfl ar
 |n+1=>by
  have d:=Nn (e:=e) h1 h2 n;unfold F8;split
  .rename_i z;have hm:=rE _ z;have:=h1 _ hm;exact d.ent e (by dsimp only at this;omega) (h2 _ hm)
  .exact d
def VU {w:WT} {op:Y e?} {ar:Y WO} (h1:OpI (l! ar) op) (h2:∀x∈op,(b6 ar x.2).en= -1):ZW ar (s6 w e op ar):=by
 unfold s6;split
 .exact Nn h1 h2 _
 .exact ZW.rfl ar
structure JI (w:WT) (c:List η) (tm:List Γ) (src:η) (op:List (Γ×Int)) (re:η) (ar:List WO) (e:ET) (I:η->Prop):Prop where
 i0:I (aF (l! w.2.2.2.2.1) 0)
 i1:∀clk i,i∈src->0<=i->I clk->I (jl clk (jc c i))
 i2:∀clk (lk:Int) p,(e.2.1=3\/e.2.1=4)->0<=lk->lk<=(l! w.2.1:Int)->ui (e.1,lk) op=J->p∈re->sW (b6 ar p) (b6 ar (fc (e.1,lk) op))=J->Su (b6 ar p) e=J->I clk->I (jl clk (jc c (b6 ar p).en))
 i3:∀clk p,ui (e.1,nW w e) op=J->p∈re->sW (b6 ar p) (b6 ar (fc (e.1,nW w e) op))=J->cvr clk (jt tm (b6 ar p).bg)=J->I clk->I (jl clk (jc c (b6 ar p).en))
 it:∀clk,I clk->l! clk=l! w.2.2.2.2.1/\0<=clk.getD e.1.toNat 0/\clk.getD e.1.toNat 0<1000000000
structure JR (w:WT) (c:List η) (tm:List Γ) (src:η) (op:List (Γ×Int)) (re:η) (ar:List WO) (e:ET) (clk:η):Prop where
 a:∀i∈src,0<=i->zZ (jc c i) clk
 b:(e.2.1=3\/e.2.1=4)->∀lk:Int,0<=lk->lk<=(l! w.2.1:Int)->ui (e.1,lk) op=J->∀p∈re,sW (b6 ar p) (b6 ar (fc (e.1,lk) op))=J->Su (b6 ar p) e=J->zZ (jc c (b6 ar p).en) clk
 c:ui (e.1,nW w e) op=J->∀p∈re,sW (b6 ar p) (b6 ar (fc (e.1,nW w e) op))=J->cvr clk (jt tm (b6 ar p).bg)=J->cvr clk (jt tm (b6 ar p).en)=J
set_option maxRecDepth 10000 in
def ai5 {w:WT} {l:Y ET} {e:ET} (hev:Sy w e) {j:Nat} (hj:j<=400) (hT:l! w.2.2.2.2.1<=4) (hL:l! w.2.1<=4) (hv:e.2.1=18->e.2.2.2.1<l! w.2.2.2.2.1) {c:Y η} {tm:Y Γ} {la sp wa wt st se:η} {op:Y e?} {re:η} {ar:Y WO} {si ei:Y η}
 (h1:D' (l! w.2.2.2.2.1) j la) (h2:D' (l! w.2.2.2.2.1) j sp) (h3:D' (l! w.2.2.2.2.1) j wa) (hwt:l! wt=l! w.2.2.2.2.1) (h4:NL (l! w.1) j st si) (h5:NL (l! w.2.2.2.1) j se ei)
 (hc:CkL (l! w.2.2.2.2.1) j c tm) (ho:OpI (l! ar) op) (hoo:∀x∈op,(b6 ar x.2).en= -1) (hr:EnI j ar re) (hrl:l! re<=400) (htm:∀p∈re,cvr (jc c (b6 ar p).en) (jt tm (b6 ar p).en)=J)
 {I:η->Prop} (hI:JI w c tm (vp w la sp wa si ei e) op re ar e I):
 Ok (gm (((j:Int),e),(w,l),c,tm,la,sp,wa,wt,st,se,op,re,ar,si,ei)) λy=>∃clk,(I clk/\JR w c tm (vp w la sp wa si ei e) op re ar e clk)/\y=((w,l),cJ la e.1 (j:Int),I0 (j:Int) e sp,IZ (j:Int) e wt wa,NO e wt,OY 4 (j:Int) e st si,OY 22 (j:Int) e se ei,scO w e op (s6 w e op ar),c++[tk clk e.1.toNat],tm++[((tk clk e.1.toNat).getD e.1.toNat 0,e.1)],Ev w e op re,scA w (j:Int) e op (s6 w e op ar),Qr 4 (j:Int) e si,Qr 22 (j:Int) e ei):=by
 have t0:=hev.t0;have t1:=hev.t1;have hsl:l! (vp w la sp wa si ei e)<=401:=by
  have q:∀{n:Nat} {xs:η} {xss:Y η} {o:Int},NL n j xs xss->0<=o->o<n->l! (xF (T:=aP) xss o)<=400:=λ{n xs xss o} h o0 o1=>by
   have e:o=((o.toNat:Nat):Int):=by omega
   obtain⟨a,b,cc⟩:=h.2.2 o.toNat (by omega);rw[e,yO];omega
  unfold vp;rw[bG,bP];split
  .simp
  .split
   .simp
   .split
    .rename_i g;have:=q h5 (hev.nm.fu (.inr g)).1 (hev.nm.fu (.inr g)).2;omega
    .split
     .rename_i g;split
      .have:=q h4 (hev.nm.ce (.inl g)).1 (hev.nm.ce (.inl g)).2;omega
      .simp
     .split<;>simp
 have hsv:∀v∈vp w la sp wa si ei e,v<(j:Int):=by
  have q:∀{n:Nat} {xs:η} {xss:Y η} {o:Int},NL n j xs xss->0<=o->o<n->∀v∈xF (T:=aP) xss o,v<(j:Int):=λ{n xs xss o} h o0 o1 v hv=>by
   have e:o=((o.toNat:Nat):Int):=by omega
   rw[e,yO]at hv;exact ((h.2.2 o.toNat (by omega)).2.2 v hv).2
  intro v hv;unfold vp at hv;rcases bE.1 hv with hv|hv
  .rw[aE]at hv;rw[hv];exact (h1.geti t0 t1).2
  .split at hv
   .rw[aE]at hv;rw[hv];exact (h2.geti t0 t1).2
   .split at hv
    .rename_i g;rw[aE]at hv;rw[hv];exact (h1.geti (hev.nm.th (.inr g)).1 (hev.nm.th (.inr g)).2).2
    .split at hv
     .rename_i g;exact q h5 (hev.nm.fu (.inr g)).1 (hev.nm.fu (.inr g)).2 v hv
     .split at hv
      .rename_i g;split at hv
       .exact q h4 (hev.nm.ce (.inl g)).1 (hev.nm.ce (.inl g)).2 v hv
       .cases hv
      .split at hv
       .rw[aE]at hv;rw[hv];exact (h3.geti t0 t1).2
       .cases hv
 generalize hsrc:vp w la sp wa si ei e=src at*
 have hcl:=hc.cl;unfold gm nO jH ki kh yH Prod.u Prod.v Prod.B aY bi bt b7 dc fx kl lA Prod.y Prod.z NF Prod.s Prod.F Prod.E Prod.L bR jR bI bY jZ bc c7 aH cS;dsimp only;refine c6 (c6 (dm (by dsimp only[ak];omega) (a? (a_ (by simp only[ak,bF];omega) (by omega) ?_))));refine aQ (WI hev (by omega) h1 h2 h3 h4 h5) ?_;rw[hsrc];dsimp only;refine a9 (by simp only[eP,fw]) ?_;refine dO (l! src) (by omega) (λi x=>∃clk,x=((i:Int),(w,l),c,tm,la,sp,wa,wt,st,se,op,re,ar,si,ei,e,clk)/\I clk/\∀v∈src.take i,0<=v->zZ (jc c v) clk) ?_ ?_ ⟨aF (l! w.2.2.2.2.1) 0,by simp only[ak,bF];rfl,hI.i0,λv hv=>by simp at hv⟩
 .rintro i x hi ⟨clk,rfl,hk,hs⟩;refine gQ ?_;have hvm:=L1 0 hi;have hgv:geti aP src (i:Int)=src.getD i 0:=AG src i;have hlt:=hsv _ hvm;have htk:=xH 0 hi;generalize src.getD i 0=v at*
  refine aV (λx=>∃clk',x=((w,l),c,tm,la,sp,wa,wt,st,se,op,re,ar,si,ei,e,clk')/\I clk'/\∀v∈src.take (i+1),0<=v->zZ (jc c v) clk') ?_ ?_
  .refine eQ (aT ?_);dsimp only;have hgv':geti aP src (i:Int)=v:=hgv;rw[hgv'];refine dW (λv0=>?_) λv0=>?_
   .refine aJ v0 (by omega) (aJ v0 (by omega) (aT ?_));refine aQ (Sn clk (jc c v) (by have:=(hI.it clk hk).1;unfold big;omega) (by rw[hc.jc v0 hlt];unfold big;omega)) (aj ⟨_,rfl,hI.i1 clk v hvm v0 hk,λu hu u0=>?_⟩);rw[htk]at hu;rcases bE.1 hu with hu|hu
    .exact (hs u hu u0).trans (Ls _ _)
    .rw[aE]at hu;rw[hu];exact Ra _ _
   .refine aj ⟨clk,rfl,hk,λu hu u0=>?_⟩;rw[htk]at hu;rcases bE.1 hu with hu|hu
    .exact hs u hu u0
    .rw[aE]at hu;omega
  .rintro x ⟨clk',rfl,hk',hs'⟩;refine aj ⟨clk',?_,hk',hs'⟩;show (be .i64 ((i:Int)+1),_)=_;rw[fA]
 rintro x ⟨clk,rfl,hk,hs⟩;rw[bW]at hs;refine gC ?_;refine aw (P:=λy=>∃clk,(I clk/\JR w c tm src op re ar e clk)/\y=((w,l),cJ la e.1 (j:Int),I0 (j:Int) e sp,IZ (j:Int) e wt wa,NO e wt,OY 4 (j:Int) e st si,OY 22 (j:Int) e se ei,scO w e op (s6 w e op ar),c++[tk clk e.1.toNat],tm++[((tk clk e.1.toNat).getD e.1.toNat 0,e.1)],Ev w e op re,scA w (j:Int) e op (s6 w e op ar),Qr 4 (j:Int) e si,Qr 22 (j:Int) e ei)) ?_ λy hy=>aj hy
 have sam:=VU (w:=w) (e:=e) ho hoo;have hrl':l! re<=1000:=by omega
 refine aV (λx=>∃clk,x=((w,l),c,tm,la,sp,wa,wt,st,se,op,re,s6 w e op ar,si,ei,e,clk)/\I clk/\(∀v∈src,0<=v->zZ (jc c v) clk)/\((e.2.1=3\/e.2.1=4)->∀lk:Int,0<=lk->lk<=(l! w.2.1:Int)->ui (e.1,lk) op=J->∀p∈re,sW (b6 ar p) (b6 ar (fc (e.1,lk) op))=J->Su (b6 ar p) e=J->zZ (jc c (b6 ar p).en) clk)) ?_ ?_
 .dsimp only;refine aQ (Hw e) ?_;refine aK (λhacc=>?_) λhacc=>?_
  .refine dO (l! w.2.1+1) (by omega) (λi x=>∃clk,x=((i:Int),(w,l),c,tm,la,sp,wa,wt,st,se,op,re,F8 e op ar i,si,ei,e,clk)/\I clk/\(∀v∈src,0<=v->zZ (jc c v) clk)/\∀lk:Int,0<=lk->lk<(i:Int)->ui (e.1,lk) op=J->∀p∈re,sW (b6 ar p) (b6 ar (fc (e.1,lk) op))=J->Su (b6 ar p) e=J->zZ (jc c (b6 ar p).en) clk) ?_ ?_ ⟨clk,rfl,hk,hs,λlk h0 h1=>by omega⟩
   .rintro i x hi ⟨clk,rfl,hk,hs,hb⟩;have hwr:be .i64 (aR (l! w.2.1)+1)=((l! w.2.1+1:Nat):Int):=fA;refine gQ ?_ (by dsimp only;rw[hwr];omega);have si_:=Nn (e:=e) ho hoo i;refine aV (λx=>∃clk',x=((w,l),c,tm,la,sp,wa,wt,st,se,op,re,F8 e op ar (i+1),si,ei,e,clk')/\I clk'/\(∀v∈src,0<=v->zZ (jc c v) clk')/\∀lk:Int,0<=lk->lk<((i+1:Nat):Int)->ui (e.1,lk) op=J->∀p∈re,sW (b6 ar p) (b6 ar (fc (e.1,lk) op))=J->Su (b6 ar p) e=J->zZ (jc c (b6 ar p).en) clk') ?_ ?_
    .dsimp only;refine aM (λhq=>?_) λhq=>?_
     .have hm:=rE _ hq;have hqr:=ho _ hm;dsimp only at hqr;have q0:=hqr.1;have q1:fc (e.1,(i:Int)) op<(l! (F8 e op ar i):Int):=by rw[si_.ln];exact hqr.2
      refine aQ (US hT hc q0 q1 (si_.EnI hr) hrl' (hI.it clk hk).1) (a9 (by simp only[eP,fw]) ?_);refine aQ (S7 q0 q1) (aj ?_);have pe:∀p∈re,b6 (F8 e op ar i) p=b6 ar p:=λp hp=>si_.eq p (by have:=(hr p hp).2.2;omega)
      obtain⟨r1,r2,r3⟩:=alq (I:=I) (c:=c) (ar:=F8 e op ar i) (q:=fc (e.1,(i:Int)) op) (e:=e) re clk hk (λclk p hp m1 m2 hk=>by
       rw[si_.mat]at m1;rw[pe p hp]at m2 ⊢;exact hI.i2 clk (i:Int) p hacc (by omega) (by omega) hq hp m1 m2 hk)
      refine ⟨_,by rw[agq hq],r1,λv hv v0=>(hs v hv v0).trans r2,λlk l0 l1 ho' p hp m1 m2=>?_⟩;by_cases hlk:lk=(i:Int)
      .subst hlk;have:=r3 p hp (by rw[si_.mat];exact m1) (by rw[pe p hp];exact m2);rw[pe p hp]at this;exact this
      .exact (hb lk l0 (by omega) ho' p hp m1 m2).trans r2
     .refine aj ⟨clk,by rw[akj (by rw[hq];simp)],hk,hs,λlk l0 l1 ho' p hp m1 m2=>?_⟩;by_cases hlk:lk=(i:Int)
      .subst hlk;have hq:ui (e.1,(i:Int)) op=aa:=hq;rw[hq]at ho';cases ho'
      .exact hb lk l0 (by omega) ho' p hp m1 m2
    .rintro x ⟨clk',rfl,a,b,d⟩;refine aj ⟨clk',?_,a,b,d⟩;show (be .i64 ((i:Int)+1),_)=_;rw[fA]
   .rintro x ⟨clk,rfl,a,b,d⟩;have hwr:be .i64 (aR (l! w.2.1)+1)=((l! w.2.1+1:Nat):Int):=fA;refine gC (aj ⟨clk,by unfold s6;rw[aG hacc],a,b,λ_ lk l0 l1=>d lk l0 (by omega)⟩) (by dsimp only;rw[hwr];omega)
  .exact aj ⟨clk,by unfold s6;rw[aA hacc],hk,hs,λh=>cN h hacc⟩
 rintro x ⟨clk,rfl,hk,hs,hb⟩;dsimp only;refine aV (λx=>∃clk,x=((w,l),c,tm,la,sp,wa,wt,st,se,op,re,s6 w e op ar,si,ei,e,clk)/\I clk/\JR w c tm src op re ar e clk) ?_ ?_
 .refine aQ (HP hev) ?_;refine aM (λhq=>?_) λhq=>?_
  .have hm:=rE _ hq;have hqr:=ho _ hm;dsimp only at hqr;have q0:=hqr.1;have q1:fc (e.1,nW w e) op<(l! (s6 w e op ar):Int):=by rw[sam.ln];exact hqr.2
   have pe:∀p∈re,b6 (s6 w e op ar) p=b6 ar p:=λp hp=>sam.eq p (by have:=(hr p hp).2.2;omega)
   have uncL:∀clk,SM tm (s6 w e op ar) re clk<=l! re:=λclk=>by unfold SM;exact Ds ..
   refine EM 1000 (λx=>2*SM tm (s6 w e op ar) re x.2.2.2.2.2.2.2.2.2.2.2.2.2.2.2.2.1+if x.2.2.2.2.2.2.2.2.2.2.2.2.2.2.2.2.2=J then 1 else 0) (λx=>∃clk ag,x=(fc (e.1,nW w e) op,(w,l),c,tm,la,sp,wa,wt,st,se,op,re,s6 w e op ar,si,ei,e,clk,ag)/\I clk/\(∀v∈src,0<=v->zZ (jc c v) clk)/\((e.2.1=3\/e.2.1=4)->∀lk:Int,0<=lk->lk<=(l! w.2.1:Int)->ui (e.1,lk) op=J->∀p∈re,sW (b6 ar p) (b6 ar (fc (e.1,lk) op))=J->Su (b6 ar p) e=J->zZ (jc c (b6 ar p).en) clk)/\(ag=aa->∀p∈re,sW (b6 ar p) (b6 ar (fc (e.1,nW w e) op))=J->cvr clk (jt tm (b6 ar p).bg)=J->cvr clk (jt tm (b6 ar p).en)=J)) ?_ ?_ ⟨clk,J,rfl,hk,hs,hb,nofun⟩
   .rintro x ⟨clk,ag,rfl,hk,hs,hb,hd⟩;dsimp only;refine aM (λhag=>?_) λhag=>?_
    .refine aQ (UR hT hc q0 q1 (sam.EnI hr) hrl' (hI.it clk hk).1) (a9 (by simp only[eP,fw]) (aj ?_));obtain⟨r1,r2,r3,r4⟩:=aee (I:=I) (c:=c) (tm:=tm) (ar:=s6 w e op ar) (q:=fc (e.1,nW w e) op) (re:=re) (λp hp=>by rw[pe p hp];exact htm p hp) re (clk,aa) (λp hp=>hp) hk (λclk p hp m1 m2 hk=>by
      rw[sam.mat]at m1;rw[pe p hp]at m2 ⊢;exact hI.i3 clk p hq hp m1 m2 hk)
     generalize List.foldl (vm c tm (s6 w e op ar) (fc (e.1,nW w e) op)) (clk,aa) re=s at*
     obtain⟨sc,sa⟩:=s;dsimp only at r1 r2 r3 r4;refine ⟨⟨sc,sa,rfl,r1,λv hv v0=>(hs v hv v0).trans r2,λh lk l0 l1 ho' p hp m1 m2=>(hb h lk l0 l1 ho' p hp m1 m2).trans r2,λh p hp m1 m2=>?_⟩,?_⟩
     .obtain⟨_,f2,f3⟩:=r4 h;rw[f2]at m2 ⊢;have:=f3 p hp (by rw[sam.mat];exact m1) (by rw[pe p hp];exact m2);rw[pe p hp]at this;exact this
     .have hle:SM tm (s6 w e op ar) re sc<=SM tm (s6 w e op ar) re clk:=WC r2;have hag:ag=J:=hag;show 2*SM tm (s6 w e op ar) re sc+(if sa=J then 1 else 0)<2*SM tm (s6 w e op ar) re clk+(if ag=J then 1 else 0)
      rw[hag,aG rfl];cases sa with
      |false=>rw[aA (by simp)];omega
      |true=>
       rcases r3 rfl with h|h
       .cases h
       .rw[aG rfl];omega
    .have hag:ag=aa:=hag;exact aj ⟨clk,rfl,hk,hs,hb,λ_=>hd hag⟩
   .dsimp only;have:=uncL clk;rw[aG rfl];omega
  .refine aj ⟨clk,rfl,hk,hs,hb,λh=>?_⟩;have hq:ui (e.1,nW w e) op=aa:=hq;rw[hq]at h;cases h
 rintro x ⟨clk,rfl,hk,hj'⟩;dsimp only;obtain⟨k1,k2,k3⟩:=hI.it clk hk;have et:e.1=((e.1.toNat:Nat):Int):=by omega
 have htick:q_ (clk,e.1)=Z (tk clk e.1.toNat):=by
  rw[et,bF];exact akq clk e.1.toNat (by unfold big;omega) (by omega) k2 (by omega)
 refine aQ htick ?_;have htl:=hc.tl;have hlt:l! (tk clk e.1.toNat)=l! w.2.2.2.2.1:=by rw[Pe,k1];omega
 refine a_ (by rw[bP];omega) (by omega) (aJ t0 (by rw[hlt];exact t1) (aT (a_ (by rw[bP];omega) (by omega) ?_)));have hgt:geti aP (tk clk e.1.toNat) e.1=(tk clk e.1.toNat).getD e.1.toNat 0:=by
  rw[et,AG,bF]
 have hgt':geti aP (tk clk e.1.toNat) e.1=(tk clk e.1.toNat).getD e.1.toNat 0:=hgt;rw[hgt'];refine aQ (S6 hev (by rw[sam.ln];exact ho) (λv hv=>by rw[sam.ln];exact (hr v hv).1) hrl') ?_;dsimp only;refine a9 (by simp only[eP,fw]) ?_;refine aQ (ag1 hev (by omega) hT hv h1 h2 h3 hwt h4 h5) ?_;dsimp only;refine a9 (by simp only[cR,SD,SA,KB,ZT,eP,fw]) (aj ⟨clk,⟨hk,hj'⟩,rfl⟩)
def Tw {ar:Y WO} :b6 ar a=b6 ar (a.toNat:Int):=by unfold b6 dV;rw[bF]
def Q0 {ar:Y WO} (o:WO) (h:a.toNat<l! ar):b6 (ar++[o]) a=b6 ar a:=by
 unfold b6 dV;rw[aB,aB,bz h]
def aiu (ar:Y WO) (o:WO):b6 (ar++[o]) (l! ar:Int)=o:=by
 unfold b6 dV;rw[bF,aB,uM];rfl
def zV (op:Y e?):Prop:=(op.map (·.1)).Nodup
def Y' (k:Γ) {x:e?}:∀{op:Y e?},zV op->x∈AZ k op->x.1≠k
 |[],_,h=>by cases h
 |e::r,z,h=>by
  unfold zV at z;rw[ca,ua]at z;simp only[AZ]at h;cases d:Oc k e.1 with
  |true=>
   rw[d]at h;intro he;exact z.1 (by rw[<- DL.1 d,<-he];exact List.mem_map_of_mem h)
  |false=>
   rw[d]at h;rcases bm.1 h with h|h
   .rw[h];intro he;rw[DL.2 he.symm]at d;cases d
   .exact Y' k z.2 h
def zV.del (k:Γ):∀{op:Y e?},zV op->zV (AZ k op)
 |[],h=>h
 |e::r,d=>by
  unfold zV at d ⊢;rw[ca,ua]at d;simp only[AZ];cases A:Oc k e.1 with
  |true=>exact d.2
  |false=>
   show (fX (·.1) (e::AZ k r)).Nodup;rw[ca,ua];refine ⟨λh=>d.1 ?_,zV.del k d.2⟩;obtain⟨x,z,hxe⟩:=cq.1 h;rw[<- hxe];exact List.mem_map_of_mem (EO k z)
def Tx {k:Γ} {x:e?}:∀{op:Y e?},zV op->x∈xQ k a op->x=(k,a)\/(x∈op/\x.1≠k)
 |[],_,h=>.inl (aE.1 h)
 |e::r,z,h=>by
  unfold zV at z;rw[ca,ua]at z;simp only[xQ]at h;cases d:Oc k e.1 with
  |true=>
   rw[d]at h;rcases bm.1 h with h|h
   .exact .inl h
   .refine .inr ⟨b8 _ h,λhe=>z.1 ?_⟩;rw[<- DL.1 d,<-he];exact List.mem_map_of_mem h
  |false=>
   rw[d]at h;rcases bm.1 h with h|h
   .rw[h];exact .inr ⟨c_ ..,λhe=>by rw[DL.2 he.symm]at d;cases d⟩
   .rcases Tx z.2 h with h|h
    .exact .inl h
    .exact .inr ⟨b8 _ h.1,h.2⟩
def Px {k:Γ} {y:Γ}:∀{op:Y e?},y∈(xQ k a op).map (·.1)->y=k\/y∈op.map (·.1)
 |[],h=>.inl (by simpa[xQ] using h)
 |e::r,h=>by
  simp only[xQ]at h;cases d:Oc k e.1 with
  |true=>
   rw[d]at h;have h:y∈k::r.map (·.1):=h;rcases bm.1 h with h|h
   .exact .inl h
   .exact .inr (b8 _ h)
  |false=>
   rw[d]at h;have h:y∈e.1::(xQ k a r).map (·.1):=h;rcases bm.1 h with h|h
   .exact .inr (h▸c_ ..)
   .rcases Px h with h|h
    .exact .inl h
    .exact .inr (b8 _ h)
def zV.put (k:Γ) (v:Int):∀{op:Y e?},zV op->zV (xQ k v op)
 |[],_=>by simp[zV,xQ]
 |e::r,d=>by
  unfold zV at d ⊢;rw[ca,ua]at d;simp only[xQ];cases z:Oc k e.1 with
  |true=>
   show (k::r.map (·.1)).Nodup;rw[DL.1 z,ua];exact d
  |false=>
   show (e.1::(xQ k v r).map (·.1)).Nodup;rw[ua];refine ⟨λh=>?_,zV.put k v d.2⟩;rcases Px h with h|h
   .rw[DL.2 h.symm]at z;cases z
   .exact d.1 h
structure WS (j:Nat) (op:List (Γ×Int)) (re:η) (ar:List WO):Prop where
 ks:zV op
 o:∀x∈op,(0<=x.2/\x.2<(l! ar:Int))/\(b6 ar x.2).th=x.1.1/\(b6 ar x.2).lk=x.1.2/\(b6 ar x.2).en= -1/\0<=x.1.2
 a:∀k:Nat,k<l! ar->(0<=(b6 ar k).bg/\(b6 ar k).bg<(j:Int))/\((b6 ar k).en= -1\/((b6 ar k).bg<(b6 ar k).en/\(b6 ar k).en<(j:Int)))
 r:∀p∈re,(0<=p/\p<(l! ar:Int))/\(b6 ar p).en≠ -1
 rl:l! re<=j
def WS.op {op:Y e?} {re:η} {ar:Y WO} (h:WS j op re ar):OpI (l! ar) op:=λx d=>(h.o x d).1
def WS.oo {op:Y e?} {re:η} {ar:Y WO} (h:WS j op re ar):∀x∈op,(b6 ar x.2).en= -1:=λx d=>(h.o x d).2.2.2.1
def WS.en {op:Y e?} {re:η} {ar:Y WO} (h:WS j op re ar):EnI j ar re:=λp hp=>by
 obtain⟨⟨p0,p1⟩,p2⟩:=h.r p hp;obtain⟨z,d⟩:=h.a p.toNat (by omega);rw[<- Tw]at z d;refine ⟨⟨p0,p1⟩,z,?_⟩;rcases d with d|d
 .exact cN d p2
 .exact⟨by omega,d.2⟩
def WS.sam {op:Y e?} {re:η} {ar ar':Y WO} (h:WS j op re ar) (s:ZW ar ar'):WS j op re ar':=by
 obtain⟨h1,h2,F,D,A⟩:=h;have e:∀i:Int,(b6 ar' i).1=(b6 ar i).1:=s.hd;refine ⟨h1,λx d=>?_,λk z=>?_,λp hp=>?_,A⟩
 .have:=h2 x d;unfold WO.th WO.lk WO.en at this ⊢;rw[e,s.ln];exact this
 .have:=F k (by rw[<- s.ln];exact z);unfold WO.bg WO.en at this ⊢;rw[e];exact this
 .have:=D p hp;unfold WO.en at this ⊢;rw[e,s.ln];exact this
def Ew {w:WT} {op:Y e?} {ar:Y WO} (hi:OpI (l! ar) op) (i:Int):b6 (Cr w a e op ar) i=if scQ w e op=J/\i.toNat=(fc (e.1,nW w e) op).toNat then UO a (b6 ar (fc (e.1,nW w e) op)) else b6 ar i:=by
 unfold Cr;by_cases d:scQ w e op=J
 .rw[aG d];have:=hi _ (rE _ d);rw[QZ _ _ (by dsimp only at this;omega)];by_cases A:i.toNat=(fc (e.1,nW w e) op).toNat
  .rw[aG A,aG ⟨d,A⟩]
  .rw[aA A,aA (λz=>A z.2)]
 .rw[aA d,aA (λz=>d z.1)]
def S8 {w:WT} {op:Y e?} (A:zV op) {x:e?} (h:x∈I3 w e op):x∈op/\(scQ w e op=J->x.1≠(e.1,nW w e)):=by
 unfold I3 at h;split at h
 .exact⟨EO _ h,λ_=>Y' _ A h⟩
 .rename_i d;exact⟨h,λz=>cN z d⟩
def aa1 {w:WT} {op:Y e?} (d:zV op):zV (I3 w e op):=by
 unfold I3;split
 .exact d.del _
 .exact d
def aig {w:WT} {op:Y e?} {re:η} {ar:Y WO} (h:WS j op re ar) {x:e?} (L:x∈I3 w e op) (D:Int):b6 (Cr w D e op ar) x.2=b6 ar x.2:=by
 obtain⟨h1,h2⟩:=S8 h.ks L;rw[Ew h.op,aA];rintro⟨A,F⟩;have hm:=rE _ A;have z:=h.o _ h1;have d:=h.o _ hm;refine h2 A ?_;have e1:b6 ar x.2=b6 ar (fc (e.1,nW w e) op):=by unfold b6 dV;rw[F]
 dsimp only at d;rw[e1]at z;exact oP (z.2.1.symm.trans d.2.1) (z.2.2.1.symm.trans d.2.2.1)
def WS.next {w:WT} {op:Y e?} {re:η} {ar:Y WO} (h:WS j op re ar):WS (j+1) (scO w e op ar) (Ev w e op re) (scA w (j:Int) e op ar):=by
 have d:=adx w (j:Int) e op ar;have e0:nW w e=nW w e:=rfl;have m1:WS (j+1) (I3 w e op) (Ev w e op re) (Cr w (j:Int) e op ar):=by
  refine ⟨aa1 h.ks,λx z=>?_,λk A=>?_,λp hp=>?_,?_⟩
  .rw[aig h z,d];exact h.o x (S8 h.ks z).1
  .rw[d]at A;rw[Ew h.op];split
   .rename_i D;have hm:=h.o _ (rE _ D.1);dsimp only at hm;have F:=h.a (fc (e.1,nW w e) op).toNat (by omega);rw[<- Tw]at F;unfold UO;dsimp only[WO.bg,WO.en];have:=F.1;dsimp only[WO.bg]at this;omega
   .have F:=h.a k A;omega
  .unfold Ev at hp;have old:p∈re->(0<=p/\p<(l! (Cr w (j:Int) e op ar):Int))/\(b6 (Cr w (j:Int) e op ar) p).en≠ -1:=λhp=>by
    obtain⟨q1,q2⟩:=h.r p hp;rw[d];refine ⟨q1,?_⟩;rw[Ew h.op];split
    .unfold UO;dsimp only[WO.en];omega
    .exact q2
   split at hp
   .rename_i L;rcases bE.1 hp with hp|hp
    .exact old hp
    .rw[aE]at hp;subst hp;have hm:=h.o _ (rE _ L);rw[d];refine ⟨hm.1,?_⟩;rw[Ew h.op,aG ⟨L,rfl⟩];unfold UO;dsimp only[WO.en];omega
   .exact old hp
  .unfold Ev;have:=h.rl;split
   .rw[bG,bP];omega
   .omega
 unfold scO scA;by_cases g:0<=OZ w e
 .rw[aG g,aG g];generalize N:((e.1,OZ w e,(j:Int),-1,decide (e.2.1=8)),([],[]))=new;have hnew:new=((e.1,OZ w e,(j:Int),-1,decide (e.2.1=8)),[],[]):=N.symm;have hlen:(l! (Cr w (j:Int) e op ar++[new]:Y WO):Int)=(l! ar:Int)+1:=by rw[bG,bP,d];omega
  have hat:b6 (Cr w (j:Int) e op ar++[new]) (l! ar:Int)=new:=by rw[<- d];exact aiu _ _
  refine ⟨m1.ks.put _ _,λx z=>?_,λk A=>?_,λp hp=>?_,m1.rl⟩
  .rcases Tx m1.ks z with rfl|⟨z,_⟩
   .dsimp only;rw[hat,hlen,hnew];exact⟨⟨by omega,by omega⟩,rfl,rfl,rfl,g⟩
   .obtain⟨⟨q0,q1⟩,q2⟩:=m1.o x z;rw[d]at q1;rw[Q0 _ (by rw[d];omega),hlen];exact⟨⟨q0,by omega⟩,q2⟩
  .rw[bG,bP,d]at A;by_cases D:k=l! ar
   .subst D;rw[hat,hnew];exact⟨⟨by show (0:Int)<=(j:Int);omega,by show (j:Int)<_;omega⟩,.inl rfl⟩
   .rw[Q0 _ (by rw[d,bF];omega)];exact m1.a k (by rw[d];omega)
  .obtain⟨⟨q0,q1⟩,q2⟩:=m1.r p hp;rw[d]at q1;rw[Q0 _ (by rw[d];omega),hlen];exact⟨⟨q0,by omega⟩,q2⟩
 .rw[aA g,aA g];exact m1
structure JC (w:WT) (l:List ET) (j:Nat) (c:List η) (clk:η):Prop where
 ln:l! clk=l! w.2.2.2.2.1
 b:∀u:Nat,0<=clk.getD u 0/\clk.getD u 0<=(ct l u j:Int)
 cl:∀i:Nat,i<j->(c.getD i []).getD (po l i) 0<=clk.getD (po l i) 0->zZ (c.getD i []) clk
structure CI (w:WT) (l:List ET) (j:Nat) (c:List η) (tm:List Γ) (la:η):Prop where
 k:CkL (l! w.2.2.2.2.1) j c tm
 tv:∀i:Nat,i<j->tm.getD i (0,0)=((c.getD i []).getD (po l i) 0,(po l i:Int))
 nn:∀i:Nat,i<j->∀u:Nat,0<=(c.getD i []).getD u 0/\(c.getD i []).getD u 0<=(ct l u (i+1):Int)
 own:∀i:Nat,i<j->(c.getD i []).getD (po l i) 0=(ct l (po l i) (i+1):Int)
 cls:∀i k:Nat,i<j->k<j->(c.getD i []).getD (po l i) 0<=(c.getD k []).getD (po l i) 0->zZ (c.getD i []) (c.getD k [])
 lav:∀u:Nat,u<l! w.2.2.2.2.1->(0<=la.getD u 0->la.getD u 0<(j:Int)/\po l (la.getD u 0).toNat=u/\ct l u j=ct l u ((la.getD u 0).toNat+1))/\(la.getD u 0<0->ct l u j=0)
def CI.cvr {w:WT} {l:Y ET} {c:Y η} {tm:Y Γ} {la:η} (h:CI w l j c tm la) (h0:0<=a) (h1:a<(j:Int)) (clk:η):AI.cvr clk (jt tm a)=J↔(jc c a).getD (po l a.toNat) 0<=clk.getD (po l a.toNat) 0:=by
 unfold AI.cvr jt jc;rw[h.tv a.toNat (by omega),bB,bF]
def JC.join {w:WT} {l:Y ET} {c:Y η} {tm:Y Γ} {la:η} (h:CI w l j c tm la) (z:JC w l j c A) (h0:0<=a) (h1:a<(j:Int)):JC w l j c (jl A (jc c a)):=by
 have hi:a.toNat<j:=by omega
 refine ⟨by rw[GM,z.ln,h.k.jc h0 h1];exact Nat.max_self _,λu=>?_,λk hkj hle=>?_⟩
 .rw[Re];have i:=z.b u;have b:=h.nn a.toNat hi u;have d:=ZC l u (show a.toNat+1<=j from hi);have e:jc c a=c.getD a.toNat []:=rfl;rw[e];rcases Zj (A.getD u 0) ((c.getD a.toNat []).getD u 0) with h|h<;>rw[h]<;>omega
 .rw[Re]at hle;rcases Zj (A.getD (po l k) 0) ((jc c a).getD (po l k) 0) with e|e
  .rw[e]at hle;exact (z.cl k hkj hle).trans (Ls _ _)
  .rw[e]at hle;exact (h.cls k a.toNat hkj hi hle).trans (Ra _ _)
def JC.zero {w:WT} {l:Y ET} {c:Y η} {tm:Y Γ} {la:η} (h:CI w l j c tm la):JC w l j c (aF (l! w.2.2.2.2.1) 0):=by
 have z:∀u:Nat,(aF (l! w.2.2.2.2.1) (0:Int)).getD u 0=0:=λu=>by
  rw[aB,fJ];split<;>rfl
 refine ⟨cm ..,λu=>by rw[z];omega,λi hi hle=>?_⟩;rw[z,h.own i hi]at hle;have:=XR l i;omega
def ado (clk:η) (t:Nat):zZ clk (tk clk t):=λu=>by
 rw[KE];split
 .rename_i h;rw[h];omega
 .exact eE _
def CI.next {w:WT} {l:Y ET} {c:Y η} {tm:Y Γ} {la:η} (h:CI w l j c tm la) (hla:D' (l! w.2.2.2.2.1) j la) (t0:0<=(eN l j).1) (t1:(eN l j).1<l! w.2.2.2.2.1) (hk:JC w l j c A) (hp:0<=la.getD (po l j) 0->zZ (jc c (la.getD (po l j) 0)) A):
 CI w l (j+1) (c++[tk A (po l j)]) (tm++[((tk A (po l j)).getD (po l j) 0,(eN l j).1)]) (cJ la (eN l j).1 (j:Int))/\zZ A ((c++[tk A (po l j)]).getD j [])/\∀u,u≠po l j->((c++[tk A (po l j)]).getD j []).getD u 0=A.getD u 0:=by
 have hcl:=h.k.cl;have htl:=h.k.tl;have et:(eN l j).1=(po l j:Int):=by unfold po;omega
 have tlt:po l j<l! w.2.2.2.2.1:=by omega
 have F:∀i:Nat,i<j->(c++[tk A (po l j)]).getD i []=c.getD i []:=λi hi=>by
  rw[aB,aB,bz (by omega)]
 have L:(c++[tk A (po l j)]).getD j []=tk A (po l j):=by
  rw[aB,<-hcl,uM];rfl
 have tl:∀i:Nat,i<j->(tm++[((tk A (po l j)).getD (po l j) 0,(eN l j).1)]).getD i (0,0)=tm.getD i (0,0):=λi hi=>by
  simp only[aB,bz (show i<l! tm by omega)]
 have tj:(tm++[((tk A (po l j)).getD (po l j) 0,(eN l j).1)]).getD j (0,0)=((tk A (po l j)).getD (po l j) 0,(eN l j).1):=by
  rw[aB,<-htl,uM];rfl
 have hown:A.getD (po l j) 0=(ct l (po l j) j:Int):=by
  have hb:=hk.b (po l j);obtain⟨a1,a2⟩:=h.lav (po l j) tlt;by_cases h0:0<=la.getD (po l j) 0
  .obtain⟨q1,q2,q3⟩:=a1 h0;have:=hp h0 (po l j);have N:=h.own (la.getD (po l j) 0).toNat (by omega);rw[q2]at N;have e:jc c (la.getD (po l j) 0)=c.getD (la.getD (po l j) 0).toNat []:=rfl;rw[e,N,<-q3]at this;omega
  .have:=a2 (by omega);omega
 have htk:(tk A (po l j)).getD (po l j) 0=(ct l (po l j) (j+1):Int):=by
  rw[KE,aG rfl,hown,XR];omega
 refine ⟨⟨⟨by simp[hcl],by simp[htl],λi hi=>?_,λi hi=>?_⟩,λi hi=>?_,λi hi u=>?_,λi hi=>?_,λi k hi hkk hle=>?_,λu clk=>?_⟩,by rw[L];exact ado _ _,λu clk=>by rw[L,KE,aA clk]⟩
 .rcases bu i j with d|d
  .rw[F i d];exact h.k.ln i d
  .have:i=j:=by omega
   subst this;rw[L,Pe,hk.ln];omega
 .rcases bu i j with d|d
  .rw[tl i d];exact h.k.th i d
  .have:i=j:=by omega
   subst this;rw[tj];exact t0
 .rcases bu i j with d|d
  .rw[tl i d,F i d];exact h.tv i d
  .have:i=j:=by omega
   subst this;rw[tj,L,et]
 .rcases bu i j with d|d
  .rw[F i d];exact h.nn i d u
  .have:i=j:=by omega
   subst this;rw[L];by_cases clk:u=po l i
   .rw[clk,htk];omega
   .rw[KE,aA clk];have:=hk.b u;have:=ZC l u (show i<=i+1 by omega);omega
 .rcases bu i j with d|d
  .rw[F i d];exact h.own i d
  .have:i=j:=by omega
   subst this;rw[L];exact htk
 .rcases bu i j with d|d
  .rcases bu k j with z|z
   .rw[F i d,F k z] at*
    exact h.cls i k d z hle
   .have:k=j:=by omega
    subst this;rw[F i d,L] at*
    refine zZ.trans (hk.cl i d ?_) (ado _ _);by_cases clk:po l i=po l k
    .rw[clk,hown];have N:=h.own i d;rw[clk]at N;rw[N];have:=ZC l (po l k) (show i+1<=k from d);omega
    .rw[KE,aA clk]at hle;exact hle
  .have:i=j:=by omega
   subst this;rcases bu k i with z|z
   .rw[F k z,L,htk]at hle;have:=(h.nn k z (po l i)).2;have:=ZC l (po l i) (show k+1<=i from z);have:=XR l i;omega
   .have:k=i:=by omega
    subst this;exact zZ.rfl
 .rw[et,vq];have hll:=hla.1;rw[aB,db];by_cases D:po l j=u
  .rw[aG D,aG (by omega)];simp only[nY];refine ⟨λ_=>⟨by omega,by rw[bF];exact D,by rw[bF]⟩,λhz=>by omega⟩
  .rw[aA D,<-aB];have hc:ct l u (j+1)=ct l u j:=by simp only[ct,aA D,cZ]
   rw[hc];obtain⟨a1,a2⟩:=h.lav u clk;refine ⟨λhz=>?_,a2⟩;obtain⟨q1,q2,q3⟩:=a1 hz;exact⟨by omega,q2,q3⟩
structure WkG (w:WT) (l:List ET) (j:Nat) (c:List η) (tm:List Γ) (la sp wa wt st se:η) (op:List (Γ×Int)) (re:η) (ar:List WO) (si ei:List η):Prop where
 ci:CI w l j c tm la
 ws:WS j op re ar
 la:D' (l! w.2.2.2.2.1) j la
 sp:D' (l! w.2.2.2.2.1) j sp
 wa:D' (l! w.2.2.2.2.1) j wa
 wt:l! wt=l! w.2.2.2.2.1
 st:NL (l! w.1) j st si
 se:NL (l! w.2.2.2.1) j se ei
structure JK (w:WT) (c:List η) (tm:List Γ) (src:η) (op:List (Γ×Int)) (re:η) (ar:List WO) (e:ET) (I:η->Prop):Prop where
 i0:I (aF (l! w.2.2.2.2.1) 0)
 i1:∀clk i,i∈src->0<=i->I clk->I (jl clk (jc c i))
 i2:∀clk (lk:Int) p,(e.2.1=3\/e.2.1=4)->0<=lk->lk<=(l! w.2.1:Int)->ui (e.1,lk) op=J->p∈re->sW (b6 ar p) (b6 ar (fc (e.1,lk) op))=J->Su (b6 ar p) e=J->I clk->I (jl clk (jc c (b6 ar p).en))
 i3:∀clk p,ui (e.1,nW w e) op=J->p∈re->sW (b6 ar p) (b6 ar (fc (e.1,nW w e) op))=J->cvr clk (jt tm (b6 ar p).bg)=J->I clk->I (jl clk (jc c (b6 ar p).en))
structure CKj (w:WT) (l:List ET) (j:Nat) (c:List η) (tm:List Γ) (la sp wa:η) (op:List (Γ×Int)) (re:η) (ar:List WO) (si ei:List η) (clk:η):Prop where
 jc:JC w l j c clk
 jr:JR w c tm (vp w la sp wa si ei (eN l j)) op re ar (eN l j) clk
 js:∀I,JK w c tm (vp w la sp wa si ei (eN l j)) op re ar (eN l j) I->I clk
def Cm.note {w:WT} {l:Y ET} (z:Cm (w,l)) (D:j<l! l):(eN l j).2.1=18->(eN l j).2.2.2.1<l! w.2.2.2.2.1:=λh=>by
 have sc:=z.sc D;have en:=sc.en;have d:=sc.va.el (by omega) (by omega) (by omega) (by omega) (by omega);rw[h,Hs]at d;split at d
 .have d:(eN l j).2.2.2.1= -1:=d;omega
 .rename_i A;have:=(Ks (u:=(eN l j).2.2.2.1) A).2;have e3:=en.e3;have d:(eN l j).2.2.2.1=F0 _ _:=d;rw[<- d]at this;omega
def Z9 (w:WT) (la sp wa:η) (si ei:Y η) (e:ET):geti aP la e.1∈vp w la sp wa si ei e:=by
 unfold vp;exact fW _ (aE.2 rfl)
def ai7 {w:WT} (hev:Sy w e) {la sp wa st se:η} {si ei:Y η} (h1:D' (l! w.2.2.2.2.1) j la) (h2:D' (l! w.2.2.2.2.1) j sp) (D:D' (l! w.2.2.2.2.1) j wa) (A:NL (l! w.1) j st si) (z:NL (l! w.2.2.2.1) j se ei):∀v∈vp w la sp wa si ei e,v<(j:Int):=by
 have t0:=hev.t0;have t1:=hev.t1;have q:∀{n:Nat} {xs:η} {xss:Y η} {o:Int},NL n j xs xss->0<=o->o<n->∀v∈xF (T:=aP) xss o,v<(j:Int):=λ{n xs xss o} h L F v d=>by
  have e:o=((o.toNat:Nat):Int):=by omega
  rw[e,yO]at d;exact ((h.2.2 o.toNat (by omega)).2.2 v d).2
 intro v d;unfold vp at d;rcases bE.1 d with d|d
 .rw[aE]at d;rw[d];exact (h1.geti t0 t1).2
 .split at d
  .rw[aE]at d;rw[d];exact (h2.geti t0 t1).2
  .split at d
   .rename_i g;rw[aE]at d;rw[d];exact (h1.geti (hev.nm.th (.inr g)).1 (hev.nm.th (.inr g)).2).2
   .split at d
    .rename_i g;exact q z (hev.nm.fu (.inr g)).1 (hev.nm.fu (.inr g)).2 v d
    .split at d
     .rename_i g;split at d
      .exact q A (hev.nm.ce (.inl g)).1 (hev.nm.ce (.inl g)).2 v d
      .cases d
     .split at d
      .rw[aE]at d;rw[d];exact (D.geti t0 t1).2
      .cases d
def WkG.step {w:WT} {l:Y ET} (A:Cm (w,l)) (D:j<l! l) {c:Y η} {tm:Y Γ} {la sp wa wt st se:η} {op:Y e?} {re:η} {ar:Y WO} {si ei:Y η} (g:WkG w l j c tm la sp wa wt st se op re ar si ei):
 Ok (gm (((j:Int),eN l j),(w,l),c,tm,la,sp,wa,wt,st,se,op,re,ar,si,ei)) λy=>∃clk,CKj w l j c tm la sp wa op re ar si ei clk/\y=((w,l),cJ la (eN l j).1 (j:Int),I0 (j:Int) (eN l j) sp,IZ (j:Int) (eN l j) wt wa,NO (eN l j) wt,OY 4 (j:Int) (eN l j) st si,OY 22 (j:Int) (eN l j) se ei,scO w (eN l j) op (s6 w (eN l j) op ar),c++[tk clk (po l j)],tm++[((tk clk (po l j)).getD (po l j) 0,(eN l j).1)],Ev w (eN l j) op re,scA w (j:Int) (eN l j) op (s6 w (eN l j) op ar),Qr 4 (j:Int) (eN l j) si,Qr 22 (j:Int) (eN l j) ei):=by
 have L:l! l<=400:=A.len;have wb:=A.wb;have hev:Sy w (eN l j):=A.ev _ (XO D);have hen:=g.ws.en;have hlt:=ai7 hev g.la g.sp g.wa g.st g.se;have htm:∀p∈re,cvr (jc c (b6 ar p).en) (jt tm (b6 ar p).en)=J:=λp hp=>by
  obtain⟨_,_,q0,q1⟩:=hen p hp;exact (g.ci.cvr q0 q1 _).2 (eE _)
 have hrl:=g.ws.rl;refine Ok.mono (ai5 (I:=λclk=>JC w l j c clk/\∀I,JK w c tm (vp w la sp wa si ei (eN l j)) op re ar (eN l j) I->I clk) hev (by omega) wb.t wb.l (A.note D) g.la g.sp g.wa g.wt g.st g.se g.ci.k g.ws.op g.ws.oo hen (by omega) htm ?_) ?_
 .refine ⟨⟨JC.zero g.ci,λI h=>h.i0⟩,λclk i hi h0 z=>⟨z.1.join g.ci h0 (hlt i hi),λI h=>h.i1 clk i hi h0 (z.2 I h)⟩,λclk lk p a b d f hp m1 m2 z=>?_,λclk p a hp m1 m2 z=>?_,λclk z=>?_⟩
  .obtain⟨_,_,q0,q1⟩:=hen p hp;exact⟨z.1.join g.ci q0 q1,λI h=>h.i2 clk lk p a b d f hp m1 m2 (z.2 I h)⟩
  .obtain⟨_,_,q0,q1⟩:=hen p hp;exact⟨z.1.join g.ci q0 q1,λI h=>h.i3 clk p a hp m1 m2 (z.2 I h)⟩
  .have:=z.1.b (eN l j).1.toNat;have:=aqu l (eN l j).1.toNat j;exact⟨z.1.ln,by omega,by omega⟩
 .rintro y ⟨clk,⟨⟨k1,k2⟩,k3⟩,F⟩;exact⟨clk,⟨k1,k3,k2⟩,F⟩
def WkG.next {w:WT} {l:Y ET} (d:Cm (w,l)) (clk:j<l! l) {c:Y η} {tm:Y Γ} {la sp wa wt st se:η} {op:Y e?} {re:η} {ar:Y WO} {si ei:Y η} (g:WkG w l j c tm la sp wa wt st se op re ar si ei) (z:CKj w l j c tm la sp wa op re ar si ei A):
 WkG w l (j+1) (c++[tk A (po l j)]) (tm++[((tk A (po l j)).getD (po l j) 0,(eN l j).1)]) (cJ la (eN l j).1 (j:Int)) (I0 (j:Int) (eN l j) sp) (IZ (j:Int) (eN l j) wt wa) (NO (eN l j) wt) (OY 4 (j:Int) (eN l j) st si) (OY 22 (j:Int) (eN l j) se ei) (scO w (eN l j) op (s6 w (eN l j) op ar)) (Ev w (eN l j) op re) (scA w (j:Int) (eN l j) op (s6 w (eN l j) op ar)) (Qr 4 (j:Int) (eN l j) si) (Qr 22 (j:Int) (eN l j) ei):=by
 have hev:Sy w (eN l j):=d.ev _ (XO clk);have t0:=hev.t0;have t1:=hev.t1;have D:(eN l j).1=(po l j:Int):=by unfold po;omega
 have sam:=VU (w:=w) (e:=eN l j) g.ws.op g.ws.oo;have hlast:geti aP la (eN l j).1=la.getD (po l j) 0:=by rw[D,AG]
 refine ⟨(g.ci.next g.la t0 t1 z.jc λh0=>?_).1,(g.ws.sam sam).next,?_,g.sp.sp _ λh=>(hev.nm.th (.inl h)).1,g.wa.wa _ (d.note clk),by rw[KB];exact g.wt,g.st.ad 4 _ λh=>(hev.nm.ce (.inr h)).1,g.se.ad 22 _ λh=>(hev.nm.fu (.inl h)).1⟩
 .rw[<- hlast];exact z.jr.a _ (Z9 ..) (by rw[hlast];exact h0)
 .rw[D];exact g.la.set _ (by omega) (eE _)
def aiy {n:Nat} (z:n<=1000):lO (n:Int)=Z (aF n (-1)):=by
 refine cf ?_;unfold lO ze ck bR bI c7 aH cS;refine c6 (c6 (a? (a? (a_ (by rw[bF];omega) (by omega) ?_))));rw[bF];refine dO n (by omega) (λi x=>x=((i:Int),aF i (-1)++aF (n-i) 0)) ?_ ?_ (by simp)
 .rintro i x hi rfl;refine gQ ?_ (by simp only[cm,ak];omega);have d:fm (i:Int) (ah (aF i (-1:Int)++aF (n-i) 0))=J:=E3.2 ⟨by omega,by simp;omega⟩;refine a9 d (a9 d (aj ?_));show (be .i64 ((i:Int)+1),cJ (aF i (-1:Int)++aF (n-i) 0) (i:Int) (-1))=_;rw[fA,vq];refine oP rfl ?_;show wn _ i (-1)=_;have h1:n-i=(n-(i+1))+1:=by omega
  rw[List.set_append_right _ _ (by simp),cm,s_,h1,iU,NH,wq (n:=i),gX];rfl
 .rintro x rfl;refine gC (aj ?_) (by simp only[cm,ak];omega);simp
def WkG.zero (w:WT) (l:Y ET):WkG w l 0 [] [] (aF (l! w.2.2.2.2.1) (-1)) (aF (l! w.2.2.2.2.1) (-1)) (aF (l! w.2.2.2.2.1) (-1)) (aF (l! w.2.2.2.2.1) (-1)) (aF (l! w.1) 0) (aF (l! w.2.2.2.1) 0) [] [] [] (aF (l! w.1) []) (aF (l! w.2.2.2.1) []):=by
 have m1:∀(n u:Nat),u<n->(aF n (-1:Int)).getD u 0= -1:=λn u h=>by
  rw[aB,fJ,aG h];rfl
 have rw_:∀n:Nat,D' n 0 (aF n (-1)):=λn=>⟨cm ..,λu d=>by rw[m1 n u d];omega⟩
 have ls:∀n:Nat,NL n 0 (aF n 0) (aF n []):=λn=>⟨cm ..,cm ..,λo z=>by
  rw[aB,aB,fJ,fJ,aG z,aG z];exact⟨rfl,cA _,λv D=>by cases D⟩⟩
 refine ⟨⟨⟨rfl,rfl,λi hi=>cN hi (ll _),λi hi=>cN hi (ll _)⟩,λi hi=>cN hi (ll _),λi hi=>cN hi (ll _),λi hi=>cN hi (ll _),λi k hi=>cN hi (ll _),λu d=>⟨λh=>by rw[m1 _ u d]at h;omega,λ_=>rfl⟩⟩,⟨List.nodup_nil,λx A=>(by cases A),λk F=>cN F (ll _),λp hp=>(by cases hp),cA _⟩,rw_ _,rw_ _,rw_ _,cm ..,ls _,ls _⟩
def WkH:Type:=Nat->Y η->Y Γ->η->η->η->η->η->η->Y e?->η->Y WO->Y η->Y η->Prop
structure HK (w:WT) (l:List ET) (H:WkH):Prop where
 z:H 0 [] [] (aF (l! w.2.2.2.2.1) (-1)) (aF (l! w.2.2.2.2.1) (-1)) (aF (l! w.2.2.2.2.1) (-1)) (aF (l! w.2.2.2.2.1) (-1)) (aF (l! w.1) 0) (aF (l! w.2.2.2.1) 0) [] [] [] (aF (l! w.1) []) (aF (l! w.2.2.2.1) [])
 s:∀j c tm la sp wa wt st se op re ar si ei clk,j<l! l->WkG w l j c tm la sp wa wt st se op re ar si ei->H j c tm la sp wa wt st se op re ar si ei->CKj w l j c tm la sp wa op re ar si ei clk->
  H (j+1) (c++[tk clk (po l j)]) (tm++[((tk clk (po l j)).getD (po l j) 0,(eN l j).1)]) (cJ la (eN l j).1 (j:Int)) (I0 (j:Int) (eN l j) sp) (IZ (j:Int) (eN l j) wt wa) (NO (eN l j) wt) (OY 4 (j:Int) (eN l j) st si) (OY 22 (j:Int) (eN l j) se ei) (scO w (eN l j) op (s6 w (eN l j) op ar)) (Ev w (eN l j) op re) (scA w (j:Int) (eN l j) op (s6 w (eN l j) op ar)) (Qr 4 (j:Int) (eN l j) si) (Qr 22 (j:Int) (eN l j) ei)
def PQ {w:WT} {l:Y ET} (d:Cm (w,l)) {H:WkH} (F:HK w l H):Ok (lD (w,l)) λy=>∃c tm la sp wa wt st se op re ar si ei,y=((w,l),c,tm,la,sp,wa,wt,st,se,op,re,ar,si,ei)/\WkG w l (l! l) c tm la sp wa wt st se op re ar si ei/\H (l! l) c tm la sp wa wt st se op re ar si ei:=by
 have hl:l! l<=400:=d.len;have wb:=d.wb;have L:=wb.t;have hC:=wb.c;have N:=wb.f;dsimp only at L hC N;unfold lD uV jH ki kh yH aY bi bt b7 dc fx kl lA NF Prod.s bR bI bY bc c7 aH cS;dsimp only;have A:=aiy (n:=l! w.2.2.2.2.1) (by omega);refine aQ A (aQ A (aQ A (aQ A ?_)));refine c6 (c6 (dm (by dsimp only[ak];omega) (a? (a_ (by simp only[ak,bF];omega) (by omega) ?_))));refine c6 (c6 (dm (by dsimp only[ak];omega) (a? (a_ (by simp only[ak,bF];omega) (by omega) ?_))));refine dO (l! l) (by omega) (λi x=>∃c tm la sp wa wt st se op re ar si ei,x=((i:Int),(w,l),c,tm,la,sp,wa,wt,st,se,op,re,si,ei,ar)/\WkG w l i c tm la sp wa wt st se op re ar si ei/\H i c tm la sp wa wt st se op re ar si ei) ?_ ?_ ⟨_,_,_,_,_,_,_,_,_,_,_,_,_,by simp only[ak,bF];rfl,WkG.zero w l,F.z⟩
 .rintro i x hi ⟨c,tm,la,sp,wa,wt,st,se,op,re,ar,si,ei,rfl,g,h⟩;refine gQ ?_;refine eQ (aT ?_);refine aw (g.step d hi) ?_;rintro y ⟨clk,D,rfl⟩;dsimp only;refine a9 (by simp only[cR,SD,SA,KB,ZT,eP,fw]) (aj ⟨_,_,_,_,_,_,_,_,_,_,_,_,_,?_,g.next d hi D,F.s i c tm la sp wa wt st se op re ar si ei clk hi g h D⟩);show (be .i64 ((i:Int)+1),_)=_;rw[fA]
 .rintro x ⟨c,tm,la,sp,wa,wt,st,se,op,re,ar,si,ei,rfl,g,h⟩;exact gC (aj ⟨c,tm,la,sp,wa,wt,st,se,op,re,ar,si,ei,rfl,g,h⟩)
def ZM:rR ()=Z J:=by kernel_rfl
abbrev IT:Type:=ω
abbrev CT:Type:=WT×Y (Int×Y IT)
def E4 (a b:Int):kn (a,b)=Z (decide (0<=a/\a<b)):=by
 refine cf ?_;unfold kn jR aH;with_reducible repeat' first|apply OS.ok;constructor|refine IM.mk λ_=>?_
 .by_cases h:a<b<;>simp[*,fM]
 .simp;omega
def Qs (k:Int):qZ k=Z (decide (1<=k/\k<=5)):=by
 refine cf ?_;unfold qZ jR aH;with_reducible repeat' first|apply OS.ok;constructor|refine IM.mk λ_=>?_
 .by_cases h:k<=5<;>simp[*,dj]
 .simp;omega
def uO (i:IT):η:=
 if i.1=1\/i.1=6\/i.1=10\/i.1=27 then [i.2.1]
 else if i.1=2\/i.1=3 then [i.2.1,i.2.2.1]
 else if i.1=4 then [i.2.1,i.2.2.1,i.2.2.2.1]
 else if i.1=7 then [i.2.1,i.2.2.2.1]
 else if i.1=8\/i.1=26 then [i.2.2.1]
 else if i.1=9 then [i.2.2.1,i.2.2.2.1]
 else []
def zU (i:IT):kL i=Z (uO i):=by
 obtain⟨d,i2⟩:=i;unfold kL uO aY bi bt bn aH;by_cases h1:d=1
 .subst h1;rfl
 by_cases h2:d=6
 .subst h2;rfl
 by_cases h3:d=10
 .subst h3;rfl
 by_cases h4:d=27
 .subst h4;rfl
 by_cases h5:d=2
 .subst h5;rfl
 by_cases N:d=3
 .subst N;rfl
 by_cases L:d=4
 .subst L;rfl
 by_cases F:d=7
 .subst F;rfl
 by_cases D:d=8
 .subst D;rfl
 by_cases A:d=26
 .subst A;rfl
 by_cases z:d=9
 .subst z;rfl
 simp only[h1,h2,h3,h4,h5,N,L,F,D,A,z,Z3,bcF,jnr,gy,c8]
def KP (z:IT):l! (uO z)<=3:=by
 unfold uO
 (repeat' split)<;>simp
def aez (l:Y IT) (a:Int) (A:l! l<=1000000):Ok (vD (l,a)) λ_=>True:=by
 unfold vD bn bR jR bY bc c7 aH cS;refine nL (λx=>((l! l:Int)+1-x.2).toNat) (λx=>0<=x.2/\x.2<=(l! l:Int)+1) ?_ ⟨by dsimp only;omega,by dsimp only;omega⟩;rintro⟨(a:Int),(n:Int)⟩ ⟨h0,h1⟩;dsimp only at h0 h1;refine dW (λg=>?_) λ_=>aj trivial
 dsimp only[ak]at g;refine aV (λ_=>True) ?_ λb _=>aj ?_
 .refine aV (λb=>b=aa->0<=a/\a<(l! l:Int)) ?_ ?_
  .refine aW (λ_=>aj nofun) λd=>aj λh=>?_
   rw[ms]at h;dsimp only[ak]at h d;exact⟨d,h⟩
  .intro b z;refine aM (λ_=>aj trivial) λh=>?_
   obtain⟨q0,q1⟩:=z h;refine aJ q0 (by dsimp only;omega) (aT ?_);refine aQ (Qs _) ?_;refine di (λ_=>aj trivial) λ_=>?_
   refine aJ q0 (by dsimp only;omega) (aT ?_);refine aK (λ_=>?_) λ_=>aj trivial
   exact aJ q0 (by dsimp only;omega) (aT (aj trivial))
 .dsimp only;rw[ic];exact⟨⟨by omega,by omega⟩,by omega⟩
def VM (w:WT) (b n:Int):Ok (sQ (w,b,n)) λ_=>True:=by
 unfold sQ bn iK bY bc aH;refine aV (λ_=>True) ?_ λ_ _=>aj trivial
 refine aQ (E4 _ _) ?_;refine aK (λh=>?_) λ_=>aj trivial
 dsimp only[ak]at h;with_reducible repeat' first|apply OS.ok;constructor|refine IM.mk λ_=>?_
 all_goals try simp only[ak,pE] at*
 all_goals first|omega|trivial
def W2 (w:WT) (i:IT):Ok (rN (w,i)) λ_=>True:=by
 unfold rN aY bi bt b7 dc bn jR bY bc aH;simp only[E4,Wn];refine aK (λ_=>?_) λ_=>?_
 .refine aV (λ_=>True) ?_ λ_ _=>aj trivial
  refine aK (λh=>?_) λ_=>aj trivial
  exact aJ h.1 h.2 (aT (aj trivial))
 refine aK (λ_=>?_) λ_=>?_
 .refine aV (λ_=>True) ?_ λ_ _=>aj trivial
  refine aK (λh=>?_) λ_=>aj trivial
  exact aJ h.1 h.2 (aT (aj trivial))
 refine aK (λ_=>?_) λ_=>?_
 .exact aw (VM _ _ _) λ_ _=>aj trivial
 refine aK (λ_=>?_) λ_=>?_
 .exact aw (VM _ _ _) λ_ _=>aj trivial
 refine aV (λx=>x.2=(w,i)) (aK (λ_=>aj rfl) λ_=>aj rfl) ?_;rintro⟨b,x⟩ e;dsimp only at e;subst e;refine aM (λ_=>?_) λ_=>?_
 .refine aV (λ_=>True) ?_ λ_ _=>aj trivial
  refine aK (λh=>?_) λ_=>aj trivial
  exact aJ h.1 h.2 (aT (aj trivial))
 refine aV (λx=>x.2=(w,i)) (aK (λ_=>aj rfl) λ_=>aK (λ_=>aj rfl) λ_=>aK (λ_=>aj rfl) λ_=>aj rfl) ?_;rintro⟨b,x⟩ e;dsimp only at e;subst e;refine aM (λ_=>?_) λ_=>?_
 .refine aV (λ_=>True) ?_ λ_ _=>aj trivial
  refine aK (λh=>?_) λ_=>aj trivial
  exact aJ h.1 h.2 (aT (aj trivial))
 refine aV (λx=>x.2=(w,i)) (aK (λ_=>aj rfl) λ_=>aK (λ_=>aj rfl) λ_=>aj rfl) ?_;rintro⟨b,x⟩ e;dsimp only at e;subst e;refine aM (λ_=>aj trivial) λ_=>?_
 refine aV (λx=>x.2=(w,i)) (aK (λ_=>aj rfl) λ_=>aj rfl) ?_;rintro⟨b,x⟩ e;dsimp only at e;subst e;with_reducible repeat' first|apply OS.ok;constructor|refine IM.mk λ_=>?_
 all_goals trivial
structure VI (n:Int) (i:IT):Prop where
 o1:1<=i.1
 o2:i.1<=28
 r:∀j∈uO i,0<=j/\j<n
structure VT (t:Int×List IT):Prop where
 r0:0<=t.1
 r1:t.1<=32
 i:∀i∈t.2,VI t.1 i
def KC (w:WT) (k:Int) (c:Int×Y IT) (hc:l! c.2<=1000000):Ok (mo (w,k,c)) λb=>b=J->VT c:=by
 unfold mo aY bi bt b7 bN cY s9 bn bR iK bY bc c7 aH cS;refine aV (λx=>x.2=(w,c)/\(x.1=aa->0<=c.1/\c.1<=32)) ?_ ?_
 .refine aW (λ_=>aj ⟨rfl,nofun⟩) λh0=>aW (λ_=>aj ⟨rfl,nofun⟩) λh1=>aj ⟨rfl,λ_=>⟨h0,h1⟩⟩
 rintro⟨b,x⟩ ⟨e,d⟩;dsimp only at e d;subst e;refine aM (λ_=>aj nofun) λh=>?_
 obtain⟨r0,r1⟩:=d h;refine cC (l! c.2) (λi x=>x.1=(i:Int)/\x.2=(w,c)/\∀k:Nat,k<i->VI c.1 (geti (.st (.pr (.int .i64) (.pr (.int .i64) (.pr (.int .i64) (.pr (.int .i64) (.pr (.int .i64) (.int .i64))))))) c.2 (k:Int))) ?_ ?_ ⟨rfl,rfl,λk F=>by omega⟩
 .rintro i ⟨a,x⟩ hi ⟨e1,e2,A⟩;dsimp only at e1 e2 A;subst e1 e2;refine aW (λ_=>?_) λg=>(by dsimp only[ak]at g;omega)
  refine eQ (aT ?_);generalize hz:(geti _ _ _)=z;refine aV (λx=>x.2=(w,c,z)/\(x.1=aa->1<=z.1/\z.1<=28)) ?_ ?_
  .refine aW (λ_=>aj ⟨rfl,nofun⟩) λh0=>aW (λ_=>aj ⟨rfl,nofun⟩) λh1=>?_
   refine aM (λ_=>aj ⟨rfl,nofun⟩) λ_=>?_
   refine aw (W2 w z) λy _=>?_
   refine di (λ_=>aj ⟨rfl,nofun⟩) λ_=>?_
   exact aw (aez c.2 _ hc) λy _=>aj ⟨rfl,λ_=>⟨h0,h1⟩⟩
  rintro⟨b,x⟩ ⟨e,d⟩;dsimp only at e d;subst e;refine aM (λ_=>aj nofun) λh=>?_
  obtain⟨o1,N⟩:=d h;refine aV (λx=>x.2=(w,c,z)) ?_ ?_
  .simp only[E4,Wn];have key:∀(f:ν->Bool),Ok (aL (!decide (0<=z.2.2.2.2.2/\z.2.2.2.2.2<aR (l! w.2.2.2.2.2))) (Z (cw (J,w,c,z)):M (Bool⊕(Bool×WT×(Int×Y IT)×IT))) (chk (fm z.2.2.2.2.2 (l! w.2.2.2.2.2)) λ_=>lt (geti (.st (.pr (.int .i64) (.pr (.int .i64) (.int .i64)))) w.2.2.2.2.2 z.2.2.2.2.2).1 λL=>Z (cw (!decide ((L:Int)=k),w,c,z)))) (λr=>match r with|.inl r=>(match (r:Bool) with|_=>True)|.inr x=>x.2=(w,c,z)):=λf=>by
    refine cj (λ_=>aj rfl) λh=>?_
    exact aJ h.1 h.2 (aT (aj rfl))
   with_reducible repeat' first|apply OS.ok;constructor|refine IM.mk λ_=>?_
   all_goals first|rfl|(simp only[ak]at *;omega)|skip
  rintro⟨b,x⟩ e;dsimp only at e;subst e;refine aM (λ_=>aj nofun) λ_=>?_
  refine aV (λx=>x.2=(w,c,z)) ?_ ?_
  .simp only[E4,Wn];with_reducible repeat' first|apply OS.ok;constructor|refine IM.mk λ_=>?_
   all_goals rfl
  rintro⟨b,x⟩ e;dsimp only at e;subst e;refine aM (λ_=>aj nofun) λ_=>?_
  refine aQ (zU z) ?_;refine cC (l! (uO z)) (λj x=>x.1=(j:Int)/\x.2=(w,c)/\∀k:Nat,k<j->0<=geti aP (uO z) (k:Int)/\geti aP (uO z) (k:Int)<c.1) ?_ ?_ ⟨rfl,rfl,λk F=>by omega⟩
  .rintro j ⟨a,x⟩ hj ⟨d1,d2,D⟩;dsimp only at d1 d2 D;subst d1 d2;refine aW (λ_=>?_) λg=>(by dsimp only[ak]at g;omega)
   refine eQ (aT ?_);refine aQ (E4 _ _) ?_;refine cj (λ_=>aj nofun) λh=>aj ?_
   dsimp only at h ⊢;have hj32:l! (uO z)<=3:=KP z;refine ⟨fA,rfl,λk F=>?_⟩;rcases bu k j with h1|h1
   .exact D k h1
   .rw[show k=j by omega];exact h
  .rintro⟨a,x⟩ ⟨d1,d2,D⟩;dsimp only at d1 d2 D;subst d1 d2;refine aW (λg=>(by dsimp only[ak]at g;omega)) λ_=>aj ?_
   dsimp only;refine ⟨fA,rfl,λk F=>?_⟩;rcases bu k i with h1|h1
   .exact A k h1
   .rw[show k=i by omega,hz];exact⟨o1,N,iS (T:=aP) D⟩
 .rintro⟨a,x⟩ ⟨e1,e2,A⟩;dsimp only at e1 e2 A;subst e1 e2;refine aW (λg=>(by dsimp only[ak]at g;omega)) λ_=>aj λ_=>⟨r0,r1,iS (T:=.st (.pr (.int .i64) (.pr (.int .i64) (.pr (.int .i64) (.pr (.int .i64) (.pr (.int .i64) (.int .i64))))))) (p:=VI c.1) A⟩
structure VC (c:CT):Prop where
 vl:VL c.1
 tl:l! c.2=l! c.1.2.2.2.2.1
 t:∀t∈c.2,VT t
structure CB (c:CT):Prop where
 th:l! c.2<=1000000
 ins:∀t∈c.2,l! t.2<=1000000
def Np (c:CT) (d:CB c):Ok (qQ c) λb=>b=J->VC c:=by
 obtain⟨w,l⟩:=c;obtain⟨h1,h2⟩:=d;dsimp only at h1 h2;unfold qQ bt bR bY bc c7 aH cS;refine aV (λx=>x.2=(w,l)/\(x.1=aa->VL w/\l! l=l! w.2.2.2.2.1)) ?_ ?_
 .refine aw (Dl w) λb d=>?_
  refine di (λ_=>aj ⟨rfl,nofun⟩) λh=>aj ⟨rfl,λh3=>⟨(d h).1,?_⟩⟩
  simp at h3;omega
 rintro⟨b,x⟩ ⟨e,D⟩;dsimp only at e D;subst e;refine aM (λ_=>aj nofun) λh=>?_
 obtain⟨L,N⟩:=D h;refine cC (l! l) (λi x=>x.1=(i:Int)/\x.2=(w,l)/\∀k:Nat,k<i->VT (geti yE l (k:Int))) ?_ ?_ ⟨rfl,rfl,λk hk=>by omega⟩
 .rintro i ⟨a,x⟩ hi ⟨e1,e2,A⟩;dsimp only at e1 e2 A;subst e1 e2;refine aW (λ_=>?_) λg=>(by dsimp only[ak]at g;omega)
  refine eQ (aT ?_);have hm:=bZ (T:=yE) (xs:=l) (j:=(i:Int)) (by omega) (by omega);revert hm;generalize F:(geti yE l (i:Int))=z;intro hm;refine aw (KC w _ z (h2 z hm)) λb d=>?_
  refine di (λ_=>aj nofun) λh=>aj ?_
  dsimp only;refine ⟨fA,rfl,λk hk=>?_⟩;rcases bu k i with h1|h1
  .exact A k h1
  .rw[show k=i by omega,F];exact d h
 .rintro⟨a,x⟩ ⟨e1,e2,A⟩;dsimp only at e1 e2 A;subst e1 e2;refine aW (λg=>(by dsimp only[ak]at g;omega)) λ_=>aj λ_=>⟨L,N,iS (T:=yE) (p:=VT) A⟩
abbrev TT:Type:=Int×η×Y η×Int
structure TL (E:Nat) (l:η):Prop where
 a:AL l
 m:∀y∈l,0<=y/\y<(E:Int)
def TL.len {l:η} (h:TL i l):l! l<=i:=by
 have:=Ku l 0 i h.a h.m;omega
def TL.nil (E:Nat):TL E []:=⟨trivial,λy d=>(by cases d)⟩
def TL.uni {b:η} (a:TL i A) (z:TL i b):TL i (sA A b):=
 ⟨SL A b,λy d=>by
   rcases SK.1 d with h|h
   .exact a.m y h
   .exact z.m y h⟩
def TL.mono {l:η} (h:TL i l) (hf:i<=j):TL j l:=⟨h.a,λy d=>⟨(h.m y d).1,by have:=(h.m y d).2;omega⟩⟩
structure TH (E:Nat) (s:TT):Prop where
 r:l! s.2.1<=32
 t:l! s.2.2.1<=32
 l:∀l∈s.2.2.1,TL E l
 e0:0<=s.2.2.2
 e1:s.2.2.2<=(E:Int)
def TH.zero (E:Nat):TH E (0,[],[],0):=⟨by simp,by simp,λl d=>(by cases d),by simp,by simp⟩
def TH.mono {s:TT} (h:TH i s) (hf:i<=j):TH j s:=⟨h.r,h.t,λl d=>(h.l l d).mono hf,h.e0,by have:=h.e1;omega⟩
def du (s:TT) (E:Nat) (N:E<=100000) (h:TH E s):cE s=Z ((s.1,s.2.2.2),s.2.1,s.2.2.1):=by
 obtain⟨h1,h2,L,h4,h5⟩:=h;refine cf ?_;unfold cE aY bi bt bN cY bR bI bY bc c7 aH cS;refine a! ?_;refine cC (l! s.2.2.1) (λi x=>x.1=(i:Int)/\x.2.1=s/\x.2.2.2.1=(s.1,s.2.2.2)/\x.2.2.2.2.1=s.2.1/\x.2.2.2.2.2=s.2.2.1.take i) ?_ ?_ ⟨rfl,rfl,rfl,rfl,rfl⟩
 .rintro i ⟨a,b,c,d,e,f⟩ hi ⟨e1,e2,D,A,z⟩;dsimp only at e1 e2 D A z;subst e1 e2 z;refine aW (λ_=>?_) λg=>(by dsimp only[ak]at g;omega)
  refine eQ (aT ?_);have F:=(L _ (bZ (T:=.sl (.int .i64)) (xs:=b.2.2.1) (j:=(i:Int)) (by omega) (by omega))).len;refine a_ (by simp only[lm,bO];exact c9 F (by omega)) (by omega) ?_;refine a! (aj ?_);dsimp only;refine ⟨fA,rfl,D,A,?_⟩;rw[sE (T:=.sl (.int .i64)) hi];rfl
 .rintro⟨a,b,c,d,e,f⟩ ⟨e1,e2,D,A,z⟩;dsimp only at e1 e2 D A z;subst e1 e2 z;refine aW (λg=>(by dsimp only[ak]at g;omega)) λ_=>aj ?_
  show (d,e,_)=_;rw[D,A,bW]
def xG (b:Bool):Ok (f_ b) λ_=>True:=by
 unfold f_;with_reducible repeat' first|apply OS.ok;constructor|refine IM.mk λ_=>?_
 all_goals trivial
def HU (n:Int):Ok (nD n) λ_=>True:=by
 unfold nD bR aH;with_reducible repeat' first|apply OS.ok;constructor|refine IM.mk λ_=>?_
 all_goals trivial
def agv (x:Γ):Ok (vG x) λ_=>True:=by
 unfold vG bn;refine aK (λ_=>aj trivial) λ_=>aK (λ_=>?_) λ_=>aj trivial
 exact aw (xG _) λ_ _=>aj trivial
def acu (x:ν):Ok (tN x) λ_=>True:=by
 unfold tN bn iK bI aH;have d:∀b,Ok (ay (f_ b) λy=>Z (y,J)) λ_=>True:=λb=>aw (xG _) λ_ _=>aj trivial
 refine aK (λ_=>aj trivial) λ_=>aK (λ_=>aj trivial) λ_=>aK (λ_=>aj trivial) λ_=>?_
 refine aK (λ_=>aK (λ_=>aj trivial) λh=>xO h (aj trivial)) λ_=>?_
 refine aK (λ_=>aK (λ_=>aj trivial) λh=>xO h (aj trivial)) λ_=>?_
 refine aK (λ_=>d _) λ_=>aK (λ_=>d _) λ_=>aK (λ_=>d _) λ_=>aK (λ_=>d _) λ_=>aK (λ_=>d _) λ_=>aK (λ_=>d _) λ_=>?_
 refine aK (λ_=>aV (λ_=>True) (cj (λ_=>aw (xG _) λ_ _=>aj trivial) λ_=>aw (xG _) λ_ _=>aj trivial) λ_ _=>aj trivial) λ_=>?_
 exact aK (λ_=>aV (λ_=>True) (cj (λ_=>aw (xG _) λ_ _=>aj trivial) λ_=>aw (xG _) λ_ _=>aj trivial) λ_ _=>aj trivial) λ_=>aj trivial
def Z8 (E:Nat) (hE:E<=100000) (i:IT) (p:Γ) (R:η) (T:Y η) (D:∀j∈uO i,0<=j/\j<(l! R:Int)) (o1:1<=i.1) (o2:i.1<=5) (hR:l! R<=32) (z:l! T=l! R) (hl:∀l∈T,TL E l):Ok (xU ((i,p),R,T)) λy=>y.1.1.2=p.2/\l! y.2.1=l! R/\l! y.2.2=l! T/\∀l∈y.2.2,TL E l:=by
 unfold xU aY bi bt ck bn bR bI bY jZ bc c7 aH cS;refine aQ (zU i) ?_;have h3:=KP i;refine cC (l! (uO i)) (λj x=>x.1=(j:Int)/\x.2.1=R/\x.2.2.1=T/\x.2.2.2.1=i/\x.2.2.2.2.1=p) ?_ ?_ ⟨rfl,rfl,rfl,rfl,rfl⟩
 .rintro j ⟨a,b,c,d,e⟩ hj ⟨e1,e2,e3,e4,F⟩;dsimp only at e1 e2 e3 e4 F;subst e1 e2 e3 e4;refine aW (λ_=>?_) λg=>(by dsimp only[ak]at g;omega)
  have hz:=D _ (bZ (T:=aP) (xs:=uO d) (j:=(j:Int)) (by omega) (by omega));refine aV (λx=>x.2=(b,c,d,e)/\x.1=aa) ?_ ?_
  .refine eQ (aT ?_);refine aW (λg=>?_) λ_=>?_
   .dsimp only at g;omega
   refine eQ (aT (aj ⟨rfl,?_⟩));dsimp only;rw[ms];exact hz.2
  rintro⟨b',x⟩ ⟨N,L⟩;dsimp only at N L;subst N L;refine aM nofun λ_=>aj ?_
  dsimp only;exact⟨fA,rfl,rfl,rfl,F⟩
 .rintro⟨a,b,c,d,e⟩ ⟨e1,e2,e3,e4,F⟩;dsimp only at e1 e2 e3 e4 F;subst e1 e2 e3 e4;refine aW (λg=>(by dsimp only[ak]at g;omega)) λ_=>?_
  obtain⟨e,e'⟩:=e;dsimp only at F;subst F;refine aw (P:=λy=>y.1.1.2=e.2/\l! y.2.1=l! b/\l! y.2.2=l! c/\∀l∈y.2.2,TL E l) ?_ λr D=>aj D
  have hA:d.1≠5->0<=d.2.1/\d.2.1<(l! b:Int):=λh5=>D _ (by
   unfold uO;(repeat' split)<;>simp<;>omega)
  have hB:2<=d.1->d.1≠5->0<=d.2.2.1/\d.2.2.1<(l! b:Int):=λh2 h5=>D _ (by
   unfold uO;(repeat' split)<;>simp<;>omega)
  have hC:d.1=4->0<=d.2.2.2.1/\d.2.2.2.1<(l! b:Int):=λh5=>D _ (by
   unfold uO;(repeat' split)<;>simp<;>omega)
  have hg:∀{j:Int},0<=j->j<(l! b:Int)->TL E (geti (.sl (.int .i64)) c j):=λh0 h1=>hl _ (bZ (T:=.sl (.int .i64)) (xs:=c) h0 (by rw[z];exact h1))
  refine aV (λx=>x.2.1=b/\x.2.2.1=c/\x.2.2.2.1=d/\x.2.2.2.2.1=e/\TL E x.1.2.2/\d.1≠5) ?_ ?_
  .refine aK (λ_=>aj ⟨rfl,rfl,rfl,hl⟩) λA=>?_
   refine aK (λ_=>aj ⟨rfl,rfl,rfl,rfl,TL.nil E,A⟩) λn1=>?_
   dsimp only at n1 A;obtain⟨b0,b1⟩:=hB (by omega) A;refine aK (λ_=>?_) λn2=>?_
   .refine aJ b0 b1 (aJ b0 b1 (aT ?_));refine aJ b0 (by dsimp only;rw[z];exact b1) (aJ b0 (by dsimp only;rw[z];exact b1) (aT ?_));exact aj ⟨rfl,rfl,rfl,rfl,hg b0 b1,A⟩
   refine aK (λ_=>?_) λn3=>?_
   .refine aw (HU _) λy _=>?_
    refine aJ b0 b1 (aJ b0 b1 (aT ?_));refine aw (agv _) λy _=>?_
    refine aJ b0 (by dsimp only;rw[z];exact b1) (aJ b0 (by dsimp only;rw[z];exact b1) (aT ?_));exact aj ⟨rfl,rfl,rfl,rfl,hg b0 b1,A⟩
   dsimp only at n2 n3;obtain⟨c0,c1⟩:=hC (by omega);refine aw (HU _) λy _=>?_
   refine aJ b0 b1 (aJ b0 b1 (aT ?_));refine aJ c0 c1 (aJ c0 c1 (aT ?_));refine aw (acu _) λy _=>?_
   refine aJ b0 (by dsimp only;rw[z];exact b1) (aJ b0 (by dsimp only;rw[z];exact b1) (aT ?_));refine aJ c0 (by dsimp only;rw[z];exact c1) (aJ c0 (by dsimp only;rw[z];exact c1) (aT ?_));have g1:=hg b0 b1;have g2:=hg c0 c1;refine aQ (VZ _ _ (c9 g1.len (by omega)) (c9 g2.len (by omega))) ?_;exact aj ⟨rfl,rfl,rfl,rfl,g1.uni g2,A⟩
  rintro⟨⟨v,ok,tn⟩,b',c',d',e',e''⟩ ⟨N,L,f3,f4,f5,f6⟩;dsimp only at N L f3 f4 f5 f6;subst N L f3 f4;obtain⟨a0,a1⟩:=hA f6;have ht:=f5.len;refine a! ?_;refine aJ a0 a1 (aJ a0 a1 (aJ a0 (by dsimp only;rw[z];exact a1) (aJ a0 (by dsimp only;rw[z];exact a1) (aj ?_))));refine ⟨rfl,cR ..,cR ..,λl hm=>?_⟩;rcases Eu hm with h|h
  .exact hl l h
  .rw[h];exact f5
def ac8 (E:Nat) (hE:E<=100000) (c:Int×Y IT) (hc:l! c.2<=1000000) (hv:VT c) (s:TT) (h:TH E s):Ok (oG (c,s)) λy=>TH E y.1:=by
 unfold oG aY bi bt bN cW cY bn bR jR iK bI bY bc c7 aH cS;have D:=h;obtain⟨h1,h2,h3,h4,h5⟩:=h;refine aV (λx=>x.2.1=c/\x.2.2.1=s/\(x.1=aa->(l! s.2.1:Int)=c.1/\(l! s.2.2.1:Int)=c.1)) ?_ ?_
 .refine cj (λ_=>aj ⟨rfl,rfl,nofun⟩) λg=>aj ⟨rfl,rfl,λh=>?_⟩
  simp at h;exact⟨g,h⟩
 rintro⟨b,N,s',z⟩ ⟨e1,e2,A⟩;dsimp only at e1 e2 A;subst e1 e2;refine aM (λ_=>aj (TH.zero E)) λF=>?_
 obtain⟨q1,q2⟩:=A F;refine aQ (du s' E hE D) ?_;refine nL (λx=>((l! N.2:Int)+1-x.1).toNat) (λx=>0<=x.1/\x.1<=(l! N.2:Int)+1/\x.2.1=N/\x.2.2.1.2=s'.2.2.2/\l! x.2.2.2.2.1=l! s'.2.1/\l! x.2.2.2.2.2=l! s'.2.2.1/\∀l∈x.2.2.2.2.2,TL E l) ?_ ⟨by dsimp only;omega,by dsimp only;omega,rfl,rfl,rfl,rfl,h3⟩;rintro⟨(n:Int),c,⟨(d:Int),ev⟩,z',R,T⟩ ⟨n0,n1,e1,e2,A,e4,L⟩;dsimp only at n0 n1 e1 e2 A e4 L;subst e1 e2;refine dW (λg=>?_) λ_=>aj (TH.zero E)
 dsimp only[ak]at g;refine aV (λx=>x.2=(c,(d,s'.2.2.2),z',R,T)/\(x.1=aa->0<=d/\d<(l! c.2:Int))) ?_ ?_
 .refine aW (λ_=>aj ⟨rfl,nofun⟩) λg1=>aj ⟨rfl,λh=>?_⟩
  dsimp only at g1 h;rw[ms]at h;exact⟨g1,h⟩
 rintro⟨b',x⟩ ⟨f1,f2⟩;dsimp only at f1 f2;subst f1;refine aM (λ_=>aj (TH.zero E)) λF=>?_
 obtain⟨p0,p1⟩:=f2 F;refine aJ p0 p1 (aT ?_);have hi:=hv.i _ (bZ (T:=sx) (xs:=c.2) (j:=d) p0 p1);revert hi;generalize (geti sx _ _)=i;intro hi;refine aQ (Qs _) ?_;refine cj (λ_=>aj ⟨by dsimp only;omega,by dsimp only;omega,L,h4,h5⟩) λhsil=>?_
 refine aK (λ_=>aj (TH.zero E)) λhn=>?_
 dsimp only[ak]at hn;refine aw (Z8 E hE i (d,s'.2.2.2) R T (λj hj=>by have:=hi.r j hj;omega) hsil.1 hsil.2 (by omega) (by omega) L) λy hy=>?_
 obtain⟨⟨⟨pc',ev'⟩,ok⟩,R',T'⟩:=y;obtain⟨k1,k2,k3,k4⟩:=hy;dsimp only at k1 k2 k3 k4;refine c6 (mP k3.symm (c6 (mP k2.symm (CY ?_))));refine di (λ_=>aj (TH.zero E)) λ_=>aj ?_
 dsimp only;rw[ic];exact⟨⟨by omega,by omega,rfl,k1,by omega,by omega,k4⟩,by omega⟩
abbrev ST:Type:=SY×η×η×Y TT
structure TF (c:Int×List IT) (t:TT):Prop where
 p0:0<=t.1
 p1:t.1<(l! c.2:Int)
 r:(l! t.2.1:Int)=c.1
 t:(l! t.2.2.1:Int)=c.1
structure FSx (c:CT) (s:ST):Prop where
 vc:VC c
 cd:∀d∈c.1.2.2.1,0<=d.2/\d.2<(l! c.1.2.1:Int)
 e3:l! s.1.2.2.2=l! c.1.2.2.2.2.1
 ce:l! s.2.1=l! c.1.1
 fu:l! s.2.2.1=l! c.1.2.2.2.1
 th:l! s.2.2.2=l! c.2
 t:∀k:Nat,k<l! c.2->TF (geti yE c.2 (k:Int)) (geti eZ s.2.2.2 (k:Int))
structure SV (n:Nat) (s:ST):Prop where
 sb:SB n s.1
 t:∀t∈s.2.2.2,TH n t
def ajr (c:CT) (s:ST) (N:CB c):Ok (xT (c,s)) λb=>b=J->FSx c s:=by
 unfold xT aY bi cW cY bR jR iK bY bc c7 aH cS;refine aV (λx=>x.2=(c,s)/\(x.1=aa->VC c/\(∀d∈c.1.2.2.1,0<=d.2/\d.2<(l! c.1.2.1:Int))/\l! s.1.2.2.2=l! c.1.2.2.2.2.1/\l! s.2.1=l! c.1.1/\l! s.2.2.1=l! c.1.2.2.2.1/\l! s.2.2.2=l! c.2)) ?_ ?_
 .refine aw (Np c N) λb z=>?_
  refine di (λ_=>aj ⟨rfl,nofun⟩) λh=>?_
  have D:=z h;refine aw (Sr c.1 s.1 (by have:=D.vl.d;omega)) λb2 F=>?_
  refine di (λ_=>aj ⟨rfl,nofun⟩) λh2=>?_
  obtain⟨L,_,_,g4⟩:=F h2;refine cj (λ_=>aj ⟨rfl,nofun⟩) λk1=>?_
  refine cj (λ_=>aj ⟨rfl,nofun⟩) λk2=>aj ⟨rfl,λk3=>⟨D,L,g4,?_,?_,?_⟩⟩
  .dsimp only[ak]at k1;omega
  .dsimp only[ak]at k2;omega
  .simp at k3;omega
 rintro⟨b,x⟩ ⟨e,z⟩;dsimp only at e z;subst e;refine aM (λ_=>aj nofun) λh=>?_
 obtain⟨D,hcd,h3,hce,hfu,hth⟩:=z h;have hcl:=N.th;refine cC (l! c.2) (λi x=>x.1=(i:Int)/\x.2=(c,s)/\∀k:Nat,k<i->TF (geti yE c.2 (k:Int)) (geti eZ s.2.2.2 (k:Int))) ?_ ?_ ⟨rfl,rfl,λk hk=>by omega⟩
 .rintro i ⟨a,x⟩ hi ⟨e1,e2,A⟩;dsimp only at e1 e2 A;subst e1 e2;refine aW (λ_=>?_) λg=>(by dsimp only[ak]at g;omega)
  have hin:((i:Nat):Int)<(l! c.2:Int):=by omega
  refine eQ (aT ?_);refine aV (λx=>x.2=(c,s)/\(x.1=aa->TF (geti yE c.2 (i:Int)) (geti eZ s.2.2.2 (i:Int)))) ?_ ?_
  .refine aW (λ_=>aj ⟨rfl,nofun⟩) λg0=>?_
   refine aJ (by dsimp only;omega) hin (aT ?_);refine dW (λ_=>aj ⟨rfl,nofun⟩) λL=>?_
   refine aJ (by dsimp only;omega) hin (aT ?_);refine cj (λ_=>aj ⟨rfl,nofun⟩) λg2=>?_
   refine aJ (by dsimp only;omega) hin (aT (aj ⟨rfl,λg3=>⟨g0,L,g2,?_⟩⟩));simp at g3;exact g3
  rintro⟨b,x⟩ ⟨e,z⟩;dsimp only at e z;subst e;refine aM (λ_=>aj nofun) λh=>aj ?_
  dsimp only;refine ⟨fA,rfl,λk hk=>?_⟩;rcases bu k i with h1|h1
  .exact A k h1
  .rw[show k=i by omega];exact z h
 .rintro⟨a,x⟩ ⟨e1,e2,A⟩;dsimp only at e1 e2 A;subst e1 e2;refine aW (λg=>(by dsimp only[ak]at g;omega)) λ_=>aj λ_=>⟨D,hcd,h3,hce,hfu,hth,A⟩
def alo {i:IT} (h:i.1=6\/i.1=7\/i.1=27\/i.1=10):i.2.1∈uO i:=by
 unfold uO;(repeat' split)<;>simp<;>omega
def aln {i:IT} (h:i.1=8\/i.1=9\/i.1=26):i.2.2.1∈uO i:=by
 unfold uO;(repeat' split)<;>simp<;>omega
def aq3 {i:IT} (h:i.1=7\/i.1=9):i.2.2.2.1∈uO i:=by
 unfold uO;(repeat' split)<;>simp<;>omega
structure KD (op k:Int):Prop where
 ld:k=3->op=6\/op=7
 st:k=4->op=8\/op=9
 br:k=5->op=10
 se:k=22->op=26
 ge:k=23->op=27
def ajb (op:Int):Ok (xR op) λk=>KD op k:=by
 unfold xR bR jZ aH;refine aV (λx=>x.2=[3,3,4,4,5,6,7,8,9,10,11,12,13,14,15,16,18,19,20,21,22,23,2]/\(x.1=aa->6<=op/\op<=28)) ?_ ?_
 .refine aW (λ_=>aj ⟨rfl,nofun⟩) λg=>aj ⟨rfl,λh=>?_⟩
  dsimp only at h;rw[fH]at h;exact⟨g,h⟩
 rintro⟨b,x⟩ ⟨e,d⟩;dsimp only at e d;subst e;refine aM (λ_=>aj ⟨nofun,nofun,nofun,nofun,nofun⟩) λh=>?_
 obtain⟨h1,h2⟩:=d h;dsimp only;rw[ic (n:=op-6) (by omega) (by omega)];refine aJ (by omega) (by simp;omega) (aJ (by omega) (by simp;omega) (aT (aj ?_)));have:op=6\/op=7\/op=8\/op=9\/op=10\/op=11\/op=12\/op=13\/op=14\/op=15\/op=16\/op=17\/op=18\/op=19\/op=20\/op=21\/op=22\/op=23\/op=24\/op=25\/op=26\/op=27\/op=28:=by omega
 rcases this with rfl|rfl|rfl|rfl|rfl|rfl|rfl|rfl|rfl|rfl|rfl|rfl|rfl|rfl|rfl|rfl|rfl|rfl|rfl|rfl|rfl|rfl|rfl;all_goals exact⟨by decide,by decide,by decide,by decide,by decide⟩
def V9 (a n:Int):Ok (sR (a,n)) λ_=>True:=by
 unfold sR bR bI aH;refine aW (λ_=>aj trivial) λh=>?_
 dsimp only at h;refine xO (by dsimp only;omega) ?_;refine aV (λ_=>True) (aW (λ_=>aj trivial) λ_=>aj trivial) λ_ _=>aj trivial
def Tu (i:IT) (t:TT) (z:∀j∈uO i,0<=j/\j<(l! t.2.1:Int)):Ok (tM (i,t)) λ_=>True:=by
 unfold tM aY bi bt bn bY aH;have d:i.1=7\/i.1=9->0<=i.2.2.2.1/\i.2.2.2.1<(l! t.2.1:Int):=λh=>z _ (by
  unfold uO;(repeat' split)<;>simp<;>omega)
 refine aV (λx=>x.2=(i,t)) (aK (λ_=>aj rfl) λ_=>aj rfl) ?_;rintro⟨b,x⟩ e;dsimp only at e;subst e;refine aM (λ_=>aj trivial) λ_=>?_
 refine aK (λh=>?_) λ_=>?_
 .exact aJ (d (.inl h)).1 (d (.inl h)).2 (aT (aw (V9 _ _) λ_ _=>aj trivial))
 refine aK (λh=>?_) λ_=>?_
 .exact aJ (d (.inr h)).1 (d (.inr h)).2 (aT (aw (V9 _ _) λ_ _=>aj trivial))
 refine aV (λ_=>True) ?_ λx _=>aM (λ_=>aj trivial) λ_=>aj trivial
 with_reducible repeat' first|apply OS.ok;constructor|refine IM.mk λ_=>?_
 all_goals trivial
structure PE (n:Nat) (c:CT) (s:ST) (t:Int) (e:ET):Prop where
 fs:FSx c s
 t0:0<=t
 t1:t<(l! c.2:Int)
 et:e.1=t
 d:l! e.2.2.2.2.2.1<=n
 f:l! e.2.2.2.2.2.2<=n
 a:e.2.1=3\/e.2.1=23\/e.2.1=5->0<=(geti sx (geti yE c.2 t).2 (geti eZ s.2.2.2 t).1).2.1/\(geti sx (geti yE c.2 t).2 (geti eZ s.2.2.2 t).1).2.1<((geti eZ s.2.2.2 t).2.1.length:Int)
 b:e.2.1=4\/e.2.1=22->0<=(geti sx (geti yE c.2 t).2 (geti eZ s.2.2.2 t).1).2.2.1/\(geti sx (geti yE c.2 t).2 (geti eZ s.2.2.2 t).1).2.2.1<((geti eZ s.2.2.2 t).2.1.length:Int)
def YC (n:Nat) (hn:n<=100000) (c:CT) (s:ST) (hc:CB c) (hs:SV n s) (t:Int):Ok (oW (c,s,t)) λy=>y.2=J->PE n c s t y.1:=by
 unfold oW aY bi bt bN cW cY bn bR bI bY bc aH;refine aV (λx=>x.2.1=c/\x.2.2.1=s/\(x.1=aa->FSx c s/\0<=t/\t<(l! c.2:Int))) ?_ ?_
 .refine aw (ajr c s hc) λb hb=>?_
  refine di (λ_=>aj ⟨rfl,rfl,nofun⟩) λh=>?_
  refine aW (λ_=>aj ⟨rfl,rfl,nofun⟩) λg0=>aj ⟨rfl,rfl,λg1=>?_⟩
  dsimp only at g0 g1;rw[ms]at g1;exact⟨hb h,g0,g1⟩
 rintro⟨b,c',s',z⟩ ⟨e1,e2,hb⟩;dsimp only at e1 e2 hb;subst e1 e2;refine aM (λ_=>aj nofun) λh=>?_
 obtain⟨hf,L,t1⟩:=hb h;have hk:((t.toNat:Nat):Int)=t:=by omega
 have htf:=hf.t t.toNat (by omega);rw[hk]at htf;have hvt:=hf.vc.t _ (bZ (T:=yE) (xs:=c'.2) (j:=t) L t1);have hth:=hs.t _ (bZ (T:=eZ) (xs:=s'.2.2.2) (j:=t) L (by rw[hf.th];exact t1));have key:∀e:ET,e.1=t->l! e.2.2.2.2.2.1<=n->l! e.2.2.2.2.2.2<=n->(e.2.1=1\/e.2.1=17\/KD (geti sx (geti yE c'.2 t).2 (geti eZ s'.2.2.2 t).1).1 e.2.1)->PE n c' s' t e:=by
  intro e h1 h2 h3 A;have hi:=hvt.i _ (bZ (T:=sx) (xs:=(geti yE c'.2 t).2) (j:=(geti eZ s'.2.2.2 t).1) htf.p0 htf.p1);refine ⟨hf,L,t1,h1,h2,h3,λh5=>?_,λh5=>?_⟩
  .rw[htf.r];rcases A with A|A|A
   .omega
   .omega
   .refine hi.r _ ?_;have d:=A.ld;have a2:=A.ge;have a3:=A.br;revert d a2 a3 h5;generalize (geti sx (geti yE c'.2 t).2 (geti eZ s'.2.2.2 t).1)=i;intro h5 d a2 a3;exact alo (by omega)
  .rw[htf.r];rcases A with A|A|A
   .omega
   .omega
   .refine hi.r _ ?_;have d:=A.st;have a2:=A.se;revert d a2 h5;generalize (geti sx (geti yE c'.2 t).2 (geti eZ s'.2.2.2 t).1)=i;intro h5 d a2;exact aln (by omega)
 have hir:=(hvt.i _ (bZ (T:=sx) (xs:=(geti yE c'.2 t).2) (j:=(geti eZ s'.2.2.2 t).1) htf.p0 htf.p1)).r;rw[<- htf.r]at hir;refine aJ L (by dsimp only;rw[hf.th];exact t1) (aT ?_);refine aJ L t1 (aT ?_);refine aJ htf.p0 htf.p1 (aT ?_);have t4:t<(l! s'.1.2.2.2:Int):=by rw[hf.e3,<-hf.vc.tl];exact t1
 have tz:(geti eZ s'.2.2.2 t).2.2.1.length=(geti eZ s'.2.2.2 t).2.1.length:=by have:=htf.r;have:=htf.t;omega
 refine aJ L t4 (aT ?_);refine aK (λ_=>aj λ_=>key _ rfl (pU _) (pU _) (.inl rfl)) λ_=>?_
 refine aK (λ_=>aJ L t4 (aT (aj λ_=>key _ rfl (pU _) (pU _) (.inr (.inl rfl))))) λ_=>?_
 refine aK (λ_=>?_) λ_=>aj nofun
 refine aw (ajb _) λk N=>?_
 refine aw (Tu _ _ hir) λo _=>?_
 refine aK (λ_=>aj nofun) λ_=>?_
 revert key htf hvt hth hir tz N;dsimp only;generalize (geti eZ s'.2.2.2 t)=th;generalize (geti sx _ th.1)=i;intro htf hvt hth key hir tz N;have hlen:∀{j:Int},0<=j->j<(l! th.2.2.1:Int)->l! (geti (.sl (.int .i64)) th.2.2.1 j)<=n:=λh0 h1=>(hth.l _ (bZ (T:=.sl (.int .i64)) (xs:=th.2.2.1) h0 h1)).len
 have hA:i.1=10->0<=i.2.1/\i.2.1<(l! th.2.2.1:Int):=λh=>by
  rw[tz];exact hir _ (alo (.inr (.inr (.inr h))))
 have hB:i.1=8\/i.1=9\/i.1=26->0<=i.2.2.1/\i.2.2.1<(l! th.2.2.1:Int):=λh=>by
  rw[tz];exact hir _ (aln (h))
 have hC:i.1=7\/i.1=9->0<=i.2.2.2.1/\i.2.2.2.1<(l! th.2.2.1:Int):=λh=>by
  rw[tz];exact hir _ (aq3 (h))
 refine aV (λx=>x.2.1=th/\x.2.2.1=i/\x.2.2.2.1.1=t/\x.2.2.2.1.2.1=k/\l! x.2.2.2.2<=n) ?_ ?_
 .refine aK (λh=>?_) λ_=>?_
  .obtain⟨F,d⟩:=hA h;refine aJ F d (aT ?_);have:=hlen F d;exact a_ (c9 this (by omega)) (by omega) (aj ⟨rfl,rfl,rfl,rfl,this⟩)
  refine aV (λx=>x.2.2.1=th/\x.2.2.2.1=i/\x.2.2.2.2.1=t/\x.2.2.2.2.2.1=k/\(x.1=J->i.1=7\/i.1=9)) ?_ ?_
  .refine aK (λh=>aj ⟨rfl,rfl,rfl,rfl,λ_=>.inl h⟩) λ_=>aj ⟨rfl,rfl,rfl,rfl,λh=>.inr (bl h)⟩
  rintro⟨b,z0,th',i',t',k',z1⟩ ⟨e1,e2,e3,e4,D⟩;dsimp only at e1 e2 e3 e4 D;subst e1 e2 e3 e4;refine aM (λh=>?_) λ_=>aj ⟨rfl,rfl,rfl,rfl,pU _⟩
  obtain⟨F,d⟩:=hC (D h);refine aJ F d (aT ?_);have:=hlen F d;exact a_ (c9 this (by omega)) (by omega) (aj ⟨rfl,rfl,rfl,rfl,this⟩)
 rintro⟨z0,th',i',⟨t',k',z1⟩,ds⟩ ⟨e1,e2,e3,e4,hd⟩;dsimp only at e1 e2 e3 e4 hd;subst e1 e2 e3 e4;refine aV (λx=>x.2.1.1=t'/\x.2.1.2.1=k'/\l! x.2.2.1<=n/\l! x.2.2.2<=n) ?_ ?_
 .refine aV (λx=>x.2=(z0,th',i',(t',k',z1),ds)/\(x.1=J->i'.1=8\/i'.1=9\/i'.1=26)) ?_ ?_
  .exact aK (λh=>aj ⟨rfl,λ_=>.inl h⟩) λ_=>aK (λh=>aj ⟨rfl,λ_=>.inr (.inl h)⟩) λ_=>aj ⟨rfl,λh=>.inr (.inr (bl h))⟩
  rintro⟨b,x⟩ ⟨e,D⟩;dsimp only at e D;subst e;refine aM (λh=>?_) λ_=>aj ⟨rfl,rfl,hd,pU _⟩
  obtain⟨F,d⟩:=hB (D h);refine aJ F d (aT ?_);have:=hlen F d;exact a_ (c9 this (by omega)) (by omega) (aj ⟨rfl,rfl,hd,this⟩)
 rintro⟨z2,⟨t2,k2,z3⟩,d2,f2⟩ ⟨e1,e2,h1,h2⟩;dsimp only at e1 e2 h1 h2;subst e1 e2;exact aj λ_=>key _ rfl h1 h2 (.inr (.inr N))
def SV.zero (n:Nat) (d:n<=100000):SV n (([],0,[],[]),[],[],[]):=⟨⟨d,by simp,λl z=>(by cases z),by simp,by simp⟩,λt ht=>(by cases ht)⟩
def YA (c:CT) (hc:CB c):Ok (vC c) λs=>SV 0 s:=by
 unfold vC aY bi bt b7 bN cW cY dN bR kj bI bY bc c7 aH cS;refine aw (Np c hc) λb hb=>?_
 refine di (λ_=>aj (SV.zero 0 (by omega))) λh=>?_
 have F:=hb h;obtain⟨vc,vl,vd,vf,_,vt,_⟩:=id F.vl;have htl:=F.tl;refine aw (YB c.1 F.vl) λy hy=>?_
 refine cC (l! c.1.1) (λi x=>x.1=(i:Int)/\x.2.1=c/\x.2.2.2.1=y/\l! x.2.2.2.2=i) ?_ ?_ ⟨rfl,rfl,rfl,rfl⟩
 .rintro i ⟨a,N,z,y',l⟩ hi ⟨e1,e2,d,A⟩;dsimp only at e1 e2 d A;subst e1 e2 d;refine aW (λ_=>?_) λg=>(by dsimp only[ak]at g;omega)
  refine eQ (aT (a! (aj ?_)));dsimp only;exact⟨fA,rfl,rfl,by simp;omega⟩
 rintro⟨a,N,z,y',l⟩ ⟨e1,e2,d,A⟩;dsimp only at e1 e2 d A;subst e1 e2 d;refine aW (λg=>(by dsimp only[ak]at g;omega)) λ_=>?_
 refine aw (P:=SV 0) ?_ λr L=>aj L
 refine cC (l! N.1.2.2.2.1) (λi x=>x.1=(i:Int)/\x.2.1=N/\x.2.2.2.1=y'/\l! x.2.2.2.2.2=i) ?_ ?_ ⟨rfl,rfl,rfl,rfl⟩
 .rintro i ⟨a,c,z,y,l,f⟩ hi ⟨e1,e2,d,A⟩;dsimp only at e1 e2 d A;subst e1 e2 d;refine aW (λ_=>?_) λg=>(by dsimp only[ak]at g;omega)
  refine a! (aj ?_);dsimp only;exact⟨fA,rfl,rfl,by simp;omega⟩
 rintro⟨a,c,z,y,l,f⟩ ⟨e1,e2,d,A⟩;dsimp only at e1 e2 d A;subst e1 e2 d;refine aW (λg=>(by dsimp only[ak]at g;omega)) λ_=>?_
 refine aw (P:=SV 0) ?_ λr L=>aj L
 refine cC (l! c.2) (λi x=>x.1=(i:Int)/\x.2.1=c/\x.2.2.2.1=y/\l! x.2.2.2.2.2.2=i/\∀t∈x.2.2.2.2.2.2,TH 0 t) ?_ ?_ ⟨rfl,rfl,rfl,rfl,λt ht=>(by cases ht)⟩
 .rintro i ⟨a,c,z,y,l,f,th⟩ hi ⟨e1,e2,d,A,D⟩;dsimp only at e1 e2 d A D;subst e1 e2 d;refine aW (λ_=>?_) λg=>(by dsimp only[ak]at g;omega)
  have hin:((i:Nat):Int)<(l! c.2:Int):=by omega
  have hvt:=F.t _ (bZ (T:=yE) (xs:=c.2) (j:=(i:Int)) (by omega) hin);have q0:=hvt.r0;have q1:=hvt.r1;refine aJ (by dsimp only;omega) hin (aT ?_);refine c6 (c6 (dm q0 (dm (eE _) (a! ?_))));refine aJ (by dsimp only;omega) hin (aT ?_);refine c6 (c6 (dm q0 (dm (eE _) (a! ?_))));refine a! (aj ?_);dsimp only;refine ⟨fA,rfl,rfl,by simp;omega,λt ht=>?_⟩;rcases bE.1 ht with h|h
  .exact D t h
  .rw[aE]at h;subst h;refine ⟨?_,?_,λl hl=>?_,eE _,eE _⟩
   .dsimp only;rw[cm];omega
   .dsimp only;rw[cm];omega
   .rw[List.eq_of_mem_replicate hl];exact TL.nil 0
 .rintro⟨a,c,z,y,l,f,th⟩ ⟨e1,e2,d,A,D⟩;dsimp only at e1 e2 d A D;subst e1 e2 d;refine aW (λg=>(by dsimp only[ak]at g;omega)) λ_=>aj ?_
  exact⟨hy,D⟩
variable {R:Type}
def lN {α:Type} (o:M α):ay o (λ_=>(U:M R))=U:=by cases o<;>rfl
def pQ (b:Bool):chk b (λ_=>(U:M R))=U:=by cases b<;>rfl
def tu {α:Type} (x:α):lt x (λ_=>(U:M R))=U:=rfl
def Sw (o:M R) (Q:R->Prop):Prop:=o=U\/Ok o Q
def Sw.or {a b:M R} {Q:R->Prop} (z:Sw a Q) (d:Sw b Q):Sw (orE a b) Q:=by
 rcases z with rfl|⟨y,rfl,h⟩
 .exact d
 .exact .inr ⟨y,rfl,h⟩
def Ok.orL {a b:M R} {Q:R->Prop} (d:Ok a Q):Ok (orE a b) Q:=by
 obtain⟨y,rfl,h⟩:=d;exact⟨y,rfl,h⟩
def Sw.orR {a b:M R} {Q:R->Prop} (z:Sw a Q) (d:Ok b Q):Ok (orE a b) Q:=by
 rcases z with rfl|⟨y,rfl,h⟩
 .exact d
 .exact⟨y,rfl,h⟩
abbrev H!:=ST×ET×Bool
def SQ (n:Nat) (c:CT) (y:H!):Prop:=y.2.2=J->SV (n+1) y.1/\Sy c.1 y.2.1/\YK y.2.1
def KH (hn:i+1<=100000) {c:CT} {s:ST} {u:Int} (hc:CB c) (L:SV i s) (G:M H!->Prop) (hG:∀y,SQ i c y->G (Z y)) (k:ET×Bool->SY×r?->M H!)
 (hk:∀e v A,PE i c s a e->EN c.1 s.1 a e.2.1 e.2.2.1->AP i s.1 A->G (k (e,J) (A,v,J))):
 G (ay (oW (c,s,a)) λz=>aL (!z.2) (Z ((([],0,[],[]),[],[],[]),(0,0,0,0,0,[],[]),aa)) (ay (qO (c.1,s.1,a,z.1.2.1,z.1.2.2.1,u)) λD=>aL (!D.2.2) (Z ((([],0,[],[]),[],[],[]),(0,0,0,0,0,[],[]),aa)) (k z D))):=by
 have F:=hG ((([],0,[],[]),[],[],[]),(0,0,0,0,0,[],[]),aa) nofun
 obtain⟨⟨e,b⟩,h1,h2⟩:=YC i (by omega) c s hc L a;rw[h1,Wn];cases b with
 |false=>exact F
 |true=>
  have hp:=h2 rfl;have hcd:l! c.1.2.2.1<=1000:=by have:=hp.fs.vc.vl.d;omega
  obtain⟨⟨A,v,b⟩,h3,N,_,_⟩:=ND c.1 s.1 L.sb hcd a e.2.1 e.2.2.1 u;have e0:∀{R:Type} (t b:M R),aL (!J) t b=b:=λ_ _=>rfl
  rw[e0,h3,Wn];cases b with
  |false=>exact F
  |true=>exact hk e v A hp (N rfl).1 (N rfl).2.2.1
def acs (d:SY) (A z:η) (a:TT) (h:SV i (d,A,z,[a])) (hce:l! A<=1000) (hfu:l! z<=1000):oF (d,A,z,[a])=Z ((d.2.1,d.1,d.2.2.1,d.2.2.2).1,(d.2.1,d.1,d.2.2.1,d.2.2.2).2.1,(d.2.1,d.1,d.2.2.1,d.2.2.2).2.2.1,(d.2.1,d.1,d.2.2.1,d.2.2.2).2.2.2,(([]:η)++A),(([]:η)++z),((a.1,a.2.2.2),a.2.1,a.2.2.1)):=by
 have F:=h.sb.n1;have D:=h.t a (by simp);refine cf ?_;unfold oF aY bN bR bI bY bc;refine aQ (su d h.sb) ?_;refine a! (a! ?_);refine fy rfl (a9 rfl (aT (aQ (du a i F D) ?_)));exact kH rfl (aj rfl)
def Wm (z:SY) (D A:η) (l:Y TT) (h0:l! l<=4) (h:l! l≠1):oF (z,D,A,l)=U:=by
 unfold oF aY bN bR bI bY bc;rcases l with _|⟨a,_|⟨b,_|⟨c,_|⟨d,_|⟨e,l⟩⟩⟩⟩⟩;all_goals first|(simp at h;done)|(exfalso;simp only[bX]at h0;omega)|simp[fM,lN,pQ,tu,bcT,bcF]
def acr (d:SY) (A z:η) (a b:TT) (h:SV i (d,A,z,[a,b])) (hce:l! A<=1000) (hfu:l! z<=1000):oE (d,A,z,[a,b])=Z ((d.2.1,d.1,d.2.2.1,d.2.2.2).1,(d.2.1,d.1,d.2.2.1,d.2.2.2).2.1,(d.2.1,d.1,d.2.2.1,d.2.2.2).2.2.1,(d.2.1,d.1,d.2.2.1,d.2.2.2).2.2.2,(([]:η)++A),(([]:η)++z),(((a.1,a.2.2.2),a.2.1,a.2.2.1).1.1,((a.1,a.2.2.2),a.2.1,a.2.2.1).1.2,((b.1,b.2.2.2),b.2.1,b.2.2.1).1.1,((b.1,b.2.2.2),b.2.1,b.2.2.1).2.1,((b.1,b.2.2.2),b.2.1,b.2.2.1).2.2,((b.1,b.2.2.2),b.2.1,b.2.2.1).1.2),((a.1,a.2.2.2),a.2.1,a.2.2.1).2):=by
 have D:=h.sb.n1;have L:=h.t a (by simp);have F:=h.t b (by simp);refine cf ?_;unfold oE aY bN bR bI bY bc;refine aQ (su d h.sb) ?_;refine a! (a! ?_);refine fy rfl (a9 rfl (aT (aQ (du a i D L) ?_)));refine fy rfl (a9 rfl (aT (aQ (du b i D F) ?_)));exact kH rfl (aj rfl)
def Wl (z:SY) (D A:η) (l:Y TT) (h0:l! l<=4) (h:l! l≠2):oE (z,D,A,l)=U:=by
 unfold oE aY bN bR bI bY bc;rcases l with _|⟨a,_|⟨b,_|⟨c,_|⟨d,_|⟨e,l⟩⟩⟩⟩⟩;all_goals first|(simp at h;done)|(exfalso;simp only[bX]at h0;omega)|simp[fM,lN,pQ,tu,bcT,bcF]
def acq (d:SY) (A z:η) (a b:TT) (h:SV i (d,A,z,[a,b])) (hce:l! A<=1000) (hfu:l! z<=1000):oD (d,A,z,[a,b])=Z ((d.2.1,d.1,d.2.2.1,d.2.2.2).1,(d.2.1,d.1,d.2.2.1,d.2.2.2).2.1,(d.2.1,d.1,d.2.2.1,d.2.2.2).2.2.1,(d.2.1,d.1,d.2.2.1,d.2.2.2).2.2.2,(([]:η)++A),(([]:η)++z),((((a.1,a.2.2.2),a.2.1,a.2.2.1).1.1,((a.1,a.2.2.2),a.2.1,a.2.2.1).2.1,((a.1,a.2.2.2),a.2.1,a.2.2.1).2.2,((a.1,a.2.2.2),a.2.1,a.2.2.1).1.2),((b.1,b.2.2.2),b.2.1,b.2.2.1).1),((b.1,b.2.2.2),b.2.1,b.2.2.1).2):=by
 have D:=h.sb.n1;have L:=h.t a (by simp);have F:=h.t b (by simp);refine cf ?_;unfold oD aY bN bR bI bY bc;refine aQ (su d h.sb) ?_;refine a! (a! ?_);refine fy rfl (a9 rfl (aT (aQ (du a i D L) ?_)));refine fy rfl (a9 rfl (aT (aQ (du b i D F) ?_)));exact kH rfl (aj rfl)
def Wk (z:SY) (D A:η) (l:Y TT) (h0:l! l<=4) (h:l! l≠2):oD (z,D,A,l)=U:=by
 unfold oD aY bN bR bI bY bc;rcases l with _|⟨a,_|⟨b,_|⟨c,_|⟨d,_|⟨e,l⟩⟩⟩⟩⟩;all_goals first|(simp at h;done)|(exfalso;simp only[bX]at h0;omega)|simp[fM,lN,pQ,tu,bcT,bcF]
def acp (d:SY) (A z:η) (a b c:TT) (h:SV i (d,A,z,[a,b,c])) (hce:l! A<=1000) (hfu:l! z<=1000):oC (d,A,z,[a,b,c])=Z ((d.2.1,d.1,d.2.2.1,d.2.2.2).1,(d.2.1,d.1,d.2.2.1,d.2.2.2).2.1,(d.2.1,d.1,d.2.2.1,d.2.2.2).2.2.1,(d.2.1,d.1,d.2.2.1,d.2.2.2).2.2.2,(([]:η)++A),(([]:η)++z),(((a.1,a.2.2.2),a.2.1,a.2.2.1).1.1,((a.1,a.2.2.2),a.2.1,a.2.2.1).1.2,(((b.1,b.2.2.2),b.2.1,b.2.2.1).1.1,((b.1,b.2.2.2),b.2.1,b.2.2.1).2.1,((b.1,b.2.2.2),b.2.1,b.2.2.1).2.2,((b.1,b.2.2.2),b.2.1,b.2.2.1).1.2),((c.1,c.2.2.2),c.2.1,c.2.2.1).1.1,((c.1,c.2.2.2),c.2.1,c.2.2.1).2.1,((c.1,c.2.2.2),c.2.1,c.2.2.1).2.2,((c.1,c.2.2.2),c.2.1,c.2.2.1).1.2),((a.1,a.2.2.2),a.2.1,a.2.2.1).2):=by
 have D:=h.sb.n1;have N:=h.t a (by simp);have L:=h.t b (by simp);have F:=h.t c (by simp);refine cf ?_;unfold oC aY bN bR bI bY bc;refine aQ (su d h.sb) ?_;refine a! (a! ?_);refine fy rfl (a9 rfl (aT (aQ (du a i D N) ?_)));refine fy rfl (a9 rfl (aT (aQ (du b i D L) ?_)));refine fy rfl (a9 rfl (aT (aQ (du c i D F) ?_)));exact kH rfl (aj rfl)
def Wj (z:SY) (D A:η) (l:Y TT) (h0:l! l<=4) (h:l! l≠3):oC (z,D,A,l)=U:=by
 unfold oC aY bN bR bI bY bc;rcases l with _|⟨a,_|⟨b,_|⟨c,_|⟨d,_|⟨e,l⟩⟩⟩⟩⟩;all_goals first|(simp at h;done)|(exfalso;simp only[bX]at h0;omega)|simp[fM,lN,pQ,tu,bcT,bcF]
def aco (d:SY) (A z:η) (a b c:TT) (h:SV i (d,A,z,[a,b,c])) (hce:l! A<=1000) (hfu:l! z<=1000):oB (d,A,z,[a,b,c])=Z ((d.2.1,d.1,d.2.2.1,d.2.2.2).1,(d.2.1,d.1,d.2.2.1,d.2.2.2).2.1,(d.2.1,d.1,d.2.2.1,d.2.2.2).2.2.1,(d.2.1,d.1,d.2.2.1,d.2.2.2).2.2.2,(([]:η)++A),(([]:η)++z),((((a.1,a.2.2.2),a.2.1,a.2.2.1).1.1,((a.1,a.2.2.2),a.2.1,a.2.2.1).2.1,((a.1,a.2.2.2),a.2.1,a.2.2.1).2.2,((a.1,a.2.2.2),a.2.1,a.2.2.1).1.2),((b.1,b.2.2.2),b.2.1,b.2.2.1).1.1,((b.1,b.2.2.2),b.2.1,b.2.2.1).1.2,((c.1,c.2.2.2),c.2.1,c.2.2.1).1.1,((c.1,c.2.2.2),c.2.1,c.2.2.1).2.1,((c.1,c.2.2.2),c.2.1,c.2.2.1).2.2,((c.1,c.2.2.2),c.2.1,c.2.2.1).1.2),((b.1,b.2.2.2),b.2.1,b.2.2.1).2):=by
 have D:=h.sb.n1;have N:=h.t a (by simp);have L:=h.t b (by simp);have F:=h.t c (by simp);refine cf ?_;unfold oB aY bN bR bI bY bc;refine aQ (su d h.sb) ?_;refine a! (a! ?_);refine fy rfl (a9 rfl (aT (aQ (du a i D N) ?_)));refine fy rfl (a9 rfl (aT (aQ (du b i D L) ?_)));refine fy rfl (a9 rfl (aT (aQ (du c i D F) ?_)));exact kH rfl (aj rfl)
def Wi (z:SY) (D A:η) (l:Y TT) (h0:l! l<=4) (h:l! l≠3):oB (z,D,A,l)=U:=by
 unfold oB aY bN bR bI bY bc;rcases l with _|⟨a,_|⟨b,_|⟨c,_|⟨d,_|⟨e,l⟩⟩⟩⟩⟩;all_goals first|(simp at h;done)|(exfalso;simp only[bX]at h0;omega)|simp[fM,lN,pQ,tu,bcT,bcF]
def acn (d:SY) (A z:η) (a b c:TT) (h:SV i (d,A,z,[a,b,c])) (hce:l! A<=1000) (hfu:l! z<=1000):oA (d,A,z,[a,b,c])=Z ((d.2.1,d.1,d.2.2.1,d.2.2.2).1,(d.2.1,d.1,d.2.2.1,d.2.2.2).2.1,(d.2.1,d.1,d.2.2.1,d.2.2.2).2.2.1,(d.2.1,d.1,d.2.2.1,d.2.2.2).2.2.2,(([]:η)++A),(([]:η)++z),((((a.1,a.2.2.2),a.2.1,a.2.2.1).1.1,((a.1,a.2.2.2),a.2.1,a.2.2.1).2.1,((a.1,a.2.2.2),a.2.1,a.2.2.1).2.2,((a.1,a.2.2.2),a.2.1,a.2.2.1).1.2),(((b.1,b.2.2.2),b.2.1,b.2.2.1).1.1,((b.1,b.2.2.2),b.2.1,b.2.2.1).2.1,((b.1,b.2.2.2),b.2.1,b.2.2.1).2.2,((b.1,b.2.2.2),b.2.1,b.2.2.1).1.2),((c.1,c.2.2.2),c.2.1,c.2.2.1).1),((c.1,c.2.2.2),c.2.1,c.2.2.1).2):=by
 have D:=h.sb.n1;have N:=h.t a (by simp);have L:=h.t b (by simp);have F:=h.t c (by simp);refine cf ?_;unfold oA aY bN bR bI bY bc;refine aQ (su d h.sb) ?_;refine a! (a! ?_);refine fy rfl (a9 rfl (aT (aQ (du a i D N) ?_)));refine fy rfl (a9 rfl (aT (aQ (du b i D L) ?_)));refine fy rfl (a9 rfl (aT (aQ (du c i D F) ?_)));exact kH rfl (aj rfl)
def Wh (z:SY) (D A:η) (l:Y TT) (h0:l! l<=4) (h:l! l≠3):oA (z,D,A,l)=U:=by
 unfold oA aY bN bR bI bY bc;rcases l with _|⟨a,_|⟨b,_|⟨c,_|⟨d,_|⟨e,l⟩⟩⟩⟩⟩;all_goals first|(simp at h;done)|(exfalso;simp only[bX]at h0;omega)|simp[fM,lN,pQ,tu,bcT,bcF]
def acm (z:SY) (F D:η) (a b c d:TT) (h:SV i (z,F,D,[a,b,c,d])) (hce:l! F<=1000) (hfu:l! D<=1000):oz (z,F,D,[a,b,c,d])=Z ((z.2.1,z.1,z.2.2.1,z.2.2.2).1,(z.2.1,z.1,z.2.2.1,z.2.2.2).2.1,(z.2.1,z.1,z.2.2.1,z.2.2.2).2.2.1,(z.2.1,z.1,z.2.2.1,z.2.2.2).2.2.2,(([]:η)++F),(([]:η)++D),(((a.1,a.2.2.2),a.2.1,a.2.2.1).1.1,((a.1,a.2.2.2),a.2.1,a.2.2.1).1.2,(((b.1,b.2.2.2),b.2.1,b.2.2.1).1.1,((b.1,b.2.2.2),b.2.1,b.2.2.1).2.1,((b.1,b.2.2.2),b.2.1,b.2.2.1).2.2,((b.1,b.2.2.2),b.2.1,b.2.2.1).1.2),(((c.1,c.2.2.2),c.2.1,c.2.2.1).1.1,((c.1,c.2.2.2),c.2.1,c.2.2.1).2.1,((c.1,c.2.2.2),c.2.1,c.2.2.1).2.2,((c.1,c.2.2.2),c.2.1,c.2.2.1).1.2),((d.1,d.2.2.2),d.2.1,d.2.2.1).1.1,((d.1,d.2.2.2),d.2.1,d.2.2.1).2.1,((d.1,d.2.2.2),d.2.1,d.2.2.1).2.2,((d.1,d.2.2.2),d.2.1,d.2.2.1).1.2),((a.1,a.2.2.2),a.2.1,a.2.2.1).2):=by
 have A:=h.sb.n1;have ha:=h.t a (by simp);have N:=h.t b (by simp);have L:=h.t c (by simp);have hd:=h.t d (by simp);refine cf ?_;unfold oz aY bN bR bI bY bc;refine aQ (su z h.sb) ?_;refine a! (a! ?_);refine fy rfl (a9 rfl (aT (aQ (du a i A ha) ?_)));refine fy rfl (a9 rfl (aT (aQ (du b i A N) ?_)));refine fy rfl (a9 rfl (aT (aQ (du c i A L) ?_)));refine fy rfl (a9 rfl (aT (aQ (du d i A hd) ?_)));exact kH rfl (aj rfl)
def Wg (z:SY) (D A:η) (l:Y TT) (h0:l! l<=4) (h:l! l≠4):oz (z,D,A,l)=U:=by
 unfold oz aY bN bR bI bY bc;rcases l with _|⟨a,_|⟨b,_|⟨c,_|⟨d,_|⟨e,l⟩⟩⟩⟩⟩;all_goals first|(simp at h;done)|(exfalso;simp only[bX]at h0;omega)|simp[fM,lN,pQ,tu,bcT,bcF]
def acl (z:SY) (F D:η) (a b c d:TT) (h:SV i (z,F,D,[a,b,c,d])) (hce:l! F<=1000) (hfu:l! D<=1000):oy (z,F,D,[a,b,c,d])=Z ((z.2.1,z.1,z.2.2.1,z.2.2.2).1,(z.2.1,z.1,z.2.2.1,z.2.2.2).2.1,(z.2.1,z.1,z.2.2.1,z.2.2.2).2.2.1,(z.2.1,z.1,z.2.2.1,z.2.2.2).2.2.2,(([]:η)++F),(([]:η)++D),((((a.1,a.2.2.2),a.2.1,a.2.2.1).1.1,((a.1,a.2.2.2),a.2.1,a.2.2.1).2.1,((a.1,a.2.2.2),a.2.1,a.2.2.1).2.2,((a.1,a.2.2.2),a.2.1,a.2.2.1).1.2),((b.1,b.2.2.2),b.2.1,b.2.2.1).1.1,((b.1,b.2.2.2),b.2.1,b.2.2.1).1.2,(((c.1,c.2.2.2),c.2.1,c.2.2.1).1.1,((c.1,c.2.2.2),c.2.1,c.2.2.1).2.1,((c.1,c.2.2.2),c.2.1,c.2.2.1).2.2,((c.1,c.2.2.2),c.2.1,c.2.2.1).1.2),((d.1,d.2.2.2),d.2.1,d.2.2.1).1.1,((d.1,d.2.2.2),d.2.1,d.2.2.1).2.1,((d.1,d.2.2.2),d.2.1,d.2.2.1).2.2,((d.1,d.2.2.2),d.2.1,d.2.2.1).1.2),((b.1,b.2.2.2),b.2.1,b.2.2.1).2):=by
 have A:=h.sb.n1;have ha:=h.t a (by simp);have N:=h.t b (by simp);have L:=h.t c (by simp);have hd:=h.t d (by simp);refine cf ?_;unfold oy aY bN bR bI bY bc;refine aQ (su z h.sb) ?_;refine a! (a! ?_);refine fy rfl (a9 rfl (aT (aQ (du a i A ha) ?_)));refine fy rfl (a9 rfl (aT (aQ (du b i A N) ?_)));refine fy rfl (a9 rfl (aT (aQ (du c i A L) ?_)));refine fy rfl (a9 rfl (aT (aQ (du d i A hd) ?_)));exact kH rfl (aj rfl)
def Wf (z:SY) (D A:η) (l:Y TT) (h0:l! l<=4) (h:l! l≠4):oy (z,D,A,l)=U:=by
 unfold oy aY bN bR bI bY bc;rcases l with _|⟨a,_|⟨b,_|⟨c,_|⟨d,_|⟨e,l⟩⟩⟩⟩⟩;all_goals first|(simp at h;done)|(exfalso;simp only[bX]at h0;omega)|simp[fM,lN,pQ,tu,bcT,bcF]
def ack (z:SY) (F D:η) (a b c d:TT) (h:SV i (z,F,D,[a,b,c,d])) (hce:l! F<=1000) (hfu:l! D<=1000):ox (z,F,D,[a,b,c,d])=Z ((z.2.1,z.1,z.2.2.1,z.2.2.2).1,(z.2.1,z.1,z.2.2.1,z.2.2.2).2.1,(z.2.1,z.1,z.2.2.1,z.2.2.2).2.2.1,(z.2.1,z.1,z.2.2.1,z.2.2.2).2.2.2,(([]:η)++F),(([]:η)++D),((((a.1,a.2.2.2),a.2.1,a.2.2.1).1.1,((a.1,a.2.2.2),a.2.1,a.2.2.1).2.1,((a.1,a.2.2.2),a.2.1,a.2.2.1).2.2,((a.1,a.2.2.2),a.2.1,a.2.2.1).1.2),(((b.1,b.2.2.2),b.2.1,b.2.2.1).1.1,((b.1,b.2.2.2),b.2.1,b.2.2.1).2.1,((b.1,b.2.2.2),b.2.1,b.2.2.1).2.2,((b.1,b.2.2.2),b.2.1,b.2.2.1).1.2),((c.1,c.2.2.2),c.2.1,c.2.2.1).1.1,((c.1,c.2.2.2),c.2.1,c.2.2.1).1.2,((d.1,d.2.2.2),d.2.1,d.2.2.1).1.1,((d.1,d.2.2.2),d.2.1,d.2.2.1).2.1,((d.1,d.2.2.2),d.2.1,d.2.2.1).2.2,((d.1,d.2.2.2),d.2.1,d.2.2.1).1.2),((c.1,c.2.2.2),c.2.1,c.2.2.1).2):=by
 have A:=h.sb.n1;have ha:=h.t a (by simp);have N:=h.t b (by simp);have L:=h.t c (by simp);have hd:=h.t d (by simp);refine cf ?_;unfold ox aY bN bR bI bY bc;refine aQ (su z h.sb) ?_;refine a! (a! ?_);refine fy rfl (a9 rfl (aT (aQ (du a i A ha) ?_)));refine fy rfl (a9 rfl (aT (aQ (du b i A N) ?_)));refine fy rfl (a9 rfl (aT (aQ (du c i A L) ?_)));refine fy rfl (a9 rfl (aT (aQ (du d i A hd) ?_)));exact kH rfl (aj rfl)
def We (z:SY) (D A:η) (l:Y TT) (h0:l! l<=4) (h:l! l≠4):ox (z,D,A,l)=U:=by
 unfold ox aY bN bR bI bY bc;rcases l with _|⟨a,_|⟨b,_|⟨c,_|⟨d,_|⟨e,l⟩⟩⟩⟩⟩;all_goals first|(simp at h;done)|(exfalso;simp only[bX]at h0;omega)|simp[fM,lN,pQ,tu,bcT,bcF]
def acj (z:SY) (F D:η) (a b c d:TT) (h:SV i (z,F,D,[a,b,c,d])) (hce:l! F<=1000) (hfu:l! D<=1000):ov (z,F,D,[a,b,c,d])=Z ((z.2.1,z.1,z.2.2.1,z.2.2.2).1,(z.2.1,z.1,z.2.2.1,z.2.2.2).2.1,(z.2.1,z.1,z.2.2.1,z.2.2.2).2.2.1,(z.2.1,z.1,z.2.2.1,z.2.2.2).2.2.2,(([]:η)++F),(([]:η)++D),((((a.1,a.2.2.2),a.2.1,a.2.2.1).1.1,((a.1,a.2.2.2),a.2.1,a.2.2.1).2.1,((a.1,a.2.2.2),a.2.1,a.2.2.1).2.2,((a.1,a.2.2.2),a.2.1,a.2.2.1).1.2),(((b.1,b.2.2.2),b.2.1,b.2.2.1).1.1,((b.1,b.2.2.2),b.2.1,b.2.2.1).2.1,((b.1,b.2.2.2),b.2.1,b.2.2.1).2.2,((b.1,b.2.2.2),b.2.1,b.2.2.1).1.2),(((c.1,c.2.2.2),c.2.1,c.2.2.1).1.1,((c.1,c.2.2.2),c.2.1,c.2.2.1).2.1,((c.1,c.2.2.2),c.2.1,c.2.2.1).2.2,((c.1,c.2.2.2),c.2.1,c.2.2.1).1.2),((d.1,d.2.2.2),d.2.1,d.2.2.1).1),((d.1,d.2.2.2),d.2.1,d.2.2.1).2):=by
 have A:=h.sb.n1;have ha:=h.t a (by simp);have N:=h.t b (by simp);have L:=h.t c (by simp);have hd:=h.t d (by simp);refine cf ?_;unfold ov aY bN bR bI bY bc;refine aQ (su z h.sb) ?_;refine a! (a! ?_);refine fy rfl (a9 rfl (aT (aQ (du a i A ha) ?_)));refine fy rfl (a9 rfl (aT (aQ (du b i A N) ?_)));refine fy rfl (a9 rfl (aT (aQ (du c i A L) ?_)));refine fy rfl (a9 rfl (aT (aQ (du d i A hd) ?_)));exact kH rfl (aj rfl)
def Wd (z:SY) (D A:η) (l:Y TT) (h0:l! l<=4) (h:l! l≠4):ov (z,D,A,l)=U:=by
 unfold ov aY bN bR bI bY bc;rcases l with _|⟨a,_|⟨b,_|⟨c,_|⟨d,_|⟨e,l⟩⟩⟩⟩⟩;all_goals first|(simp at h;done)|(exfalso;simp only[bX]at h0;omega)|simp[fM,lN,pQ,tu,bcT,bcF]
def kdx (k:Int):k=1\/k=16\/k=2\/k=3\/k=23\/k=4\/k=22\/k=5\/((k=1)=False/\(k=16)=False/\(k=2)=False/\(k=3)=False/\(k=23)=False/\(k=4)=False/\(k=22)=False/\(k=5)=False):=by
 by_cases h:k=1\/k=16\/k=2\/k=3\/k=23\/k=4\/k=22\/k=5
 .omega
 .repeat (first|exact⟨eq_false (by omega),eq_false (by omega),eq_false (by omega),eq_false (by omega),eq_false (by omega),eq_false (by omega),eq_false (by omega),eq_false (by omega)⟩|refine Or.inr ?_)
def KR (n:Nat) (d:CT) (i:Nat) (u:Int) (l:Y TT) (z:R) (k:Int->(CT×SY×(Γ)×Int×(υ)×ET×(Γ)×(η)×(η)×R×(η)×Y η)->M H!):Prop:=
 ∀(p:Int) (D:SY) (kd o v si:Int) (ds L N F g:η) (T:Y η) (ev:Int),
  (kd≠16->kd≠2->Ok (oG (geti yE d.2 (i:Int),(p,g,T,be .i64 (ev+1)))) λy=>TH (n+1) y.1)->
  (kd=16\/kd=2->TH (n+1) (p,g,T,be .i64 (ev+1)))->
  (∀A,TH (n+1) A->SQ n d ((D,N,F,l.set i A),((i:Int),kd,o,v,si,ds,L),J))->(i:Int)<(l! d.2:Int)->
  ∀pc,Ok (k p (d,D,((i:Int),u),0,(0,0,0,0,0),((i:Int),kd,o,v,si,ds,L),(pc,ev),N,F,z,g,T)) (SQ n d)
def Dm (N n:Nat) {cp:SY×(η)×(η)×Y TT->M (Int×(Y (Int×η))×(θ)×(Y (Int×Int×Bool))×(η)×(η)×R×(η)×Y η)} {pc ev:R->Int} {k:Int->(CT×SY×(Γ)×Int×(υ)×ET×(Γ)×(η)×(η)×R×(η)×Y η)->M H!} (hn:i+1<=100000) (A:CT) (s:ST) (t u:Int) (hc:CB A) (hs:SV i s)
 (h0:∀sy ce fu (l:Y TT),l! l<=4->l! l≠N->cp (sy,ce,fu,l)=U)
 (h1:∀sy ce fu (l:Y TT),SV i (sy,ce,fu,l)->l! ce<=1000->l! fu<=1000->l! l=N->n<N/\∃y,cp (sy,ce,fu,l)=Z y/\y.2.2.2.2.1=ce/\y.2.2.2.2.2.1=fu/\y.2.2.2.2.2.2.2.1=(geti eZ l (n:Int)).2.1/\y.2.2.2.2.2.2.2.2=(geti eZ l (n:Int)).2.2.1/\pc y.2.2.2.2.2.2.1=(geti eZ l (n:Int)).1/\ev y.2.2.2.2.2.2.1=(geti eZ l (n:Int)).2.2.2/\KR i A n u l y.2.2.2.2.2.2.1 k):
 Sw (SG (n:Int) cp pc ev k (A,s,t,u)) (SQ i A)/\(l! s.2.2.2=N->t=(n:Int)->Ok (SG (n:Int) cp pc ev k (A,s,t,u)) (SQ i A)):=by
 by_cases hz:l! s.2.2.2=N/\t=(n:Int)
 .obtain⟨hz1,rfl⟩:=hz;suffices h:Ok (SG (n:Int) cp pc ev k (A,s,(n:Int),u)) (SQ i A) from ⟨.inr h,λ_ _=>h⟩
  unfold SG jH ki kh aY bi bt b7 dc fx kl lA Prod.y Prod.w NF bN cW iX Prod.t ck bn bY jZ aH;refine KH hn hc hs (λo=>Ok o (SQ i A)) (λy h=>aj h) _ λe v sy hp he ha=>?_
  obtain⟨sy0,ce,fu,l⟩:=s;dsimp only at hz1 he ha;have hE:=hs.sb.n1;have vl:=hp.fs.vc.vl;have hce:=hp.fs.ce;have hfu:=hp.fs.fu;dsimp only at hce hfu;obtain⟨hiN,⟨q1,q2,q3,q4,ce',fu',z,R0,T0⟩,hcp,g1,g2,g3,g4,hpc,hve,hk⟩:=h1 sy0 ce fu l hs (by have:=vl.c;omega) (by have:=vl.f;omega) hz1;dsimp only at g1 g2 g3 g4 hpc hve hk;rw[g1,g2,g3,g4]at hcp;have hsb:=ha.toSB hs.sb hn;obtain⟨_,_,nmce,_,_,_,nmfu⟩:=id he.nm;have hev:Sy A.1 e:=⟨he.nm,hp.et▸hp.t0,by rw[hp.et,<-hp.fs.vc.tl];exact hp.t1,he.cd⟩
  have hes:YK e:=⟨c9 hp.d (by omega),c9 hp.f (by omega)⟩
  have t1:(n:Int)<(l! A.2:Int):=hp.t1;have htf:TF (geti yE A.2 (n:Int)) (geti eZ l (n:Int)):=hp.fs.t n (by omega);have hA:=hp.a;have hB:=hp.b;dsimp only at hA hB;have hvt:=hp.fs.vc.t _ (bZ (T:=yE) (xs:=A.2) (j:=(n:Int)) (by omega) t1);have hci:=hc.ins _ (bZ (T:=yE) (xs:=A.2) (j:=(n:Int)) (by omega) t1);have hth:TH i (geti eZ l (n:Int)):=hs.t _ (bZ (T:=eZ) (xs:=l) (j:=(n:Int)) (by omega) (by omega));have hl:=hs.t;dsimp only at hl;clear g3 g4;generalize geti eZ l (n:Int)=th at hcp hpc hve htf hA hB hth;obtain⟨e1,kd,o,e4,site,ds,fs⟩:=e;have het:=hp.et;dsimp only at het nmce nmfu hA hB;subst het;refine aQ hcp ?_;dsimp only;rw[hpc,hve];refine fy (bj rfl) ?_;refine aJ (by omega) t1 (aT (aJ htf.p0 htf.p1 (aT ?_)));have htz:l! th.2.2.1=l! th.2.1:=by have:=htf.r;have:=htf.t;omega
  have fin:∀(p:Int) (g:η) (T:Y η),l! g=l! th.2.1->l! T=l! th.2.2.1->(∀x∈T,TL (i+1) x)->Ok (oG (geti yE A.2 (n:Int),(p,g,T,be .i64 (th.2.2.2+1)))) λy=>TH (i+1) y.1:=λp g T h1 h2 h3=>by
   have D:=hth.e0;have a2:=hth.e1;have a3:=hth.r;have a4:=hth.t;rw[ic (n:=th.2.2.2+1) (by omega) (by omega)];exact ac8 (i+1) hn _ hci hvt _ ⟨by dsimp only;omega,by dsimp only;omega,h3,by dsimp only;omega,by dsimp only;omega⟩
  have keep:∀x∈th.2.2.1,TL (i+1) x:=λx hx=>(hth.l x hx).mono (by omega)
  have mark:∀j:Int,∀x∈cJ th.2.2.1 j [th.2.2.2],TL (i+1) x:=λj x hx=>by
   rcases Eu hx with h|h
   .exact keep x h
   .rw[h];exact⟨⟨λy hy=>(by cases hy),trivial⟩,λy hy=>by rw[aE]at hy;have:=hth.e0;have:=hth.e1;rw[hy];exact⟨by omega,by omega⟩⟩
  have nopark:TH (i+1) (th.1,th.2.1,th.2.2.1,be .i64 (th.2.2.2+1)):=by
   have D:=hth.e0;have a2:=hth.e1;rw[ic (n:=th.2.2.2+1) (by omega) (by omega)];exact⟨hth.r,hth.t,keep,by dsimp only;omega,by dsimp only;omega⟩
  have done:∀(ce' fu':η) (v':Int) (t':TT),TH (i+1) t'->SQ i A ((sy,ce',fu',l.set n t'),((n:Int),kd,o,v',site,ds,fs),J):=λce' fu' v' t' ht' _=>⟨⟨hsb,λx hx=>(O_ hx).elim (λh=>(hl x h).mono (by omega)) λh=>h▸ht'⟩,⟨hev.nm,hev.t0,hev.t1,hev.cd⟩,hes⟩
  clear hp hs hc h0 h1 hcp g1 g2;generalize (geti sx (geti yE A.2 (n:Int)).2 th.1)=ins at hA hB ⊢;rcases kdx kd with rfl|rfl|rfl|rfl|rfl|rfl|rfl|rfl|⟨k1,k2,k3,k4,k5,k6,k7,k8⟩
  case inr.inr.inr.inr.inr.inr.inr.inr=>
   simp only[k1,k2,k3,k4,k5,k6,k7,k8,aX,aU,lX];exact hk _ _ _ _ _ _ _ _ _ _ _ _ _ (λ_ _=>fin _ _ _ rfl rfl keep) (λh=>by rw[k2,k3]at h;exact (h.elim id id).elim) (done _ _ _) t1 _
  all_goals simp only[aX,aU,lX]
  .exact hk _ _ _ _ _ _ _ _ _ _ _ _ _ (λ_ _=>fin _ _ _ rfl rfl keep) (λh=>by omega) (done _ _ _) t1 _
  .exact hk _ _ _ _ _ _ _ _ _ _ _ _ _ (λh _=>(h rfl).elim) (λ_=>nopark) (done _ _ _) t1 _
  .exact hk _ _ _ _ _ _ _ _ _ _ _ _ _ (λ_ h=>(h rfl).elim) (λ_=>nopark) (done _ _ _) t1 _
  .obtain⟨o0,L⟩:=nmce (.inl rfl);rw[<- hce]at L;obtain⟨F,D⟩:=hA (.inl rfl);have a2:ins.2.1<(l! th.2.2.1:Int):=by rw[htz];exact D
   refine gk (aJ o0 L (aJ o0 L (aj ?_)));simp only[aX,aU,lX];refine gk (aJ F D (aJ F D (aJ F a2 (aJ F a2 (aj ?_)))));exact hk _ _ _ _ _ _ _ _ _ _ _ _ _ (λ_ _=>fin _ _ _ (cR ..) (cR ..) (mark _)) (λh=>by omega) (done _ _ _) t1 _
  .obtain⟨o0,L⟩:=nmfu (.inr rfl);rw[<- hfu]at L;obtain⟨F,D⟩:=hA (.inr (.inl rfl));have a2:ins.2.1<(l! th.2.2.1:Int):=by rw[htz];exact D
   refine gk (aJ o0 L (aJ o0 L (aj ?_)));simp only[aX,aU,lX];refine gk (aJ F D (aJ F D (aJ F a2 (aJ F a2 (aj ?_)))));exact hk _ _ _ _ _ _ _ _ _ _ _ _ _ (λ_ _=>fin _ _ _ (cR ..) (cR ..) (mark _)) (λh=>by omega) (done _ _ _) t1 _
  .obtain⟨o0,L⟩:=nmce (.inr rfl);rw[<- hce]at L;obtain⟨F,D⟩:=hB (.inl rfl);refine gk (aJ F D (aJ F D (aJ o0 L (aJ o0 L (aj ?_)))));simp only[aX,aU,lX];exact hk _ _ _ _ _ _ _ _ _ _ _ _ _ (λ_ _=>fin _ _ _ rfl rfl keep) (λh=>by omega) (done _ _ _) t1 _
  .obtain⟨o0,L⟩:=nmfu (.inl rfl);rw[<- hfu]at L;obtain⟨F,D⟩:=hB (.inr rfl);refine gk (aJ F D (aJ F D (aJ o0 L (aJ o0 L (aj ?_)))));simp only[aX,aU,lX];exact hk _ _ _ _ _ _ _ _ _ _ _ _ _ (λ_ _=>fin _ _ _ rfl rfl keep) (λh=>by omega) (done _ _ _) t1 _
  .obtain⟨F,D⟩:=hA (.inr (.inr rfl));refine gk (aJ F D (aJ F D (aK (λ_=>aj ?_) λ_=>aj ?_)));all_goals
    simp only[aX,aU,lX];exact hk _ _ _ _ _ _ _ _ _ _ _ _ _ (λ_ _=>fin _ _ _ rfl rfl keep) (λh=>by omega) (done _ _ _) t1 _
 .refine ⟨?_,λh1 h2=>(hz ⟨h1,h2⟩).elim⟩;unfold SG jH ki kh aY bi bt b7 dc fx kl lA Prod.y Prod.w NF bN cW iX Prod.t ck bn bY jZ aH;refine KH hn hc hs (λo=>Sw o (SQ i A)) (λy h=>.inr (aj h)) _ λe v sy hp he ha=>.inl ?_
  obtain⟨sy0,ce,fu,l⟩:=s;have vl:=hp.fs.vc.vl;by_cases hl:l! l=N
  .have ht:¬t=(n:Int):=λh=>hz ⟨hl,h⟩
   dsimp only;cases cp (sy0,ce,fu,l) with
   |none=>rfl
   |some y=>rw[Wn,b_ ht];rfl
  .show ay (cp (sy0,ce,fu,l)) _=U;rw[h0 sy0 ce fu l (by have h1:l! l=l! A.2:=hp.fs.th;have:=hp.fs.vc.tl;have:=vl.t;omega) hl];rfl
def Do {W V:Type} {L:CT} {l:Y TT} {z:R} {F:R->η->Y η->W} {D:W->V} {A:V->TT->Y TT} (h3:∀g T d,A (D (F z g T)) d=l.set i d):KR j L i a l z (KG (i:Int) F D A):=by
 intro p N kd o v si ds fs ce fu g T ev fin park done ht pc;unfold KG jH aY bi bt b7 dc fx kl lA Prod.y Prod.w s9 bn iK bY aH cS;dsimp only;have done:∀d,TH (j+1) d->SQ j L ((N,ce,fu,A (D (F z g T)) d),((i:Int),kd,o,v,si,ds,fs),J):=λd h=>by rw[h3];exact done d h
 by_cases h1:kd=16
 .subst h1;exact gk (gk (kH rfl (aj (kH rfl (aj (fy (bj rfl) (aj (done _ (park (.inl rfl))))))))))
 by_cases h2:kd=2
 .subst h2;exact gk (gk (fy rfl (aj (kH rfl (aj (fy (bj rfl) (aj (done _ (park (.inr rfl))))))))))
 rw[b_ h1,b_ h2];exact gk (gk (fy rfl (aj (fy rfl (aJ (eM i) ht (aT (aw (fin h1 h2) λy hy=>aj (fy (bj rfl) (aj (done _ hy))))))))))
def aby (L:i+1<=100000) (z:CT) (s:ST) (t u:Int) (N:CB z) (A:SV i s):Sw (ou (z,s,t,u)) (SQ i z)/\(l! s.2.2.2=4->t=0->Ok (ou (z,s,t,u)) (SQ i z)):=by
 refine Dm 4 0 L z s t u N A Wg λF ce fu l A hce hfu D=>⟨by decide,?_⟩
 obtain⟨a,b,c,d,rfl⟩:∃a b c d,l=[a,b,c,d]:=by
  rcases l with _|⟨a,_|⟨b,_|⟨c,_|⟨d,_|⟨e,l⟩⟩⟩⟩⟩;all_goals first|exact⟨_,_,_,_,rfl⟩|(simp at D;done)|(exfalso;simp only[bX]at D;omega)
 refine ⟨_,acm F ce fu a b c d A hce hfu,rfl,rfl,rfl,rfl,rfl,rfl,Do λR T t'=>rfl⟩
def abx (L:i+1<=100000) (z:CT) (s:ST) (t u:Int) (N:CB z) (A:SV i s):Sw (oq (z,s,t,u)) (SQ i z)/\(l! s.2.2.2=4->t=1->Ok (oq (z,s,t,u)) (SQ i z)):=by
 refine Dm 4 1 L z s t u N A Wf λF ce fu l A hce hfu D=>⟨by decide,?_⟩
 obtain⟨a,b,c,d,rfl⟩:∃a b c d,l=[a,b,c,d]:=by
  rcases l with _|⟨a,_|⟨b,_|⟨c,_|⟨d,_|⟨e,l⟩⟩⟩⟩⟩;all_goals first|exact⟨_,_,_,_,rfl⟩|(simp at D;done)|(exfalso;simp only[bX]at D;omega)
 refine ⟨_,acl F ce fu a b c d A hce hfu,rfl,rfl,rfl,rfl,rfl,rfl,Do λR T t'=>rfl⟩
def abw (L:i+1<=100000) (z:CT) (s:ST) (t u:Int) (N:CB z) (A:SV i s):Sw (mG (z,s,t,u)) (SQ i z)/\(l! s.2.2.2=4->t=2->Ok (mG (z,s,t,u)) (SQ i z)):=by
 refine Dm 4 2 L z s t u N A We λF ce fu l A hce hfu D=>⟨by decide,?_⟩
 obtain⟨a,b,c,d,rfl⟩:∃a b c d,l=[a,b,c,d]:=by
  rcases l with _|⟨a,_|⟨b,_|⟨c,_|⟨d,_|⟨e,l⟩⟩⟩⟩⟩;all_goals first|exact⟨_,_,_,_,rfl⟩|(simp at D;done)|(exfalso;simp only[bX]at D;omega)
 refine ⟨_,ack F ce fu a b c d A hce hfu,rfl,rfl,rfl,rfl,rfl,rfl,Do λR T t'=>rfl⟩
def abv (L:i+1<=100000) (z:CT) (s:ST) (t u:Int) (N:CB z) (A:SV i s):Sw (lF (z,s,t,u)) (SQ i z)/\(l! s.2.2.2=4->t=3->Ok (lF (z,s,t,u)) (SQ i z)):=by
 refine Dm 4 3 L z s t u N A Wd λF ce fu l A hce hfu D=>⟨by decide,?_⟩
 obtain⟨a,b,c,d,rfl⟩:∃a b c d,l=[a,b,c,d]:=by
  rcases l with _|⟨a,_|⟨b,_|⟨c,_|⟨d,_|⟨e,l⟩⟩⟩⟩⟩;all_goals first|exact⟨_,_,_,_,rfl⟩|(simp at D;done)|(exfalso;simp only[bX]at D;omega)
 refine ⟨_,acj F ce fu a b c d A hce hfu,rfl,rfl,rfl,rfl,rfl,rfl,Do λR T t'=>rfl⟩
def ac1 (L:i+1<=100000) (z:CT) (s:ST) (t u:Int) (N:CB z) (A:SV i s):Sw (ky (z,s,t,u)) (SQ i z)/\(l! s.2.2.2=3->t=0->Ok (ky (z,s,t,u)) (SQ i z)):=by
 refine Dm 3 0 L z s t u N A Wj λF ce fu l A hce hfu D=>⟨by decide,?_⟩
 obtain⟨a,b,c,rfl⟩:∃a b c,l=[a,b,c]:=by
  rcases l with _|⟨a,_|⟨b,_|⟨c,_|⟨d,_|⟨e,l⟩⟩⟩⟩⟩;all_goals first|exact⟨_,_,_,rfl⟩|(simp at D;done)|(exfalso;simp only[bX]at D;omega)
 refine ⟨_,acp F ce fu a b c A hce hfu,rfl,rfl,rfl,rfl,rfl,rfl,Do λR T t'=>rfl⟩
def ac0 (L:i+1<=100000) (z:CT) (s:ST) (t u:Int) (N:CB z) (A:SV i s):Sw (jA (z,s,t,u)) (SQ i z)/\(l! s.2.2.2=3->t=1->Ok (jA (z,s,t,u)) (SQ i z)):=by
 refine Dm 3 1 L z s t u N A Wi λF ce fu l A hce hfu D=>⟨by decide,?_⟩
 obtain⟨a,b,c,rfl⟩:∃a b c,l=[a,b,c]:=by
  rcases l with _|⟨a,_|⟨b,_|⟨c,_|⟨d,_|⟨e,l⟩⟩⟩⟩⟩;all_goals first|exact⟨_,_,_,rfl⟩|(simp at D;done)|(exfalso;simp only[bX]at D;omega)
 refine ⟨_,aco F ce fu a b c A hce hfu,rfl,rfl,rfl,rfl,rfl,rfl,Do λR T t'=>rfl⟩
def abz (L:i+1<=100000) (z:CT) (s:ST) (t u:Int) (N:CB z) (A:SV i s):Sw (iw (z,s,t,u)) (SQ i z)/\(l! s.2.2.2=3->t=2->Ok (iw (z,s,t,u)) (SQ i z)):=by
 refine Dm 3 2 L z s t u N A Wh λF ce fu l A hce hfu D=>⟨by decide,?_⟩
 obtain⟨a,b,c,rfl⟩:∃a b c,l=[a,b,c]:=by
  rcases l with _|⟨a,_|⟨b,_|⟨c,_|⟨d,_|⟨e,l⟩⟩⟩⟩⟩;all_goals first|exact⟨_,_,_,rfl⟩|(simp at D;done)|(exfalso;simp only[bX]at D;omega)
 refine ⟨_,acn F ce fu a b c A hce hfu,rfl,rfl,rfl,rfl,rfl,rfl,Do λR T t'=>rfl⟩
def ac4 (L:i+1<=100000) (z:CT) (s:ST) (t u:Int) (N:CB z) (A:SV i s):Sw (gS (z,s,t,u)) (SQ i z)/\(l! s.2.2.2=2->t=0->Ok (gS (z,s,t,u)) (SQ i z)):=by
 refine Dm 2 0 L z s t u N A Wl λF ce fu l A hce hfu D=>⟨by decide,?_⟩
 obtain⟨a,b,rfl⟩:∃a b,l=[a,b]:=by
  rcases l with _|⟨a,_|⟨b,_|⟨c,_|⟨d,_|⟨e,l⟩⟩⟩⟩⟩;all_goals first|exact⟨_,_,rfl⟩|(simp at D;done)|(exfalso;simp only[bX]at D;omega)
 refine ⟨_,acr F ce fu a b A hce hfu,rfl,rfl,rfl,rfl,rfl,rfl,Do λR T t'=>rfl⟩
def ac3 (L:i+1<=100000) (z:CT) (s:ST) (t u:Int) (N:CB z) (A:SV i s):Sw (gp (z,s,t,u)) (SQ i z)/\(l! s.2.2.2=2->t=1->Ok (gp (z,s,t,u)) (SQ i z)):=by
 refine Dm 2 1 L z s t u N A Wk λF ce fu l A hce hfu D=>⟨by decide,?_⟩
 obtain⟨a,b,rfl⟩:∃a b,l=[a,b]:=by
  rcases l with _|⟨a,_|⟨b,_|⟨c,_|⟨d,_|⟨e,l⟩⟩⟩⟩⟩;all_goals first|exact⟨_,_,rfl⟩|(simp at D;done)|(exfalso;simp only[bX]at D;omega)
 refine ⟨_,acq F ce fu a b A hce hfu,rfl,rfl,rfl,rfl,rfl,rfl,Do λR T t'=>rfl⟩
def ac5 (L:i+1<=100000) (z:CT) (s:ST) (t u:Int) (N:CB z) (A:SV i s):Sw (gr (z,s,t,u)) (SQ i z)/\(l! s.2.2.2=1->t=0->Ok (gr (z,s,t,u)) (SQ i z)):=by
 refine Dm 1 0 L z s t u N A Wm λF ce fu l A hce hfu D=>⟨by decide,?_⟩
 obtain⟨a,rfl⟩:∃a,l=[a]:=by
  rcases l with _|⟨a,_|⟨b,_|⟨c,_|⟨d,_|⟨e,l⟩⟩⟩⟩⟩;all_goals first|exact⟨_,rfl⟩|(simp at D;done)|(exfalso;simp only[bX]at D;omega)
 refine ⟨_,acs F ce fu a A hce hfu,rfl,rfl,rfl,rfl,rfl,rfl,Do λR T t'=>rfl⟩
def ac6 {n:Nat} (N:n+1<=100000) (c:CT) (s:ST) (t u:Int) (hc:CB c) (L:SV n s):Ok (B9 (c,s,t,u)) (SQ n c):=by
 unfold B9;have d:=aby N c s t u hc L;have z:=abx N c s t u hc L;have A:=abw N c s t u hc L;have D:=abv N c s t u hc L;have F:=ac1 N c s t u hc L;have a31:=ac0 N c s t u hc L;have a32:=abz N c s t u hc L;have a20:=ac4 N c s t u hc L;have a21:=ac3 N c s t u hc L;have a10:=ac5 N c s t u hc L;by_cases hz:l! s.2.2.2<=4/\0<=t/\t<(l! s.2.2.2:Int)
 .obtain⟨h1,h2,h3⟩:=hz;have:(l! s.2.2.2=4/\t=0)\/(l! s.2.2.2=4/\t=1)\/(l! s.2.2.2=4/\t=2)\/(l! s.2.2.2=4/\t=3)\/(l! s.2.2.2=3/\t=0)\/(l! s.2.2.2=3/\t=1)\/(l! s.2.2.2=3/\t=2)\/(l! s.2.2.2=2/\t=0)\/(l! s.2.2.2=2/\t=1)\/(l! s.2.2.2=1/\t=0):=by omega
  rcases this with h|h|h|h|h|h|h|h|h|h
  .exact (d.2 h.1 h.2).orL
  .exact d.1.orR (z.2 h.1 h.2).orL
  .exact d.1.orR (z.1.orR (A.2 h.1 h.2).orL)
  .exact d.1.orR (z.1.orR (A.1.orR (D.2 h.1 h.2).orL))
  .exact d.1.orR (z.1.orR (A.1.orR (D.1.orR (F.2 h.1 h.2).orL)))
  .exact d.1.orR (z.1.orR (A.1.orR (D.1.orR (F.1.orR (a31.2 h.1 h.2).orL))))
  .exact d.1.orR (z.1.orR (A.1.orR (D.1.orR (F.1.orR (a31.1.orR (a32.2 h.1 h.2).orL)))))
  .exact d.1.orR (z.1.orR (A.1.orR (D.1.orR (F.1.orR (a31.1.orR (a32.1.orR (a20.2 h.1 h.2).orL))))))
  .exact d.1.orR (z.1.orR (A.1.orR (D.1.orR (F.1.orR (a31.1.orR (a32.1.orR (a20.1.orR (a21.2 h.1 h.2).orL)))))))
  .exact d.1.orR (z.1.orR (A.1.orR (D.1.orR (F.1.orR (a31.1.orR (a32.1.orR (a20.1.orR (a21.1.orR (a10.2 h.1 h.2)))))))))
 .refine Ok.orL ?_;unfold ou aY bi cW;refine KH N hc L (λo=>Ok o (SQ n c)) (λy h=>aj h) _ λe v sy hp he ha=>(hz ?_).elim
  have h1:l! s.2.2.2=l! c.2:=hp.fs.th;have h2:l! c.2=l! c.1.2.2.2.2.1:=hp.fs.vc.tl;have h3:l! c.1.2.2.2.2.1<=4:=hp.fs.vc.vl.t;have h4:0<=t:=hp.t0;have h5:t<(l! c.2:Int):=hp.t1;exact⟨by omega,h4,by omega⟩
def ajq (c:CT) (s:ST) (l:Y Γ) (hc:CB c) (hs:SV 0 s) (hl:l.length<=9223372036854775806):Ok (xS (c,s,l)) λy=>y.1.length<=400/\∀e∈y.1,Sy c.1 e/\YK e:=by
 unfold xS aY bi cW bR bI bY bc c7 aH cS;refine nL (λx=>((l.length:Int)-x.1).toNat) (λx=>0<=x.1/\x.2.2.1=c/\SV x.2.1.length x.2.2.2.1/\x.2.1.length<=400/\∀e∈x.2.1,Sy c.1 e/\YK e) ?_ ⟨eE _,rfl,hs,by simp,λe he=>(by cases he)⟩;rintro⟨(i:Int),es,A,s',z⟩ ⟨F,e1,e2,D,d⟩;dsimp only at F e1 e2 D d;subst e1;refine aV (λx=>x.2=(es,A,s',z)/\(x.1=J->i<(l.length:Int)/\es.length<400)) ?_ ?_
 .refine aW (λg=>aj ⟨rfl,λh=>⟨g,?_⟩⟩) λ_=>aj ⟨rfl,nofun⟩
  dsimp only at h;rw[mV]at h;dsimp only[ak]at h;omega
 rintro⟨b,x⟩ ⟨N,L⟩;dsimp only at N L;subst N;refine aM (λh=>?_) λ_=>aj ⟨D,d⟩
 obtain⟨g1,g2⟩:=L h;refine aV (λx=>x.2.1=A/\SV x.1.length x.2.2.1/\x.1.length<=400/\∀e∈x.1,Sy A.1 e/\YK e) ?_ ?_
 .refine aJ F g1 (aT ?_);refine aw (ac6 (n:=es.length) (by omega) A s' _ _ hc e2) λy hy=>?_
  refine aM (λh=>?_) λ_=>aj ⟨rfl,e2,D,d⟩
  obtain⟨h1,h2,h3⟩:=hy h;refine a! (aj ⟨rfl,?_,by simp;omega,λe he=>?_⟩)
  .dsimp only;rw[bG,bP];exact h1
  .rcases bE.1 he with he|he
   .exact d e he
   .rw[aE]at he;subst he;exact⟨h2,h3⟩
 rintro⟨es',c2,s2,z2⟩ ⟨k1,k2,k3,k4⟩;dsimp only at k1 k2 k3 k4;subst k1;refine aj ?_;dsimp only;rw[ic (n:=i+1) (by omega) (by omega)];exact⟨⟨by omega,rfl,k2,k3,k4⟩,by omega⟩
def ao3 (c:CT) (l:Y Γ) (d:CB c) (D:l! l<=9223372036854775806):Ok (Bb (c,l)) λy=>TR y.1:=by
 unfold Bb;refine aw (Np c d) λb F=>?_
 refine di (λ_=>aj ⟨by simp,λe he=>(by cases he)⟩) λh=>?_
 have L:=F h;refine aw (YA c d) λs A=>?_
 refine aw (ajq c s l d A D) λy z=>aj ?_
 exact⟨by have:=z.1;dsimp only;omega,λe he=>(z.2 e he).2⟩
def YL (l:η) (d:l! l<=1000000):Ok (pN l) λy=>l! y=l! l:=by
 unfold pN bR bI bY bc c7 aH cS;refine cC (l! l) (λi x=>x.1=(i:Int)/\l! x.2=i) ?_ ?_ ⟨rfl,rfl⟩
 .rintro i ⟨a,b⟩ hi ⟨e1,e2⟩;dsimp only at e1 e2;subst e1;refine aW (λ_=>?_) λg=>(by dsimp only[ak]at g;omega)
  refine eQ (aT (eQ (aT (a! (aj ?_)))));dsimp only;exact⟨fA,by simp;omega⟩
 .rintro⟨a,b⟩ ⟨e1,e2⟩;dsimp only at e1 e2;subst e1;exact aW (λg=>(by dsimp only[ak]at g;omega)) λ_=>aj e2
def ft (e:Xp):eD (Xp.op e,Xp.n e,Xp.name e,Xp.l e)=e:=by cases e;rfl
def AS (s:Sx):pO (Sx.op s,Sx.line s,Sx.name s,Sx.arg s,Sx.index s,Sx.expr s,Sx.body s,Sx.els s)=s:=by cases s;rfl
def GE:Nat->Xp->Prop
 |0,_=>False
 |d+1,e=>(e.op=3->e.name=[113])/\(e.op≠1->e.op≠2->1<=l! e.l)/\l! e.l<=2/\∀x∈e.l,GE d x
def GE.mono:∀{d:Nat} {e:Xp},GE d e->GE (d+1) e
 |0,_,h=>h.elim
 |_+1,_,h=>⟨h.1,h.2.1,h.2.2.1,λx z=>(h.2.2.2 x z).mono⟩
def GE.le {e:Xp} (h:GE i e) (A:i<=j):GE j e:=by
 induction A with
 |refl=>exact h
 |step _ z=>exact z.mono
def Q2 (n:Int):sV n=Z (.mk 1 n [] []):=rfl
def Kd (s:ζ):qS s=Z (.mk 2 0 s []):=rfl
def Hq (o:Int) (a b:Xp):o6 (o,a,b)=Z (.mk o 0 [] [a,b]):=by
 cases a;cases b;rfl
def vk (s:ζ) (e:Xp):kq (s,e)=Z (.mk 1 0 s [] [] e [] []):=by
 cases e;rfl
abbrev MK:Type:=S?
abbrev Si:Type:=n?
abbrev HD:Type:=Bool×Y ζ
def GE.num (n:Int) (d:Nat):GE (d+1) (.mk 1 n [] []):=⟨nofun,λh=>(h rfl).elim,by simp[Xp.l],λx z=>(by cases z)⟩
def GE.nm (s:ζ) (d:Nat):GE (d+1) (.mk 2 0 s []):=⟨nofun,λ_ h=>(h rfl).elim,by simp[Xp.l],λx z=>(by cases z)⟩
def GE.bin {o b:Xp} (A:a≠3) (F:GE i o) (D:GE i b):GE (i+1) (.mk a 0 [] [o,b]):=
 ⟨λh=>(A h).elim,λ_ _=>by simp[Xp.l],by simp[Xp.l],λx z=>by
   simp only[Xp.l,bm,cI,gy]at z;rcases z with rfl|rfl
   .exact F
   .exact D⟩
def GE.ix {a:Xp} (A:GE i a):GE (i+1) (.mk 3 0 [113] [a]):=
 ⟨λ_=>rfl,λ_ _=>by simp[Xp.l],by simp[Xp.l],λx z=>by
   simp only[Xp.l,bm,cI,gy]at z;rw[z];exact A⟩
def Fm:∀(n d:Nat),d<n->d<=10->∀(m:MK) (t:Si) (h:HD),TP t->Ok (iQ n ((d:Int),m,t,h)) λy=>GE (d+1) y.1/\y.2.1=m/\wC t y.2.2.1/\y.2.2.2=h
 |0,d,hd,_,_,_,_,_=>by omega
 |n+1,d,hd,h10,m,t,h,ht=>by
  rw[AH];unfold ph aY bi bN cW cY bn bR bI jZ bc aH;refine aw (gI 10 t ht) λy A=>?_
  obtain⟨k,t1⟩:=y;obtain⟨F,k0,k1,_⟩:=A;have k1:=k1 (by decide);dsimp only at F k0 k1;refine aV (λx=>x.2=(m,t1,h,(0,0,[]),[[97],[98],[120],[121],[118],[120],[121]])/\(x.1=aa->2<=k/\(d=0->k<7))) ?_ ?_
  .refine aW (λ_=>aj ⟨rfl,nofun⟩) λg=>aK (λg2=>aj ⟨rfl,λg3=>⟨g,λ_=>?_⟩⟩) λg2=>aj ⟨rfl,λ_=>⟨g,λh=>(g2 (by dsimp only;omega)).elim⟩⟩
   dsimp only at g3;rw[ms]at g3;exact g3
  rintro⟨b,x⟩ ⟨e,hb⟩;dsimp only at e hb;subst e;refine aM (λ_=>?_) λg=>?_
  .refine aw (gI 4 t1 F.p) λy A=>?_
   refine aQ (Q2 _) (aj ?_);exact⟨GE.num _ _,rfl,F.trans A.1,rfl⟩
  obtain⟨q0,q1⟩:=hb g;refine aW (λg=>?_) λg=>?_
  .refine aw (gI _ t1 F.p) λy A=>?_
   obtain⟨u1,L,D,_⟩:=A;have D:=D (show (1:Int)<=7 by decide);refine aJ L D (aJ L D (aT ?_));refine aQ (Kd _) (aj ?_);exact⟨GE.nm _ _,rfl,F.trans u1,rfl⟩
  dsimp only at g;have hd0:d≠0:=λh=>by have:=q1 h;omega
  obtain⟨d,rfl⟩:∃k,d=k+1:=⟨d-1,by omega⟩
  refine aK (λg=>?_) λg=>?_
  .refine aw (Fm n 0 (by omega) (by omega) m t1 h F.p) λy A=>?_
   obtain⟨e,m',t',h'⟩:=y;obtain⟨v1,v2,N,v4⟩:=A;dsimp only at v1 v2 N v4;subst v2 v4;refine a9 (by simp) (aj ?_);dsimp only;rw[ft];exact⟨(GE.ix (v1.le (by omega):GE (d+1) e)),rfl,F.trans N,rfl⟩
  .refine aw (gI _ t1 F.p) λy A=>?_
   obtain⟨k2,t2⟩:=y;obtain⟨u1,L,D,_⟩:=A;have D:=D (by decide);dsimp only at u1 L D;refine aJ L D (aJ L D (aT ?_));have ho:geti aP [6,7,8,11,13,17] k2≠(3:Int):=by
    have h1:=bZ (T:=aP) (xs:=([6,7,8,11,13,17]:η)) L D;have:∀z:Int,z∈([6,7,8,11,13,17]:η)->z≠3:=by decide
    exact this _ h1
   have ew:be .i64 (((d+1:Nat):Int)-1)=(d:Int):=by rw[ic];omega
   dsimp only;rw[ew];refine aw (Fm n d (by omega) (by omega) m t2 h u1.p) λy A=>?_
   obtain⟨e,m',t',h'⟩:=y;obtain⟨v1,v2,N,v4⟩:=A;dsimp only at v1 v2 N v4;subst v2 v4;refine a9 (by simp) ?_;refine aw (Fm n d (by omega) (by omega) m' t' h' N.p) λy A=>?_
   obtain⟨e2,m2,t2',h2⟩:=y;obtain⟨w1,w2,w3,w4⟩:=A;dsimp only at w1 w2 w3 w4;subst w2 w4;refine a9 (by simp) ?_;refine aQ (Hq _ _ _) (aj ?_);dsimp only;rw[ft];exact⟨GE.bin ho v1 w1,rfl,F.trans (u1.trans (N.trans w3)),rfl⟩
def aes (d:Nat) (hd:d<=10) (m:MK) (t:Si) (h:HD) (ht:TP t):Ok (fo ((d:Int),m,t,h)) λy=>GE (d+1) y.1/\y.2.1=m/\wC t y.2.2.1/\y.2.2.2=h:=Fm fuel d (by rw[r8];omega) hd m t h ht
def NE (op:Int):Prop:=op=1\/op=2\/op=3\/op=14
def ZE (e:Xp):Prop:=GE 4 e\/e= .mk 0 0 [] []
def GS:Nat->Sx->Prop
 |0,_=>False
 |d+1,s=>(s.index≠[]->s.name=[113])/\l! s.index<=1/\(∀e∈s.index,GE 4 e)/\(NE s.op->GE 4 s.expr)/\ZE s.expr/\l! s.body<=8/\l! s.els<=8/\(∀x∈s.body,GS d x)/\(∀x∈s.els,GS d x)
def GS.mono:∀{d:Nat} {s:Sx},GS d s->GS (d+1) s
 |0,_,h=>h.elim
 |_+1,_,⟨a,b,c,e,f,g,i,j,k⟩=>⟨a,b,c,e,f,g,i,λx z=>(j x z).mono,λx z=>(k x z).mono⟩
def GS.le {s:Sx} (h:GS i s) (A:i<=j):GS j s:=by
 induction A with
 |refl=>exact h
 |step _ z=>exact z.mono
def GS.asg (s:ζ) {e:Xp} (h:GE 4 e):GS (i+1) (.mk 1 0 s [] [] e [] []):=
 ⟨λh=>(h rfl).elim,by simp[Sx.index],λe he=>(by cases he),λ_=>h,.inl h,by simp[Sx.body],by simp[Sx.els],λx z=>(by cases z),λx z=>(by cases z)⟩
def GS.aix {d e:Xp} (hi:GE 4 d) (h:GE 4 e):GS (i+1) (.mk 1 0 [113] [] [d] e [] []):=
 ⟨λ_=>rfl,by simp[Sx.index],λe he=>(by simp only[Sx.index,aE]at he;rw[he];exact hi),λ_=>h,.inl h,by simp[Sx.body],by simp[Sx.els],λx z=>(by cases z),λx z=>(by cases z)⟩
def GS.we {op:Int} {s a:ζ} {e:Xp} {b l:Y Sx} (h:GE 4 e) (A:l! b<=8) (z:l! l<=8) (F:∀x∈b,GS i x) (D:∀x∈l,GS i x):GS (i+1) (.mk op 0 s a [] e b l):=
 ⟨λh=>(h rfl).elim,by simp[Sx.index],λe he=>(by cases he),λ_=>h,.inl h,A,z,F,D⟩
def GS.wo {op:Int} {s z:ζ} {b:Y Sx} (L:4<=op/\op≠14) (D:l! b<=8) (F:∀x∈b,GS i x):GS (i+1) (.mk op a s z [] (.mk 0 0 [] []) b []):=
 ⟨λh=>(h rfl).elim,by simp[Sx.index],λe he=>(by cases he),λh=>(by have h:op=1\/op=2\/op=3\/op=14:=h;omega),.inr rfl,D,by simp[Sx.els],F,λx A=>(by cases A)⟩
def QS (d:Nat) (n:Int) (t:Si) (h:HD) (y:MK×Si×HD×Y Sx):Prop:=(l! y.2.2.2:Int)<=max 0 n/\(∀s∈y.2.2.2,GS (d+1) s)/\wC t y.2.1/\y.2.2.1.2=h.2
abbrev D!:=MK×Si×HD
def QT (d:Nat) (t:Si) (h:HD) (y:Sx×D!):Prop:=GS (d+1) y.1/\wC t y.2.2.1/\y.2.2.2.2=h.2
def QB (d:Nat) (t:Si) (h:HD) (y:Y Sx×D!):Prop:=l! y.1<=2/\(∀s∈y.1,GS (d+1) s)/\wC t y.2.2.1/\y.2.2.2.2=h.2
abbrev RS:Type:=(Γ×D!)->M (MK×Si×HD×Y Sx)
abbrev RT:Type:=(Int×D!)->M (Sx×D!)
abbrev RBk:Type:=((ζ×Int)×D!)->M (Y Sx×D!)
def SpS (z:RS) (d:Nat):Prop:=∀(n:Int) (m:MK) (t:Si) (h:HD),n<=3->TP t->l! h.2+d<=100->Ok (z (((d:Int),n),m,t,h)) (QS d n t h)
def SpT (z:RT) (d:Nat):Prop:=∀(m:MK) (t:Si) (h:HD),TP t->l! h.2+d<=100->Ok (z ((d:Int),m,t,h)) (QT d t h)
def SpB (z:RBk) (d:Nat):Prop:=∀(s:ζ) (m:MK) (t:Si) (h:HD),TP t->l! h.2+1+d<=100->Ok (z ((s,(d:Int)),m,t,h)) (QB d t h)
def aaq (rs:RS) (L:RT) (rb:RBk) (d:Nat) (ht:SpT L d):SpS (nR rs L rb) d:=by
 intro n m t h hn hp hh;unfold nR aY bi bt bN cW cY bn bR bI c7 aH cS eA;refine nL (λx=>(n-x.1).toNat) (λx=>0<=x.1/\(x.1<=n\/x.1=0)/\wC t x.2.2.1/\(l! x.2.2.2.1:Int)<=x.1/\(∀s∈x.2.2.2.1,GS (d+1) s)/\x.2.2.2.2.2=h.2) ?_ ⟨eE _,.inr rfl,wC.refl hp,by simp,λs hs=>(by cases hs),rfl⟩;rintro⟨(i:Int),m',F,l,h'⟩ ⟨i0,i1,e1,e2,D,A⟩;dsimp only at i0 i1 e1 e2 D A;refine aV (λx=>x.2=(m',F,l,h')/\(x.1=J->i<n)) ?_ ?_
 .refine aW (λg=>aK (λ_=>aj ⟨rfl,λ_=>g⟩) λ_=>aj ⟨rfl,λ_=>g⟩) λ_=>aj ⟨rfl,nofun⟩
 rintro⟨b,x⟩ ⟨f1,N⟩;dsimp only at f1 N;subst f1;refine aM (λhb=>?_) λ_=>aj ⟨by dsimp only;omega,D,e1,A⟩
 have g:=N hb;refine aw (ht m' F h' e1.p (by rw[A];exact hh)) λy hy=>?_
 obtain⟨s,m2,t2,h2⟩:=y;obtain⟨k1,k2,k3⟩:=hy;dsimp only at k1 k2 k3;refine a9 (by simp) (a! (aj ?_));dsimp only;rw[ft,AS,ic (n:=i+1) (by omega) (by omega)];refine ⟨⟨by omega,by omega,e1.trans k2,by simp;omega,λx z=>?_,k3.trans A⟩,by omega⟩;rcases bE.1 z with z|z
 .exact D x z
 .rw[aE]at z;subst z;exact k1
def aas (F:RS) (rt:RT) (rb:RBk) (d:Nat) (hs:SpS F d):SpB (nS F rt rb) d:=by
 intro s m t h hp hh;unfold nS aY bi bN cW bI bc;refine a! ?_;refine aw (gI 2 t hp) λy D=>?_
 obtain⟨k,N⟩:=y;obtain⟨A,L,z,_⟩:=D;have z:=z (by decide);dsimp only at A L z;have ew:be .i64 (1+k)=1+k:=ic;dsimp only;rw[ew];refine aw (hs (1+k) m N (h.1,h.2++[s]) (by omega) A.p (by simp;omega)) λy D=>?_
 obtain⟨m2,t2,h2,l⟩:=y;obtain⟨k1,k2,k3,k4⟩:=D;dsimp only at k1 k2 k3 k4;refine a9 (by simp) ?_;dsimp only;rw[k4];have el:be .i64 ((aR (l! (h.2++[s])))-1)=(l! h.2:Int):=by
  rw[bG,bP,ic (by simp<;>omega) (by simp<;>omega)];simp<;>omega
 rw[el];refine c6 (a? (te (by simp;omega) (aj ?_)));refine ⟨by dsimp only;omega,k2,A.trans k3,?_⟩;show dg (aS (l! h.2:Int)) (h.2++[s])=h.2;simp
def E_ (s:ζ) (m:MK) (t:Si) (h:HD) (hh:l! h.2<=100):Ok (eT (s,m,t,h)) λy=>y.2=(m,t,h):=by
 unfold eT cW;exact aw (Dr h.2 s (by omega)) λy _=>aj rfl
def afq (rs:RS) (rt:RT) (rb:RBk) (d:Nat) (hd:d<=5) (h0:1<=d->SpS rs 0) (hS:1<=d->SpS rs (d-1)) (hB:1<=d->SpB rb (d-1)):SpT (pg rs rt rb) d:=by
 intro m t h hp hh;unfold pg aY bi bt bN cW cY bn bR bI jZ aH eA;refine aw (gI 18 t hp) λy D=>?_
 obtain⟨k,L⟩:=y;obtain⟨F,k0,k1,_⟩:=D;have k1:=k1 (by decide);dsimp only at F k0 k1;have hE:∀(j:Nat) (m':MK) (t':Si) (h':HD),j<=1->TP t'->Ok (fo ((j:Int),m',t',h')) λy=>GE 4 y.1/\y.2.1=m'/\wC t' y.2.2.1/\y.2.2.2=h':=λj m' t' h' hj ht'=>(aes j (by omega) m' t' h' ht').mono λy D=>⟨D.1.le (by omega),D.2⟩
 have ed:be .i64 ((d:Int)-1)=(d:Int)-1:=ic;have ed1:1<=d->(d:Int)-1=((d-1:Nat):Int):=λ_=>by omega
 refine aV (λx=>x.2=((m.1,be .i64 (m.2.1-1),m.2.2),L,(0,0,[],[],0,0,[]),h)/\(x.1=J->1<=d)) ?_ ?_
 .refine aW (λg=>aT (aW (λ_=>aj ⟨rfl,λ_=>?_⟩) λ_=>aj ⟨rfl,nofun⟩)) λ_=>aj ⟨rfl,nofun⟩
  dsimp only at g;omega
 generalize ((m.1,be .i64 (m.2.1-1),m.2.2):MK)=m0;rintro⟨nest,x⟩ ⟨e,hn⟩;dsimp only at e hn;subst e;refine aW (λ_=>?_) λg4=>?_
 .refine aJ k0 (by dsimp only[ah];omega) (aJ k0 (by dsimp only[ah];omega) (aT ?_));refine aw (hE 1 m0 L h (by omega) F.p) λy D=>?_
  obtain⟨e,m2,t2,h2⟩:=y;obtain⟨v1,v2,v3,v4⟩:=D;dsimp only at v1 v2 v3 v4;subst v2 v4;refine a9 (by simp) (aQ (vk _ _) (aj ?_));dsimp only;rw[ft,AS];exact⟨GS.asg _ v1,F.trans v3,rfl⟩
 dsimp only at g4;refine aK (λ_=>?_) λg5=>?_
 .refine aw (gI 2 L F.p) λy D=>?_
  obtain⟨u1,u2,u3,_⟩:=D;have u3:=u3 (by decide);refine aJ u2 u3 (aJ u2 u3 (aT ?_));refine aw (hE 1 m0 y.2 h (by omega) u1.p) λz N=>?_
  obtain⟨e,m2,t2,h2⟩:=z;obtain⟨v1,v2,v3,v4⟩:=N;dsimp only at v1 v2 v3 v4;subst v2 v4;refine a9 (by simp) (aQ (vk _ _) (aj ?_));dsimp only;rw[ft,AS];exact⟨GS.asg _ v1,F.trans (u1.trans v3),rfl⟩
 dsimp only at g5;refine aK (λ_=>?_) λg6=>?_
 .refine aw (hE 0 m0 L h (by omega) F.p) λz N=>?_
  obtain⟨e,m2,t2,h2⟩:=z;obtain⟨v1,v2,v3,v4⟩:=N;dsimp only at v1 v2 v3 v4;subst v2 v4;refine a9 (by simp) ?_;refine aw (hE 1 m2 t2 h2 (by omega) v3.p) λz N=>?_
  obtain⟨e',m3,t3,h3⟩:=z;obtain⟨w1,w2,w3,w4⟩:=N;dsimp only at w1 w2 w3 w4;subst w2 w4;refine a9 (by simp) (aj ?_);dsimp only;rw[ft,ft];exact⟨GS.aix v1 w1,F.trans (v3.trans w3),rfl⟩
 dsimp only at g6;have N:∀(c:Prop),c->c:=λ_ h=>h
 have dd:1<=d->d-1+1=d:=λ_=>by omega
 have w8:8<=k->be .i64 (k-8)=k-8:=λ_=>ic
 refine aV (λx=>x.2=(m0,L,(0,0,[],[],0,0,[]),h)/\(x.1=J->1<=d)) ?_ ?_
 .refine aK (λ_=>aj ⟨rfl,λg=>?_⟩) λ_=>aj ⟨rfl,nofun⟩
  dsimp only at g;rw[mV]at g;omega
 rintro⟨b,x⟩ ⟨e,hb⟩;dsimp only at e hb;subst e;refine aM (λA=>?_) λ_=>?_
 .have d1:=hb A;refine aw (hE 1 m0 L h (by omega) F.p) λz N=>?_
  obtain⟨e,m2,t2,h2⟩:=z;obtain⟨v1,v2,v3,v4⟩:=N;dsimp only at v1 v2 v3 v4;subst v2 v4;refine a9 (by simp) ?_;dsimp only;rw[ed,ed1 d1];refine aw (hS d1 1 m2 t2 h2 (by omega) v3.p (by omega)) λz N=>?_
  obtain⟨m3,t3,h3,l⟩:=z;obtain⟨w1,w2,w3,w4⟩:=N;dsimp only at w1 w2 w3 w4;rw[dd d1]at w2;refine a9 (by simp) ?_;refine aV (λx=>x.2.2.2.1=(2,0,[],[],e.op,e.n,e.name,e.l)/\wC L x.2.1/\x.2.2.2.2.1.2=h2.2/\x.2.2.2.2.2.1=l/\l! x.2.2.2.2.2.2<=8/\∀s∈x.2.2.2.2.2.2,GS d s) ?_ ?_
  .refine aw (gI 2 t3 w3.p) λy D=>?_
   refine aK (λ_=>?_) λ_=>aj ⟨rfl,v3.trans (w3.trans D.1),w4,rfl,by simp,λs hs=>(by cases hs)⟩
   dsimp only;refine aw (hS d1 1 m3 y.2 h3 (by omega) D.1.p (by rw[w4];omega)) λz N=>?_
   obtain⟨m4,t4,h4,l2⟩:=z;obtain⟨x1,x2,x3,x4⟩:=N;dsimp only at x1 x2 x3 x4;rw[dd d1]at x2;exact a9 (by simp) (aj ⟨rfl,v3.trans (w3.trans (D.1.trans x3)),x4.trans w4,rfl,by dsimp only;omega,x2⟩)
  rintro⟨m5,t5,z5,e5,h5,l5,l6⟩ ⟨x1,x2,x3,x4,x5,x6⟩;dsimp only at x1 x2 x3 x4 x5 x6;subst x1 x4;refine aj ?_;dsimp only;rw[ft];exact⟨GS.we v1 (by first|omega|(dsimp only;omega)) x5 w2 x6,F.trans x2,x3⟩
 refine aV (λx=>x.2=(m0,L,(0,0,[],[],0,0,[]),h)/\(x.1=J->1<=d)) ?_ ?_
 .refine aK (λ_=>aj ⟨rfl,λg=>?_⟩) λ_=>aj ⟨rfl,nofun⟩
  dsimp only at g;rw[mV]at g;omega
 rintro⟨b,x⟩ ⟨e,hb⟩;dsimp only at e hb;subst e;refine aM (λA=>?_) λ_=>?_
 .have d1:=hb A;refine aQ (Kd _) (aQ (Q2 _) (aQ (Hq _ _ _) ?_));dsimp only;rw[ed,ed1 d1];refine aw (hS d1 1 _ L h (by omega) F.p (by omega)) λz N=>?_
  obtain⟨m3,t3,h3,l⟩:=z;obtain⟨w1,w2,w3,w4⟩:=N;dsimp only at w1 w2 w3 w4;rw[dd d1]at w2;refine a9 (by simp) ?_;refine aQ (Kd _) (aQ (Q2 _) (aQ (Hq _ _ _) (aQ (vk _ _) ?_)));refine a! (aj ?_);dsimp only;rw[ft,ft,AS];refine ⟨GS.we (GE.bin (by omega) (GE.nm _ 2) (GE.num _ 2)) (by simp;omega) (by simp) (λx hx=>?_) (λx hx=>(by cases hx)),F.trans w3,w4⟩;rcases bE.1 hx with hx|hx
  .exact w2 x hx
  .rw[aE]at hx;subst hx;rw[<- dd d1];exact GS.asg _ (GE.bin (by omega) (GE.nm _ 2) (GE.num _ 2))
 refine aV (λx=>x.2=(m0,L,(0,0,[],[],0,0,[]),h)/\(x.1=J->nest=J/\(k=8\/k=9))) ?_ ?_
 .refine aK (λg=>aM (λgn=>?_) λ_=>aj ⟨rfl,nofun⟩) λ_=>aK (λg=>aM (λgn=>?_) λ_=>aj ⟨rfl,nofun⟩) λ_=>aj ⟨rfl,nofun⟩
  all_goals
   dsimp only at g ⊢;rw[w8 (by omega)];refine aJ (by omega) (by simp;omega) (aJ (by omega) (by simp;omega) (aT ?_));refine aw (E_ _ m0 L h (by omega)) λy D=>?_
   obtain⟨yb,y2⟩:=y;dsimp only at D;subst D;exact a9 (by simp) (aj ⟨rfl,λ_=>⟨gn,by omega⟩⟩)
 rintro⟨b,x⟩ ⟨e,hb⟩;dsimp only at e hb;subst e;refine aM (λA=>?_) λ_=>?_
 .obtain⟨q1,q2⟩:=hb A;have d1:=hn q1;dsimp only;rw[w8 (by omega),ed,ed1 d1];refine aJ (by omega) (by simp;omega) (aJ (by omega) (by simp;omega) (aT ?_));refine aw (hB d1 _ m0 L h F.p (by omega)) λz N=>?_
  obtain⟨l,m3,t3,h3⟩:=z;obtain⟨w1,w2,w3,w4⟩:=N;dsimp only at w1 w2 w3 w4;rw[dd d1]at w2;exact a9 (by simp) (aj ⟨GS.wo (by omega) (by first|omega|(dsimp only;omega)) w2,F.trans w3,w4⟩)
 refine aV (λx=>x.2=(m0,L,(0,0,[],[],0,0,[]),h)/\(x.1=J->nest=J/\(k=10\/k=11))) ?_ ?_
 .refine aK (λg=>aM (λgn=>?_) λ_=>aj ⟨rfl,nofun⟩) λ_=>aK (λg=>aM (λgn=>?_) λ_=>aj ⟨rfl,nofun⟩) λ_=>aj ⟨rfl,nofun⟩
  all_goals
   dsimp only at g ⊢;refine aw (E_ _ m0 L h (by omega)) λy D=>?_
   obtain⟨yb,y2⟩:=y;dsimp only at D;subst D;exact a9 (by simp) (aj ⟨rfl,λ_=>⟨gn,by omega⟩⟩)
 rintro⟨b,x⟩ ⟨e,hb⟩;dsimp only at e hb;subst e;refine aM (λA=>?_) λ_=>?_
 .obtain⟨q1,q2⟩:=hb A;have d1:=hn q1;dsimp only;rw[ed,ed1 d1,ic (n:=k-10) (by omega) (by omega),ic (n:=k-10+5) (by omega) (by omega)];refine aw (hB d1 _ m0 L h F.p (by omega)) λz N=>?_
  obtain⟨l,m3,t3,h3⟩:=z;obtain⟨w1,w2,w3,w4⟩:=N;dsimp only at w1 w2 w3 w4;rw[dd d1]at w2;exact a9 (by simp) (aj ⟨GS.wo (by omega) (by first|omega|(dsimp only;omega)) w2,F.trans w3,w4⟩)
 refine aV (λx=>x.2=(m0,L,(0,0,[],[],0,0,[]),h)/\(x.1=J->nest=J)) ?_ ?_
 .exact aK (λ_=>aj ⟨rfl,λg=>g⟩) λ_=>aj ⟨rfl,nofun⟩
 rintro⟨b,x⟩ ⟨e,hb⟩;dsimp only at e hb;subst e;refine aM (λA=>?_) λ_=>?_
 .have d1:=hn (hb A);refine aw (gI 2 L F.p) λy D=>?_
  obtain⟨u1,u2,u3,_⟩:=D;have u3:=u3 (by decide);dsimp only;rw[ic (n:=1+y.1) (by omega) (by omega)];refine aw (h0 d1 (1+y.1) _ y.2 h (by omega) u1.p (by omega)) λz N=>?_
  obtain⟨m3,t3,h3,l⟩:=z;obtain⟨w1,w2,w3,w4⟩:=N;dsimp only at w1 w2 w3 w4;exact a9 (by simp) (aj ⟨GS.wo (by omega) (by first|omega|(dsimp only;omega)) (λx hx=>(w2 x hx).le (by omega)),F.trans (u1.trans w3),w4⟩)
 refine aV (λx=>x.2=(m0,L,(0,0,[],[],0,0,[]),h)/\(x.1=J->nest=J)) ?_ ?_
 .exact aK (λ_=>aM (λgn=>aj ⟨rfl,λ_=>gn⟩) λ_=>aj ⟨rfl,nofun⟩) λ_=>aj ⟨rfl,nofun⟩
 rintro⟨b,x⟩ ⟨e,hb⟩;dsimp only at e hb;subst e;refine aM (λA=>?_) λ_=>?_
 .have d1:=hn (hb A);dsimp only;rw[ed,ed1 d1];refine aw (hS d1 2 _ L h (by omega) F.p (by omega)) λz N=>?_
  obtain⟨m3,t3,h3,l⟩:=z;obtain⟨w1,w2,w3,w4⟩:=N;dsimp only at w1 w2 w3 w4;rw[dd d1]at w2;exact a9 (by simp) (aj ⟨GS.wo (by omega) (by first|omega|(dsimp only;omega)) w2,F.trans w3,w4⟩)
 refine aV (λx=>x.2=(m0,L,(0,0,[],[],0,0,[]),h)/\(x.1=J->nest=J)) ?_ ?_
 .refine aK (λ_=>aM (λgn=>aM (λ_=>?_) λ_=>aj ⟨rfl,nofun⟩) λ_=>aj ⟨rfl,nofun⟩) λ_=>aj ⟨rfl,nofun⟩
  refine aw (E_ _ m0 L h (by omega)) λy D=>?_
  obtain⟨yb,y2⟩:=y;dsimp only at D;subst D;exact a9 (by simp) (aj ⟨rfl,λ_=>gn⟩)
 rintro⟨b,x⟩ ⟨e,hb⟩;dsimp only at e hb;subst e;refine aM (λA=>?_) λ_=>?_
 .have d1:=hn (hb A);refine aQ (Kd _) (aQ (vk _ _) (aj ?_));dsimp only;rw[ft,AS];refine ⟨GS.wo (by omega) (by simp) (λx hx=>?_),F,rfl⟩;simp only[bm,cI,gy]at hx;rw[<- dd d1];rcases hx with rfl|rfl
  .exact GS.wo (by omega) (by simp) (λx hx=>(by cases hx))
  .exact GS.asg _ (GE.nm _ 3)
 refine aV (λx=>x.2=(m0,L,(0,0,[],[],0,0,[]),h)/\(x.1=J->nest=J)) ?_ ?_
 .refine aK (λ_=>aM (λgn=>?_) λ_=>aj ⟨rfl,nofun⟩) λ_=>aj ⟨rfl,nofun⟩
  refine aw (E_ _ m0 L h (by omega)) λy D=>?_
  obtain⟨yb,y2⟩:=y;dsimp only at D;subst D;exact a9 (by simp) (aj ⟨rfl,λ_=>gn⟩)
 rintro⟨b,x⟩ ⟨e,hb⟩;dsimp only at e hb;subst e;refine aM (λA=>?_) λ_=>?_
 .have d1:=hn (hb A);refine aw (gI 2 L F.p) λy D=>aj ?_
  obtain⟨u1,u2,u3,_⟩:=D;have u3:=u3 (by decide);dsimp only;rw[ic (n:=10+y.1) (by omega) (by omega)];refine ⟨GS.wo (by omega) (by simp) (λx hx=>?_),F.trans u1,rfl⟩;simp only[bm,cI,gy]at hx;rw[hx,<-dd d1];exact GS.wo (by omega) (by simp) (λx hx=>(by cases hx))
 refine aV (λx=>x.2=(m0,L,(0,0,[],[],0,0,[]),h)) ?_ ?_
 .exact aK (λ_=>aM (λ_=>aM (λ_=>aj rfl) λ_=>aj rfl) λ_=>aj rfl) λ_=>aj rfl
 rintro⟨b,x⟩ e;dsimp only at e;subst e;refine aM (λA=>?_) λ_=>?_
 .refine aw (hE 1 _ L h (by omega) F.p) λz N=>?_
  obtain⟨e,m2,t2,h2⟩:=z;obtain⟨v1,v2,v3,v4⟩:=N;dsimp only at v1 v2 v3 v4;subst v2 v4;refine a9 (by simp) (aj ?_);dsimp only;rw[ft];exact⟨GS.we v1 (by simp) (by simp) (λx hx=>(by cases hx)) (λx hx=>(by cases hx)),F.trans v3,rfl⟩
 refine aV (λx=>x.2.1=m0/\wC L x.2.2.1/\x.2.2.2.2=h) ?_ ?_
 .refine aK (λ_=>aM (λ_=>?_) λ_=>aj ⟨rfl,wC.refl F.p,rfl⟩) λ_=>aj ⟨rfl,wC.refl F.p,rfl⟩
  exact aw (gI 2 L F.p) λy D=>aj ⟨rfl,D.1,rfl⟩
 rintro⟨b,m9,t9,z9,h9⟩ ⟨e1,e2,e3⟩;dsimp only at e1 e2 e3;subst e1 e3;refine aM (λA=>?_) λ_=>?_
 .exact aj ⟨GS.wo (by omega) (by simp) (λx hx=>(by cases hx)),F.trans e2,rfl⟩
 refine aw (hE 1 _ t9 h9 (by omega) e2.p) λz N=>?_
 obtain⟨e,m2,t2,h2⟩:=z;obtain⟨v1,v2,v3,v4⟩:=N;dsimp only at v1 v2 v3 v4;subst v2 v4;refine a9 (by simp) (aQ (vk _ _) (aj ?_));dsimp only;rw[ft,AS];exact⟨GS.asg _ v1,F.trans (e2.trans v3),rfl⟩
def PS:∀(n:Nat),(∀d:Nat,d<=5->3*d+1<=n->SpT (eK n) d)/\(∀d:Nat,d<=5->3*d+2<=n->SpS (dU n) d)/\(∀d:Nat,d<=5->3*d+3<=n->SpB (ej n) d)
 |0=>⟨λd _ h=>by omega,λd _ h=>by omega,λd _ h=>by omega⟩
 |n+1=>by
  obtain⟨A,z,D⟩:=PS n;refine ⟨λd h1 h2=>?_,λd h1 h2=>?_,λd h1 h2=>?_⟩
  .exact afq (dU n) (eK n) (ej n) d h1 (λh=>z 0 (by omega) (by omega)) (λh=>z (d-1) (by omega) (by omega)) (λh=>D (d-1) (by omega) (by omega))
  .exact aaq (dU n) (eK n) (ej n) d (A d h1 (by omega))
  .exact aas (dU n) (eK n) (ej n) d (z d h1 (by omega))
def aa9 (d:Nat) (hd:d<=5):SpS rQ d:=(PS fuel).2.1 d hd (by rw[r8];omega)
def GX:Nat->Xp->Prop
 |0,_=>False
 |d+1,e=>l! e.l<=2/\∀x∈e.l,GX d x
def GE.x:∀{d:Nat} {e:Xp},GE d e->GX d e
 |0,_,h=>h.elim
 |_+1,_,h=>⟨h.2.2.1,λx z=>(h.2.2.2 x z).x⟩
def ZE.x {e:Xp} (h:ZE e):GX 4 e:=by
 rcases h with h|rfl
 .exact h.x
 .exact⟨by simp[Xp.l],λx d=>(by cases d)⟩
def GT:Nat->Sx->Prop
 |0,_=>False
 |d+1,s=>l! s.index<=1/\(∀e∈s.index,GX 4 e)/\GX 4 s.expr/\l! s.body<=8/\l! s.els<=8/\(∀x∈s.body,GT d x)/\(∀x∈s.els,GT d x)
def GS.t:∀{d:Nat} {s:Sx},GS d s->GT d s
 |0,_,h=>h.elim
 |_+1,_,⟨_,b,c,_,f,g,i,j,k⟩=>⟨b,λe he=>(c e he).x,f.x,g,i,λx z=>(j x z).t,λx z=>(k x z).t⟩
def AE (s:Sx):pO (Sx.op s,Sx.line s,Sx.name s,Sx.arg s,Sx.index s,eD (Xp.op (Sx.expr s),Xp.n (Sx.expr s),Xp.name (Sx.expr s),Xp.l (Sx.expr s)),Sx.body s,Sx.els s)=s:=by
 rw[ft,AS]
def V3 (k:Int):Ok (pK k) λ_=>True:=by
 unfold pK bn jR aH;with_reducible repeat' first|apply OS.ok;constructor|refine IM.mk λ_=>?_
 all_goals trivial
def sn (e:Xp):Ok (sS e) λ_=>True:=by
 unfold sS bn aH;with_reducible repeat' first|apply OS.ok;constructor|refine IM.mk λ_=>?_
 all_goals trivial
def Bs:∀(n d:Nat) (e:Xp),d<n->GX d e->Ok (jX n e) λ_=>True
 |0,_,_,h,_=>by omega
 |n+1,0,_,_,h=>h.elim
 |n+1,d+1,e,F,h=>by
  obtain⟨h1,h2⟩:=h;rw[Bm];unfold qA bn bR iK bY c7 aH cS;refine aV (λx=>x.2=e) (aK (λ_=>aj (ft e)) λ_=>aj (ft e)) ?_;rintro⟨b,x⟩ D;dsimp only at D;subst D;refine aV (λy=>y.2=x) ?_ ?_
  .refine aw (V3 _) λ_ _=>?_
   with_reducible repeat' first|refine cj (λ_=>?_) λ_=>?_|refine aW (λ_=>?_) λ_=>?_|refine di (λ_=>?_) λ_=>?_|refine aM (λ_=>?_) λ_=>?_|exact aj (ft x)|refine aw (iT _) λ_ _=>?_
  rintro⟨L,y⟩ A;dsimp only at A;subst A;refine aM (λ_=>aj trivial) λ_=>?_
  refine cC (l! y.l) (λi x=>x.1=(i:Int)/\x.2=y) ?_ ?_ ⟨rfl,ft y⟩
  .rintro i ⟨a,z⟩ hi ⟨e1,e2⟩;dsimp only at e1 e2;subst e1 e2;refine aW (λ_=>?_) λg=>(by dsimp only[ak]at g;omega)
   refine eQ (aT ?_);refine aw (Bs n d _ (by omega) (h2 _ (bZ (T:=.ex) (xs:=z.l) (j:=(i:Int)) (by omega) (by omega)))) λ_ _=>?_
   refine di (λ_=>aj trivial) λ_=>aj ?_
   dsimp only;exact⟨fA,ft z⟩
  .rintro⟨a,z⟩ ⟨e1,e2⟩;dsimp only at e1 e2;subst e1 e2;exact aW (λg=>(by dsimp only[ak]at g;omega)) λ_=>aj trivial
def gF (e:Xp) (h:GX 4 e):Ok (lx e) λ_=>True:=Bs fuel 4 e (by rw[r8];omega) h
abbrev S!:=Int×Int×ζ×Int×Int×ζ
def NX (d:S!):Ok (nj d) λ_=>True:=by
 unfold nj aY bi b7 dN bn bR iK aH;refine aV (λ_=>True) ?_ λx _=>aM (λ_=>aj trivial) λ_=>?_
 .with_reducible repeat' first|refine cj (λ_=>?_) λ_=>?_|refine aW (λ_=>?_) λ_=>?_|refine di (λ_=>?_) λ_=>?_|exact aj trivial|refine aw (iT _) λ_ _=>?_
 refine aV (λ_=>True) ?_ λx _=>aM (λ_=>aj trivial) λ_=>?_
 .with_reducible repeat' first|refine cj (λ_=>?_) λ_=>?_|refine aK (λ_=>?_) λ_=>?_|refine di (λ_=>?_) λ_=>?_|exact aj trivial|refine aw (iT _) λ_ _=>?_
 with_reducible repeat' first|apply OS.ok;constructor|refine IM.mk λ_=>?_
 all_goals trivial
def Jr (d:Sx->M Bool) (z:Y Sx->M Bool) (l:Y Sx) (A:l! l<=1000) (h:∀s∈l,Ok (d s) λ_=>True):Ok (pf d z l) λ_=>True:=by
 unfold pf bR kj bc c7 aH cS;refine cC (l! l) (λi x=>x=(i:Int)) ?_ ?_ rfl
 .rintro i x hi rfl;refine aW (λ_=>?_) λg=>(by dsimp only[ak]at g;omega)
  refine eQ ?_;refine aw (h _ (bZ (T:=.sm) (xs:=l) (j:=(i:Int)) (by omega) (by omega))) λ_ _=>?_
  exact di (λ_=>aj trivial) λ_=>aj fA
 .rintro x rfl;exact aW (λg=>(by dsimp only[ak]at g;omega)) λ_=>aj trivial
def L3 (A:Sx->M Bool) (z:Y Sx->M Bool) (s:Sx) (h1:∀e∈s.index,GX 4 e) (h2:GX 4 s.expr) (D:Ok (z s.body) λ_=>True) (he:Ok (z s.els) λ_=>True):Ok (qu A z s) λ_=>True:=by
 unfold qu bn bR jR iK bY aH eA;refine aV (λx=>x.2=s) ?_ ?_
 .with_reducible repeat' first|refine cj (λ_=>?_) λ_=>?_|refine aK (λ_=>?_) λ_=>?_|refine aW (λ_=>?_) λ_=>?_|refine dW (λ_=>?_) λ_=>?_|refine di (λ_=>?_) λ_=>?_|refine aM (λ_=>?_) λ_=>?_|exact aj (AE _)|refine aw (iT _) λ_ _=>?_|refine aw (sn _) λ_ _=>?_|refine aw (gF _ h2x) λ_ _=>?_
 rintro⟨b,x⟩ d;dsimp only at d;have d:=d.symm;subst d;refine aM (λ_=>aj trivial) λ_=>?_
 refine aV (λx=>x.2=s) ?_ ?_
 .with_reducible repeat' first|refine cj (λ_=>?_) λ_=>?_|refine aK (λ_=>?_) λ_=>?_|refine aW (λ_=>?_) λ_=>?_|refine dW (λ_=>?_) λ_=>?_|refine di (λ_=>?_) λ_=>?_|refine aM (λ_=>?_) λ_=>?_|exact aj (AE _)|refine aw (iT _) λ_ _=>?_|refine aw (sn _) λ_ _=>?_|refine aw (gF _ h2x) λ_ _=>?_
 rintro⟨b,x⟩ d;dsimp only at d;have d:=d.symm;subst d;refine aV (λx=>x.2=s) ?_ ?_
 .with_reducible repeat' first|refine cj (λ_=>?_) λ_=>?_|refine aK (λ_=>?_) λ_=>?_|refine aW (λ_=>?_) λ_=>?_|refine dW (λ_=>?_) λ_=>?_|refine di (λ_=>?_) λ_=>?_|refine aM (λ_=>?_) λ_=>?_|exact aj (AE _)|refine aw (iT _) λ_ _=>?_|refine aw (sn _) λ_ _=>?_|refine aw (gF _ h2x) λ_ _=>?_
 rintro⟨b,x⟩ d;dsimp only at d;have d:=d.symm;subst d;refine aM (λ_=>aj trivial) λ_=>?_
 refine aV (λx=>x.2=s) ?_ ?_
 .with_reducible repeat' first|refine cj (λ_=>?_) λ_=>?_|refine aK (λ_=>?_) λ_=>?_|refine aW (λ_=>?_) λ_=>?_|refine dW (λ_=>?_) λ_=>?_|refine di (λ_=>?_) λ_=>?_|refine aM (λ_=>?_) λ_=>?_|exact aj (AE _)|refine aw (iT _) λ_ _=>?_|refine aw (sn _) λ_ _=>?_|refine aw (gF _ h2x) λ_ _=>?_
 rintro⟨b,x⟩ d;dsimp only at d;have d:=d.symm;subst d;refine aM (λ_=>aj trivial) λ_=>?_
 refine aV (λx=>x.2=s) ?_ ?_
 .with_reducible repeat' first|refine cj (λ_=>?_) λ_=>?_|refine aK (λ_=>?_) λ_=>?_|refine aW (λ_=>?_) λ_=>?_|refine dW (λ_=>?_) λ_=>?_|refine di (λ_=>?_) λ_=>?_|refine aM (λ_=>?_) λ_=>?_|exact aj (AE _)|refine aw (iT _) λ_ _=>?_|refine aw (sn _) λ_ _=>?_|refine aw (gF _ h2x) λ_ _=>?_
  all_goals
   rename_i g;dsimp only[ak]at g;refine eQ (aT ?_);refine aw (gF _ (h1 _ (bZ (T:=.ex) (xs:=Sx.index _) (j:=0) (by omega) (by omega)))) λ_ _=>aj (AE _)
 rintro⟨b,x⟩ d;dsimp only at d;have d:=d.symm;subst d;refine aM (λ_=>aj trivial) λ_=>?_
 refine aV (λx=>x.2=s) ?_ ?_
 .with_reducible repeat' first|refine cj (λ_=>?_) λ_=>?_|refine aK (λ_=>?_) λ_=>?_|refine aW (λ_=>?_) λ_=>?_|refine dW (λ_=>?_) λ_=>?_|refine di (λ_=>?_) λ_=>?_|refine aM (λ_=>?_) λ_=>?_|exact aj (AE _)|refine aw (iT _) λ_ _=>?_|refine aw (sn _) λ_ _=>?_|refine aw (gF _ h2x) λ_ _=>?_
 rintro⟨b,x⟩ d;dsimp only at d;have d:=d.symm;subst d;refine aV (λx=>x.2=s) ?_ ?_
 .have h2x:GX 4 (eD (Xp.op (Sx.expr s),Xp.n (Sx.expr s),Xp.name (Sx.expr s),Xp.l (Sx.expr s))):=by rw[ft];exact h2
  with_reducible repeat' first|refine cj (λ_=>?_) λ_=>?_|refine aK (λ_=>?_) λ_=>?_|refine aW (λ_=>?_) λ_=>?_|refine dW (λ_=>?_) λ_=>?_|refine di (λ_=>?_) λ_=>?_|refine aM (λ_=>?_) λ_=>?_|exact aj (AE _)|refine aw (iT _) λ_ _=>?_|refine aw (sn _) λ_ _=>?_|refine aw (gF _ h2x) λ_ _=>?_
 rintro⟨b,x⟩ d;dsimp only at d;have d:=d.symm;subst d;refine aM (λ_=>aj trivial) λ_=>?_
 refine aV (λx=>x.2=s) ?_ ?_
 .with_reducible repeat' first|refine cj (λ_=>?_) λ_=>?_|refine aK (λ_=>?_) λ_=>?_|refine aW (λ_=>?_) λ_=>?_|refine dW (λ_=>?_) λ_=>?_|refine di (λ_=>?_) λ_=>?_|refine aM (λ_=>?_) λ_=>?_|exact aj (AE _)|refine aw (iT _) λ_ _=>?_|refine aw (sn _) λ_ _=>?_|refine aw (gF _ h2x) λ_ _=>?_
 rintro⟨b,x⟩ d;dsimp only at d;have d:=d.symm;subst d;refine aV (λx=>x.2=s) ?_ ?_
 .with_reducible repeat' first|refine cj (λ_=>?_) λ_=>?_|refine aK (λ_=>?_) λ_=>?_|refine aW (λ_=>?_) λ_=>?_|refine dW (λ_=>?_) λ_=>?_|refine di (λ_=>?_) λ_=>?_|refine aM (λ_=>?_) λ_=>?_|exact aj (AE _)|refine aw (iT _) λ_ _=>?_|refine aw (sn _) λ_ _=>?_|refine aw (gF _ h2x) λ_ _=>?_
 rintro⟨b,x⟩ d;dsimp only at d;have d:=d.symm;subst d;refine aM (λ_=>aj trivial) λ_=>?_
 refine aV (λ_=>True) ?_ λ_ _=>aj trivial
 refine aw D λ_ _=>aM (λ_=>aw he λ_ _=>aj trivial) λ_=>aj trivial
def Mc:∀(n:Nat),(∀(d:Nat) (s:Sx),2*d<n->GT d s->Ok (iz n s) λ_=>True)/\(∀(d:Nat) (l:Y Sx),2*d+1<n->l! l<=1000->(∀s∈l,GT d s)->Ok (fS n l) λ_=>True)
 |0=>⟨λd _ h=>by omega,λd _ h=>by omega⟩
 |n+1=>by
  obtain⟨F,z⟩:=Mc n;refine ⟨λd s hd h=>?_,λd l hd D h=>?_⟩
  .cases d with
   |zero=>exact h.elim
   |succ d=>
    obtain⟨_,g2,g3,g4,g5,N,L⟩:=h;exact L3 (iz n) (fS n) s g2 g3 (z d _ (by omega) (by omega) N) (z d _ (by omega) (by omega) L)
  .exact Jr (iz n) (fS n) l D λs A=>F d s (by omega) (h s A)
def Ns (d:Nat) (hd:d<=100) (l:Y Sx) (z:l! l<=1000) (h:∀s∈l,GT d s):Ok (sT l) λ_=>True:=(Mc fuel).2 d l (by rw[r8];omega) z h
abbrev DT:Type:=S!
abbrev HT:Type:=ζ×Int×Y ζ×Y Sx
abbrev PG:Type:=Y DT×Y HT
structure PX (p:PG):Prop where
 d:l! p.1<=100
 t:l! p.2<=8
 l:∀t∈p.2,l! t.2.2.1<=100
 b:∀t∈p.2,l! t.2.2.2<=100
 s:∀t∈p.2,∀s∈t.2.2.2,GT 5 s
def ac7 (p:PG) (h:PX p):Ok (tP p) λ_=>True:=by
 obtain⟨hd,ht,N,hb,L⟩:=h;unfold tP aY bt cY bR bY bc c7 aH cS;refine cC (l! p.1) (λi x=>x.1=(i:Int)/\x.2=p) ?_ ?_ ⟨rfl,rfl⟩
 .rintro i ⟨a,x⟩ hi ⟨e1,e2⟩;dsimp only at e1 e2;subst e1 e2;refine aW (λ_=>?_) λg=>(by dsimp only[ak]at g;omega)
  refine eQ (aT ?_);refine aw (NX _) λ_ _=>?_
  exact di (λ_=>aj trivial) λ_=>aj ⟨fA,rfl⟩
 rintro⟨a,x⟩ ⟨e1,e2⟩;dsimp only at e1 e2;subst e1 e2;refine aW (λg=>(by dsimp only[ak]at g;omega)) λ_=>?_
 refine aw (P:=λ_=>True) ?_ λ_ _=>aj trivial
 refine cC (l! x.2) (λi y=>y.1=(i:Int)/\y.2=x) ?_ ?_ ⟨rfl,rfl⟩
 .rintro i ⟨a,x⟩ hi ⟨e1,e2⟩;dsimp only at e1 e2;subst e1;have e2:=e2.symm;subst e2;refine aW (λ_=>?_) λg=>(by dsimp only[ak]at g;omega)
  refine eQ (aT ?_);have hm:=bZ (T:=uv) (xs:=x.2) (j:=(i:Int)) (by omega) (by omega);have h1:=N _ hm;have h2:=hb _ hm;have D:=L _ hm;revert h1 h2 D;generalize (geti uv x.2 (i:Int))=t;intro h1 h2 D;refine cC (l! t.2.2.1) (λk y=>y.1=(k:Int)/\y.2=(x,t)) ?_ ?_ ⟨rfl,rfl⟩
  .rintro k ⟨a,z⟩ hk ⟨A,d⟩;dsimp only at A d;subst A d;refine aW (λ_=>?_) λg=>(by dsimp only[ak]at g;omega)
   refine eQ (aT ?_);refine aw (iT _) λ_ _=>?_
   exact di (λ_=>aj trivial) λ_=>aj ⟨fA,rfl⟩
  .rintro⟨a,z⟩ ⟨A,d⟩;dsimp only at A d;subst A d;refine aW (λg=>(by dsimp only[ak]at g;omega)) λ_=>?_
   refine aw (P:=λr=>match r with|.inl y=>y.1=((i+1:Nat):Int)/\y.2=x|.inr _=>True) ?_ ?_
   .refine aV (λy=>y.2=x) ?_ ?_
    .refine aw (iT _) λ_ _=>di (λ_=>aj rfl) λ_=>?_
     exact aw (Ns 5 (by omega) _ (by dsimp only;omega) D) λ_ _=>aj rfl
    rintro⟨b,y⟩ e;dsimp only at e;subst e;exact aM (λ_=>aj trivial) λ_=>aj ⟨fA,rfl⟩
   .rintro (y|y) F
    .exact aj F
    .exact aj trivial
 .rintro⟨a,y⟩ ⟨e1,e2⟩;dsimp only at e1 e2;subst e1 e2;exact aW (λg=>(by dsimp only[ak]at g;omega)) λ_=>aj trivial
def yG (l:Y DT) (s:ζ) (d:l! l<=1000):Ok (jC (l,s)) λr=> -1<=r/\r<(l! l:Int):=by
 unfold jC bR bY bc c7 aH cS;refine cC (l! l) (λi x=>x=(i:Int)) ?_ ?_ rfl
 .rintro i x hi rfl;refine aW (λ_=>?_) λg=>(by dsimp only[ak]at g;omega)
  refine eQ (aT ?_);exact aK (λ_=>aj ⟨by omega,by omega⟩) λ_=>aj fA
 .rintro x rfl;exact aW (λg=>(by dsimp only[ak]at g;omega)) λ_=>aj ⟨by omega,by omega⟩
def t7 (l:Y HT) (s:ζ) (d:l! l<=1000):Ok (i_ (l,s)) λr=> -1<=r/\r<(l! l:Int):=by
 unfold i_ bR bY bc c7 aH cS;refine cC (l! l) (λi x=>x=(i:Int)) ?_ ?_ rfl
 .rintro i x hi rfl;refine aW (λ_=>?_) λg=>(by dsimp only[ak]at g;omega)
  refine eQ (aT ?_);exact aK (λ_=>aj ⟨by omega,by omega⟩) λ_=>aj fA
 .rintro x rfl;exact aW (λg=>(by dsimp only[ak]at g;omega)) λ_=>aj ⟨by omega,by omega⟩
def DD (p:PG) (s:ζ):Prop:=∃v,jC (p.1,s)=Z v/\0<=v/\v<(l! p.1:Int)
def ach (p:PG) (h:PX p) (t:Int) (s:ζ):Ok (tO (p,t,s)) λk=>k≠0->k≠7->k≠8->DD p s:=by
 have hd:=h.d;have ht:=h.t;unfold tO bn bR jR iK kj bY bc aH;refine aV (λx=>x.2=p) ?_ ?_
 .refine dW (λD=>aW (λA=>?_) λ_=>aj rfl) λ_=>aj rfl
  dsimp only[ak]at D A;refine aJ D A (aT ?_);have hm:=h.l _ (bZ (T:=uv) (xs:=p.2) (j:=t) D A);exact aw (Dr _ s (c9 hm (by omega))) λ_ _=>aj rfl
 rintro⟨b,x⟩ e;dsimp only at e;have e:=e.symm;subst e;refine aM (λ_=>aj λ_ _ h=>(h rfl).elim) λ_=>?_
 obtain⟨v,F,v0,v1⟩:=yG p.1 s (by omega);refine aQ F ?_;refine aW (λ_=>?_) λg=>?_
 .exact aw (t7 p.2 s (by omega)) λ_ _=>dW (λ_=>aj λ_ h=>(h rfl).elim) λ_=>aj λh=>(h rfl).elim
 have z:DD p s:=⟨v,F,g,v1⟩
 refine aJ g v1 (aT ?_);refine aK (λ_=>?_) λ_=>?_
 .exact aJ g v1 (aT (cj (λ_=>aj λ_ _ _=>z) λ_=>aj λ_ _ _=>z))
 refine aK (λ_=>aj λ_ _ _=>z) λ_=>?_
 refine aV (λx=>x.2=p) (aK (λ_=>aj rfl) λ_=>aK (λ_=>aj rfl) λ_=>aK (λ_=>aj rfl) λ_=>aj rfl) ?_;rintro⟨b,x⟩ e;dsimp only at e;have e:=e.symm;subst e;exact aM (λ_=>aJ g v1 (aT (aj λ_ _ _=>z))) λ_=>aj λ_ _ _=>z
def pY (p:PG) (h:PX p) (t:Int) (s:ζ) (a b:Int):Ok (io (p,t,s,a,b)) λr=>r=0->(a≠7/\a≠8)->(b≠7/\b≠8)->DD p s:=by
 unfold io aY bi cW bn iK aH;refine aw (ach p h t s) λk z=>?_
 refine aK (λ_=>aj nofun) λg=>?_
 refine aV (λx=>x=aa->k=a\/k=b) ?_ ?_
 .refine cj (λ_=>aj λh=>?_) λh=>aj λ_=>.inl h
  simp at h;exact .inr h
 rintro x d;refine aM (λ_=>aj nofun) λh=>aj λ_ h1 h2=>z g ?_ ?_
 .rcases d h with h|h<;>omega
 .rcases d h with h|h<;>omega
def PW:∀(n d:Nat) (e:Xp),d<n->GX d e->Ok (qV n e) λ_=>True
 |0,_,_,h,_=>by omega
 |n+1,0,_,_,h=>h.elim
 |n+1,d+1,e,A,h=>by
  obtain⟨h1,h2⟩:=h;rw[Ju];unfold zu bR bY c7 aH cS;refine cC (l! e.l) (λi x=>x.1.2.2=(i:Int)/\x.2=e) ?_ ?_ ⟨rfl,ft e⟩
  .rintro i ⟨⟨a,b,c⟩,z⟩ hi ⟨e1,e2⟩;dsimp only at e1 e2;subst e1 e2;refine aW (λ_=>?_) λg=>(by dsimp only[ak]at g;omega)
   refine eQ (aT ?_);refine aw (PW n d _ (by omega) (h2 _ (bZ (T:=.ex) (xs:=z.l) (j:=(i:Int)) (by omega) (by omega)))) λ_ _=>aj ?_
   exact⟨fA,ft z⟩
  .rintro⟨⟨a,b,c⟩,z⟩ ⟨e1,e2⟩;dsimp only at e1 e2;subst e1 e2;exact aW (λg=>(by dsimp only[ak]at g;omega)) λ_=>aj trivial
def H8 (p:PG) (hp:PX p) (t:Int):∀(n d:Nat) (e:Xp),d<n->GX d e->Ok (qU n (p,t,e)) λ_=>True
 |0,_,_,h,_=>by omega
 |n+1,0,_,_,h=>h.elim
 |n+1,d+1,e,N,h=>by
  obtain⟨h1,h2⟩:=h;rw[Jt];unfold zo bn bR bY c7 aH cS;refine aV (λx=>x.2.1=p/\x.2.2=e) ?_ ?_
  .refine aK (λ_=>aw (pY p hp t _ _ _) λ_ _=>aj ⟨rfl,ft e⟩) λ_=>aK (λ_=>aw (pY p hp t _ _ _) λ_ _=>aj ⟨rfl,ft e⟩) λ_=>aj ⟨rfl,ft e⟩
  rintro⟨r,D,F⟩ ⟨A,z⟩;dsimp only at A z;have A:=A.symm;subst A;have z:=z.symm;subst z;refine nL (λx=>((l! e.l:Int)-x.1.2).toNat) (λx=>0<=x.1.2/\x.2.1=p/\x.2.2=e) ?_ ⟨eE _,rfl,ft e⟩;rintro⟨⟨a,(b:Int)⟩,D,F⟩ ⟨b0,A,z⟩;dsimp only at b0 A z;have A:=A.symm;subst A;have z:=z.symm;subst z;refine aV (λx=>x.2.1=p/\x.2.2=e/\(x.1=J->b<(l! e.l:Int))) ?_ ?_
  .exact aW (λg=>aj ⟨rfl,ft e,λ_=>g⟩) λ_=>aj ⟨rfl,ft e,nofun⟩
  rintro⟨c,D,F⟩ ⟨A,z,f3⟩;dsimp only at A z f3;have A:=A.symm;subst A;have z:=z.symm;subst z;refine aM (λL=>?_) λ_=>aj trivial
  have g:=f3 L;refine aJ b0 g (aT ?_);refine aw (H8 p hp t n d _ (by omega) (h2 _ (bZ (T:=.ex) (xs:=e.l) (j:=b) b0 g))) λ_ _=>aj ?_
  dsimp only;rw[ic (n:=b+1) (by omega) (by omega)];exact⟨⟨by omega,rfl,ft e⟩,by omega⟩
def yF (p:PG) (hp:PX p) (t:Int) (e:Xp) (h:GX 4 e):Ok (oZ (p,t,e)) λ_=>True:=by
 unfold oZ bR aH;have A:GX 4 (eD (Xp.op e,Xp.n e,Xp.name e,Xp.l e)):=by rw[ft];exact h
 refine aw (gF _ A) λ_ _=>di (λ_=>aj trivial) λ_=>?_
 refine aw (PW fuel 4 _ (by rw[r8];omega) A) λ_ _=>?_
 refine aV (λx=>x.2.1=p/\x.2.2=e) (aW (λ_=>aj ⟨rfl,ft e⟩) λ_=>aj ⟨rfl,ft e⟩) ?_;rintro⟨r,D,F⟩ ⟨z,d⟩;dsimp only at z d;have z:=z.symm;subst z;have d:=d.symm;subst d;exact aM (λ_=>aj trivial) λ_=>aw (H8 p hp t fuel 4 _ (by rw[r8];omega) A) λ_ _=>aj trivial
def fF (b:Bool):Ok (dy b) λ_=>True:=by
 unfold dy;exact aM (λ_=>aj trivial) λ_=>aj trivial
def vu (x:Γ):Ok (ko x) λr=>r=0->x.1=0/\x.2=0:=by
 unfold ko iK;exact cj (λh=>aj λh2=>(h h2).elim) λh=>aj λh2=>⟨h,h2⟩
abbrev WK:Type:=(Y DT×Y HT×Int)×(Bool×Y Sx)×Y ζ×Y ζ
def aaf (a b:Int) (s:ζ) (w:WK) (h:l! w.2.1.2<=100):Ok (eJ ((a,b,s),w)) λy=>y.2=w:=by
 unfold eJ aY bn bR jZ bc c7 aH cS;refine cC (l! w.2.1.2) (λi x=>x.1=(i:Int)/\x.2=w) ?_ ?_ ⟨rfl,rfl⟩
 .rintro i ⟨c,x⟩ hi ⟨e1,e2⟩;dsimp only at e1 e2;subst e1;have e2:=e2.symm;subst e2;refine aW (λ_=>?_) λg=>(by dsimp only[ak]at g;omega)
  refine eQ (eQ (aT ?_));refine aV (λx=>x.2=w) ?_ ?_
  .refine aK (λ_=>aK (λ_=>aj rfl) λ_=>aj rfl) λ_=>aK (λ_=>aK (λ_=>aj rfl) λ_=>aj rfl) λ_=>aj rfl
  rintro⟨c,x⟩ e;dsimp only at e;have e:=e.symm;subst e;exact aM (λ_=>aj rfl) λ_=>aj ⟨fA,rfl⟩
 .rintro⟨c,x⟩ ⟨e1,e2⟩;dsimp only at e1 e2;subst e1;have e2:=e2.symm;subst e2;exact aW (λg=>(by dsimp only[ak]at g;omega)) λ_=>aj rfl
def G_:∀(n d:Nat) (l:Y Sx),d<n->l! l<=1000->(∀s∈l,GT d s)->Ok (qW n l) λ_=>True
 |0,_,_,h,_,_=>by omega
 |n+1,d,l,D,F,h=>by
  rw[Jv];unfold zA bR kj bc c7 aH cS;refine cC (l! l) (λi x=>x.2=(i:Int)) ?_ ?_ rfl
  .rintro i ⟨a,b⟩ hi e1;dsimp only at e1;subst e1;refine aW (λ_=>?_) λg=>(by dsimp only[ak]at g;omega)
   refine eQ (aT ?_);have hm:=h _ (bZ (T:=.sm) (xs:=l) (j:=(i:Int)) (by omega) (by omega));revert hm;generalize (geti (.sm) l (i:Int))=s;intro hm;cases d with
   |zero=>exact hm.elim
   |succ d=>
    obtain⟨_,_,_,N,L,A,z⟩:=hm;refine aw (G_ n d _ (by omega) (by omega) A) λ_ _=>?_
    refine eQ (aT ?_);exact aw (G_ n d _ (by omega) (by omega) z) λ_ _=>aj fA
  .rintro⟨a,b⟩ e1;dsimp only at e1;subst e1;exact aW (λg=>(by dsimp only[ak]at g;omega)) λ_=>aj trivial
def XP (l:Y DT) (A:l! l<=100):Ok (vH l) λ_=>True:=by
 unfold vH aY bi bt bN cW dN bn bR jR iK bI bY bc c7 aH cS;refine cC (l! l) (λi x=>x.2.2.2.2=(i:Int)) ?_ ?_ rfl
 .rintro i ⟨a,b,c,d,e⟩ hi e1;dsimp only at e1;subst e1;refine aW (λ_=>?_) λg=>(by dsimp only[ak]at g;omega)
  refine aV (λ_=>True) ?_ λx _=>aj fA
  refine eQ (aT ?_);have htk:l! (dg (aS (i:Int)) l)<=100:=by rw[cv];omega
  refine c6 (a? (a? ?_));refine aw (yG _ _ (c9 htk (by omega))) λv z=>?_
  refine dW (λ_=>aj trivial) λ_=>aW (λ_=>aj trivial) λ_=>?_
  refine aV (λ_=>True) ?_ λx _=>?_
  .refine aV (λ_=>True) (aK (λ_=>aj trivial) λ_=>aj trivial) λx _=>aM (λ_=>aj trivial) λ_=>?_
   refine aV (λ_=>True) (aK (λ_=>aj trivial) λ_=>aj trivial) λx _=>aM (λ_=>aj trivial) λ_=>?_
   exact aK (λ_=>aj trivial) λ_=>aj trivial
  refine aV (λ_=>True) (aW (λ_=>aj trivial) λ_=>aW (λ_=>aj trivial) λ_=>aW (λ_=>aj trivial) λ_=>aj trivial) λx _=>aM (λ_=>aj trivial) λ_=>?_
  refine aK (λ_=>?_) λ_=>aj trivial
  refine c6 (a? (a? ?_));refine aw (yG _ _ (c9 htk (by omega))) λv z=>?_
  refine aW (λ_=>aj trivial) λg=>?_
  have h2:=z.2;rw[cv]at h2;exact aJ g (by dsimp only at h2 ⊢;omega) (aT (cj (λ_=>aj trivial) λ_=>aj trivial))
 .rintro⟨a,b,c,d,e⟩ e1;dsimp only at e1;subst e1;exact aW (λg=>(by dsimp only[ak]at g;omega)) λ_=>aj trivial
def QJ (p:PG) (h:PX p):Ok (rP p) λ_=>True:=by
 have hd:=h.d;have ht:=h.t;unfold rP aY bi bt bR jR bI bY bc c7 aH cS;refine cC (l! p.2) (λi x=>x.1=(i:Int)/\x.2=p) ?_ ?_ ⟨rfl,rfl⟩
 .rintro i ⟨a,x⟩ hi ⟨e1,e2⟩;dsimp only at e1 e2;subst e1;have e2:=e2.symm;subst e2;refine aW (λ_=>?_) λg=>(by dsimp only[ak]at g;omega)
  refine eQ (aT ?_);refine aV (λx=>x.2.1=p) ?_ ?_
  .refine aw (yG _ _ (by dsimp only;omega)) λv F=>dW (λ_=>aj rfl) λ_=>?_
   refine c6 (a? (a? ?_));exact aw (t7 _ _ (by rw[cv];dsimp only;omega)) λ_ _=>aj rfl
  rintro⟨b,x,z⟩ e;dsimp only at e;have e:=e.symm;subst e;exact aM (λ_=>aj trivial) λ_=>aj ⟨fA,rfl⟩
 rintro⟨a,x⟩ ⟨e1,e2⟩;dsimp only at e1 e2;subst e1;have e2:=e2.symm;subst e2;refine aW (λg=>(by dsimp only[ak]at g;omega)) λ_=>?_
 refine aw (P:=λ_=>True) ?_ λ_ _=>aj trivial
 refine cC (l! p.2) (λi x=>x.1=(i:Int)/\x.2=p) ?_ ?_ ⟨rfl,rfl⟩
 .rintro i ⟨a,x⟩ hi ⟨e1,e2⟩;dsimp only at e1 e2;subst e1;have e2:=e2.symm;subst e2;refine aW (λ_=>?_) λg=>(by dsimp only[ak]at g;omega)
  refine eQ (aT ?_);have hm:=h.l _ (bZ (T:=uv) (xs:=p.2) (j:=(i:Int)) (by omega) (by omega));revert hm;generalize (geti uv p.2 (i:Int))=t;intro hm;refine aW (λ_=>aj trivial) λ_=>?_
  refine cC (l! t.2.2.1) (λk y=>y.1=(k:Int)/\y.2=(p,t)) ?_ ?_ ⟨rfl,rfl⟩
  .rintro k ⟨a,z⟩ L ⟨D,A⟩;dsimp only at D A;subst D A;refine aW (λ_=>?_) λg=>(by dsimp only[ak]at g;omega)
   refine eQ (aT ?_);refine aV (λx=>x.2=(p,t)) ?_ ?_
   .refine aw (yG _ _ (by dsimp only;omega)) λv F=>dW (λ_=>aj rfl) λ_=>?_
    refine aw (t7 _ _ (by dsimp only;omega)) λv F=>dW (λ_=>aj rfl) λ_=>?_
    refine c6 (a? (a? ?_));exact aw (Dr _ _ (by rw[cv];dsimp only;omega)) λ_ _=>aj rfl
   rintro⟨b,x⟩ e;dsimp only at e;subst e;exact aM (λ_=>aj trivial) λ_=>aj ⟨fA,rfl⟩
  .rintro⟨a,z⟩ ⟨D,A⟩;dsimp only at D A;subst D A;exact aW (λg=>(by dsimp only[ak]at g;omega)) λ_=>aj ⟨fA,rfl⟩
 .rintro⟨a,x⟩ ⟨e1,e2⟩;dsimp only at e1 e2;subst e1;have e2:=e2.symm;subst e2;exact aW (λg=>(by dsimp only[ak]at g;omega)) λ_=>aj trivial
structure WQ (w:WK) (y:Int×WK):Prop where
 p:y.2.1=w.1
 a:y.2.2.1=w.2.1
 s:l! y.2.2.2.1<=l! w.2.2.1+1
 t:l! y.2.2.2.2<=l! w.2.2.2+1
def WQ.same (w:WK) (e:Int):WQ w (e,w):=⟨rfl,rfl,QE _,QE _⟩
def amz (s:Sx) (D:Y DT) (T:Y HT) (t:Int) (A:Bool×Y Sx) (sp se:Y ζ) (hp:PX (D,T)) (hA:l! A.2<=100) (h1:l! sp<=100000000) (h2:l! se<=100000000) (F:∀e∈s.index,GX 4 e) (he:GX 4 s.expr):Ok (pJ (s,((D,T,t),A,sp,se))) (WQ ((D,T,t),A,sp,se)):=by
 have hex:GX 4 (eD (Xp.op s.expr,Xp.n s.expr,Xp.name s.expr,Xp.l s.expr)):=by rw[ft];exact he
 have hin:∀(a b:Int) (n:ζ),Ok (eJ ((a,b,n),((D,T,t),A,sp,se))) λy=>y.2=((D,T,t),A,sp,se):=λa b n=>aaf a b n _ hA
 have hth:l! T<=1000:=by have:=hp.t;dsimp only at this;omega
 have hdl:l! D<=1000:=by have:=hp.d;dsimp only at this;omega
 have sm:∀e,WQ ((D,T,t),A,sp,se) (e,((D,T,t),A,sp,se)):=WQ.same _;unfold pJ aY bi bt b7 bN cW cY dN bn jR iK bI bY aH eA;refine aw (hin _ _ _) λy z=>?_
 obtain⟨b1,L⟩:=y;dsimp only at z;subst z;refine a9 (by simp) ?_;refine aw (hin _ _ _) λy z=>?_
 obtain⟨b2,L⟩:=y;dsimp only at z;subst z;refine a9 (by simp) ?_;refine aw (hin _ _ _) λy z=>?_
 obtain⟨b3,L⟩:=y;dsimp only at z;subst z;refine a9 (by simp) ?_;refine aK (λ_=>?_) λ_=>?_
 .refine aK (λ_=>?_) λg=>?_
  .exact aw (pY _ hp _ _ _ _) λ_ _=>aw (yF _ hp _ _ hex) λ_ _=>aw (vu _) λ_ _=>aj (sm _)
  .refine aw (pY _ hp _ _ _ _) λ_ _=>?_
   dsimp only[ak]at g;refine eQ (aT ?_);refine aw (yF _ hp _ _ (F _ (bZ (T:=.ex) (xs:=s.index) (j:=0) (by omega) (by omega)))) λ_ _=>?_
   exact aw (yF _ hp _ _ hex) λ_ _=>aw (vu _) λ_ _=>aw (vu _) λ_ _=>aj (sm _)
 refine aV (λx=>x.2=((D,T,t),A,s,(D,T),sp,se)) (aK (λ_=>aj (by dsimp only;rw[AE])) λ_=>aj (by dsimp only;rw[AE])) ?_;rintro⟨b,x⟩ e;dsimp only at e;subst e;refine aM (λ_=>aw (yF _ hp _ _ hex) λ_ _=>aj (sm _)) λ_=>?_
 refine aK (λ_=>?_) λ_=>?_
 .refine aV (λx=>WQ ((D,T,t),A,sp,se) x) ?_ λx F=>aj F
  refine aw (pY _ hp _ _ _ _) λ_ _=>aM (λ_=>?_) λ_=>?_
  .exact aw (fF _) λ_ _=>aw (vu _) λ_ _=>aj (sm _)
  .refine aw (hin _ _ _) λy z=>?_
   obtain⟨b4,L⟩:=y;dsimp only at z;subst z;exact a9 (by simp) (aw (fF _) λ_ _=>aw (vu _) λ_ _=>aj (sm _))
 refine aV (λx=>x.2=((D,T,t),A,s,(D,T),sp,se)) (aK (λ_=>aj (by dsimp only;rw[AE])) λ_=>aj (by dsimp only;rw[AE])) ?_;rintro⟨b,x⟩ e;dsimp only at e;subst e;refine aM (λ_=>?_) λ_=>?_
 .refine aV (λx=>WQ ((D,T,t),A,sp,se) x) ?_ λx F=>aj F
  refine aw (pY _ hp _ _ _ _) λ_ _=>aM (λ_=>?_) λ_=>?_
  .exact aw (fF _) λ_ _=>aw (vu _) λ_ _=>aj (sm _)
  .refine aw (hin _ _ _) λy z=>?_
   obtain⟨b4,L⟩:=y;dsimp only at z;subst z;exact a9 (by simp) (aw (fF _) λ_ _=>aw (vu _) λ_ _=>aj (sm _))
 refine aK (λ_=>aw (fF _) λ_ _=>aj (sm _)) λ_=>?_
 refine aK (λ_=>?_) λ_=>?_
 .refine aV (λx=>WQ ((D,T,t),A,sp,se) x) ?_ λx F=>aj F
  exact aM (λ_=>aw (fF _) λ_ _=>aj (sm _)) λ_=>aw (fF _) λ_ _=>aj (sm _)
 refine aV (λx=>x.2=((D,T,t),A,s,(D,T),sp,se)) (aK (λ_=>aj (by dsimp only;rw[AE])) λ_=>aK (λ_=>aj (by dsimp only;rw[AE])) λ_=>aj (by dsimp only;rw[AE])) ?_;rintro⟨b,x⟩ e;dsimp only at e;subst e;refine aM (λ_=>?_) λ_=>?_
 .refine aw (pY _ hp _ _ _ _) λr N=>cj (λ_=>aj (sm _)) λg=>?_
  obtain⟨v,hv,v0,v1⟩:=N g (by omega) (by omega);refine aQ hv (aJ v0 v1 (aT ?_));refine aw (hin _ _ _) λy z=>?_
  obtain⟨b4,L⟩:=y;dsimp only at z;subst z;refine a9 (by simp) ?_;refine aV (λx=>WQ ((D,T,t),A,sp,se) x) ?_ λx F=>aj F
  refine aM (λ_=>aw (fF _) λ_ _=>aj (sm _)) λ_=>di (λ_=>aw (fF _) λ_ _=>aj (sm _)) λ_=>?_
  exact aK (λ_=>aw (fF _) λ_ _=>aj (sm _)) λ_=>aw (fF _) λ_ _=>aj (sm _)
 refine aK (λ_=>?_) λ_=>?_
 .refine aw (pY _ hp _ _ _ _) λr N=>cj (λ_=>aj (sm _)) λg=>?_
  refine aw (t7 T _ hth) λv hv=>?_
  refine aV (λx=>x.2=((D,T,t),A,s,sp,se)) ?_ ?_
  .refine aM (λ_=>aj (by dsimp only;rw[AE])) λ_=>aM (λ_=>aj (by dsimp only;rw[AE])) λ_=>aM (λ_=>aj (by dsimp only;rw[AE])) λ_=>aK (λ_=>aj (by dsimp only;rw[AE])) λ_=>aj (by dsimp only;rw[AE])
  rintro⟨b,x⟩ e;dsimp only at e;subst e;refine aM (λ_=>aj (sm _)) λ_=>?_
  refine aw (Dr sp _ (by omega)) λ_ _=>dW (λ_=>aj (sm _)) λ_=>?_
  exact a! (aj ⟨rfl,rfl,by simp,QE _⟩)
 refine aK (λ_=>?_) λ_=>?_
 .refine aV (λx=>WQ ((D,T,t),A,sp,se) x) ?_ λx F=>aj F
  refine aw (pY _ hp _ _ _ _) λr N=>?_
  refine aM (λ_=>aw (fF _) λ_ _=>aw (vu _) λ_ _=>aj (sm _)) λ_=>?_
  refine aM (λ_=>aw (fF _) λ_ _=>aw (vu _) λ_ _=>aj (sm _)) λ_=>?_
  exact aw (t7 T _ hth) λv hv=>aw (fF _) λ_ _=>aw (vu _) λ_ _=>aj (sm _)
 refine aK (λ_=>?_) λ_=>?_
 .refine aV (λx=>x.2=((D,T,t),A,s,(D,T),sp,se)) ?_ ?_
  .refine aw (pY _ hp _ _ _ _) λr N=>?_
   exact aM (λ_=>aw (fF _) λ_ _=>aw (vu _) λ_ _=>aj (by dsimp only;rw[AE])) λ_=>aw (fF _) λ_ _=>aw (vu _) λ_ _=>aj (by dsimp only;rw[AE])
  rintro⟨b,x⟩ e;dsimp only at e;subst e;refine aV (λx=>x.2=((D,T,t),A,s,(D,T),sp,se)) ?_ ?_
  .refine aV (λx=>x.2=((D,T,t),A,s,(D,T),sp,se)) ?_ ?_
   .exact aK (λ_=>aw (Dr se _ (by omega)) λ_ _=>aj (by dsimp only;rw[AE])) λ_=>aj (by dsimp only;rw[AE])
   rintro⟨b,x⟩ e;dsimp only at e;subst e;exact aM (λ_=>aj (by dsimp only;rw[AE])) λ_=>aj (by dsimp only;rw[AE])
  rintro⟨b,x⟩ e;dsimp only at e;subst e;refine a! ?_;exact aw (yF _ hp _ _ hex) λ_ _=>aw (vu _) λ_ _=>aj ⟨rfl,rfl,QE _,by simp⟩
 exact aw (pY _ hp _ _ _ _) λ_ _=>aw (pY _ hp _ _ _ _) λ_ _=>aw (fF _) λ_ _=>aw (vu _) λ_ _=>aw (vu _) λ_ _=>aj (sm _)
def KS:Nat->Nat
 |0=>0
 |d+1=>1+16*KS d
abbrev RA4:Type:=(Y Sx×WK)->M (Γ×WK)
structure QA (l:List Sx) (d:Nat) (w:WK) (y:Γ×WK):Prop where
 p:y.2.1=w.1
 a:l! y.2.2.1.2=l! w.2.1.2
 s:l! y.2.2.2.1<=l! w.2.2.1+l! l*KS d
 t:l! y.2.2.2.2<=l! w.2.2.2+l! l*KS d
def SpA (rr:RA4) (d:Nat):Prop:=∀(l:Y Sx) (w:WK),l! l<=100->(∀s∈l,GT d s)->PX (w.1.1,w.1.2.1)->l! w.2.1.2+d<=50->l! w.2.2.1+l! l*KS d<=100000000->l! w.2.2.2+l! l*KS d<=100000000->Ok (rr (l,w)) (QA l d w)
def ajo (rr:RA4) (d:Nat) (hr:∀d',d=d'+1->SpA rr d'):SpA (tB rr) d:=by
 rintro l ⟨⟨D,T,t⟩,A,sp,se⟩ hl hg hp hA h1 h2;dsimp only at hp hA h1 h2;have hK:∀i:Nat,i<=l! l->i*KS d<=l! l*KS d:=λi hi=>cH _ hi
 unfold tB aY bi bt bN cW cY ck bn bR iK bI bY bc c7 aH cS eA;refine cC (l! l) (λi x=>x.1=(i:Int)/\x.2.1=(D,T,t)/\l! x.2.2.1.2=l! A.2/\l! x.2.2.2.1<=l! sp+i*KS d/\l! x.2.2.2.2<=l! se+i*KS d) ?_ ?_ ⟨rfl,rfl,rfl,by simp,by simp⟩
 .rintro i ⟨a,P,A',sp',se'⟩ hi ⟨e1,e2,F,N,L⟩;dsimp only at e1 e2 F N L;subst e1 e2;have hKi:=hK (i+1) (by omega);have hKs:=iC i (KS d);rw[Nat.succ_eq_add_one]at hKs;refine aW (λ_=>?_) λg=>(by dsimp only[ak]at g;omega)
  refine eQ (aT ?_);have hm:=hg _ (bZ (T:=.sm) (xs:=l) (j:=(i:Int)) (by omega) (by omega));revert hm;generalize (geti (.sm) l (i:Int))=s;intro hm;cases d with
  |zero=>exact hm.elim
  |succ d=>
   have hR:=hr d rfl;obtain⟨_,g2,g3,g4,g5,g6,g7⟩:=hm;have hk:KS (d+1)=1+16*KS d:=rfl;have kb:l! s.body*KS d<=8*KS d:=cH _ g4;have ke:l! s.els*KS d<=8*KS d:=cH _ g5;dsimp only;rw[AE];refine aw (amz s D T t A' sp' se' hp (by omega) (by omega) (by omega) g2 g3) λy z=>?_
   obtain⟨e,P2,A2,sp2,se2⟩:=y;obtain⟨q1,q2,q3,q4⟩:=z;dsimp only at q1 q2 q3 q4;subst q1 q2;refine a9 (by simp) ?_;refine aV (λx=>x.2=((D,T,t),s,A2,sp2,se2)) (aW (λ_=>aj rfl) λ_=>aj rfl) ?_;rintro⟨e,x⟩ ex;dsimp only at ex;subst ex;refine cj (λ_=>aj ⟨rfl,F,by dsimp only;omega,by dsimp only;omega⟩) λ_=>?_
   refine a! (aJ (by simp) (by simp;omega) (aJ (by simp) (by simp;omega) ?_));dsimp only;rw[AE];refine aw (hR s.body ((D,T,t),(A2.1,cJ (A2.2++[_]) _ s),sp2,se2) (by omega) g6 hp ?_ ?_ ?_) λy z=>?_
   .dsimp only;rw[cR];simp;omega
   .dsimp only;omega
   .dsimp only;omega
   obtain⟨e6,P6,A6,sp6,se6⟩:=y;obtain⟨q1,q2,q5,q6⟩:=z;dsimp only at q1 q2 q5 q6;subst q1;rw[cR,bG,bP]at q2;refine a9 (by simp) ?_;refine aV (λx=>x.2.1=(D,T,t)/\l! x.2.2.1.2=l! A2.2+1/\l! x.2.2.2.1<=l! sp2+16*KS d/\l! x.2.2.2.2<=l! se2+16*KS d) ?_ ?_
   .refine aK (λ_=>?_) λ_=>aj ⟨rfl,q2,by dsimp only;omega,by dsimp only;omega⟩
    refine aw (hR s.els ((D,T,t),A6,sp6,se6) (by omega) g7 hp (by dsimp only;omega) (by dsimp only;omega) (by dsimp only;omega)) λy z=>?_
    obtain⟨e7,P7,A7,sp7,se7⟩:=y;obtain⟨r1,r2,r5,r6⟩:=z;dsimp only at r1 r2 r5 r6;subst r1;exact a9 (by simp) (aj ⟨rfl,r2.trans q2,by dsimp only;omega,by dsimp only;omega⟩)
   rintro⟨e8,P8,A8,sp8,se8⟩ ⟨r1,r2,r5,r6⟩;dsimp only at r1 r2 r5 r6;subst r1;have el:be .i64 ((aR (l! A8.2))-1)=(l! A2.2:Int):=by
    rw[r2,ic (by simp<;>omega) (by simp<;>omega)];simp<;>omega
   dsimp only;rw[el];have tk:l! (dg (aS (l! A2.2:Int)) A8.2)=l! A2.2:=by rw[cv];omega
   refine c6 (a? (te (by rw[r2];omega) ?_));refine cj (λ_=>aj ⟨rfl,by dsimp only;omega,by dsimp only;omega,by dsimp only;omega⟩) λ_=>aj ?_
   exact⟨fA,rfl,by dsimp only;omega,by dsimp only;omega,by dsimp only;omega⟩
 .rintro⟨a,P,A',sp',se'⟩ ⟨e1,e2,F,N,L⟩;dsimp only at e1 e2 F N L;subst e1 e2;exact aW (λg=>(by dsimp only[ak]at g;omega)) λ_=>aj ⟨rfl,F,N,L⟩
def Zt:∀(n d:Nat),d<n->SpA (nG n) d
 |0,_,h=>by omega
 |n+1,d,h=>ajo (nG n) d λz hd=>Zt n z (by omega)
def Gb (p:PG) (h:PX p):Ok (lG p) λ_=>True:=by
 have hd:=h.d;have ht:=h.t;unfold lG aY bi bt bN cY bR iK bI bY bc c7 aH cS;refine aw (ac7 p h) λ_ _=>di (λ_=>aj trivial) λ_=>?_
 refine aw (XP p.1 hd) λ_ _=>cj (λ_=>aj trivial) λ_=>aW (λ_=>aj trivial) λ_=>?_
 refine aw (QJ p h) λ_ _=>cj (λ_=>aj trivial) λ_=>?_
 refine cC (l! p.2) (λi x=>x.1.2=(i:Int)/\x.2=p) ?_ ?_ ⟨rfl,rfl⟩
 .rintro i ⟨⟨c,a⟩,x⟩ hi ⟨e1,e2⟩;dsimp only at e1 e2;subst e1;have e2:=e2.symm;subst e2;refine aW (λ_=>?_) λg=>(by dsimp only[ak]at g;omega)
  refine eQ (aT ?_);have hm:=bZ (T:=uv) (xs:=p.2) (j:=(i:Int)) (by omega) (by omega);have z:=h.b _ hm;exact aw (G_ fuel 5 _ (by rw[r8];omega) (c9 z (by omega)) (h.s _ hm)) λ_ _=>aj ⟨fA,rfl⟩
 rintro⟨⟨c,a⟩,x⟩ ⟨e1,e2⟩;dsimp only at e1 e2;subst e1;have e2:=e2.symm;subst e2;refine aW (λg=>(by dsimp only[ak]at g;omega)) λ_=>?_
 refine aw (P:=λ_=>True) ?_ λ_ _=>aj trivial
 refine aW (λ_=>aj trivial) λ_=>?_
 refine cC (l! p.2) (λi x=>x.1=(i:Int)/\x.2.1=p/\x.2.2.1.1=p.1/\x.2.2.1.2.1=p.2/\l! x.2.2.2.1.2=0/\l! x.2.2.2.2.1<=i*6990500/\l! x.2.2.2.2.2<=i*6990500) ?_ ?_ ⟨rfl,rfl,rfl,rfl,rfl,by simp,by simp⟩
 .rintro i ⟨a,x,⟨D,T,t⟩,A,sp,se⟩ hi ⟨e1,e2,e3,N,e5,e6,e7⟩;dsimp only at e1 e2 e3 N e5 e6 e7;subst e1;have e2:=e2.symm;subst e2 e3 N;refine aW (λ_=>?_) λg=>(by dsimp only[ak]at g;omega)
  refine eQ (aT ?_);have hm:=bZ (T:=uv) (xs:=p.2) (j:=(i:Int)) (by omega) (by omega);have z:=h.b _ hm;have L:=h.s _ hm;revert z L;dsimp only;generalize (geti uv p.2 (i:Int))=th;intro z L;have F:KS 5=69905:=rfl;have hle:l! th.2.2.2*KS 5<=100*KS 5:=cH _ z;rw[F]at hle;refine aw (Zt fuel 5 (by rw[r8];omega) th.2.2.2 ((p.1,p.2,(i:Int)),A,sp,se) z L h (by dsimp only;omega) (by dsimp only;rw[F];omega) (by dsimp only;rw[F];omega)) λy hy=>?_
  obtain⟨e,P2,A2,sp2,se2⟩:=y;obtain⟨q1,q2,q3,q4⟩:=hy;dsimp only at q1 q2 q3 q4;subst q1;rw[F]at q3 q4;refine a9 (by simp) (cj (λ_=>aj trivial) λ_=>aj ?_);exact⟨fA,rfl,rfl,rfl,by dsimp only;omega,by dsimp only;omega,by dsimp only;omega⟩
 .rintro⟨a,x,P,w⟩ ⟨e1,e2,_⟩;dsimp only at e1 e2;subst e1;have e2:=e2.symm;subst e2;exact aW (λg=>(by dsimp only[ak]at g;omega)) λ_=>aj trivial
def D0:Y DT:=[(1,0,[120],0,0,[]),(1,0,[121],0,1,[]),(2,0,[118],0,0,[]),(1,0,[113],2,0,[]),(3,0,[109],0,0,[]),(3,0,[110],0,0,[]),(4,0,[114],0,0,[]),(5,0,[99],0,0,[109]),(6,0,[102],0,0,[])]
def L0:Y ζ:=[[97],[98]]
structure TM (t:HT):Prop where
 l:t.2.2.1=L0
 b:l! t.2.2.2<=8
 s:∀s∈t.2.2.2,GS 3 s
structure PJ (p:PG):Prop where
 d:p.1=D0
 t:l! p.2<=4
 m:∀t∈p.2,TM t
def PJ.x {p:PG} (h:PJ p):PX p:=⟨by rw[h.d];decide,by have:=h.t;omega,λt ht=>by rw[(h.m t ht).l];decide,λt ht=>by have:=(h.m t ht).b;omega,λt ht s z=>((h.m t ht).s s z).le (by omega:3<=5) |>.t⟩
def UX:tQ ()=Z D0:=rfl
def S2 (op:Int) (n:ζ) (z:4<=op/\op≠14):GS 3 (pO (op,0,n,[],[],eD (0,0,[],[]),[],[])):=GS.wo z (by simp) λx d=>(by cases d)
def I7 (x:η) (hl:l! x<=9223372036854775807) (hx:∀z∈x,0<=z/\z<=255):Ok (pM x) PJ:=by
 unfold pM aY bi bt b7 dc fx kl bN dN iX s9 Prod.t bn bR iK bI jZ c7 aH cS eA;refine aQ UX ?_;refine aw (gI 3 (x,0) ⟨hl,hx,by dsimp only;omega,by dsimp only;omega⟩) λy hy=>?_
 obtain⟨n,t0⟩:=y;obtain⟨s0,n0,n1,_⟩:=hy;have n1:=n1 (by decide);dsimp only at s0 n0 n1;have ew:be .i64 (2+n)=2+n:=ic;refine cC (2+n).toNat (λi x=>x.1=(i:Int)/\x.2.2.1=D0/\l! x.2.2.2.1=4/\TP x.2.2.2.2.1/\x.2.2.2.2.2.1.2=[]/\l! x.2.2.2.2.2.2=i/\∀t∈x.2.2.2.2.2.2,TM t) ?_ ?_ ⟨rfl,rfl,rfl,s0.p,rfl,rfl,λt ht=>(by cases ht)⟩
 .rintro i ⟨a,m,D,N,t,h,th⟩ hi ⟨e1,e2,e3,e4,e5,e6,e7⟩;dsimp only at e1 e2 e3 e4 e5 e6 e7;subst e1 e2;refine aW (λg=>?_) λg=>(by dsimp only at g;rw[ew]at g;omega)
  refine eQ (eQ (aT ?_));refine aV (λx=>x.2.1=D0/\l! x.2.2.1=4/\TP x.2.2.2.2.1/\x.2.2.2.2.2.1.2=[]/\x.2.2.2.2.2.2.1=th/\x.2.2.2.2.2.2.2.1=L0/\l! x.2.2.2.2.2.2.2.2<=3/\∀s∈x.2.2.2.2.2.2.2.2,GS 3 s) ?_ ?_
  .refine aK (λ_=>?_) λ_=>aj ⟨rfl,e3,e4,e5,rfl,rfl,by simp,λs d=>(by cases d)⟩
   refine cC (1+n).toNat (λk x=>x.1=1+(k:Int)/\x.2.2.1=D0/\l! x.2.2.2.1=4/\TP x.2.2.2.2.2.1/\x.2.2.2.2.2.2.1.2=[]/\x.2.2.2.2.2.2.2.1=th/\x.2.2.2.2.2.2.2.2.1=L0/\l! x.2.2.2.2.2.2.2.2.2<=k/\∀s∈x.2.2.2.2.2.2.2.2.2,GS 3 s) ?_ ?_ ⟨rfl,rfl,e3,e4,e5,rfl,rfl,by simp,λs d=>(by cases d)⟩
   .rintro k ⟨c,m1,D1,N1,z1,t1,h1,th1,l1,b1⟩ hk ⟨f1,f2,f3,f4,A,f6,L,f8,F⟩;dsimp only at f1 f2 f3 f4 A f6 L f8 F;subst f1;refine aW (λ_=>?_) λg=>(by dsimp only at g;rw[ew]at g;omega)
    refine eQ (eQ (aT ?_));refine a! (aj ?_);dsimp only;rw[ic (n:=1+(k:Int)+1) (by omega) (by omega)];refine ⟨by omega,f2,f3,f4,A,f6,L,by simp;omega,λs d=>?_⟩;rcases bE.1 d with d|d
    .exact F s d
    .rw[aE]at d;rw[d];exact S2 12 _ (by omega)
   .rintro⟨c,m1,D1,N1,z1,t1,h1,th1,l1,b1⟩ ⟨f1,f2,f3,f4,A,f6,L,f8,F⟩;dsimp only at f1 f2 f3 f4 A f6 L f8 F;subst f1;refine aW (λg=>(by dsimp only at g;rw[ew]at g;omega)) λ_=>aj ?_
    exact⟨f2,f3,f4,A,f6,L,by dsimp only;omega,F⟩
  rintro⟨m1,D1,N1,z1,t1,h1,th1,l1,b1⟩ ⟨f2,f3,f4,A,f6,L,f8,F⟩;dsimp only at f2 f3 f4 A f6 L f8 F;subst f2 f6 L;refine aw (gI 3 t1 f4) λy hy=>?_
  obtain⟨k2,t2⟩:=y;obtain⟨u1,u2,u3,_⟩:=hy;have u3:=u3 (by decide);dsimp only at u1 u2 u3;dsimp only;rw[ic (n:=1+k2) (by omega) (by omega)];refine aw (aa9 2 (by omega) (1+k2) m1 t2 h1 (by omega) u1.p (by rw[A];simp)) λy hy=>?_
  obtain⟨m3,t3,h3,l3⟩:=y;obtain⟨w1,w2,w3,w4⟩:=hy;dsimp only at w1 w2 w3 w4;refine a9 (by simp) (a! ?_);have hbody:∀s∈b1++l3,GS 3 s:=λs d=>by
   rcases bE.1 d with d|d
   .exact F s d
   .exact w2 s d
  have hlen:l! (b1++l3)<=6:=by rw[bG];omega
  refine aV (λx=>x.2.1=D0/\l! x.2.2.1=4/\TP x.2.2.2.2.1/\x.2.2.2.2.2.1.2=[]/\x.2.2.2.2.2.2.1=th1/\x.2.2.2.2.2.2.2.1=L0/\l! x.2.2.2.2.2.2.2.2<=8/\∀s∈x.2.2.2.2.2.2.2.2,GS 3 s) ?_ ?_
  .refine aV (λx=>x.2.2.1=D0/\l! x.2.2.2.1=4/\TP x.2.2.2.2.2.1/\x.2.2.2.2.2.2.1.2=[]/\x.2.2.2.2.2.2.2.1=th1/\x.2.2.2.2.2.2.2.2.1=L0/\x.2.2.2.2.2.2.2.2.2=b1++l3) ?_ ?_
   .refine aK (λ_=>?_) λ_=>aj ⟨rfl,f3,w3.p,w4.trans A,rfl,rfl,rfl⟩
    exact aw (gI 3 t3 w3.p) λy hy=>aj ⟨rfl,f3,hy.1.p,w4.trans A,rfl,rfl,rfl⟩
   rintro⟨b,m4,D4,N4,z4,t4,h4,th4,l4,b4⟩ ⟨p2,p3,p4,p5,p6,p7,p8⟩;dsimp only at p2 p3 p4 p5 p6 p7 p8;subst p2 p6 p7 p8;refine aM (λ_=>?_) λ_=>aj ⟨rfl,p3,p4,p5,rfl,rfl,by dsimp only;omega,hbody⟩
   refine eQ (eQ (aT ?_));refine a_ (by simp at hlen ⊢;omega) (by omega) (aj ⟨rfl,p3,p4,p5,rfl,rfl,by dsimp only;rw[bG,bP];omega,λs d=>?_⟩);rcases bE.1 d with d|d
   .exact hbody s d
   .rw[aE]at d;rw[d];exact S2 13 _ (by omega)
  rintro⟨m4,D4,N4,z4,t4,h4,th4,l4,b4⟩ ⟨p2,p3,p4,p5,p6,p7,p8,p9⟩;dsimp only at p2 p3 p4 p5 p6 p7 p8 p9;subst p2 p6 p7;refine a! (aj ?_);dsimp only;refine ⟨fA,rfl,p3,p4,p5,by simp;omega,λt ht=>?_⟩;rcases bE.1 ht with ht|ht
  .exact e7 t ht
  .rw[aE]at ht;rw[ht];exact⟨rfl,p8,p9⟩
 .rintro⟨a,m,D,N,t,h,th⟩ ⟨e1,e2,e3,e4,e5,e6,e7⟩;dsimp only at e1 e2 e3 e4 e5 e6 e7;subst e1 e2;refine aW (λg=>(by dsimp only at g;rw[ew]at g;omega)) λ_=>?_
  have hpm:PJ (D0,th):=⟨rfl,by dsimp only;omega,e7⟩
  refine aw (P:=PJ) ?_ λr hr=>aj hr
  refine aw (Gb (D0,th) hpm.x) λy _=>cj (λ_=>?_) λ_=>aj hpm
  refine aQ UX (aQ (Q2 _) (aQ (vk _ _) (aj ?_)));refine ⟨rfl,by simp,λt ht=>?_⟩;simp only[aE]at ht;rw[ht];refine ⟨rfl,by simp,λs d=>?_⟩;simp only[aE]at d;rw[d,ft,AS];exact GS.asg _ (GE.num _ 3)
abbrev GN:Type:=Y (ζ×Int×Int×Bool×Int)×Y (ζ×Bool)×Y (ζ×Int)×Y ζ×Y ζ×Y ν×Y ζ×j!
def Cc (l:Y y!) (s:ζ) (d:l! l<=1000):Ok (mH (l,s)) λ_=>True:=by
 unfold mH bR bY bc c7 aH cS;refine cC (l! l) (λi x=>x=(i:Int)) ?_ ?_ rfl
 .rintro i x hi rfl;refine aW (λ_=>?_) λg=>(by dsimp only[ak]at g;omega)
  refine eQ (aT ?_);exact aK (λ_=>aj trivial) λ_=>aj fA
 .rintro x rfl;exact aW (λg=>(by dsimp only[ak]at g;omega)) λ_=>aj trivial
def Cq (w:WT) (s:ζ) (D:l! w.1<=1000):Ok (mI (w,s)) λr=>(∃c∈w.1,c.1=s)->0<=r/\r<(l! w.1:Int):=by
 unfold mI bR bY bc c7 aH cS;refine cC (l! w.1) (λi x=>x.1=(i:Int)/\x.2=w/\∀k:Nat,k<i->(geti (.st (.pr .str (.pr (.int .i64) (.pr (.int .i64) (.pr .bool (.int .i64)))))) w.1 (k:Int)).1≠s) ?_ ?_ ⟨rfl,rfl,λk z=>by omega⟩
 .rintro i ⟨a,x⟩ hi ⟨e1,e2,d⟩;dsimp only at e1 e2 d;subst e1;have e2:=e2.symm;subst e2;refine aW (λ_=>?_) λg=>(by dsimp only[ak]at g;omega)
  refine eQ (aT ?_);refine aK (λ_=>aj λ_=>⟨by dsimp only;omega,by dsimp only;omega⟩) λg=>aj ?_
  refine ⟨fA,rfl,λk z=>?_⟩;rcases bu k i with h1|h1
  .exact d k h1
  .rw[show k=i by omega];exact g
 .rintro⟨a,x⟩ ⟨e1,e2,d⟩;dsimp only at e1 e2 d;subst e1;have e2:=e2.symm;subst e2;refine aW (λg=>(by dsimp only[ak]at g;omega)) λ_=>aj λ⟨c,A,h⟩=>?_
  exact (iS (T:=.st (.pr .str (.pr (.int .i64) (.pr (.int .i64) (.pr .bool (.int .i64)))))) (p:=λc=>c.1≠s) d c A h).elim
def xf (i:IT) (g:GN) (out:Y IT) (h:l! out<=100000000):Ok (cV (i,g,out)) λy=>y.1=g/\l! y.2=l! out+1:=by
 unfold cV aY bi bt fx bI;exact a! (aj ⟨rfl,by simp⟩)
def VE:Nat->Nat
 |0=>0
 |d+1=>1+2*VE d
structure GK (g:GN):Prop where
 c:l! g.1<=1000
 q:∃c∈g.1,c.1=[113]
 l:l! g.2.2.2.2.2.2.1<=1000
def PP:∀(n d:Nat),d<n->∀(e:Xp) (k:Int) (g:GN) (out:Y IT),GE d e->GK g->l! out+VE d<=100000000->Ok (jE n ((e,k),g,out)) λy=>y.1=g/\l! out<=l! y.2/\l! y.2<=l! out+VE d
 |0,_,h,_,_,_,_,_,_,_=>by omega
 |n+1,0,_,e,_,_,_,h,_,_=>h.elim
 |n+1,d+1,hn,e,k,g,out,h,hg,hb=>by
  obtain⟨h1,h2,h3,h4⟩:=h;obtain⟨gc,gq,gl⟩:=id hg;have hv:VE (d+1)=1+2*VE d:=rfl;rw[CK];unfold rX aY bi bt b7 dc bn jR bI bY aH cS;refine aV (λy=>y.1=g/\l! out<=l! y.2/\l! y.2<=l! out+VE (d+1)) ?_ λx hx=>aj hx
  refine aK (λ_=>?_) λn1=>?_
  .refine aw (xf _ g out (by omega)) λy z=>a9 (by simp) (aj ⟨z.1,by omega,by omega⟩)
  refine aK (λ_=>?_) λn2=>?_
  .refine aw (Dr _ _ (by dsimp only;omega)) λv _=>dW (λ_=>?_) λ_=>?_
   .refine aw (xf _ g out (by omega)) λy z=>a9 (by simp) (aj ⟨z.1,by omega,by omega⟩)
   .refine aw (Cq _ _ gc) λv _=>?_
    refine aw (xf _ g out (by omega)) λy z=>a9 (by simp) (aj ⟨z.1,by omega,by omega⟩)
  have hl:=h2 n1 n2;have hrec:∀(j:Nat),j<l! e.l->∀(F:Int) (o:Y IT),l! o+VE d<=100000000->Ok (jE n ((geti (.ex) e.l (j:Int),F),g,o)) λy=>y.1=g/\l! o<=l! y.2/\l! y.2<=l! o+VE d:=λj hj F o ho=>PP n d (by omega) _ F g o (h4 _ (bZ (T:=.ex) (xs:=e.l) (j:=(j:Int)) (by omega) (by omega))) hg ho
  refine aK (λn3=>?_) λn3=>?_
  .refine eQ (aT ?_);refine aw (hrec 0 hl k out (by omega)) λy z=>?_
   obtain⟨D,A⟩:=y;obtain⟨q1,q2,q3⟩:=z;dsimp only at q1 q2 q3;subst q1;refine a9 (by simp) ?_;refine aw (Cq _ _ gc) λv L=>?_
   obtain⟨v0,v1⟩:=L (by dsimp only;rw[h1 n3];exact gq);refine aJ v0 v1 (aT ?_);refine aw (xf _ D A (by omega)) λy z=>a9 (by simp) (aj ⟨z.1,by omega,by omega⟩)
  refine aK (λn4=>?_) λn4=>?_
  .refine eQ (aT ?_);refine aw (hrec 0 hl k out (by omega)) λy z=>?_
   obtain⟨D,A⟩:=y;obtain⟨q1,q2,q3⟩:=z;dsimp only at q1 q2 q3;subst q1;refine a9 (by simp) ?_;refine aw (xf _ D A (by omega)) λy z=>a9 (by simp) (aj ⟨z.1,by omega,by omega⟩)
  .dsimp only[ak]at n4;have N:1<l! e.l:=by omega
   refine eQ (aT ?_);refine aw (hrec 0 hl k out (by omega)) λy z=>?_
   obtain⟨D,A⟩:=y;obtain⟨q1,q2,q3⟩:=z;dsimp only at q1 q2 q3;subst q1;refine a9 (by simp) ?_;refine eQ (aT ?_);refine aw (hrec 1 N _ A (by omega)) λy z=>?_
   obtain⟨g3,o3⟩:=y;obtain⟨r1,r2,r3⟩:=z;dsimp only at r1 r2 r3;subst r1;refine a9 (by simp) ?_;refine aw (xf _ g3 o3 (by omega)) λy z=>a9 (by simp) (aj ⟨z.1,by omega,by omega⟩)
def WA (e:Xp) (k:Int) (g:GN) (out:Y IT) (he:GE 4 e) (d:GK g) (h:l! out<=99999900):Ok (jB ((e,k),g,out)) λy=>y.1=g/\l! out<=l! y.2/\l! y.2<=l! out+15:=PP fuel 4 (by rw[r8];omega) e k g out he d (by have:VE 4=15:=rfl;omega)
structure GB (g:GN):Prop where
 k:GK g
 l:l! g.2.1<=1000
 d:l! g.2.2.1<=1000
 f:l! g.2.2.2.1<=1000
 t:l! g.2.2.2.2.1<=1000
structure GQ (g y:GN):Prop where
 a:y.1=g.1
 b:y.2.1=g.2.1
 c:y.2.2.1=g.2.2.1
 d:y.2.2.2.1=g.2.2.2.1
 e:y.2.2.2.2.1=g.2.2.2.2.1
 f:y.2.2.2.2.2.1=g.2.2.2.2.2.1
 h:y.2.2.2.2.2.2.1=g.2.2.2.2.2.2.1
def GQ.refl (g:GN):GQ g g:=⟨rfl,rfl,rfl,rfl,rfl,rfl,rfl⟩
def GQ.trans {a b c:GN} (h:GQ a b) (k:GQ b c):GQ a c:=⟨k.a.trans h.a,k.b.trans h.b,k.c.trans h.c,k.d.trans h.d,k.e.trans h.e,k.f.trans h.f,k.h.trans h.h⟩
def GB.of {g y:GN} (h:GB g) (q:GQ g y):GB y:=
 ⟨⟨by rw[q.a];exact h.k.c,by rw[q.a];exact h.k.q,by rw[q.h];exact h.k.l⟩,by rw[q.b];exact h.l,by rw[q.c];exact h.d,by rw[q.d];exact h.f,by rw[q.e];exact h.t⟩
def GQ.site (g:GN) (a b:Int):GQ g (g.1,g.2.1,g.2.2.1,g.2.2.2.1,g.2.2.2.2.1,g.2.2.2.2.2.1,g.2.2.2.2.2.2.1,a,b):=⟨rfl,rfl,rfl,rfl,rfl,rfl,rfl⟩
structure QG (n:Nat) (g:GN) (out:List IT) (y:GN×List IT):Prop where
 q:GQ g y.1
 l:l! out<=l! y.2
 u:l! y.2<=l! out+n
def wM (i:IT) (g:GN) (out:Y IT) (h:l! out<=100000000):Ok (cV (i,g,out)) (QG 1 g out):=(xf i g out h).mono λy d=>⟨by rw[d.1];exact GQ.refl g,by omega,by omega⟩
def El (e:Xp) (k:Int) (g:GN) (out:Y IT) (he:GE 4 e) (z:GB g) (h:l! out<=99999000):Ok (jB ((e,k),g,out)) (QG 15 g out):=(WA e k g out he z.k (by omega)).mono λy d=>⟨by rw[d.1];exact GQ.refl g,d.2.1,d.2.2⟩
def Yt (s:Sx) (g:GN) (out:Y IT) (h1:s.index≠[]->s.name=[113]) (h2:∀e∈s.index,GE 4 e) (h3:GE 4 s.expr) (D:GB g) (h:l! out<=99990000):Ok (nh (s,g,out)) (QG 40 g out):=by
 have hex:GE 4 (eD (Xp.op s.expr,Xp.n s.expr,Xp.name s.expr,Xp.l s.expr)):=by rw[ft];exact h3
 unfold nh aY bi bt b7 dc bR jR bI bY bc;refine aW (λN=>?_) λ_=>?_
 .dsimp only[ak]at N;refine eQ (aT ?_);refine aw (El _ _ g out (h2 _ (bZ (T:=.ex) (xs:=s.index) (j:=0) (by omega) (by omega))) D (by omega)) λy d=>?_
  obtain⟨L,F⟩:=y;obtain⟨q1,q2,q3⟩:=d;dsimp only at q1 q2 q3;refine a9 (by simp) ?_;refine aw (El _ _ L F hex (D.of q1) (by omega)) λy d=>?_
  obtain⟨g3,o3⟩:=y;obtain⟨r1,r2,r3⟩:=d;dsimp only at r1 r2 r3;refine a9 (by simp) ?_;have z:=D.of (q1.trans r1);refine aw (Cq _ _ z.k.c) λv hv=>?_
  obtain⟨v0,v1⟩:=hv (by
   have:s.name=[113]:=h1 (λh=>by rw[h]at N;simp at N);dsimp only;rw[this];exact z.k.q)
  refine aJ v0 v1 (aT ?_);refine aw (wM _ g3 o3 (by omega)) λy d=>a9 (by simp) (aj ⟨q1.trans (r1.trans d.q),by have:=d.l;omega,by have:=d.u;omega⟩)
 .refine aw (El _ _ g out hex D (by omega)) λy d=>?_
  obtain⟨L,F⟩:=y;obtain⟨q1,q2,q3⟩:=d;dsimp only at q1 q2 q3;have A:=D.of q1;refine a9 (by simp) ?_;refine aw (Dr _ _ (c9 A.k.l (by omega))) λv _=>dW (λ_=>?_) λ_=>?_
  .refine aw (wM _ L F (by omega)) λy d=>a9 (by simp) (aj ⟨q1.trans d.q,by have:=d.l;omega,by have:=d.u;omega⟩)
  .refine aw (Cq _ _ A.k.c) λv _=>?_
   refine aw (wM _ L F (by omega)) λy d=>a9 (by simp) (aj ⟨q1.trans d.q,by have:=d.l;omega,by have:=d.u;omega⟩)
def ag8 (s:ζ) (g:GN) (out:Y IT) (z:GB g):Ok (kz (s,g,out)) λy=>y.2=(g,out):=by
 have hd:=z.d;unfold kz aY bR bY bc c7 aH cS;refine cC (l! g.2.2.1) (λi x=>x.1=(i:Int)/\x.2=(g,out)) ?_ ?_ ⟨rfl,rfl⟩
 .rintro i ⟨a,x⟩ hi ⟨e1,e2⟩;dsimp only at e1 e2;subst e1 e2;refine aW (λ_=>?_) λg=>(by dsimp only[ak]at g;omega)
  refine eQ (aT ?_);exact aK (λ_=>aj rfl) λ_=>aj ⟨fA,rfl⟩
 .rintro⟨a,x⟩ ⟨e1,e2⟩;dsimp only at e1 e2;subst e1 e2;exact aW (λg=>(by dsimp only[ak]at g;omega)) λ_=>aj rfl
def ME:Nat->Nat
 |0=>0
 |d+1=>50+16*ME d
abbrev x?:=GN×Y IT
def SpG (z:Sx×x?->M x?) (d:Nat):Prop:=∀(s:Sx) (g:GN) (out:Y IT),GS d s->GB g->l! out+ME d<=90000000->Ok (z (s,g,out)) (QG (ME d) g out)
def ah0 (z:Y Sx×x?->M x?) (d:Nat):Prop:=∀(l:Y Sx) (g:GN) (out:Y IT),l! l<=100->(∀s∈l,GS d s)->GB g->l! out+l! l*ME d<=90000000->Ok (z (l,g,out)) (QG (l! l*ME d) g out)
abbrev FS6:Type:=Y Sx×x?->M x?
abbrev FT6:Type:=Sx×x?->M x?
abbrev FA6:Type:=(Sx×Int×Int×Int)×x?->M x?
def ao1 (z:FT6) (d:Nat):Prop:=∀(s:Sx) (g:GN) (out:Y IT),GE 4 s.expr->l! s.body<=8->l! s.els<=8->(∀x∈s.body,GS d x)->(∀x∈s.els,GS d x)->GB g->l! out+ME (d+1)<=90000000->Ok (z (s,g,out)) (QG (17+16*ME d) g out)
def ao2 (z:FA6) (d:Nat):Prop:=∀(s:Sx) (a b c:Int) (g:GN) (out:Y IT),l! s.body<=8->(∀x∈s.body,GS d x)->GB g->l! out+ME (d+1)<=90000000->Ok (z ((s,a,b,c),g,out)) (QG (17+16*ME d) g out)
def QG.trans {a c:Nat} {g z:GN} {o d:Y IT} {y:x?} (h:GQ g z) (h1:l! o<=l! d) (h2:l! d<=l! o+a) (k:QG i z d y) (A:a+i<=c):QG c g o y:=⟨h.trans k.q,by have:=k.l;omega,by have:=k.u;omega⟩
def QG.le {g:GN} {o:Y IT} {y:x?} (k:QG i g o y) (h:i<=j):QG j g o y:=⟨k.q,k.l,by have:=k.u;omega⟩
def XH (F:FS6) (z:FT6) (L:FT6) (N:FA6) (d:Nat) (ht:SpG z d):ah0 (rY F z L N) d:=by
 intro l g out hl hs hg hb;unfold rY bR bI bY bc c7 aH cS;refine cC (l! l) (λi x=>x.1=(i:Int)/\QG (i*ME d) g out x.2) ?_ ?_ ⟨rfl,GQ.refl g,by simp,by simp⟩
 .rintro i ⟨a,D,A⟩ hi ⟨e1,q1,q2,q3⟩;dsimp only at e1 q1 q2 q3;subst e1;have hK:(i+1)*ME d<=l! l*ME d:=cH _ (by omega);have hKs:=iC i (ME d);rw[Nat.succ_eq_add_one]at hKs;refine aW (λ_=>?_) λg=>(by dsimp only[ak]at g;omega)
  refine eQ (aT ?_);refine aw (ht _ D A (hs _ (bZ (T:=.sm) (xs:=l) (j:=(i:Int)) (by omega) (by omega))) (hg.of q1) (by omega)) λy hy=>a9 (by simp) (aj ?_)
  exact⟨fA,QG.trans q1 q2 q3 hy (by omega)⟩
 .rintro⟨a,D,A⟩ ⟨e1,q⟩;dsimp only at e1;subst e1;exact aW (λg=>(by dsimp only[ak]at g;omega)) λ_=>aj q
def Ur (A:FS6) (D:FT6) (F:FT6) (L:FA6) (d:Nat) (hS:ah0 A d):ao2 (qo A D F L) d:=by
 intro s a b c g out h1 h2 hg hb;have hm:ME (d+1)=50+16*ME d:=rfl;have kb:l! s.body*ME d<=8*ME d:=cH _ h1;unfold qo aY bi bt b7 dc fx bN s9 bI;refine aw (wM _ g out (by omega)) λy z=>?_
 obtain⟨g2,o2⟩:=y;obtain⟨q1,q2,q3⟩:=z;dsimp only at q1 q2 q3;refine a9 (by simp) ?_;refine aw (hS s.body g2 o2 (by omega) h2 (hg.of q1) (by omega)) λy z=>?_
 obtain⟨g3,o3⟩:=y;obtain⟨r1,r2,N⟩:=z;dsimp only at r1 r2 N;refine a9 (by simp) ?_;refine aw (wM _ _ o3 (by omega)) λy z=>a9 (by simp) (aj ?_)
 exact QG.trans (a:=1+8*ME d) (q1.trans (r1.trans (GQ.site g3 _ _))) (by omega) (by omega) z (by omega)
def Oz (rs:FS6) (rt:FT6) (rb:FT6) (ra:FA6) (d:Nat) (hS:ah0 rs d):ao1 (nP rs rt rb ra) d:=by
 intro s g out he h1 h2 h3 h4 D hb;have hm:ME (d+1)=50+16*ME d:=rfl;have kb:l! s.body*ME d<=8*ME d:=cH _ h1;have ke:l! s.els*ME d<=8*ME d:=cH _ h2;have hex:GE 4 (eD (Xp.op s.expr,Xp.n s.expr,Xp.name s.expr,Xp.l s.expr)):=by rw[ft];exact he
 unfold nP aY bi bt b7 dc fx s9 ck bn bI bc;refine aw (El _ _ g out hex D (by omega)) λy z=>?_
 obtain⟨g1,o1⟩:=y;obtain⟨p1,p2,p3⟩:=z;dsimp only at p1 p2 p3;refine a9 (by simp) ?_;refine aw (xf _ g1 o1 (by omega)) λy z=>?_
 obtain⟨g2,o2⟩:=y;obtain⟨q1,q2⟩:=z;dsimp only at q1 q2;subst q1;refine a9 (by simp) ?_;refine aw (hS s.body g2 o2 (by omega) h3 (D.of p1) (by omega)) λy z=>?_
 obtain⟨g3,o3⟩:=y;obtain⟨r1,r2,r3⟩:=z;dsimp only at r1 r2 r3;refine a9 (by simp) ?_;have A:=p1.trans (r1.trans (GQ.site g3 g.2.2.2.2.2.2.2.1 g3.2.2.2.2.2.2.2.2));refine aK (λ_=>?_) λ_=>?_
 .refine aw (xf _ _ o3 (by omega)) λy z=>?_
  obtain⟨F,o4⟩:=y;obtain⟨w1,w2⟩:=z;dsimp only at w1 w2;refine a9 (by simp) (aJ (eM _) (by dsimp only[ak];omega) (aJ (eM _) (by dsimp only[ak];omega) (aj ⟨?_,?_,?_⟩)))
  .dsimp only;rw[w1];exact A
  .dsimp only;rw[cR];omega
  .dsimp only;rw[cR];omega
 refine aK (λ_=>?_) λ_=>?_
 .refine aJ (eM _) (by dsimp only[ak];omega) (aJ (eM _) (by dsimp only[ak];omega) (aj ⟨A,?_,?_⟩))
  .dsimp only;rw[cR];omega
  .dsimp only;rw[cR];omega
 .refine aw (xf _ _ o3 (by omega)) λy z=>?_
  obtain⟨F,o4⟩:=y;obtain⟨w1,w2⟩:=z;dsimp only at w1 w2;have qs4:GQ g F:=by rw[w1];exact A
  refine a9 (by simp) (aJ (eM _) (by dsimp only[ak];omega) (aJ (eM _) (by dsimp only[ak];omega) ?_));refine aw (hS s.els F (cJ o4 _ _) (by omega) h4 (D.of qs4) (by rw[cR];omega)) λy z=>?_
  obtain⟨g5,o5⟩:=y;obtain⟨z1,N,L⟩:=z;dsimp only at z1 N L;rw[cR]at N L;refine a9 (by simp) (aJ (eM _) (by dsimp only[ak];omega) (aJ (eM _) (by dsimp only[ak];omega) (aj ⟨qs4.trans z1,?_,?_⟩)))
  .dsimp only;rw[cR];omega
  .dsimp only;rw[cR];omega
def aar (rs:FS6) (rt:FT6) (rb:FT6) (N:FA6) (d:Nat) (hB:ao1 rb d) (hA:ao2 N d):SpG (tA rs rt rb N) (d+1):=by
 intro s g out hs hg hb;have hm:ME (d+1)=50+16*ME d:=rfl;obtain⟨i1,i2,i3,i4,i5,i6,i7,i8,i9⟩:=hs;have gs:=GQ.site g g.2.2.2.2.2.2.2.2 (be .i64 (g.2.2.2.2.2.2.2.2+1));unfold tA aY bi bt b7 dc bN s9 bn bI bc aH cS eA;refine aV (λx=>QG (ME (d+1)) g out x) ?_ λx hx=>aj hx
 dsimp only;revert gs;generalize ((g.1,g.2.1,g.2.2.1,g.2.2.2.1,g.2.2.2.2.1,g.2.2.2.2.2.1,g.2.2.2.2.2.2.1,g.2.2.2.2.2.2.2.2,be .i64 (g.2.2.2.2.2.2.2.2+1)):GN)=D;intro gs;have A:=hg.of gs;have fin:∀(n:Nat) (y:x?),QG n D out y->n<=ME (d+1)->QG (ME (d+1)) g out y:=λn y z hn=>QG.trans (a:=0) gs (cA _) (by omega) z (by omega)
 refine aK (λL=>?_) λ_=>?_
 .refine aw (Yt (pO _) D out ?_ ?_ ?_ A (by omega)) λy z=>a9 (by simp) (aj (fin _ _ z (by omega)))
  .rw[AE];exact i1
  .rw[AE];exact i3
  .rw[AE];exact i4 (.inl L)
 refine aV (λx=>x.2=(D,s,out)/\(x.1=J->s.op=2\/s.op=3)) ?_ ?_
 .exact aK (λh=>aj ⟨by dsimp only;rw[AE],λ_=>.inl h⟩) λ_=>aj ⟨by dsimp only;rw[AE],λh=>.inr (bl h)⟩
 rintro⟨b,x⟩ ⟨e,F⟩;dsimp only at e F;subst e;refine aM (λhb3=>?_) λ_=>?_
 .dsimp only;rw[AE];refine aw (hB s D out (i4 (by rcases F hb3 with h|h;exact .inr (.inl h);exact .inr (.inr (.inl h)))) i6 i7 i8 i9 A hb) λy z=>a9 (by simp) (aj (fin _ _ z (by omega)))
 have har:∀(a b c:Int),Ok (N ((s,a,b,c),D,out)) (QG (17+16*ME d) D out):=λa b c=>hA s a b c D out i6 i8 A hb
 have hput:∀(i:IT),Ok (cV (i,D,out)) (QG 1 D out):=λi=>wM i D out (by omega)
 have hat:∀(l:Y ζ) (n:ζ),l! l<=1000->Ok (lh (l,n)) λ_=>True:=λl n h=>(Dr l n (by omega)).mono λ_ _=>trivial
 dsimp only;rw[AE];refine aK (λ_=>aw (Cc _ _ A.l) λ_ _=>aw (har _ _ _) λy z=>a9 (by simp) (aj (fin _ _ z (by omega)))) λ_=>?_
 refine aK (λ_=>aw (Cc _ _ A.l) λ_ _=>aw (har _ _ _) λy z=>a9 (by simp) (aj (fin _ _ z (by omega)))) λ_=>?_
 refine aK (λ_=>aw (Cc _ _ A.l) λ_ _=>aw (har _ _ _) λy z=>a9 (by simp) (aj (fin _ _ z (by omega)))) λ_=>?_
 refine aK (λ_=>aw (har _ _ _) λy z=>a9 (by simp) (aj (fin _ _ z (by omega)))) λ_=>?_
 refine aK (λ_=>aw (har _ _ _) λy z=>a9 (by simp) (aj (fin _ _ z (by omega)))) λ_=>?_
 have hcond:∀(n:ζ),Ok (kz (n,D,out)) λy=>y.2=(D,out):=λn=>ag8 n D out A
 refine aK (λ_=>aw (hcond _) λy z=>?_) λ_=>?_
 .obtain⟨v,y2⟩:=y;dsimp only at z;subst z;exact a9 (by simp) (aw (hput _) λy z=>a9 (by simp) (aj (fin _ _ z (by omega))))
 refine aK (λ_=>aw (hcond _) λy z=>?_) λ_=>?_
 .obtain⟨v,y2⟩:=y;dsimp only at z;subst z;exact a9 (by simp) (aw (hput _) λy z=>a9 (by simp) (aj (fin _ _ z (by omega))))
 refine aK (λ_=>aw (hcond _) λy z=>?_) λ_=>?_
 .obtain⟨v,y2⟩:=y;dsimp only at z;subst z;exact a9 (by simp) (aw (hput _) λy z=>a9 (by simp) (aj (fin _ _ z (by omega))))
 refine aK (λ_=>aw (hat _ _ A.t) λ_ _=>aw (hput _) λy z=>a9 (by simp) (aj (fin _ _ z (by omega)))) λ_=>?_
 refine aK (λ_=>aw (hat _ _ A.t) λ_ _=>aw (hput _) λy z=>a9 (by simp) (aj (fin _ _ z (by omega)))) λ_=>?_
 refine aK (λL=>?_) λ_=>?_
 .have hex:GE 4 (eD (Xp.op s.expr,Xp.n s.expr,Xp.name s.expr,Xp.l s.expr)):=by rw[ft];exact i4 (.inr (.inr (.inr L)))
  refine aw (El _ _ D out hex A (by omega)) λy z=>?_
  obtain⟨g2,o2⟩:=y;obtain⟨q1,q2,q3⟩:=z;dsimp only at q1 q2 q3;refine a9 (by simp) (aw (hat _ _ (A.of q1).f) λ_ _=>?_);exact aw (wM _ g2 o2 (by omega)) λy z=>a9 (by simp) (aj (fin 16 _ (QG.trans q1 q2 q3 z (by omega)) (by omega)))
 refine aK (λL=>?_) λ_=>aj (fin 0 _ ⟨GQ.refl _,cA _,by dsimp only;omega⟩ (by omega))
 exact aw (hat _ _ A.k.l) λ_ _=>aw (hat _ _ A.f) λ_ _=>aw (hput _) λy z=>a9 (by simp) (aj (fin _ _ z (by omega)))
def Zq:∀(n:Nat),(∀d:Nat,3*d<n->SpG (eU n) d)/\(∀d:Nat,3*d+1<n->ah0 (dZ n) d)/\(∀d:Nat,3*d+2<n->ao1 (dt n) d)/\(∀d:Nat,3*d+2<n->ao2 (dT n) d)
 |0=>⟨λd h=>by omega,λd h=>by omega,λd h=>by omega,λd h=>by omega⟩
 |n+1=>by
  obtain⟨D,z,F,hA⟩:=Zq n;refine ⟨λd h=>?_,λd h=>?_,λd h=>?_,λd h=>?_⟩
  .cases d with
   |zero=>exact λs g out A=>A.elim
   |succ d=>exact aar (dZ n) (eU n) (dt n) (dT n) d (F d (by omega)) (hA d (by omega))
  .exact XH (dZ n) (eU n) (dt n) (dT n) d (D d (by omega))
  .exact Oz (dZ n) (eU n) (dt n) (dT n) d (z d (by omega))
  .exact Ur (dZ n) (eU n) (dt n) (dT n) d (z d (by omega))
def Rv (d:Nat) (hd:d<=100):ah0 vE d:=(Zq fuel).2.1 d (by rw[r8];omega)
def G4:∀(n d:Nat),d<n->∀(t k:Int) (l:Y Sx) (out:Y ν),l! l<=100->(∀s∈l,GT d s)->l! out+l! l*KS d<=100000000->Ok (qT n ((t,k,l),out)) λy=>l! y.2<=l! out+l! l*KS d
 |0,_,h,_,_,_,_,_,_,_=>by omega
 |n+1,d,hn,t,k,l,out,hl,F,hb=>by
  rw[Js];unfold zi bR kj bI bc c7 aH cS;refine cC (l! l) (λi x=>x.1.2=(i:Int)/\l! x.2<=l! out+i*KS d) ?_ ?_ ⟨rfl,by simp⟩
  .rintro i ⟨⟨a,b⟩,o⟩ hi ⟨e1,e2⟩;dsimp only at e1 e2;subst e1;have hKi:(i+1)*KS d<=l! l*KS d:=cH _ (by omega);have hKs:=iC i (KS d);rw[Nat.succ_eq_add_one]at hKs;refine aW (λ_=>?_) λg=>(by dsimp only[ak]at g;omega)
   have hin:((i:Nat):Int)<(l! l:Int):=by omega
   have hm:=F _ (bZ (T:=.sm) (xs:=l) (j:=(i:Int)) (by omega) (by omega));cases d with
   |zero=>exact hm.elim
   |succ d=>
    obtain⟨_,_,_,g4,g5,N,L⟩:=hm;have hk:KS (d+1)=1+16*KS d:=rfl;have kb:=cH (KS d) g4;have ke:=cH (KS d) g5;dsimp only;refine aJ (by omega) hin (aT (a! (aJ (by omega) hin (aT ?_))));refine aw (G4 n d (by omega) _ _ _ _ (by omega) N (by simp;omega)) λy D=>a9 (by simp) ?_
    obtain⟨a2,A⟩:=y;simp only[bG,bP]at D;refine aJ (by omega) hin (aT ?_);refine aw (G4 n d (by omega) _ _ _ A (by omega) L (by omega)) λy z=>a9 (by simp) (aj ?_)
    exact⟨fA,by dsimp only at z ⊢;omega⟩
  .rintro⟨⟨a,b⟩,o⟩ ⟨e1,e2⟩;dsimp only at e1 e2;subst e1;exact aW (λg=>(by dsimp only[ak]at g;omega)) λ_=>aj e2
abbrev CE6:Type:=ζ×u!
structure J6 (i:Nat) (y:List CE6×List (ζ×Bool)×List (ζ×Int)×List ζ):Prop where
 c:l! y.1<=2*i
 q:3<i->∃c∈y.1,c.1=[113]
 l:l! y.2.1<=i
 d:l! y.2.2.1<=i
 f:l! y.2.2.2<=i
structure WW (w:WT):Prop where
 c:l! w.1<=18
 q:∃c∈w.1,c.1=[113]
 l:l! w.2.1<=9
 d:l! w.2.2.1<=9
 f:l! w.2.2.2.1<=9
 t:l! w.2.2.2.2.1<=4
def Yx (p:PG) (hp:PJ p) (r:Γ) (hr:lG p=Z r) (h0:r.1=0):Ok (vF p) WW:=by
 have hpt:=hp.t;unfold vF aY bi bt b7 dc bN cW cY dN iX bn bR iK bI bY bc c7 aH cS;refine aQ hr (cj (λh=>(h h0).elim) λ_=>?_);have hD:p.1=D0:=hp.d;have hlen:l! p.1=9:=by rw[hD];rfl
 have hz:∀z∈p.1,z.2.2.2.1<=(2:Int):=by rw[hD];decide
 have h3:geti IW p.1 ((3:Nat):Int)=(1,0,[113],2,0,[]):=by rw[hD];rfl
 refine cC 9 (λi x=>x.1=(i:Int)/\x.2.1=p/\J6 i x.2.2) ?_ ?_ ⟨rfl,rfl,by simp,λh=>by omega,by simp,by simp,by simp⟩
 .rintro i ⟨a,p',cs,ls,ds,fs⟩ hi ⟨e1,e2,j1,L,j3,j4,j5⟩;dsimp only at e1 e2 j1 L j3 j4 j5;subst e1;have e2:=e2.symm;subst e2;refine aW (λ_=>?_) λg=>(by dsimp only[ak]at g;omega)
  refine eQ (aT ?_);have hm:=hz _ (bZ (T:=IW) (xs:=p.1) (j:=(i:Int)) (by omega) (by omega));have h3i:i=3->(geti IW p.1 (i:Int))=(1,0,[113],2,0,[]):=λh=>by rw[h];exact h3
  revert hm h3i;generalize (geti IW p.1 (i:Int))=z;intro hm h3i;have hq:∀cs':Y CE6,(∀c∈cs,c∈cs')->i≠3->3<i+1->∃c∈cs',c.1=[113]:=λcs' h1 h2 h3=>by
   obtain⟨c,F,e⟩:=L (by omega);exact⟨c,h1 c F,e⟩
  refine aV (λx=>x.1=p/\J6 (i+1) x.2) ?_ ?_
  .refine aV (λx=>x.2=(p,z,cs,ls,ds,fs)/\(x.1=aa->i≠3)) ?_ ?_
   .refine aK (λh=>aj ⟨rfl,λh2=>?_⟩) λh=>aj ⟨rfl,λ_ h2=>h (by rw[h3i h2])⟩
    rw[bj h]at h2;cases h2
   rintro⟨b,x⟩ ⟨e,hb⟩;dsimp only at e hb;subst e;refine aM (λ_=>?_) λhb2=>?_
   .refine nL (λx=>(2-x.1).toNat) (λx=>0<=x.1/\x.1<=2/\x.2.1=p/\x.2.2.1=z/\(l! x.2.2.2.1:Int)<=2*i+x.1/\(∀c∈cs,c∈x.2.2.2.1)/\(1<=x.1->∃c∈x.2.2.2.1,c.1=z.2.2.1)/\x.2.2.2.2=(ls,ds,fs)) ?_ ⟨by dsimp only;omega,by dsimp only;omega,rfl,rfl,by dsimp only;omega,λc F=>F,λh=>by dsimp only at h;omega,rfl⟩;rintro⟨(k:Int),p2,z2,cs2,x⟩ ⟨k0,k1,D,A,f3,f4,f5,f6⟩;dsimp only at k0 k1 D A f3 f4 f5 f6;have D:=D.symm;subst D;have A:=A.symm;subst A f6;refine aW (λg=>?_) λg=>?_
    .refine a! (aj ?_);have hg:k<oI (z.2.2.2.1) 1:=g;have hx:oI (z.2.2.2.1) 1<=2:=by unfold oI;split<;>omega
     dsimp only;rw[ic (n:=k+1) (by omega) (by omega)];refine ⟨⟨by omega,by omega,rfl,rfl,by simp;omega,λc F=>fW _ (f4 c F),λ_=>⟨_,lL _ (aE.2 rfl),rfl⟩,rfl⟩,by omega⟩
    .have hg:oI (z.2.2.2.1) 1<=k:=g;have hx:1<=oI (z.2.2.2.1) 1:=by
      unfold oI;split
      .omega
      .rename_i h;simp[fM]at h;omega
     refine aj ⟨rfl,⟨by dsimp only;omega,λh=>?_,by dsimp only;omega,by dsimp only;omega,by dsimp only;omega⟩⟩;by_cases N:i=3
     .obtain⟨c,F,e⟩:=f5 (by omega);exact⟨c,F,by rw[e,h3i N]⟩
     .exact hq _ f4 N h
   have ni:=hb hb2;refine aV (λx=>x.2=(p,z,cs,ls,ds,fs)) (aK (λ_=>aj rfl) λ_=>aj rfl) ?_;rintro⟨b,x⟩ e;dsimp only at e;subst e;have hqq:=hq cs (λc h=>h) ni;refine aM (λ_=>?_) λ_=>aK (λ_=>?_) λ_=>?_
   .exact a! (aj ⟨rfl,⟨by dsimp only;omega,hqq,by simp;omega,by dsimp only;omega,by dsimp only;omega⟩⟩)
   .refine aw (Cc _ _ (by dsimp only;omega)) λ_ _=>?_
    exact a! (aj ⟨rfl,⟨by dsimp only;omega,hqq,by dsimp only;omega,by simp;omega,by dsimp only;omega⟩⟩)
   .exact a! (aj ⟨rfl,⟨by dsimp only;omega,hqq,by dsimp only;omega,by dsimp only;omega,by simp;omega⟩⟩)
  rintro⟨p2,y⟩ ⟨D,A⟩;dsimp only at D A;have D:=D.symm;subst D;exact aj ⟨fA,rfl,A⟩
 .rintro⟨a,p',y⟩ ⟨e1,e2,j⟩;dsimp only at e1 e2 j;subst e1;have e2:=e2.symm;subst e2;refine aW (λg=>(by dsimp only[ak]at g;omega)) λ_=>?_
  obtain⟨cs,ls,ds,fs⟩:=y;obtain⟨j1,L,j3,j4,j5⟩:=j;dsimp only at j1 L j3 j4 j5;refine aw (P:=WW) ?_ λr hr=>aj hr
  refine cC (l! p.2) (λi x=>x.1=(i:Int)/\x.2.1=p/\x.2.2.1=cs/\x.2.2.2.1=ls/\x.2.2.2.2.1=ds/\x.2.2.2.2.2.1=fs/\l! x.2.2.2.2.2.2.1=i/\l! x.2.2.2.2.2.2.2<=i*2184) ?_ ?_ ⟨rfl,rfl,rfl,rfl,rfl,rfl,rfl,by simp⟩
  .rintro i ⟨a,p2,c2,l2,d2,A,t2,s2⟩ hi ⟨e1,e2,e3,e4,e5,e6,e7,e8⟩;dsimp only at e1 e2 e3 e4 e5 e6 e7 e8;subst e1;have e2:=e2.symm;subst e2;refine aW (λ_=>?_) λg=>(by dsimp only[ak]at g;omega)
   have hin:((i:Nat):Int)<(l! p.2:Int):=by omega
   have hm:=hp.m _ (bZ (T:=uv) (xs:=p.2) (j:=(i:Int)) (by omega) hin);have hk:KS 3=273:=rfl;have hb:=hm.b;have hle:=cH (KS 3) hb;rw[hk]at hle;dsimp only;refine aJ (by omega) hin (aT (a! (aJ (by omega) hin (aT ?_))));refine aw (G4 fuel 3 (by rw[r8];omega) _ _ _ s2 (by omega) (λs hs=>(hm.s s hs).t) (by rw[hk];omega)) λy hy=>a9 (by simp) (aj ?_)
   rw[hk]at hy;exact⟨fA,rfl,e3,e4,e5,e6,by simp;omega,by dsimp only;omega⟩
  .rintro⟨a,p2,c2,l2,d2,A,t2,s2⟩ ⟨e1,e2,e3,e4,e5,e6,e7,e8⟩;dsimp only at e1 e2 e3 e4 e5 e6 e7 e8;subst e1;have e2:=e2.symm;subst e2 e3 e4 e5 e6;refine aW (λg=>(by dsimp only[ak]at g;omega)) λ_=>aj ?_
   exact⟨j1,L (by omega),j3,j4,j5,by dsimp only;omega⟩
def Sk (p:PG) (hp:PJ p):Ok (rO p) λy=>CB y.1:=by
 have hpt:=hp.t;unfold rO aY bi bt b7 dc bN cY dN s9 bR iK bI bY jZ bc c7 aH cS;obtain⟨r,hr,_⟩:=Gb p hp.x;refine aQ hr (cj (λ_=>aj ⟨by simp,λt ht=>(by cases ht)⟩) λh0=>?_);refine aw (Yx p hp r hr h0) λw N=>?_
 refine cC (l! p.2) (λi x=>x.1.2=(i:Int)/\x.2.1=p/\x.2.2.1=w/\l! x.2.2.2=i/\∀t∈x.2.2.2,l! t.2<=1000000) ?_ ?_ ⟨rfl,rfl,rfl,rfl,λt ht=>(by cases ht)⟩
 .rintro i ⟨⟨a,b⟩,p2,w2,cs⟩ hi ⟨e1,e2,e3,e4,e5⟩;dsimp only at e1 e2 e3 e4 e5;subst e1;have e2:=e2.symm;subst e2;have e3:=e3.symm;subst e3;have hin:((i:Nat):Int)<(l! p.2:Int):=by omega
  refine aW (λ_=>?_) λg=>(by dsimp only[ak]at g;omega)
  have hm:=hp.m _ (bZ (T:=uv) (xs:=p.2) (j:=(i:Int)) (by omega) hin);dsimp only;refine aJ (by omega) hin (aT (aJ (by omega) hin (aT ?_)));revert hm;generalize (geti uv p.2 (i:Int))=t;intro hm;have hk:ME 3=50+16*(50+16*50):=rfl;have hle:=cH (ME 3) hm.b;rw[hk]at hle;have hll:l! t.2.2.1=2:=by rw[hm.l];rfl
  refine aw (Rv 3 (by omega) _ _ [] (by have:=hm.b;omega) hm.s ⟨⟨by have:=N.c;dsimp only;omega,N.q,by dsimp only;omega⟩,by have:=N.l;dsimp only;omega,by have:=N.d;dsimp only;omega,by have:=N.f;dsimp only;omega,by have:=N.t;dsimp only;omega⟩ (by rw[hk,lm];omega)) λy L=>a9 (by simp) ?_
  obtain⟨g2,o2⟩:=y;obtain⟨q1,q2,q3⟩:=L;rw[hk]at q3;dsimp only at q1 q2 q3;rw[lm]at q3;refine aw (wM _ _ o2 (by omega)) λy L=>a9 (by simp) ?_
  obtain⟨g3,o3⟩:=y;have o3l:=L.u;dsimp only at o3l;refine cC (l! o3) (λk x=>x.1=(k:Int)/\x.2.1=p/\x.2.2.1=w/\x.2.2.2.2.2.1=cs/\x.2.2.2.2.2.2=o3) ?_ ?_ ⟨rfl,rfl,rfl,rfl,rfl⟩
  .rintro k ⟨a,p2,w2,g4,rg,c2,o4⟩ hk2 ⟨F,D,f3,A,z⟩;dsimp only at F D f3 A z;subst F;have D:=D.symm;subst D;have f3:=f3.symm;subst f3;have A:=A.symm;subst A;have z:=z.symm;subst z;refine aW (λ_=>?_) λg=>(by dsimp only[ak]at g;omega)
   dsimp only;refine eQ (eQ (aT (aQ (zU _) ?_)));generalize (geti sx o3 (k:Int))=ins;have hrl:=KP ins;refine cC (l! (uO ins)) (λj x=>x.1=(j:Int)/\x.2.1=p/\x.2.2.1=w/\x.2.2.2.2.2.1=cs/\x.2.2.2.2.2.2=o3) ?_ ?_ ⟨rfl,rfl,rfl,rfl,rfl⟩
   .rintro j ⟨a,p2,w2,g4,rg,c2,o4⟩ hj ⟨F,D,f3,A,z⟩;dsimp only at F D f3 A z;subst F;refine aW (λ_=>?_) λg=>(by dsimp only[ak]at g;omega)
    exact eQ (aT (aj ⟨fA,D,f3,A,z⟩))
   .rintro⟨a,p2,w2,g4,rg,c2,o4⟩ ⟨F,D,f3,A,z⟩;dsimp only at F D f3 A z;subst F;exact aW (λg=>(by dsimp only[ak]at g;omega)) λ_=>aj ⟨fA,D,f3,A,z⟩
  .rintro⟨a,p2,w2,g4,rg,c2,o4⟩ ⟨F,D,f3,A,z⟩;dsimp only at F D f3 A z;subst F;have D:=D.symm;subst D;have f3:=f3.symm;subst f3;have A:=A.symm;subst A;have z:=z.symm;subst z;refine aW (λg=>(by dsimp only[ak]at g;omega)) λ_=>?_
   refine aw (P:=λr=>match r with|.inl y=>y.1.2=((i+1:Nat):Int)/\y.2.1=p/\y.2.2.1=w/\l! y.2.2.2=i+1/\∀t∈y.2.2.2,l! t.2<=1000000|.inr y=>CB y.1) ?_ ?_
   .refine a! (aj ⟨fA,rfl,rfl,by simp;omega,λt ht=>?_⟩);rcases bE.1 ht with ht|ht
    .exact e5 t ht
    .rw[aE]at ht;rw[ht];dsimp only;omega
   .rintro (y|y) L
    .exact aj L
    .exact aj L
 .rintro⟨⟨a,b⟩,p2,w2,cs⟩ ⟨e1,e2,e3,e4,e5⟩;dsimp only at e1 e2 e3 e4 e5;subst e1;exact aW (λg=>(by dsimp only[ak]at g;rw[e2]at g;omega)) λ_=>aj ⟨by dsimp only;omega,e5⟩
def N_ (a b:η) (L:l! a<=9223372036854775807) (A:∀z∈a,0<=z/\z<=255) (F:l! b<=1000000):Ok (tR (a,b)) TR:=by
 unfold tR;refine aw (P:=CB) ?_ λc D=>aw (YL b F) λl N=>?_
 .unfold yX;exact aw (I7 a L A) λp hp=>aw (Sk p hp) λy d=>aj d
 .exact aw (ao3 c l D (by omega)) λy d=>aj d
def Sj (a b c:η) (n:Int) (n0:0<=n) (L:n<=1000000) (F:l! a<=9223372036854775807) (A:∀z∈a,0<=z/\z<=255) (D:l! c<=9223372036854775807) (d:∀z∈c,0<=z/\z<=255):Ok (mn ((a,b,c),n)) TR:=by
 unfold mn bR bI bc;refine aW (λ_=>aw (KM c n D d) λy h=>aj h) λ_=>?_
 have h0:0<=Jb (aR (l! b)) n/\Jb (aR (l! b)) n<=(l! b:Int)/\Jb (aR (l! b)) n<=n:=by
  unfold Jb;split
  .rename_i h;rw[mV]at h;dsimp only[ak]at h;exact⟨n0,by omega,eE _⟩
  .rename_i h;have h:=fH.1 (Bool.eq_false_iff.2 h);dsimp only[ak]at h ⊢;exact⟨by omega,eE _,h⟩
 refine c6 (dm h0.1 (dm h0.2.1 ?_));have h1:l! (dg (aS (Jb (aR (l! b)) n)) b)<=1000000:=by rw[cv];have:=h0.1;have:=h0.2.2;omega
 exact aw (N_ a _ F A h1) λy h=>aj h
variable {O:Nat->Prop} {v:Value} {V:PM}
def eV {w:World} {u:Value} (h:cu V O w (.f (.raw v)) u):u=v:=by
 cases h with
 |f h=>cases h;rfl
def vn (h:HF) (d:HF):eW h [] d=h:=by funext t;simp[eW]
def IN:∀{l:ξ},Na l=J->∀v∈l,v.oneCell'=J
 |[],_,v,d=>by cases d
 |x::r,h,v,d=>by
  simp only[Na,au]at h;rcases bm.1 d with rfl|d
  .exact h.1
  .exact IN h.2 v d
def Yh {w:World} (v:Value):cu V O w (Hl v) v:=by
 unfold Hl;split
 .rename_i vs;split
  .rename_i h1;refine cu.agg (vs:=vs.toList) (by simp) (λx d=>?_) (λj x v d z=>?_)
   .obtain⟨u,A,rfl⟩:=cq.1 d;exact IN h1 u A
   .rw[a8,z]at d;simp only[bx,af]at d;subst d;exact .f (.raw _)
  .exact .f (.raw _)
 .exact .f (.raw _)
variable {y:AV} {S:HF} {N:Act} {d:Operand}
def uX {w:World} {e:Dp} {xs:Array Operand} (hrep:sq V O S w) (h:∀t,.tmp t∈xs->∀y,e.get t=Z y->cu V (tot O V S) w y (N.tmps.getD t undef)) (z:d∈xs) (x:mf e d=Z y):cu V (tot O V S) w y (N.eval d):=by
 cases d with
 |tmp t=>exact h t z y x
 |const v=>simp only[mf,af]at x;subst x;exact Yh v
 |func g=>
  simp only[mf,af]at x;subst x;exact cu.qy (vs:=[]) (g:=g) (cells:=[]) rfl (by intro j d v z;simp at z)
 |global g=>
  simp only[mf]at x;cases A:G g with
  |none=>rw[A]at x;cases x
  |some cells=>rw[A]at x;cases x;exact .f (hrep.gl g cells A)
abbrev Ws (φ:PM) (E:Nat->Prop) (h':HF) (w:World) (a:Act) (e:Dp) (o:Oper):Prop:=∀x y,x∈o.op.operands->mf e x=Z y->cu φ (tot E φ h') w y (a.eval x)
variable {P:Program} {k:Oper}
def fZ.reads {e:Dp} {rd:ι} {z:HF}
 (F:∀(φ:PM) (E:Nat->Prop) (h':HF) (w:World) (a:Act),(∀i∈rd,h' i=S i)->Ws φ E h' w a e k->sq φ E h' w->
   ∃v,(execOp a.eval k).run P w= .ok (.value v) w/\cu φ (tot E φ h') w y v):fZ P k e.get S ⟨y,rd,[],z,[]⟩:=by
 intro φ E h' w a h1 h2 L d N;obtain⟨v,r,rel⟩:=F φ E h' w a h1 (λx val D A=>uX d L D A) d;unfold Oper.wp;rw[r];refine ⟨v,φ,rfl,?_,λ_ _ S=>.inl S,?_,?_⟩<;>rw[vn]
 .exact kf.refl _ _ _
 .exact d
 .exact rel
def dx {R:Co} (h:rv y=Z R):R=⟨y,[],[],[],[]⟩:=by simp only[rv,af]at h;exact h.symm
section pure
variable {P:Program} {o:Oper} {e:Dp} {h:m7} {nx:Nat} {R:Co}
def ar2 (x:o.op= .move d\/o.op= .assign d) (z:dB (.mv d) e h nx=Z R):fZ P o e.get h.get R.eff:=by
 simp only[dB]at z;split at z
 .rename_i v A;rw[dx z];exact fZ.reads λφ E h' w a _ hop _=>⟨a.eval d,by unfold execOp;rcases x with x|x<;>rw[x]<;>rfl,hop d v (by rcases x with x|x<;>rw[x]<;>simp[Op.operands]) A⟩
 .cases z
def anq {c y:Operand} (z:o.op= .pick c d y) (x:dB (.pick c d y) e h nx=Z R):fZ P o e.get h.get R.eff:=by
 simp only[dB]at x;split at x
 .rename_i t D;split at x
  .rename_i v A;rw[dx x];refine fZ.reads λφ E h' w a _ hop _=>?_
   have hcv:=eV (hop c _ (by rw[z];simp[Op.operands]) D);refine ⟨a.eval (if t then d else y),?_,hop _ v (by rw[z];cases t<;>simp[Op.operands]) A⟩;unfold execOp;rw[z];simp only[hcv];cases t<;>rfl
  .cases x
 .cases x
def anr (x:o.op= .nilCheck d) (A:dB (.zd d) e h nx=Z R):fZ P o e.get h.get R.eff:=by
 simp only[dB]at A;split at A
 .rename_i id off F;rw[dx A];refine fZ.reads λφ E h' w a _ hop _=>?_
  have h1:=hop d _ (by rw[x];simp[Op.operands]) F;generalize D:a.eval d=z at h1;cases h1 with
  |H hφ=>exact⟨_,by unfold execOp;rw[x];simp only[D];rfl,.H hφ⟩
 .rename_i cells off F;rw[dx A];refine fZ.reads λφ E h' w a _ hop _=>?_
  have h1:=hop d _ (by rw[x];simp[Op.operands]) F;generalize D:a.eval d=z at h1;cases h1 with
  |f h1=>
   have h2:=h1;cases h2 with
   |H _ _ b base us hO hb hcl hu L=>exact⟨_,by unfold execOp;rw[x];simp only[D];rfl,.f h1⟩
 .rename_i g cap F;rw[dx A];refine fZ.reads λφ E h' w a _ hop _=>?_
  have h1:=hop d _ (by rw[x];simp[Op.operands]) F;generalize D:a.eval d=z at h1;cases h1 with
  |qy N L=>exact⟨_,by unfold execOp;rw[x];simp only[D];rfl,.qy N L⟩
 .cases A
variable {s:TypeId}
def ar0 (z:o.op= .unOp .not s d) (x:dB (.not d) e h nx=Z R):fZ P o e.get h.get R.eff:=by
 simp only[dB]at x;split at x
 .rename_i b A;rw[dx x];refine fZ.reads λφ E h' w a _ hop _=>?_
  have h1:=eV (hop d _ (by rw[z];simp[Op.operands]) A);exact⟨_,by unfold execOp;rw[z];simp only[h1];rfl,.f (.raw _)⟩
 .cases x
def AO (k:IntKind) (n:Int):be k n=k.wrap n:=by
 rw[J5];unfold Pb;split
 .split
  .rename_i h;simp only[dj,au,bB]at h;have:pW .i64 n=if n%18446744073709551616≥9223372036854775808 then n%18446744073709551616-18446744073709551616 else n%18446744073709551616:=by
    simp[pW,IntKind.bits,IntKind.signed]
   rw[this];split<;>omega
  .rfl
 .split
  .rename_i h;simp only[dj,au,bB]at h;have:pW .u8 n=n%256:=by
    simp[pW,IntKind.bits,IntKind.signed]
   rw[this];omega
  .rfl
 .rfl
def ao0 {x:TypeId} {k D:IntKind} (A:o.op= .convert s x d) (L:P.underlying s=Z (.int D)) (hd:P.underlying x=Z (.int k)) (z:dB (.conv k d) e h nx=Z R):fZ P o e.get h.get R.eff:=by
 simp only[dB]at z;split at z
 .rename_i kk n F;rw[dx z];refine fZ.reads λφ E h' w a _ hop _=>?_
  have h1:=eV (hop d _ (by rw[A];simp[Op.operands]) F);refine ⟨_,?_,.f (.raw _)⟩;unfold execOp;rw[A];simp[h1,convert,run_underlying L,run_underlying hd,Conv.intToInt,AO]
 .cases z
def R8 (a:ByteArray):a.toList=a.data.toList:=by
 first|exact ByteArray.toList_eq a|simp[ByteArray.toList]|rfl
def adz {op:BinOp} {t:TypeId} {u r:Value} (d:uY op u v=Z r) (x y:Operand) (w:World):
 (do eqGuard op t x y u v;binOp op t u v:Sem Value).run P w= .ok r w:=by
 unfold uY at d;split at d
 .rename_i k a A b;split at d
  .rename_i D;have z:k=A:=by simpa using D
   subst z;split at d<;>first|(cases d;simp[eqGuard,binOp,Op.intCmp,Op.intArith,AO,dj,fM];done)|(split at d<;>first|(cases d;done)|(rename_i F;cases d;simp[eqGuard,binOp,Op.intDiv,AO,show b≠0 from by simpa using F];done))|(cases d;done)
  .cases d
 .rename_i a b;split at d<;>first|(cases d;simp[eqGuard,binOp,Op.stringOp,tH,R8];done)|(cases d;done)
 .cases d
def alm {s:Sem Value} {w w':World} (d:s.run P w= .ok v w'):(do let x<-s;pure (Next.value x):Sem Next).run P w= .ok (.value v) w':=by
 simp[d]
def am7 {op:BinOp} {y:Operand} {A:TypeId} (z:o.op= .binOp op s d y A) (x:dB (.bin op d y) e h nx=Z R):fZ P o e.get h.get R.eff:=by
 simp only[dB]at x;split at x
 .rename_i u v F D;split at x
  .rename_i r L;rw[dx x];refine fZ.reads λφ E h' w a _ hop _=>?_
   have h1:=eV (hop d _ (by rw[z];simp[Op.operands]) F);have h2:=eV (hop y _ (by rw[z];simp[Op.operands]) D);refine ⟨r,?_,.f (.raw _)⟩;unfold execOp;rw[z];simp only[h1,h2];exact alm (adz (P:=P) (t:=s) L d y w)
  .cases x
 .cases x
def XM (z:P.underlying s=Z .bool) (u v:Bool) (w:World):(Op.equal s (.bool u) (.bool v)).run P w= .ok (u==v) w:=by
 have key:∀d,(Op.equalIn (d+1) s (.bool u) (.bool v)).run P w= .ok (u==v) w:=λd=>by simp[Op.equalIn,run_underlying z]
 exact key 9999
def UI {D:TypeId} (z:P.underlying s=Z (.slice D)) (A:M Addr) (n c:Nat) (w:World):(Op.equal s (.slice A n c) (.slice U 0 0)).run P w= .ok A.isNone w:=by
 have key:∀d,(Op.equalIn (d+1) s (.slice A n c) (.slice U 0 0)).run P w= .ok A.isNone w:=λd=>by cases A<;>simp[Op.equalIn,run_underlying z]
 exact key 9999
def am6 {neg:Bool} {op:BinOp} {y:Operand} {A:TypeId} (z:o.op= .binOp op s d y A) (hop:op=if neg then .neq else .eql) (L:P.underlying s=Z .bool) (x:dB (.xz neg d y) e h nx=Z R):fZ P o e.get h.get R.eff:=by
 simp only[dB]at x;split at x
 .rename_i u v F D;rw[dx x];refine fZ.reads λφ E h' w a _ hp _=>?_
  have h1:=eV (hp d _ (by rw[z];simp[Op.operands]) F);have h2:=eV (hp y _ (by rw[z];simp[Op.operands]) D);refine ⟨_,?_,.f (.raw _)⟩;unfold execOp;rw[z];simp only[h1,h2];subst hop;cases neg<;>simp[eqGuard,binOp,XM L]
 .cases x
def ZU {neg:Bool} {op:BinOp} {y:Operand} {t' el:TypeId} (L:o.op= .binOp op s d y t') (hop:op=if neg then .neq else .eql) (hy:y= .const (.slice U 0 0)) (hu:P.underlying s=Z (.slice el)) (D:dB (.zf neg d) e h nx=Z R):fZ P o e.get h.get R.eff:=by
 have key:∀(v:Value) (w:World) (ρ:Operand->Value) (A:M Addr) (n c:Nat),ρ d= .slice A n c->ρ y= .slice U 0 0->(execOp ρ o).run P w= .ok (.value (.bool (A.isNone !=neg))) w:=by
  intro v w ρ A n c h1 h2;unfold execOp;rw[L];simp only[h1,h2];subst hop;cases neg<;>simp[eqGuard,binOp,UI hu]
 have hyv:∀a:Act,a.eval y= .slice U 0 0:=λa=>by rw[hy];rfl
 simp only[dB]at D;split at D
 .rename_i id sz n x;rw[dx D];refine fZ.reads λφ E h' w a _ hp _=>?_
  have h1:=hp d _ (by rw[L];simp[Op.operands]) x;generalize F:a.eval d=z at h1;cases h1 with
  |G hφ hn hc hs=>exact⟨_,key (.bool J) w a.eval _ _ _ F (hyv a),by simpa[raw] using cu.f (.raw _)⟩
 .rename_i id off n x;rw[dx D];refine fZ.reads λφ E h' w a _ hp _=>?_
  have h1:=hp d _ (by rw[L];simp[Op.operands]) x;generalize F:a.eval d=z at h1;cases h1 with
  |sl hφ hn hc=>exact⟨_,key (.bool J) w a.eval _ _ _ F (hyv a),by simpa[raw] using cu.f (.raw _)⟩
 .rename_i cells n x;rw[dx D];refine fZ.reads λφ E h' w a _ hp _=>?_
  have h1:=hp d _ (by rw[L];simp[Op.operands]) x;generalize F:a.eval d=z at h1;cases h1 with
  |f h1=>
   cases h1 with
   |sl=>exact⟨_,key (.bool J) w a.eval _ _ _ F (hyv a),by simpa[raw] using cu.f (.raw _)⟩
 .rename_i cells x;rw[dx D];refine fZ.reads λφ E h' w a _ hp _=>?_
  have h1:=hp d _ (by rw[L];simp[Op.operands]) x;generalize F:a.eval d=z at h1;cases h1 with
  |f h1=>
   cases h1 with
   |_=>exact⟨_,key (.bool J) w a.eval _ _ _ F (hyv a),.qv⟩
 .rename_i x;rw[dx D];refine fZ.reads λφ E h' w a _ hp _=>?_
  have h1:=hp d _ (by rw[L];simp[Op.operands]) x;generalize F:a.eval d=z at h1;cases h1 with
  |emp=>exact⟨_,key (.bool J) w a.eval _ _ _ F (hyv a),.qv⟩
 .rename_i v x;split at D
  .rename_i N;rw[dx D];refine fZ.reads λφ E h' w a _ hp _=>?_
   have h1:=eV (hp d _ (by rw[L];simp[Op.operands]) x);unfold uS at N;split at N
   .exact⟨_,key (.bool J) w a.eval _ _ _ h1 (hyv a),by simpa[raw] using cu.f (.raw _)⟩
   .cases N
  .cases D
 .cases D
def gA (d:fD P s=Z i) (w:World):(sizeOf s).run P w= .ok i w:=by
 unfold fD at d;cases hi:P.info? s with
 |none=>rw[hi]at d;cases d
 |some sz=>rw[hi]at d;simp at d;simp[sizeOf,typeInfo,program,hi,ia,d]
variable {b:Bool}
def Td (z:F6 P s=Z b) (w:World):(isAgg s).run P w= .ok b w:=by
 unfold F6 at z;cases hi:P.underlying s with
 |none=>rw[hi]at z;cases z
 |some d=>
  rw[hi]at z;simp only[bx,af]at z;rw[<- z];simp only[isAgg,ec,run_underlying hi,cM];cases d<;>rfl
def kV (b off i:Nat):(⟨b,off,U⟩:Addr).add i=⟨b,off+i,U⟩:=by
 unfold Addr.add;split<;>simp_all
variable {K:Array Field}
def Tc {f:Field} (z:P.underlying s=Z (.struct K)) (hf:K[i]? =Z f) (A:fD P f.type=Z j) (h0:j≠0) (w:World) (b k:Nat):
 (Instr.fieldAt s (.pointer (Z ⟨b,k,U⟩)) i).run P w= .ok (.pointer (Z ⟨b,k+f.offset,U⟩)) w:=by
 have h1:=gA A w;simp[Instr.fieldAt,run_underlying z,hf,Instr.sureAddr,fieldPlace,h1,h0,kV]
def arc {f:Field} (L:o.op= .fieldAddr s d i) (F:P.underlying s=Z (.struct K)) (hf:K[i]? =Z f) (hs:fD P f.type=Z j) (h0:j≠0) (x:dB (.jk f.offset d) e h nx=Z R):fZ P o e.get h.get R.eff:=by
 have key:∀(w:World) (ρ:Operand->Value) (b k:Nat),ρ d= .pointer (Z ⟨b,k,U⟩)->(execOp ρ o).run P w= .ok (.value (.pointer (Z ⟨b,k+f.offset,U⟩))) w:=by
  intro w ρ b k h1;unfold execOp;rw[L];simp only[h1];exact alm (Tc F hf hs h0 w b k)
 simp only[dB]at x;split at x
 .rename_i id off D;rw[dx x];refine fZ.reads λφ E h' w a _ hp _=>?_
  have h1:=hp d _ (by rw[L];simp[Op.operands]) D;generalize A:a.eval d=z at h1;cases h1 with
  |H hφ=>exact⟨_,key w a.eval _ _ A,.H hφ⟩
 .rename_i cells off D;rw[dx x];refine fZ.reads λφ E h' w a _ hp _=>?_
  have h1:=hp d _ (by rw[L];simp[Op.operands]) D;generalize A:a.eval d=z at h1;cases h1 with
  |f h1=>
   cases h1 with
   |H _ _ b base us hO hb hcl F hr=>
    refine ⟨_,key w a.eval _ _ A,.f ?_⟩;rw[ud];exact .H cells _ b base us hO hb hcl F hr
 .cases x
def Md {x:TypeId} {y:Operand} {off n c:Nat} {k:IntKind} {sz:Int} {ρ:Operand->Value} {w:World} (L:o.op= .indexAddr s d y) (D:P.underlying s=Z (.slice x)) (F:fD P x=Z i) (A:ρ d= .slice (Z ⟨j,off,U⟩) n c) (z:ρ y= .int k sz) (h0:0<=sz) (h1:sz<n):
 (execOp ρ o).run P w= .ok (.value (.pointer (Z ⟨j,off+sz.toNat*i,U⟩))) w:=by
 have h2:=gA F w;unfold execOp;rw[L];simp[A,z,Instr.indexAt,asIntOf,run_underlying D,h2,h0,h1,kV]
def ara {el:TypeId} {y:Operand} (F:o.op= .indexAddr s d y) (hu:P.underlying s=Z (.slice el)) (hs:fD P el=Z i) (x:dB (.jy i d y) e h nx=Z R):fZ P o e.get h.get R.eff:=by
 simp only[dB]at x;split at x
 .rename_i v k j hx hy;have hyv:∀{φ:PM} {E:Nat->Prop} {h':HF} {w:World} {a:Act},Ws φ E h' w a e o->a.eval y= .int k j:=λhp=>eV (hp y _ (by rw[F];simp[Op.operands]) hy)
  split at x
  .split at x
   .rename_i id sz' n D;simp only[dj,fM,au,bB,cF]at D;obtain⟨⟨rfl,h0⟩,h1⟩:=D;rw[dx x];refine fZ.reads λφ E h' w a _ hp _=>?_
    have A:=hp d _ (by rw[F];simp[Op.operands]) hx;generalize L:a.eval d=z at A;cases A with
    |G hφ hn N hsh=>
     refine ⟨_,Md F hu hs L (hyv hp) h0 h1,?_⟩;rw[bO];exact .H hφ
   .cases x
  .split at x
   .rename_i id off n D;simp only[dj,fM,au,bB]at D;obtain⟨h0,h1⟩:=D;rw[dx x];refine fZ.reads λφ E h' w a _ hp _=>?_
    have A:=hp d _ (by rw[F];simp[Op.operands]) hx;generalize L:a.eval d=z at A;cases A with
    |sl hφ hn N=>exact⟨_,Md F hu hs L (hyv hp) h0 h1,.H hφ⟩
   .cases x
  .split at x
   .rename_i cells n D;simp only[dj,fM,au,bB]at D;obtain⟨h0,h1⟩:=D;rw[dx x];refine fZ.reads λφ E h' w a _ hp _=>?_
    have A:=hp d _ (by rw[F];simp[Op.operands]) hx;generalize L:a.eval d=z at A;cases A with
    |f A=>
     cases A with
     |nil=>omega
     |sl _ _ c b base us hn N hO hb hcl hu' hr'=>exact⟨_,Md F hu hs L (hyv hp) h0 h1,.f (.H cells _ b base us hO hb hcl hu' hr')⟩
   .cases x
  .cases x
 .cases x
def anx {el:TypeId} {y:Operand} (D:o.op= .indexAddr s d y) (hu:P.underlying s=Z (.array i el)) (hs:fD P el=Z j) (x:dB (.jq i j d y) e h nx=Z R):fZ P o e.get h.get R.eff:=by
 have key:∀(w:World) (ρ:Operand->Value) (b off:Nat) (k:IntKind) (n:Int),ρ d= .pointer (Z ⟨b,off,U⟩)->ρ y= .int k n->0<=n->n<i->(execOp ρ o).run P w= .ok (.value (.pointer (Z ⟨b,off+n.toNat*j,U⟩))) w:=by
  intro w ρ b off k n h1 h2 h3 h4;have h5:=gA hs w;unfold execOp;rw[D];simp[h1,h2,Instr.indexAt,asIntOf,run_underlying hu,h5,h3,h4,kV,Instr.sureAddr]
 simp only[dB]at x;split at x
 .rename_i v k sz hx hy;split at x
  .rename_i hc;simp only[dj,fM,au,bB]at hc;obtain⟨h0,h1⟩:=hc;split at x
   .rw[dx x];refine fZ.reads λφ E h' w a _ hp _=>?_
    have A:=hp d _ (by rw[D];simp[Op.operands]) hx;have hyv:=eV (hp y _ (by rw[D];simp[Op.operands]) hy);generalize F:a.eval d=z at A;cases A with
    |H hφ=>exact⟨_,key w a.eval _ _ k sz F hyv h0 h1,.H hφ⟩
   .rw[dx x];refine fZ.reads λφ E h' w a _ hp _=>?_
    have A:=hp d _ (by rw[D];simp[Op.operands]) hx;have hyv:=eV (hp y _ (by rw[D];simp[Op.operands]) hy);generalize F:a.eval d=z at A;cases A with
    |f A=>
     cases A with
     |H _ _ b base us hO hb hcl L N=>
      refine ⟨_,key w a.eval _ _ k sz F hyv h0 h1,.f ?_⟩;rw[ud];exact .H _ _ b base us hO hb hcl L N
   .cases x
  .cases x
 .cases x
def ard (F:o.op= .extract d i) (x:dB (.ext d i) e h nx=Z R):fZ P o e.get h.get R.eff:=by
 simp only[dB]at x;split at x
 .rename_i l N;split at x
  .rename_i v A;rw[dx x];refine fZ.reads λφ E h' w a _ hp _=>?_
   have D:=hp d _ (by rw[F];simp[Op.operands]) N;generalize L:a.eval d=z at D;cases D with
   |@qg _ vs hl hrr=>
    have hlt:i<l! vs:=by
     rw[hl];exact (bq.1 A).1
    refine ⟨vs[i],?_,hrr i v _ A (aD hlt)⟩;unfold execOp;rw[F];simp[L,Instr.extract,hlt]
  .cases x
 .cases x
def ar7 {y:Operand} {A:Array TypeId} (z:o.op= .call {callee:=.builtin .max,args:=#[d,y],argTypes:=A}) (x:dB (.max d y) e h nx=Z R):fZ P o e.get h.get R.eff:=by
 simp only[dB]at x;split at x
 .rename_i k a b L F D;rw[dx x];refine fZ.reads λφ E h' w a _ hp _=>?_
  have h1:=eV (hp d _ (by rw[z];simp[Op.operands,dI]) F);have h2:=eV (hp y _ (by rw[z];simp[Op.operands,dI]) D);refine ⟨_,?_,.f (.raw _)⟩;unfold execOp;rw[z];simp[resolve,invoke,builtin,Builtin.max_,Builtin.max2,h1,h2,fM]
 .cases x
def ar6 {y:Operand} {A:Array TypeId} (z:o.op= .call {callee:=.builtin .min,args:=#[d,y],argTypes:=A}) (x:dB (.min d y) e h nx=Z R):fZ P o e.get h.get R.eff:=by
 simp only[dB]at x;split at x
 .rename_i k a b L F D;rw[dx x];refine fZ.reads λφ E h' w a _ hp _=>?_
  have h1:=eV (hp d _ (by rw[z];simp[Op.operands,dI]) F);have h2:=eV (hp y _ (by rw[z];simp[Op.operands,dI]) D);refine ⟨_,?_,.f (.raw _)⟩;unfold execOp;rw[z];simp[resolve,invoke,builtin,Builtin.min_,Builtin.min2,h1,h2,fM]
 .cases x
def ar1 {k:IntKind} (D:o.op= .unOp .neg s d) (z:dB (.bin .sub (.const (.int k 0)) d) e h nx=Z R):fZ P o e.get h.get R.eff:=by
 simp only[dB,mf,Hl]at z;split at z
 .rename_i u v L F;cases L;split at z
  .rename_i r x;rw[dx z];refine fZ.reads λφ E h' w a _ hop _=>?_
   have h1:=eV (hop d _ (by rw[D];simp[Op.operands]) F);refine ⟨r,?_,.f (.raw _)⟩;unfold execOp;rw[D];cases v<;>simp only[uY]at x<;>try (cases x;done)
   split at x
   .rename_i A;have A:=eq_of_beq A;subst A;cases x;simp[h1,Op.unary,Op.intArith,AO]
   .cases x
  .cases z
 .cases z
def anp {i:Operand} (z:o.op= .index s d i) (F:P.underlying s=Z .string) (x:dB (.zr d i) e h nx=Z R):fZ P o e.get h.get R.eff:=by
 simp only[dB]at x;split at x
 .rename_i t k j D hi;split at x
  .rename_i h0;simp only[dj,bB]at h0;split at x
   .rename_i b A;rw[dx x];refine fZ.reads λφ E h' w a _ hop _=>?_
    have h1:=eV (hop d _ (by rw[z];simp[Op.operands]) D);have h2:=eV (hop i _ (by rw[z];simp[Op.operands]) hi);refine ⟨_,?_,.f (.raw _)⟩;have L:t[j.toNat]? =Z b:=by
     rw[bL]at A;obtain⟨N,he⟩:=cz.1 A;exact getElem?_pos t j.toNat N▸ey Z he
    unfold execOp;rw[z];simp[Instr.index,run_underlying F,h1,h2,asIntOf,h0,L]
   .cases x
  .cases x
 .cases x
variable {f:FuncId}
def ar5 {caps:Array Operand} (N:o.op= .makeFunc (.func f) #[] caps) (D:dB (.mkf f caps.toList) e h nx=Z R):fZ P o e.get h.get R.eff:=by
 simp only[dB]at D;split at D
 .rename_i l hl;rw[dx D];refine fZ.reads λφ E h' w a _ hp _=>?_
  refine ⟨_,by unfold execOp;rw[N];rfl,?_⟩;have key:∀(xs:Y Operand) (d:Y AV),(∀x∈xs,x∈o.op.operands)->evs e xs=Z d->l! d=l! xs/\∀(j:Nat) x v,d[j]? =Z x->(xs.map a.eval)[j]? =Z v->cu φ (tot E φ h') w x v:=by
   intro xs;induction xs with
   |nil=>intro d _ h;simp only[evs,af]at h;subst h;exact⟨rfl,λj x v A=>by simp at A⟩
   |cons x xs ih=>
    intro d hm h;simp only[evs]at h;split at h
    .rename_i y hy;split at h
     .rename_i ys' hys;cases h;obtain⟨h1,h2⟩:=ih ys' (λx A=>hm x (b8 _ A)) hys;refine ⟨by simp[h1],λj z v F L=>?_⟩;cases j with
      |zero=>simp at F L;subst F L;exact hp x _ (hm x (c_ ..)) hy
      |succ j=>exact h2 j z v (by simpa using F) (by simpa using L)
     .cases h
    .cases h
  obtain⟨h1,h2⟩:=key caps.toList l (λx A=>by rw[N];simpa[Op.operands] using A) hl;have h3:(caps.map a.eval)=(caps.toList.map a.eval).toArray:=by
   apply Array.ext';simp
  have h4:(#[]:Array Operand).map a.eval=#[]:=by simp
  rw[h4,h3];exact .qy (by simp[h1]) h2
 .cases D
end pure
section
variable {P:Program} {o:Oper} {e:Dp} {h:m7} {nx:Nat} {R:Co}
def YR {α:Type} {l cs:Y α} (h:i+j<=l! l) (he:(l.drop i).take j=cs):l! cs=j/\∀(sz:Nat) x,cs[sz]? =Z x->l[i+sz]? =Z x:=by
 subst he;constructor
 .simp;omega
 .intro sz x d;rw[cP]at d;split at d
  .rw[im]at d;exact d
  .cases d
def zB (f:Nat->Value) (n j:Nat) (v:Value) (h:((kY n).map f)[j]? =Z v):v=f j/\j<n:=by
 rw[a8]at h;rcases bu j n with d|d
 .rw[ru d]at h;simp at h;exact⟨h.symm,d⟩
 .rw[bK (by simpa using d)]at h;cases h
def zW (φ:PM) (O:Nat->Prop) (w:World) (c:BC) (f:Nat->M Value):Prop:=∀j x,c.get j=Z x->x.isCell=J/\∃v,f j=Z v/\cu φ O w x v
variable {b:Bool}
def YQ {w:World} {c:BC} (d:c.sub? i j b=Z y) {f:Nat->M Value} (hc:zW V O w c f):
 ∃cs:ξ,l! cs=j/\(∀(sz:Nat) v,cs[sz]? =Z v->f (i+sz)=Z v)/\(b=aa->j=1)/\cu V O w y (if b then .agg cs.toArray else cs.getD 0 undef):=by
 cases b with
 |false=>
  simp only[BC.sub?]at d;split at d
  .obtain⟨h0,v,h1,h2⟩:=hc i y d;exact⟨[v],rfl,λsz u hu=>by cases sz with|zero=>simp at hu;subst hu;exact h1|succ sz=>simp at hu,λ_=>rfl,by simpa using h2⟩
  .cases d
 |true=>
  have fin:∀(g:Nat->M AV),(∀sz,sz<j->∃x,g sz=Z x/\c.get (i+sz)=Z x)->
   ∃cs:ξ,l! cs=j/\(∀(sz:Nat) v,cs[sz]? =Z v->f (i+sz)=Z v)/\∀(sz:Nat) x v,g sz=Z x->cs[sz]? =Z v->cu V O w x v:=by
   intro g D;refine ⟨(kY j).map λsz=>(f (i+sz)).getD undef,by simp,λsz v F=>?_,λsz x v A F=>?_⟩
   .obtain⟨rfl,z⟩:=zB _ _ _ _ F;obtain⟨x,_,h2⟩:=D sz z;obtain⟨_,v,L,_⟩:=hc _ _ h2;rw[L];rfl
   .obtain⟨rfl,z⟩:=zB _ _ _ _ F;obtain⟨x',h1,h2⟩:=D sz z;rw[A]at h1;cases h1;obtain⟨_,v,L,h4⟩:=hc _ _ h2;rw[L];exact h4
  simp only[BC.sub?]at d;split at d
  .rename_i l;split at d
   .rename_i hle;cases d;obtain⟨N,D⟩:=YR (aZ hle) (rfl:(l.drop i).take j=_);obtain⟨cs,h1,h2,L⟩:=fin (λsz=>(((l.drop i).take j)[sz]?).map AV.f) (λsz z=>by
     have hlt:sz<l! ((l.drop i).take j):=by rw[N];exact z
     refine ⟨.f ((l.drop i).take j)[sz],by simp only[aD hlt,bx],?_⟩;simp only[BC.get,D sz _ (aD hlt),bx])
    refine ⟨cs,h1,h2,nofun,.f (.agg _ _ (by rw[h1,N]) ?_ ?_)⟩
    .intro x A;obtain⟨sz,z⟩:=fY A;exact (hc (i+sz) (.f x) (by simp only[BC.get,D sz x z,bx])).1
    .intro sz x v A F;have:=L sz (.f x) v (by simp only[A,bx]) F;cases this with
     |f h=>exact h
   .cases d
  .rename_i l;split at d
   .rename_i hle;cases d;obtain⟨N,D⟩:=YR (aZ hle) (rfl:(l.drop i).take j=_);obtain⟨cs,h1,h2,L⟩:=fin (λsz=>(((l.drop i).take j)[sz]?)) (λsz z=>by
     have hlt:sz<l! ((l.drop i).take j):=by rw[N];exact z
     exact⟨_,aD hlt,D sz _ (aD hlt)⟩)
    refine ⟨cs,h1,h2,nofun,.agg (by rw[h1,N]) ?_ ?_⟩
    .intro x A;obtain⟨sz,z⟩:=fY A;exact (hc (i+sz) x (D sz x z)).1
    .intro sz x v A F;exact L sz x v A F
   .cases d
  .cases d
variable {s:TypeId}
def QP (F:fD P s=Z i) (L:F6 P s=Z b) (w:World) (d off:Nat) (cs:ξ) (z:l! cs=i) (A:∀(j:Nat) v,cs[j]? =Z v->w.cell? ⟨d,off+j,U⟩=Z v) (h1:b=aa->i=1):
 (loadVar s ⟨d,off,U⟩).run P w= .ok (if b then .agg cs.toArray else cs.getD 0 undef) w:=by
 unfold loadVar;simp only[ec,Td L w,cM];cases b with
 |true=>
  simp only[bw,ec,gA F w,cM];rw[<- z,run_loadCells_list (P:=P) w ⟨d,off,U⟩ cs (λj v D=>by rw[kV];exact A j v D)];rfl
 |false=>
  have h1:=h1 rfl;cases cs with
  |nil=>simp at z;omega
  |cons v r=>
   have:=A 0 v rfl;simp only[cZ]at this;simp[load,ia,this]
def Lr {φ:PM} {w:World} {d:Bool} (A:fD P s=Z i) (L:F6 P s=Z d) {c:BC} {b base:Nat} (z:c.sub? j i d=Z y)
 (F:zW φ O w c λoff=>w.cell? ⟨b,base+off,U⟩):∃v,(loadVar s ⟨b,base+j,U⟩).run P w= .ok v w/\cu φ O w y v:=by
 obtain⟨cs,h1,h2,h3,N⟩:=YQ z F;exact⟨_,QP A L w b (base+j) cs h1 (λoff v D=>by rw[ud];exact h2 off v D) h3,N⟩
variable {z:kx}
def VD {w:World} (hrep:sq V O S w) (D:S i=Z z) (b:V i=Z j) (A:z.c.isCells=J):zW V (tot O V S) w z.c λk=>w.cell? ⟨j,0+k,U⟩:=by
 obtain⟨k',h1,_,h2⟩:=hrep.at_ i z D;rw[b]at h1;cases h1;obtain⟨arr,L,h4,F⟩:=h2.cells A;intro k x d;obtain⟨c1,v,c2,N⟩:=F k x d;exact⟨c1,v,by simp[QD,L,c2],N⟩
def Ym {w:World} {cells:Y FV} {A:Nat->Value} (hcl:∀x∈cells,x.isCell=J) (D:∀base,base<l! cells->w.cell? ⟨i,j+base,U⟩=Z (A base)) (F:∀(base:Nat) x,cells[base]? =Z x->m6 O w x (A base)):
 zW V O w (.fz cells) λbase=>w.cell? ⟨i,j+base,U⟩:=by
 intro base y d;simp only[BC.get]at d;cases z:cells[base]? with
 |none=>rw[z]at d;cases d
 |some q=>
  rw[z]at d;simp at d;subst d;have L:base<l! cells:=(bq.1 z).1;exact⟨hcl q (bf z),A base,D base L,.f (F base q z)⟩
def SS {c:BC} (h:c.sub? i j b=Z y):c.isCells=J:=by
 cases c with
 |fz|mx=>rfl
 |_=>cases b<;>simp only[BC.sub?,BC.get]at h<;>(try split at h)<;>cases h
def VN (F:fD P s=Z i) (hag:F6 P s=Z b) (d:xa h i b y=Z R):
 R.wr=[]/\R.nw=[]/\R.N=[]/\∀(φ:PM) (E:Nat->Prop) (h':HF) (w:World) (A:Value),(∀sz∈R.rd,h' sz=h.get sz)->sq φ E h' w->cu φ (tot E φ h') w y A->
  ∃ad v,A= .pointer (Z ad)/\(loadVar s ad).run P w= .ok v w/\cu φ (tot E φ h') w R.val v:=by
 unfold xa at d;split at d
 .rename_i id off;split at d
  .rename_i ag L;split at d
   .rename_i v D;cases d;refine ⟨rfl,rfl,rfl,λφ E h' w A hrd hrep z=>?_⟩;have hh:h' id=Z ag:=by rw[hrd id (by simp)];exact L
    cases z with
    |@H _ _ k hφ=>
     obtain⟨u,h1,h2⟩:=Lr F hag (w:=w) (b:=k) (base:=0) D (VD hrep hh hφ (SS D));rw[bO]at h1;exact⟨_,u,rfl,h1,h2⟩
   .cases d
  .cases d
 .rename_i cells off;split at d
  .rename_i v D;rw[dx d];refine ⟨rfl,rfl,rfl,λφ E h' w A hrd hrep z=>?_⟩;cases z with
   |f z=>
    cases z with
    |H _ _ ag base us hO L hcl hu z=>
     obtain⟨u,h1,h2⟩:=Lr (φ:=φ) (O:=tot E φ h') F hag (w:=w) (b:=ag) (base:=base) D (Ym hcl hu z);exact⟨_,u,rfl,h1,h2⟩
  .cases d
 .cases d
def ant (z:o.op= .load s d) (hs:fD P s=Z i) (hag:F6 P s=Z b) (x:dB (.load i b d) e h nx=Z R):fZ P o e.get h.get R.eff:=by
 simp only[dB]at x;split at x
 .rename_i p L;obtain⟨h1,h2,D,A⟩:=VN hs hag x;obtain⟨val,rd,wr,nw,N⟩:=R;simp only at h1 h2 D A;subst h1 h2 D;refine fZ.reads λφ E h' w a hrd hp hrep=>?_
  obtain⟨ad,v,h5,h6,h7⟩:=A φ E h' w _ hrd hrep (hp d _ (by rw[z];simp[Op.operands]) L);refine ⟨v,?_,h7⟩;unfold execOp;rw[z];simp[Instr.loadAt,h5,Instr.sureAddr,h6]
 .cases x
variable {L:ξ}
def Y5 {φ:PM} {w:World} (D:fD P s=Z i) (hag:F6 P s=Z b) {c:BC} (A:c.sub? j i b=Z y) 
 (F:zW φ O w c λoff=>L[off]?):∃v,(part s L.toArray j).run P w= .ok v w/\cu φ O w y v:=by
 obtain⟨cs,h1,h2,N,vs⟩:=YQ A F;refine ⟨_,?_,vs⟩;unfold part;simp only[ec,Td hag w,cM];cases b with
 |true=>
  simp only[bw,ec,gA D w,cM];have:L.toArray.extract j (j+i)=cs.toArray:=by
   apply Array.ext';simp only[Array.toList_extract,List.extract_eq_take_drop];apply BU;intro off;rw[show j+i-j=i from by omega,cP,im];rcases bu off i with z|z
   .rw[aG z];have:=h2 off _ (aD (by omega:off<l! cs));rw[this,aD (by omega:off<l! cs)]
   .rw[aA (by omega),bK (by omega)]
  rw[this];rfl
 |false=>
  have h5:=N rfl;cases cs with
  |nil=>simp at h1;omega
  |cons v r=>
   have:=h2 0 v rfl;simp only[cZ]at this;simp[this]
def VF {w:World} {l:Y AV} (D:l! L=l! l) (hcl:∀x∈l,x.isCell=J) (A:∀(j:Nat) x v,l[j]? =Z x->L[j]? =Z v->cu V O w x v):zW V O w (.mx l) λj=>L[j]? :=by
 intro j x d;simp only[BC.get]at d;have z:j<l! L:=by rw[D];exact (bq.1 d).1
 exact⟨hcl x (bf d),L[j],aD z,A j x _ d (aD z)⟩
def R6 {w:World} {l:Y FV} (F:l! L=l! l) (hcl:∀x∈l,x.isCell=J) (D:∀(j:Nat) x v,l[j]? =Z x->L[j]? =Z v->m6 O w x v):zW V O w (.fz l) λj=>L[j]? :=by
 intro j x d;simp only[BC.get]at d;cases z:l[j]? with
 |none=>rw[z]at d;cases d
 |some q=>
  rw[z]at d;simp at d;subst d;have A:j<l! L:=by rw[F];exact (bq.1 z).1
  exact⟨hcl q (bf z),L[j],aD A,.f (D j q _ z (aD A))⟩
def Nm {w:World} (L:fD P s=Z i) (hag:F6 P s=Z b) (d:cu V O w y v) {val:AV}
 (A:(∃l,y= .agg l/\(BC.mx l).sub? j i b=Z val)\/(∃l,y= .f (.agg l)/\(BC.fz l).sub? j i b=Z val)):∃cs z,v= .agg cs/\(part s cs j).run P w= .ok z w/\cu V O w val z:=by
 rcases A with ⟨l,rfl,A⟩|⟨l,rfl,A⟩
 .cases d with
  |agg D hcl d=>
   obtain⟨z,h1,h2⟩:=Y5 L hag A (VF D hcl d);exact⟨_,z,rfl,h1,h2⟩
 .cases d with
  |f d=>
   cases d with
   |agg _ vs D hcl d=>
    obtain⟨z,h1,h2⟩:=Y5 (φ:=V) L hag A (R6 D hcl d);exact⟨_,z,rfl,h1,h2⟩
variable {K:Array Field}
def arb {f:Field} (F:o.op= .field s d i) (N:P.underlying s=Z (.struct K)) (hf:K[i]? =Z f) (hs:fD P f.type=Z j) (hag:F6 P f.type=Z b) (x:dB (.fld f.offset j b d) e h nx=Z R):fZ P o e.get h.get R.eff:=by
 have fin:∀(y:AV) (val:AV),mf e d=Z y->((∃l,y= .agg l/\(BC.mx l).sub? f.offset j b=Z val)\/(∃l,y= .f (.agg l)/\(BC.fz l).sub? f.offset j b=Z val))->rv val=Z R->fZ P o e.get h.get R.eff:=by
  intro y val z A hR;rw[dx hR];refine fZ.reads λφ E h' w a _ hp _=>?_
  obtain⟨cs,v,h1,h2,h3⟩:=Nm hs hag (hp d _ (by rw[F];simp[Op.operands]) z) A;refine ⟨v,?_,h3⟩;unfold execOp;rw[F];simp[Instr.field,run_underlying N,hf,h1,asAgg,h2]
 simp only[dB]at x;split at x
 .rename_i l z;split at x
  .rename_i v A;exact fin _ v z (.inl ⟨l,rfl,A⟩) x
  .cases x
 .rename_i l z;split at x
  .rename_i v A;exact fin _ v z (.inr ⟨l,rfl,A⟩) x
  .cases x
 .cases x
def ar9 {F:TypeId} {y:Operand} (D:o.op= .index s d y) (hu:P.underlying s=Z (.array i F)) (L:fD P F=Z j) (hag:F6 P F=Z b) (x:dB (.idx i j b d y) e h nx=Z R):fZ P o e.get h.get R.eff:=by
 simp only[dB]at x;split at x
 .rename_i v0 k sz hx hy;split at x
  .rename_i N;simp only[dj,fM,au,bB]at N;obtain⟨h0,h1⟩:=N;have fin:∀(val:AV),((∃l,v0= .agg l/\(BC.mx l).sub? (sz.toNat*j) j b=Z val)\/(∃l,v0= .f (.agg l)/\(BC.fz l).sub? (sz.toNat*j) j b=Z val))->rv val=Z R->fZ P o e.get h.get R.eff:=by
    intro val z hR;rw[dx hR];refine fZ.reads λφ E h' w a _ hp _=>?_
    have hyv:=eV (hp y _ (by rw[D];simp[Op.operands]) hy);obtain⟨cs,v,h3,h4,h5⟩:=Nm L hag (hp d _ (by rw[D];simp[Op.operands]) hx) z;refine ⟨v,?_,h5⟩;have h6:=gA L w;unfold execOp;rw[D];simp[Instr.index,run_underlying hu,hyv,asIntOf,h3,h0,h1,h6,h4]
   split at x
   .rename_i l;split at x
    .rename_i v z;exact fin v (.inl ⟨l,rfl,z⟩) x
    .cases x
   .rename_i l;split at x
    .rename_i v z;exact fin v (.inr ⟨l,rfl,z⟩) x
    .cases x
   .cases x
  .cases x
 .cases x
def anw {el:TypeId} (N:o.op= .call {callee:=.builtin .len,args:=#[d],argTypes:=#[s]}) (hu:P.underlying s=Z (.slice el)) (D:dB (.len d) e h nx=Z R):fZ P o e.get h.get R.eff:=by
 simp only[dB]at D;split at D
 .rename_i y hx;split at D
  .rename_i n F;rw[dx D];refine fZ.reads λφ E h' w a _ hp _=>?_
   have x:=hp d _ (by rw[N];simp[Op.operands,dI]) hx;refine ⟨_,?_,.f (.raw _)⟩;have L:∃A c,a.eval d= .slice A n c:=by
    generalize a.eval d=z at x;unfold AV.slen at F;split at F<;>try (simp only[af]at F;subst F)
    .cases x with
     |f x=>cases x with
      |nil|sl=>exact⟨_,_,rfl⟩
    .cases eV x;exact⟨_,_,rfl⟩
    .cases x;exact⟨_,_,rfl⟩
    .cases x;exact⟨_,_,rfl⟩
    .cases x;exact⟨_,_,rfl⟩
    .cases F
   obtain⟨A,c,L⟩:=L;unfold execOp;rw[N];simp[resolve,invoke,builtin,Builtin.len_,run_underlying hu,L,goInt]
  .cases D
 .cases D
def anv (z:o.op= .call {callee:=.builtin .len,args:=#[d],argTypes:=#[s]}) (D:P.underlying s=Z .string) (x:dB (.lens d) e h nx=Z R):fZ P o e.get h.get R.eff:=by
 simp only[dB]at x;split at x
 .rename_i t A;rw[dx x];refine fZ.reads λφ E h' w a _ hp _=>?_
  have F:=eV (hp d _ (by rw[z];simp[Op.operands,dI]) A);refine ⟨_,?_,.f (.raw _)⟩;unfold execOp;rw[z];simp[resolve,invoke,builtin,Builtin.len_,run_underlying D,F,goInt]
 .cases x
def anu {k v:TypeId} (F:o.op= .call {callee:=.builtin .len,args:=#[d],argTypes:=#[s]}) (hu:P.underlying s=Z (.map k v)) (x:dB (.jz d) e h nx=Z R):fZ P o e.get h.get R.eff:=by
 simp only[dB]at x;split at x
 .rename_i id N;split at x
  .rename_i es hid;cases x;refine fZ.reads λφ E h' w a hrd hp hrep=>?_
   have D:=hp d _ (by rw[F];simp[Op.operands,dI]) N;have hh:h' id=Z ⟨0,.mp es⟩:=by rw[hrd id (by simp)];exact hid
   generalize L:a.eval d=z at D;cases D with
   |@mp _ b hφ=>
    obtain⟨b',h1,_,ob,h2,h3⟩:=hrep.at_ id _ hh;rw[hφ]at h1;cases h1;obtain⟨ents,clock,rfl,A,_⟩:=h3;have h5:ents.size=l! es:=by have A:ents.toList.map (·.key)=es.map (·.1):=A;have:=ey ah A;simpa using this
    refine ⟨_,?_,.f (.raw _)⟩;unfold execOp;rw[F];simp[resolve,invoke,builtin,Builtin.len_,run_underlying hu,L,goInt,getObj,ia,h2,h5]
  .cases x
 .cases x
end
structure Hx (w w':World) (k:Nat) (ob:Obj):Prop where
 os:w'.os=w.os
 tape:w'.tape=w.tape
 output:w'.output=w.output
 size:w'.heap.size=w.heap.size
 at_:w'.heap[k]? =Z ob
 other:∀j,j≠k->w'.heap[j]? =w.heap[j]?
 jd:∀j,w'.shape? j=w.shape? j
structure VY (w w':World) (ob:Obj):Prop where
 os:w'.os=w.os
 tape:w'.tape=w.tape
 output:w'.output=w.output
 size:w'.heap.size=w.heap.size+1
 at_:w'.heap[w.heap.size]? =Z ob
 other:∀j,j<w.heap.size->w'.heap[j]? =w.heap[j]?
variable {z:kx}
def sq.wset {w w':World} (r:sq V O S w) {id:Nat} {b':kx} {ob:Obj} (F:S id=Z z) (A:V id=Z i) (d:Hx w w' i ob) (hob:gw V (tot O V S) w b' ob) (b:HF) (hnw:b id=Z b'):
 kf V V S (eW S [id] b) w w'/\sq V O (eW S [id] b) w':=by
 have hdom:∀k,(∃x,eW S [id] b k=Z x)↔∃x,S k=Z x:=λk=>by
  unfold eW;by_cases hi:k=id
  .subst hi;simp[hnw,F]
  .simp[hi]
 have hown:∀j,own V (eW S [id] b) j↔own V S j:=λj=>by
  constructor
  .rintro⟨k,x,h1,h2⟩;obtain⟨y,N⟩:=(hdom k).1 ⟨x,h1⟩;exact⟨k,y,N,h2⟩
  .rintro⟨k,x,h1,h2⟩;obtain⟨y,N⟩:=(hdom k).2 ⟨x,h1⟩;exact⟨k,y,N,h2⟩
 have m:kf V V S (eW S [id] b) w w':=by
  refine ⟨λ_ _ S=>S,⟨d.os,d.tape,d.output,by rw[d.size];exact cA _,λj hj ho=>?_,λj _=>d.jd j⟩,λj _ S=>(hown j).1 S⟩;exact d.other j (λe=>ho (e▸⟨id,z,F,A⟩))
 refine ⟨m,⟨λk j x y kk hi hj h1 h2=>?_,λk x hi=>?_,λi A=>dA (r.el i A) m.ext.size,λg cells hg=>m.keepF (r.gl g cells hg)⟩⟩
 .obtain⟨x',hx'⟩:=(hdom k).1 ⟨x,hi⟩;obtain⟨y',L⟩:=(hdom j).1 ⟨y,hj⟩;exact r.inj k j x' y' kk hx' L h1 h2
 .by_cases hid:k=id
  .subst hid;have:x=b':=by unfold eW at hi;simp[hnw]at hi;exact hi.symm
   subst this;obtain⟨D,h1,h2,_⟩:=r.at_ k z F;rw[A]at h1;cases h1;exact⟨i,A,h2,ob,d.at_,hob.mono λ_ _ S=>m.zq S⟩
  .have hx:S k=Z x:=by unfold eW at hi;simpa[hid] using hi
   obtain⟨D,h1,h2,ob',h3,h4⟩:=r.at_ k x hx;have hne:D≠i:=λe=>hid (r.inj k id x z i hx F (e▸h1) A)
   exact⟨D,h1,h2,ob',by rw[d.other D hne];exact h3,h4.mono λ_ _ S=>m.zq S⟩
def sq.wnew {w w':World} (r:sq V O S w) {id:Nat} (hid:V id=U) {b:kx} {ob:Obj} (D:VY w w' ob) (hob:gw V (tot O V S) w b ob) (del:ι) (L:HF) (hnw:L id=Z b) (hdel:∀i∈del,i≠id->L i=U):
 ∃φ',φ' id=Z w.heap.size/\kf V φ' S (eW S (id::del) L) w w'/\(∀i k,φ' i=Z k->V i=Z k\/i∈[id])/\sq φ' O (eW S (id::del) L) w':=by
 have hsub:∀i x,eW S (id::del) L i=Z x->i≠id->S i=Z x/\i∉del:=λi x N hi=>by
  unfold eW at N;by_cases hd:i∈del
  .rw[aG (by simp[hd]),hdel i hd hi]at N;cases N
  .rw[aA (by simp[hi,hd])]at N;exact⟨N,hd⟩
 have hlt:∀i x k,S i=Z x->V i=Z k->k<w.heap.size:=λi x k hi A=>by
  obtain⟨k',h1,_,ob',h3,_⟩:=r.at_ i x hi;rw[A]at h1;cases h1;exact (cz.1 h3).1
 have hφ:∀i,i≠id->(if i=id then Z w.heap.size else V i)=V i:=λi hi=>by simp[hi]
 have m:kf V (λi=>if i=id then Z w.heap.size else V i) S (eW S (id::del) L) w w':=by
  refine ⟨λi k A=>?_,⟨D.os,D.tape,D.output,by rw[D.size];omega,λj F _=>D.other j F,λj F=>?_⟩,?_⟩
  .have:i≠id:=λe=>by rw[e,hid]at A;cases A
   rw[hφ i this];exact A
  .unfold s8;rw[D.other j F]
  .rintro j F ⟨i,x,h1,h2⟩;by_cases hi:i=id
   .simp[hi]at h2;omega
   .have h3:V i=Z j:=by simpa[hi] using h2
    exact⟨i,x,(hsub i x h1 hi).1,h3⟩
 refine ⟨_,by simp,m,λi k A=>?_,⟨λi j x y k hi F h1 h2=>?_,λi x hi=>?_,λk A=>dA (r.el k A) m.ext.size,λg cells hg=>m.keepF (r.gl g cells hg)⟩⟩
 .by_cases hi:i=id
  .right;simp[hi]
  .left;rw[hφ i hi]at A;exact A
 .by_cases d:i=id
  .by_cases z:j=id
   .rw[d,z]
   .exfalso;rw[hφ j z]at h2;have:=hlt j y k (hsub j y F z).1 h2;simp[d]at h1;omega
  .rw[hφ i d]at h1;have hix:=(hsub i x hi d).1;by_cases z:j=id
   .exfalso;have:=hlt i x k hix h1;simp[z]at h2;omega
   .rw[hφ j z]at h2;exact r.inj i j x y k hix (hsub j y F z).1 h1 h2
 .by_cases d:i=id
  .subst d;have:x=b:=by unfold eW at hi;simp[hnw]at hi;exact hi.symm
   subst this;refine ⟨w.heap.size,by simp,λhe=>?_,ob,D.at_,hob.mono λ_ _ S=>m.zq S⟩;have:=r.el _ he;omega
  .obtain⟨k,h1,h2,ob',h3,h4⟩:=r.at_ i x (hsub i x hi d).1;refine ⟨k,by rw[hφ i d];exact h1,h2,ob',?_,h4.mono λ_ _ S=>m.zq S⟩;rw[D.other k (hlt i x k (hsub i x hi d).1 h1)];exact h3
def sL (w:World) (ob:Obj):VY w {w with heap:=w.heap.push ob} ob:=by
 refine ⟨rfl,rfl,rfl,by simp,by simp,λj d=>?_⟩;rw[xE,aA (by omega)]
def VY.drawn {w w':World} {ob:Obj} (d:Nat) (h:VY {w with drawn:=d} w' ob):VY w w' ob:=⟨h.os,h.tape,h.output,h.size,h.at_,h.other⟩
def fZ.makes {e:Dp} {rd:ι} 
 (F:∀(φ:PM) (E:Nat->Prop) (h':HF) (w:World) (a:Act),(∀nx∈rd,h' nx=S nx)->Ws φ E h' w a e k->sq φ E h' w->
   ∃v w' ob,(execOp a.eval k).run P w= .ok (.value v) w'/\VY w w' ob/\gw φ (tot E φ h') w z ob/\∀φ' O,φ' i=Z w.heap.size->cu φ' O w' y v):
 fZ P k e.get S ⟨y,rd,[i],j6 [(i,z)],[i]⟩:=by
 intro φ E h' w a h1 h2 N d L;obtain⟨v,w',ob,hrun,D,hob,hval⟩:=F φ E h' w a h1 (λx val A b=>uX d N A b) d;obtain⟨φ',g1,g2,g3,g4⟩:=d.wnew (id:=i) (L i (by simp)) D hob [] (j6 [(i,z)]) (by simp[j6]) (by simp);unfold Oper.wp;rw[hrun];exact⟨v,φ',rfl,g2,g3,g4,hval φ' _ g1⟩
def fZ.writes {e:Dp} {rd:ι} {b':kx} (b:S i=Z z)
 (hv:∀(φ:PM) (E:Nat->Prop) (h':HF) (w:World) (a:Act),(∀id∈rd,h' id=S id)->h' i=Z z->Ws φ E h' w a e k->sq φ E h' w->
   ∃r w' o ob,(execOp a.eval k).run P w= .ok r w'/\φ i=Z o/\Hx w w' o ob/\gw φ (tot E φ h') w b' ob/\(∃v,(r= .value v\/r= .skip/\v=undef)/\cu φ (tot E φ (eW h' [i] (j6 [(i,b')]))) w' y v)):
 fZ P k e.get S ⟨y,rd,[i],j6 [(i,b')],[]⟩:=by
 intro φ E h' w a h1 h2 h3 d h5;obtain⟨r,w',o,ob,hrun,hk,N,hob,v,hr,hval⟩:=hv φ E h' w a h1 (by rw[h2 i (by simp)];exact b) (λx val L F=>uX d h3 L F) d;obtain⟨D,A⟩:=d.wset (id:=i) (by rw[h2 i (by simp)];exact b) hk N hob (j6 [(i,b')]) (by simp[j6]);unfold Oper.wp;rw[hrun];rcases hr with rfl|⟨rfl,rfl⟩
 .exact⟨v,φ,rfl,D,λ_ _ S=>.inl S,A,hval⟩
 .exact⟨undef,φ,rfl,D,λ_ _ S=>.inl S,A,hval⟩
def mZ {l:Y AV} (h:gu l=J):∀x∈l,x.isCell=J:=by
 induction l with
 |nil=>intro x d;cases d
 |cons y l z=>
  simp only[gu,au]at h;intro x d;rcases bm.1 d with rfl|d
  .exact h.1
  .exact z h.2 x d
def nI:∀{l:Y AV} {d:Y FV},yA l=Z d->l=d.map .f
 |[],d,h=>by simp only[yA,af]at h;subst h;rfl
 |.f x::r,d,h=>by
  simp only[yA]at h;split at h
  .rename_i l z;cases h;rw[nI z];rfl
  .cases h
 |.H _ _::_,_,h|.sl _ _ _::_,_,h|.G _ _ _::_,_,h|.mp _::_,_,h|.emp::_,_,h|.agg _::_,_,h|.qg _::_,_,h|.qy _ _::_,_,h=>by simp[yA]at h
def Cs (φ:PM) (O:Nat->Prop) (w:World) (l:Y AV) (vs:ξ):Prop:=l! vs=l! l/\(∀x∈l,x.isCell=J)/\∀(j:Nat) x v,l[j]? =Z x->vs[j]? =Z v->cu φ O w x v
def BC.get_toMx {c:BC} (d:c.isCells=J) (j:Nat):c.get j=c.toMx[j]? :=by
 cases c with
 |fz l=>simp[BC.get,BC.toMx]
 |mx l=>rfl
 |_=>cases d
def BC.len_toMx {c:BC} (d:c.isCells=J):c.len=l! c.toMx:=by
 cases c with
 |fz l=>simp[BC.len,BC.toMx]
 |mx l=>rfl
 |_=>cases d
def nF (l:Y AV):(nX l).toMx=l/\(nX l).isCells=J:=by
 unfold nX;cases h:yA l with
 |none=>exact⟨rfl,rfl⟩
 |some d=>exact⟨(nI h).symm,rfl⟩
variable {s:TypeId}
def rD {w:World} {c:BC} (d:c.isCells=J) {arr:Array Value} (D:l! c.toMx<=arr.size)
 (h:∀(j:Nat) x,c.toMx[j]? =Z x->x.isCell=J/\∃v,arr[j]? =Z v/\cu V O w x v):gw V O w ⟨s,c⟩ (.cells arr s (0,0)):=by
 have h2:u_ V O w c arr:=⟨by rw[BC.len_toMx d];exact D,λj x A=>h j x (by rw[<- BC.get_toMx d];exact A)⟩
 unfold gw;cases z:c with
 |fz l|mx l=>rw[z]at h2;exact⟨arr,rfl,h2⟩
 |_=>rw[z]at d;cases d
variable {L:ξ}
def K_ {w:World} {ty:TypeId} {l:Y AV} (h:Cs V O w l L):gw V O w ⟨ty,nX l⟩ (.cells L.toArray ty (0,0)):=by
 obtain⟨h1,h2⟩:=nF l;refine rD h2 (by rw[h1];simp[h.1]) λj x d=>?_
 rw[h1]at d;have z:j<l! L:=by rw[h.1];exact (bq.1 d).1
 exact⟨h.2.1 x (bf d),L[j],by simp[z],h.2.2 j x _ d (aD z)⟩
def XS {w:World} (h:cu V O w y v) (z:gu y.cs=J):Cs V O w y.cs v.cells.toList:=by
 have one:y.cs=[y]->v.cells=#[v]->Cs V O w y.cs v.cells.toList:=λh1 h2=>by
  rw[h1]at z ⊢;rw[h2];exact⟨rfl,mZ z,λj x u d A=>by cases j with|zero=>simp at d A;subst d A;exact h|succ j=>simp at d⟩
 cases h with
 |qd _|qg _ _=>exact cN z (by simp[AV.cs,gu,AV.isCell])
 |@agg l vs L hcl D=>exact⟨L,hcl,D⟩
 |@f x u hf=>
  cases hf with
  |raw v=>
   have N:v.oneCell'=J:=by
    have:(AV.f (.raw v)).cs=[.f (.raw v)]:=rfl;rw[this]at z;simpa[gu,AV.isCell,FV.isCell] using z
   refine one rfl ?_;cases v<;>first|rfl|simp[Value.oneCell']at N
  |agg l vs L hcl D=>
   refine ⟨by simp[AV.cs,Value.cells,L],mZ z,λj x u d A=>?_⟩;simp only[AV.cs,a8]at d;cases F:l[j]? with
   |none=>rw[F]at d;cases d
   |some q=>rw[F]at d;simp at d;subst d;exact .f (D j q u F (by simpa[Value.cells] using A))
  |_=>exact one rfl rfl
 |_=>exact one rfl rfl
def m6.one {w:World} {x:FV} (h:m6 O w x v) (d:x.isCell=J):v.oneCell'=J:=by
 cases h with
 |raw v=>exact d
 |agg=>cases d
 |_=>rfl
def cu.one {w:World} (h:cu V O w y v) (d:y.isCell=J):v.oneCell'=J:=by
 cases h with
 |f h=>exact h.one d
 |qd|agg|qg=>cases d
 |_=>rfl
def Cs.one {w:World} {l:Y AV} (h:Cs V O w l L):∀v∈L,v.oneCell'=J:=by
 intro v z;obtain⟨j,d⟩:=fY z;have hlt:j<l! l:=by rw[<- h.1];exact (bq.1 d).1
 exact (h.2.2 j _ v (aD hlt) d).one (h.2.1 _ (wJ hlt))
def Cs.append {w:World} {l l':Y AV} {vs':ξ} (h:Cs V O w l L) (h':Cs V O w l' vs'):Cs V O w (l++l') (L++vs'):=by
 refine ⟨by simp[h.1,h'.1],λx d=>(bE.1 d).elim (h.2.1 x) (h'.2.1 x),λj x v d A=>?_⟩;rcases bu j (l! l) with z|z
 .rw[bz z]at d;rw[bz (by rw[h.1];exact z)]at A;exact h.2.2 j x v d A
 .rw[bU z]at d;rw[bU (by rw[h.1];exact z),h.1]at A;exact h'.2.2 _ x v d A
def Cs.take {w:World} {l:Y AV} (h:Cs V O w l L) (n:Nat):Cs V O w (l.take n) (L.take n):=by
 refine ⟨by simp[h.1],λx d=>h.2.1 x (il d),λj x v d z=>?_⟩;rw[cP]at d z;split at d
 .rename_i A;rw[aG A]at z;exact h.2.2 j x v d z
 .cases d
def Cs.drop {w:World} {l:Y AV} (h:Cs V O w l L) (n:Nat):Cs V O w (l.drop n) (L.drop n):=by
 refine ⟨by simp[h.1],λx d=>h.2.1 x (List.mem_of_mem_drop d),λj x v d z=>?_⟩;rw[im]at d z;exact h.2.2 _ x v d z
def Cs.splice {w:World} {l l':Y AV} {vs':ξ} (h:Cs V O w l L) (h':Cs V O w l' vs') (off:Nat):Cs V O w (splice l off l') (splice L off vs'):=by
 unfold AI.splice;rw[h'.1];exact ((h.take off).append h').append (h.drop _)
def Cs.raws {φ:PM} {w:World} (z:ξ) (D:nV z=J):Cs φ O w (z.map raw) z:=by
 refine ⟨by simp,λx d=>?_,λj x v d A=>?_⟩
 .obtain⟨v,A,rfl⟩:=cq.1 d;exact gJ.1 D v A
 .rw[a8]at d;rw[A]at d;simp at d;subst d;exact .f (.raw v)
def Cs.mono {φ':PM} {O':Nat->Prop} {w w':World} {l:Y AV} (h:Cs V O w l L) (A:∀x v,cu V O w x v->cu φ' O' w' x v):Cs φ' O' w' l L:=⟨h.1,h.2.1,λj x v d z=>A _ _ (h.2.2 j x v d z)⟩
def Hx.setRow {w:World} {arr arr':Array Value} (z:w.heap[i]? =Z (.cells arr s (0,0))) (A:arr'.size=arr.size):Hx w (w.setRow i arr') i (.cells arr' s (0,0)):=by
 refine ⟨rfl,rfl,rfl,by simp,setRow_heap w i arr arr' s (0,0) z,λj d=>setRow_other w i j arr' d,λj=>?_⟩;unfold s8;by_cases d:j=i
 .subst d;rw[setRow_heap w j arr arr' s (0,0) z,z];simp[A]
 .rw[setRow_other w i j arr' d]
section
variable {P:Program} {o:Oper} {e:Dp} {h:m7} {nx:Nat} {R:Co}
def vb (d:uz P s=Z L) (w:World):∃v,(zeroValue s).run P w= .ok v w/\v.cells.toList=L/\∃i,P.info? s=Z i/\i.zero=Z v:=by
 unfold uz at d;cases hi:P.info? s with
 |none=>rw[hi]at d;cases d
 |some i=>
  rw[hi]at d;simp only[aC]at d;cases A:i.zero with
  |none=>rw[A]at d;cases d
  |some v=>
   rw[A]at d;simp only[bx,af]at d;exact⟨v,by simp[zeroValue,typeInfo,hi,A],d,i,rfl,A⟩
def aks (N:o.op= .alloc s) (z:uz P s=Z L) (hc:nV L=J) (F:dB (.alloc s L) e h nx=Z R):fZ P o e.get h.get R.eff:=by
 simp only[dB,af]at F;subst F;refine fZ.makes λφ E h' w a _ _ _=>?_
 obtain⟨v,h1,h2,_⟩:=vb z w;refine ⟨.pointer (Z ⟨w.heap.size,0,U⟩),{w with heap:=w.heap.push (.cells v.cells s)},.cells v.cells s (0,0),?_,sL w _,?_,λφ' O hφ=>.H hφ⟩
 .unfold execOp;rw[N];simp[Instr.alloc,h1,newVar,newRow,newObj,ia]
 .have d:BC.toMx (.fz (L.map .raw))=L.map raw:=by simp[BC.toMx,raw]
  refine rD rfl (by rw[d,<-h2];simp) λj x A=>?_
  rw[d]at A;have cs:=Cs.raws (φ:=φ) (O:=tot E φ h') (w:=w) L hc;have D:j<l! L:=by have:=(bq.1 A).1;simpa using this
  refine ⟨cs.2.1 x (bf A),L[j],?_,cs.2.2 j x _ A (aD D)⟩;have:v.cells.toList[j]? =Z L[j]:=by rw[h2];exact aD D
  simpa using this
def ari (z:o.op= .box s d) (x:dB (.box s d) e h nx=Z R):fZ P o e.get h.get R.eff:=by
 simp only[dB]at x;split at x
 .rename_i v A;split at x
  .rename_i F;cases x;refine fZ.makes λφ E h' w a _ hp _=>?_
   have D:=XS (hp d _ (by rw[z];simp[Op.operands]) A) F;refine ⟨.pointer (Z ⟨w.heap.size,0,U⟩),{w with heap:=w.heap.push (.cells (a.eval d).cells s)},.cells (a.eval d).cells s (0,0),?_,sL w _,?_,λφ' O hφ=>.H hφ⟩
   .unfold execOp;rw[z];simp[Instr.box,newVar,newRow,newObj,ia]
   .have:=K_ (ty:=s) D;simpa using this
  .cases x
 .cases x
def mO {α:Type} {l vs:Y α} {off:Nat} (hle:off+l! vs<=l! l) (j:Nat):(splice l off vs)[j]? =if j<off then l[j]? else if j<off+l! vs then vs[j-off]? else l[j]? :=by
 unfold splice;rw[gX];have h1:l! (l.take off)=off:=by simp;omega
 by_cases z:j<off
 .rw[aG z,bz (by rw[h1];exact z),cP,aG z]
 .rw[aA z,bU (by omega),h1];by_cases d:j<off+l! vs
  .rw[aG d,bz (by omega)]
  .rw[aA d,bU (by omega),im];congr 1;omega
def nB {α:Type} {l vs:Y α} (hle:i+l! vs<=l! l):l! (splice l i vs)=l! l:=by
 unfold splice;simp;omega
def Ux (off:Nat):∀(vs:ξ) (k:Nat) (arr:Array Value),off+k+l! vs<=arr.size->∀j:Nat,
 ((vs.zipIdx k).foldl (λcs (p:Value×Nat)=>cs.setIfInBounds (off+p.2) p.1) arr)[j]? =if j<off+k then arr[j]? else if j<off+k+l! vs then vs[j-(off+k)]? else arr[j]?
 |[],k,arr,_,j=>by
  simp only[List.zipIdx_nil,List.foldl_nil,lm,cZ];split<;>rfl
 |v::vs,k,arr,hle,j=>by
  simp only[bX]at hle;rw[List.zipIdx_cons,ub,Ux off vs (k+1) _ (by simp;omega) j];simp only[bX];by_cases h1:j<off+k
  .rw[aG (by omega),aG h1,rj (by omega)]
  .by_cases h2:j=off+k
   .subst h2;rw[aG (by omega),aA (by omega),aG (by omega)];simp[show off+k<arr.size by omega]
   .rw[aA (by omega),aA h1];by_cases d:j<off+k+(l! vs+1)
    .rw[aG (by omega),aG d,show j-(off+k)=(j-(off+(k+1)))+1 from by omega];simp
    .rw[aA (by omega),aA d,rj (by omega)]
def Uw (off:Nat) (c:Array Value) (l:ξ) (hle:off+c.size<=l! l):(c.zipIdx.foldl (λcs (p:Value×Nat)=>cs.setIfInBounds (off+p.2) p.1) l.toArray)=(splice l off c.toList).toArray:=by
 rw[<- Array.foldl_toList,Array.toList_zipIdx];apply Array.ext_getElem?;intro j;rw[Ux off c.toList 0 l.toArray (by simpa using hle) j];simp only[cZ,lM];rw[mO (by simpa using hle)]
def Rz {w:World} (hp:Ws V O S w N e o) {place:Nat->M p?}:∀(d:Y G?) (ps':Y m?) (cells cs:Y AV) (vs:ξ),
 (l! ps'=l! d)->(∀(j:Nat) i x,d[j]? =Z (i,x)->∃of sz,ps'[j]? =Z (of,sz,x)/\place i=Z (of,sz))->(∀p∈d,p.2∈o.op.operands)->Cs V (tot O V S) w cells vs->Bq cells e ps'=Z cs->
 ∃vs',Instr.fill place vs.toArray (d.map λp=>(p.1,N.eval p.2))=Z vs'.toArray/\Cs V (tot O V S) w cs vs'
 |[],ps',cells,cs,vs,z,_,_,hcs,hf=>by
  cases ps' with
  |nil=>simp only[Bq,af]at hf;subst hf;exact⟨vs,rfl,hcs⟩
  |cons _ _=>simp at z
 |(i,x)::d,ps',cells,cs,vs,z,hpl,hm,hcs,hf=>by
  obtain⟨of,sz,h1,h2⟩:=hpl 0 i x rfl;cases ps' with
  |nil=>simp at h1
  |cons p ps'=>
   simp at h1;subst h1;simp only[Bq]at hf;split at hf
   .rename_i v a;split at hf
    .rename_i L;simp only[au,cF]at L;obtain⟨⟨hc1,D⟩,A⟩:=L;have F:=XS (hp x v (hm _ (c_ ..)) a) A;have hsz:(N.eval x).cells.size=sz:=by have:=F.1;simp at this;omega
     have hle:of+sz<=l! vs:=by rw[hcs.1];exact aZ D
     obtain⟨vs',g1,g2⟩:=Rz hp d ps' _ cs _ (by simpa using z) (λj i x hj=>by have:=hpl (j+1) i x (by simpa using hj);simpa using this) (λp hp=>hm p (b8 _ hp)) (hcs.splice F of) hf;refine ⟨vs',?_,g2⟩;simp only[ca,Instr.fill,h2];have hcd:((decide ((N.eval x).cells.size≠sz))||decide (of+(N.eval x).cells.size>vs.toArray.size))=aa:=by
      rw[hsz];simp;omega
     rw[aA (by rw[hcd];simp)];have:=Uw of (N.eval x).cells vs (by rw[hsz];exact hle);rw[<- g1,<-this]
    .cases hf
   .cases hf
def Gx :∀(d:Y G?) (ps':Y m?),yQ P s d=Z ps'->l! ps'=l! d/\∀(j:Nat) i x,d[j]? =Z (i,x)->∃of sz,ps'[j]? =Z (of,sz,x)/\Dz P s i=Z (of,sz)
 |[],ps',h=>by simp only[yQ,af]at h;subst h;exact⟨rfl,λj i x F=>by simp at F⟩
 |(i,x)::d,ps',h=>by
  simp only[yQ]at h;split at h
  .rename_i of sz l h1 h2;cases h;obtain⟨N,L⟩:=Gx d l h2;refine ⟨by simp[N],λj D A z=>?_⟩;cases j with
   |zero=>simp at z;obtain⟨rfl,rfl⟩:=z;exact⟨of,sz,rfl,h1⟩
   |succ j=>simpa using L j D A (by simpa using z)
  .cases h
def Lk (w:World):∀(d:Y Field),(d.all λf=>(fD P f.type).isSome)=J->(d.mapM (λf=>do pure (f.offset,<-sizeOf f.type)):Sem (Y p?)).run P w= .ok (d.map λf=>(f.offset,(fD P f.type).getD 0)) w
 |[],_=>by simp
 |f::d,h=>by
  simp only[List.all_cons,au]at h;obtain⟨sz,z⟩:=jI.1 h.1;have h1:=gA z w;have A:=Lk w d h.2;simp only[List.mapM_cons,ec,h1,cM,pT,A,ca,z,nY]
def ZV {D:Array G?} {ps':Y m?} (ho:o.op= .build s D) (hz:uz P s=Z L) (hc:nV L=J) (hps:yQ P s D.toList=Z ps')
 (A:(∃d,P.underlying s=Z (.struct d)/\(d.toList.all λf=>(fD P f.type).isSome)=J)\/∃n el sz,P.underlying s=Z (.array n el)/\fD P el=Z sz) (z:dB (.build L ps') e h nx=Z R):fZ P o e.get h.get R.eff:=by
 simp only[dB]at z;split at z
 .rename_i cs hf;rw[dx z];refine fZ.reads λφ E h' w a _ hp _=>?_
  obtain⟨v,h1,h2,_⟩:=vb hz w;have hcells:v.cells=L.toArray:=by rw[<- h2]
  obtain⟨g1,g2⟩:=Gx D.toList ps' hps;have hops:∀p∈D.toList,p.2∈o.op.operands:=λp hp=>by
   rw[ho];simp only[Op.operands,List.mem_toArray,cq];exact⟨p,hp,rfl⟩
  have hmap:(D.map λx:Nat×Operand=>(x.1,a.eval x.2)).toList=D.toList.map λp=>(p.1,a.eval p.2):=by simp
  have fin:∀place:Nat->M p?,(∀i,Dz P s i≠U->place i=Dz P s i)->∃vs':ξ,Instr.fill place v.cells (D.map λx:Nat×Operand=>(x.1,a.eval x.2)).toList=Z vs'.toArray/\cu φ (tot E φ h') w (Pz cs) (.agg vs'.toArray):=by
   intro place hpl;obtain⟨vs',k1,k2⟩:=Rz (place:=place) hp D.toList ps' _ cs L g1 (λj i x hj=>by
    obtain⟨of,sz,q1,q2⟩:=g2 j i x hj;exact⟨of,sz,q1,by rw[hpl i (by rw[q2];simp),q2]⟩) hops (Cs.raws L hc) hf
   refine ⟨vs',by rw[hmap,hcells];exact k1,?_⟩;unfold Pz;cases hfs:yA cs with
   |none=>exact .agg k2.1 k2.2.1 k2.2.2
   |some d=>
    have he:=nI hfs;refine .f (.agg d vs' (by rw[k2.1,he];simp) (λx N=>k2.2.1 (.f x) (by rw[he];exact cq.2 ⟨x,N,rfl⟩)) λj x u N A=>?_);have:=k2.2.2 j (.f x) u (by rw[he,a8,N];rfl) A;cases this with
    |f h=>exact h
  rcases A with ⟨d,A,hall⟩|⟨n,el,sz,A,F⟩
  .obtain⟨vs',k1,k2⟩:=fin (λi=>(d.map λf=>(f.offset,(fD P f.type).getD 0))[i]?) (λi hi=>by
    unfold Dz at hi ⊢;rw[A]at hi ⊢;simp only[Array.getElem?_map]at hi ⊢;cases hf:d[i]? with
    |none=>rw[hf]at hi;simp at hi
    |some f=>
     simp only[bx,aC];cases F:fD P f.type with
     |none=>rw[hf]at hi;simp[F]at hi
     |some sz=>simp)
   refine ⟨_,?_,k2⟩;have hm:=Lk w d.toList hall;have hm':(d.mapM (λf=>do pure (f.offset,<-sizeOf f.type)):Sem (Array p?)).run P w= .ok (d.map λf=>(f.offset,(fD P f.type).getD 0)) w:=by
    rw[Array.mapM_eq_mapM_toList];simp only[Sem.run_map,hm,cM];congr 1;apply Array.ext';simp
   unfold execOp;rw[ho];simp only[Instr.build,ec,h1,cM,run_underlying A,hm',pT,k1]
  .obtain⟨vs',k1,k2⟩:=fin (λi=>Z (i*sz,sz)) (λi hi=>by
    unfold Dz;rw[A];simp[F])
   refine ⟨_,?_,k2⟩;have h3:=gA F w;unfold execOp;rw[ho];simp only[Instr.build,ec,h1,cM,run_underlying A,h3,pT,k1]
 .cases z
end
section
variable {P:Program} {o:Oper} {e:Dp} {h:m7} {nx:Nat} {R:Co}
def tW {d:TypeId} (h:C4 P s=Z d):P.underlying s=Z (.slice d):=by
 unfold C4 at h;split at h
 .rename_i e z;cases h;exact z
 .cases h
def oa (z:ξ):∀n,l! (repl z n)=n*l! z
 |0=>by simp[repl]
 |n+1=>by simp[repl,oa z n,iC];omega
def EA (z:ξ):∀(n j:Nat),j<n*l! z->(repl z n)[j]? =(z[j%l! z]?).map .raw
 |0,j,h=>by simp at h
 |n+1,j,h=>by
  have A:0<l! z:=by
   rcases oQ (l! z) with h0|h0
   .rw[h0]at h;simp at h
   .exact h0
  rw[repl];rcases bu j (l! z) with d|d
  .rw[bz (by simpa using d),a8,Ed d]
  .rw[bU (by simpa using d),bS,EA z n (j-l! z) (by rw[iC]at h;omega),Nat.mod_eq_sub_mod d]
def Z4 (d:v.cells.toList=L) (n sz:Nat) (D:l! L=sz) (hsz:sz≠0) (j:Nat) (F:j<n*sz):
 ((AA (n*sz)).map (λi=>v.cells[i%v.cells.size]!))[j]? =L[j%sz]? :=by
 have A:v.cells.size=sz:=by rw[<- D,<-d];simp
 have hlt:j%sz<v.cells.size:=by rw[A];exact Nat.mod_lt _ (by omega)
 rw[Array.getElem?_map,Array.getElem?_range];simp only[F,bw,bx,A];rw[<- d,bL,getElem!_pos v.cells _ hlt,iJ hlt]
def Cs.repl {φ:PM} {w:World} (z:v.cells.toList=L) (n sz:Nat) (F:l! L=sz) (hsz:sz≠0) (N:nV L=J):
 Cs φ O w ((repl L n).map .f) ((AA (n*sz)).map (λi=>v.cells[i%v.cells.size]!)).toList:=by
 have key:∀(j:Nat) (x:AV),((AI.repl L n).map AV.f)[j]? =Z x->∃u,L[j%sz]? =Z u/\x=raw u/\j<n*sz:=by
  intro j x d;rw[a8]at d;have A:j<n*l! L:=by
   rcases bu j (n*l! L) with h|h
   .exact h
   .rw[bK (by rw[oa];exact h)]at d;cases d
  rw[EA L n j A,F]at d;cases D:L[j%sz]? with
  |none=>rw[D]at d;cases d
  |some u=>rw[D]at d;simp at d;exact⟨u,rfl,d.symm,by rw[<- F];exact A⟩
 refine ⟨by simp[oa,F],λx d=>?_,λj x u d D=>?_⟩
 .obtain⟨j,A⟩:=fY d;obtain⟨u,h1,rfl,_⟩:=key j x A;exact gJ.1 N u (bf h1)
 .obtain⟨u',h1,rfl,A⟩:=key j x d;rw[bL,Z4 z n sz F hsz j A,h1]at D;cases D;exact .f (.raw _)
def arh {A:TypeId} {d:Array G?} {ps':Y m?} (ho:o.op= .buildSlice s i d) (hu:P.underlying s=Z (.slice A)) (hz:uz P A=Z L) (hs:fD P A=Z j) (hc:nV L=J) (hl:l! L=j) (hsz:j≠0) (hb:i*j<=65536)
 (hps:yQ P s d.toList=Z ps') (D:dB (.xx A j i L ps') e h nx=Z R):fZ P o e.get h.get R.eff:=by
 simp only[dB]at D;split at D
 .rename_i cs hf;cases D;refine fZ.makes λφ E h' w a _ hp _=>?_
  obtain⟨v,h1,h2,_⟩:=vb hz w;obtain⟨g1,g2⟩:=Gx d.toList ps' hps;have hops:∀p∈d.toList,p.2∈o.op.operands:=λp hp=>by
   rw[ho];simp only[Op.operands,List.mem_toArray,cq];exact⟨p,hp,rfl⟩
  have hmap:(d.map λx:Nat×Operand=>(x.1,a.eval x.2)).toList=d.toList.map λp=>(p.1,a.eval p.2):=by simp
  obtain⟨vs',k1,k2⟩:=Rz (place:=λn=>Z (n*j,j)) hp d.toList ps' _ cs _ g1 (λsz n x hj=>by
   obtain⟨of,s',q1,q2⟩:=g2 sz n x hj;unfold Dz at q2;rw[hu]at q2;simp[hs]at q2;obtain⟨rfl,rfl⟩:=q2;exact⟨_,_,q1,rfl⟩) hops (Cs.repl h2 i j hl hsz hc) hf
  have hcells:(AA (i*j)).map ((if i*j=0 then #[] else v.cells)[·%(if i*j=0 then #[] else v.cells).size]!)=((AA (i*j)).map (λn=>v.cells[n%v.cells.size]!)).toList.toArray:=by
   by_cases h0:i*j=0
   .simp[h0]
   .rw[Array.toArray_toList];simp only[aA h0]
  have hlen:l! vs'=i*j:=by
   have e1:=k2.1;have e2:l! cs=l! ((AI.repl L i).map AV.f):=by
    have:∀(ps':Y m?) (N z:Y AV),Bq N e ps'=Z z->l! z=l! N:=by
     intro ps';induction ps' with
     |nil=>intro N z h;simp only[Bq,af]at h;rw[h]
     |cons p ps' ih=>
      intro N z h;obtain⟨of,s',x⟩:=p;simp only[Bq]at h;split at h
      .split at h
       .rename_i hcc;simp only[au,cF]at hcc;rw[ih _ _ h,nB (by rw[hcc.1.1];exact aZ hcc.1.2)]
       .cases h
      .cases h
    exact this ps' _ _ hf
   rw[e1,e2];simp[oa,hl]
  refine ⟨.slice (Z ⟨w.heap.size,0,U⟩) i i,{w with heap:=w.heap.push (.cells vs'.toArray A)},.cells vs'.toArray A (0,0),?_,sL w _,K_ k2,λφ' O hφ=>?_⟩
  .have h3:=gA hs w;have F:Instr.fill (λn=>Z (n*j,j)) ((AA (i*j)).map ((if i*j=0 then #[] else v.cells)[·%(if i*j=0 then #[] else v.cells).size]!)) (d.map λx:Nat×Operand=>(x.1,a.eval x.2)).toList=Z vs'.toArray:=by
    rw[hcells,hmap];exact k1
   unfold execOp;rw[ho];simp only[Instr.buildSlice,ec,run_underlying hu,cM,h3];rw[aA (by omega)];by_cases h0:i*j=0
   .simp only[aG h0]at F ⊢;simp only[ec,pT,cM,F,newRow,newObj,ia]
   .simp only[aA h0]at F ⊢;simp only[ec,pT,cM,h1,F,newRow,newObj,ia]
  .simp only[];split
   .rename_i h0;subst h0;exact .emp
   refine .G hφ (cA _) ?_ ⟨A,?_⟩
   .have:i<=i*j:=Nat.le_mul_of_pos_right _ (by omega);unfold maxLen;omega
   .unfold s8;simp[hlen]
 .cases D
end
def sq.wren {w w':World} (r:sq V O S w) {k:Nat} {b':kx} {ob:Obj} (hb:S i=Z z) (D:V i=Z k) (hnx:V j=U) (F:Hx w w' k ob) (hob:gw V (tot O V S) w b' ob) (L:HF) (hnw:L j=Z b') (hnid:L i=U):
 ∃φ',φ' j=Z k/\kf V φ' S (eW S [j,i] L) w w'/\(∀id k,φ' id=Z k->V id=Z k\/id∈[j])/\sq φ' O (eW S [j,i] L) w':=by
 have hne:j≠i:=λe=>by rw[e,D]at hnx;cases hnx
 have hsub:∀id x,eW S [j,i] L id=Z x->id≠j->S id=Z x/\id≠i:=λid x hx hi=>by
  unfold eW at hx;by_cases hd:id=i
  .subst hd;simp[hnid]at hx
  .simp[hi,hd]at hx;exact⟨hx,hd⟩
 have hφ:∀id,id≠j->(if id=j then Z k else V id)=V id:=λid hi=>by simp[hi]
 have m:kf V (λid=>if id=j then Z k else V id) S (eW S [j,i] L) w w':=by
  refine ⟨λid N A=>?_,⟨F.os,F.tape,F.output,by rw[F.size];exact cA _,λnx hj ho=>?_,λnx _=>F.jd nx⟩,?_⟩
  .have:id≠j:=λe=>by rw[e,hnx]at A;cases A
   rw[hφ id this];exact A
  .exact F.other nx (λe=>ho (e▸⟨i,z,hb,D⟩))
  .rintro nx hj ⟨id,x,h1,h2⟩;by_cases hi:id=j
   .simp[hi]at h2;subst h2;exact⟨i,z,hb,D⟩
   .have h3:V id=Z nx:=by simpa[hi] using h2
    exact⟨id,x,(hsub id x h1 hi).1,h3⟩
 refine ⟨_,by simp,m,λid N A=>?_,⟨λid nx x y kk hi hj h1 h2=>?_,λid x hi=>?_,λk D=>dA (r.el k D) m.ext.size,λg cells hg=>m.keepF (r.gl g cells hg)⟩⟩
 .by_cases hi:id=j
  .right;simp[hi]
  .left;rw[hφ id hi]at A;exact A
 .by_cases d:id=j
  .by_cases b:nx=j
   .rw[d,b]
   .exfalso;rw[hφ nx b]at h2;simp[d]at h1;subst h1;obtain⟨q1,q2⟩:=hsub nx y hj b;exact q2 (r.inj nx i y z k q1 hb h2 D)
  .rw[hφ id d]at h1;obtain⟨p1,p2⟩:=hsub id x hi d;by_cases b:nx=j
   .exfalso;simp[b]at h2;subst h2;exact p2 (r.inj id i x z k p1 hb h1 D)
   .rw[hφ nx b]at h2;exact r.inj id nx x y kk p1 (hsub nx y hj b).1 h1 h2
 .by_cases d:id=j
  .subst d;have:x=b':=by unfold eW at hi;simp[hnw]at hi;exact hi.symm
   subst this;obtain⟨N,h1,h2,_⟩:=r.at_ i z hb;rw[D]at h1;cases h1;exact⟨k,by simp,h2,ob,F.at_,hob.mono λ_ _ S=>m.zq S⟩
  .obtain⟨p1,p2⟩:=hsub id x hi d;obtain⟨N,h1,h2,ob',h3,h4⟩:=r.at_ id x p1;have hne':N≠k:=λe=>p2 (r.inj id i x z k p1 hb (e▸h1) D)
   exact⟨N,by rw[hφ id d];exact h1,h2,ob',by rw[F.other N hne'];exact h3,h4.mono λ_ _ S=>m.zq S⟩
def sq.cs {w:World} (hrep:sq V O S w) (hb:S i=Z z) (L:V i=Z j) (b:z.c.isCells=J):
 ∃arr,w.heap[j]? =Z (.cells arr z.ty (0,0))/\Cs V (tot O V S) w z.c.toMx (arr.toList.take (l! z.c.toMx))/\l! z.c.toMx<=arr.size:=by
 obtain⟨k',h1,_,h2⟩:=hrep.at_ i z hb;rw[L]at h1;cases h1;obtain⟨arr,h3,F,D⟩:=h2.cells b;rw[BC.len_toMx b]at F;refine ⟨arr,h3,⟨by simp;omega,λx A=>?_,λk x v A d=>?_⟩,F⟩
 .obtain⟨k,N⟩:=fY A;exact (D k x (by rw[BC.get_toMx b];exact N)).1
 .obtain⟨_,u,h6,h7⟩:=D k x (by rw[BC.get_toMx b];exact A);rw[cP]at d;split at d
  .rw[bL,h6]at d;cases d;exact h7
  .cases d
section
variable {P:Program} {o:Oper} {e:Dp} {h:m7} {nx:Nat} {R:Co}
def Qn (d:Ho P s=Z i):∃b,P.info? s=Z b/\b.bytes=i:=by
 unfold Ho at d;cases hi:P.info? s with
 |none=>rw[hi]at d;cases d
 |some b=>rw[hi]at d;simp at d;exact⟨b,rfl,d⟩
def Ez (h:bh i j=J):i<=1099511627776/\i*j<=1099511627776:=by
 simp only[bh,au]at h;exact⟨aZ h.1,aZ h.2⟩
def ade (h1: -9223372036854775808<=a) (h2:a<=9223372036854775807):pW .i64 a=a:=by
 rw[<- AO];have:(dj (-9223372036854775808) a&&dj a 9223372036854775807)=J:=by simp[dj,h1,h2]
 simp only[J5,Pb,this,bw]
def ans {d:TypeId} {l c:Operand} (ho:o.op= .makeSlice s l c) (hu:P.underlying s=Z (.slice d)) (hz:uz P d=Z L) (hs:fD P d=Z i) (hb:Ho P d=Z j) (hc:nV L=J) (hl:l! L=i) (hsz:i≠0)
 (D:dB (.zg d i j L l c) e h nx=Z R):fZ P o e.get h.get R.eff:=by
 simp only[dB]at D;split at D
 .rename_i k1 n k2 m A hy;split at D
  .rename_i hcd;simp only[dj,au,bB]at hcd;obtain⟨⟨h0,h1⟩,h2⟩:=hcd;obtain⟨r1,r2⟩:=Ez h2;cases D;refine fZ.makes λφ E h' w a _ hp _=>?_
   have e1:=eV (hp l _ (by rw[ho];simp[Op.operands]) A);have e2:=eV (hp c _ (by rw[ho];simp[Op.operands]) hy);obtain⟨v,z1,z2,_⟩:=vb hz w;obtain⟨sz,i1,i2⟩:=Qn hb;have s1:=gA hs w;have w1:pW .i64 n=n:=ade (by omega) (by omega);have w2:pW .i64 m=m:=ade (by omega) (by omega);have hbm:(j:Int)*m=((m.toNat*j:Nat):Int):=by
    rw[Int.natCast_mul,Int.toNat_of_nonneg (by omega),Int.mul_comm]
   have t1:¬(m<0\/(281474976710656:Int)<j*m):=by rw[hbm];omega
   have hr:¬(m.toNat*j>roomBytes):=by unfold roomBytes;omega
   have hn0:m.toNat*i=0->m.toNat=0:=λh=>(Nat.mul_eq_zero.1 h).resolve_right hsz
   let cells:Array Value:=(AA (m.toNat*i)).map (λsz=>v.cells[sz%v.cells.size]!)
   refine ⟨.slice (Z ⟨w.heap.size,0,U⟩) n.toNat m.toNat,{w with heap:=w.heap.push (.cells cells d)},.cells cells d (0,0),?_,sL w _,?_,λφ' O hφ=>?_⟩
   .unfold execOp;rw[ho];by_cases z:m.toNat*i=0
    .obtain rfl:m=0:=by have:=hn0 z;omega
     obtain rfl:n=0:=by omega
     simp[Instr.makeSlice,run_underlying hu,e1,e2,asInt,asIntOf,typeInfo,i1,w1,askRoom,s1,newRow,newObj,ia,cells];rw[show AA 0=#[] from rfl];simp
    .simp[Instr.makeSlice,run_underlying hu,e1,e2,asInt,asIntOf,typeInfo,i1,i2,w1,w2,t1,show ¬n<0 by omega,show ¬m<n by omega,askRoom,hr,s1,z,z1,newRow,newObj,ia,cells]
   .have cs:=Cs.repl (φ:=φ) (O:=tot E φ h') (w:=w) z2 m.toNat i hl hsz hc;have hle:n.toNat<=m.toNat:=by omega
    have hlen:n.toNat*i<=m.toNat*i:=cH _ hle;refine rD rfl (by simp[BC.toMx,oa,hl,cells];exact hlen) λbytes x A=>?_
    simp only[BC.toMx,a8]at A;have hj:bytes<n.toNat*l! L:=by
     rcases bu bytes (n.toNat*l! L) with h|h
     .exact h
     .rw[bK (by rw[oa];exact h)]at A;cases A
    have hj2:bytes<m.toNat*l! L:=by rw[hl]at hj ⊢;omega
    rw[EA L _ bytes hj,<-EA L m.toNat bytes hj2]at A;have F:((repl L m.toNat).map AV.f)[bytes]? =Z x:=by rw[a8];exact A
    have N:bytes<l! cells.toList:=by simp[cells];rw[<- hl];exact hj2
    exact⟨cs.2.1 x (bf F),cells.toList[bytes],by rw[<- bL];exact aD N,cs.2.2 bytes x _ F (aD N)⟩
   .refine .G hφ (by omega) (by unfold maxLen;omega) ⟨d,?_⟩;unfold s8;simp[cells]
  .cases D
 .cases D
def akr {y:Operand} (N:o.op= .store s d y) (hs:fD P s=Z i) (x:dB (.store i d y) e h nx=Z R):fZ P o e.get h.get R.eff:=by
 simp only[dB]at x;split at x
 .rename_i p v hx hy;unfold BP at x;split at x
  .rename_i id off;split at x
   .rename_i b hb;split at x
    .rename_i hl;split at x
     .rename_i c' hput;cases x;unfold BC.put at hput;split at hput
      .rename_i hcc;simp only[au]at hcc;obtain⟨⟨c1,c2⟩,c3⟩:=hcc;have c2:=aZ c2;have hl:l! v.cs=i:=by simpa using hl
       have A:c'.toMx=splice b.c.toMx off v.cs/\c'.isCells=J:=by
        split at hput
        .rename_i l ys hbl hys;cases hput;refine ⟨?_,rfl⟩;have hv:=nI hys;rw[hv,hbl];simp only[BC.toMx];unfold splice;simp[iq,ue]
        .cases hput;exact⟨rfl,rfl⟩
       refine fZ.writes hb λφ E h' w a hrd hb' hp hrep=>?_
       have L:=XS (hp y _ (by rw[N];simp[Op.operands]) hy) c3;have hpx:=hp d _ (by rw[N];simp[Op.operands]) hx;generalize hz:a.eval d=pv at hpx;cases hpx with
       |@H _ _ k hφ=>
        obtain⟨arr,g1,g2,g3⟩:=hrep.cs hb' hφ c1;have hvl:(a.eval y).cells.toList.length=i:=by rw[L.1];exact hl
        rw[BC.len_toMx c1]at c2;have hst:=run_storeCells_at (P:=P) k off b.ty (a.eval y).cells.toList 0 arr w g1 (by rw[hvl];omega) L.one
        let arr':Array Value:=(arr.toList.take off++(a.eval y).cells.toList++arr.toList.drop (off+i)).toArray
        have hsize:arr'.size=arr.size:=by simp only[arr',kX,bG,cv,lW,iV,hvl];omega
        refine ⟨.skip,w.setRow k arr',k,.cells arr' b.ty (0,0),?_,hφ,Hx.setRow g1 hsize,?_,undef,.inr ⟨rfl,rfl⟩,.f (.raw _)⟩
        .have s1:=gA hs w;have hvs:(a.eval y).cells.size=i:=by simpa using hvl
         simp only[cZ,hvl]at hst;unfold execOp;rw[N];simp[Instr.storeAt,hz,Instr.sureAddr,storeVar,s1,hvs,hst,arr']
        .refine rD A.2 (by rw[A.1,nB (by omega),hsize];exact g3) λj q z=>?_
         rw[A.1,mO (by omega)]at z;have ha':arr'[j]? =if j<off then arr.toList[j]? else if j<off+i then (a.eval y).cells.toList[j-off]? else arr.toList[j]? :=by
          have:=mO (l:=arr.toList) (vs:=(a.eval y).cells.toList) (off:=off) (by have:=hvl;simp only[iV]at this ⊢;omega) j;unfold splice at this;rw[hvl]at this;simp only[arr',lM];exact this
         have old:b.c.toMx[j]? =Z q->q.isCell=J/\∃u,arr.toList[j]? =Z u/\cu φ (tot E φ h') w q u:=λz=>by
          have hj:j<l! b.c.toMx:=(bq.1 z).1;have F:j<l! arr.toList:=by simp;omega
          refine ⟨g2.2.1 q (bf z),arr.toList[j],aD F,g2.2.2 j q _ z ?_⟩;rw[cP,aG hj,aD F]
         rw[ha'];by_cases h1:j<off
         .rw[aG h1]at z ⊢;exact old z
         .rw[aA h1]at z ⊢;by_cases h2:j<off+i
          .rw[aG (by omega)]at z;rw[aG h2];have D:j-off<(a.eval y).cells.toList.length:=by omega
           exact⟨L.2.1 q (bf z),_,aD D,L.2.2 _ q _ z (aD D)⟩
          .rw[aA (by omega)]at z;rw[aA h2];exact old z
      .cases hput
     .cases x
    .cases x
   .cases x
  .cases x
 .cases x
end
section
variable {P:Program} {o:Oper} {e:Dp} {h:m7} {nx:Nat} {R:Co}
def ann (A:Addr):A.add 0=A:=by cases A;simp[Addr.add]
def aqx {el:TypeId} {lo hi mx:M Operand} (N:o.op= .slice s d lo hi mx) (hu:P.underlying s=Z (.slice el)) (hs:fD P el=Z i) (D:dB (.slc i d lo hi mx) e h nx=Z R):fZ P o e.get h.get R.eff:=by
 simp only[dB]at D;split at D
 .rename_i v hx;split at D
  ·
   rename_i k k';split at D
   .rename_i hsl;rw[dx D];refine fZ.reads λφ E h' w a _ hp _=>?_
    have x:=hp d _ (by rw[N];simp[Op.operands]) hx;have hz:∃A n c,a.eval d= .slice A n c:=by
     generalize a.eval d=z at x;obtain⟨n,hn⟩:=jI.1 hsl;unfold AV.slen at hn;split at hn
     .cases x with
      |f x=>cases x with
       |nil|sl=>exact⟨_,_,_,rfl⟩
     .cases eV x;exact⟨_,_,_,rfl⟩
     .cases x;exact⟨_,_,_,rfl⟩
     .cases x;exact⟨_,_,_,rfl⟩
     .cases x;exact⟨_,_,_,rfl⟩
     .cases hn
    obtain⟨A,n,c,hz⟩:=hz;have s1:=gA hs w;refine ⟨.slice A 0 0,?_,.emp⟩;unfold execOp;rw[N];have z0:∀k,a.eval (.const (.int k 0))= .int k 0:=λ_=>rfl
    simp[l8,pX,run_underlying hu,hz,gZ,iF,asIntOf,s1,z0]
   .cases D
  ·
   rename_i b;split at D
   .rename_i id sz' n k j hb;split at D
    .rename_i F;simp only[dj,au,bB,cF]at F;obtain⟨⟨rfl,h0⟩,h1⟩:=F;split at D
     .rename_i blk hblk;split at D
      .rename_i hcl;simp only[au]at hcl;obtain⟨hcells,hlen⟩:=hcl;have hlen:=aZ hlen;rw[BC.len_toMx hcells]at hlen;cases D;intro φ E h' w a g1 g2 g3 hrep g5;have hp:Ws φ E h' w a e o:=λd y hx L=>uX hrep g3 hx L
       have hb':h' id=Z blk:=by rw[g1 id (by simp[Co.eff])];exact hblk
       have x:=hp d _ (by rw[N];simp[Op.operands]) hx;have hbv:=eV (hp b _ (by rw[N];simp[Op.operands]) hb);have hnx:φ nx=U:=g5 nx (by simp[Co.eff]);generalize hz:a.eval d=z at x;cases x with
       |@G _ _ _ c q hφ hn hcap hsh=>
        obtain⟨arr,a1,a2,a3⟩:=hrep.cs hb' hφ hcells;have s1:=gA hs w;have hne:nx≠id:=λe=>by rw[e,hφ]at hnx;cases hnx
        have hnw1:j6 [(nx,⟨blk.ty,nX (blk.c.toMx.take (j.toNat*sz'))⟩)] nx=Z (⟨blk.ty,nX (blk.c.toMx.take (j.toNat*sz'))⟩:kx):=by simp[j6]
        have hnw2:j6 [(nx,⟨blk.ty,nX (blk.c.toMx.take (j.toNat*sz'))⟩)] id=U:=by
         simp only[j6];rw[aA];intro hb;exact hne (av hb)
        have a4:=a2.take (j.toNat*sz');obtain⟨φ',p1,p2,p3,p4⟩:=hrep.wren hb' hφ hnx (w':=w) ⟨rfl,rfl,rfl,rfl,a1,λ_ _=>rfl,λ_=>rfl⟩ (b':=⟨blk.ty,nX (blk.c.toMx.take (j.toNat*sz'))⟩) (by
         obtain⟨q1,q2⟩:=nF (blk.c.toMx.take (j.toNat*sz'));refine rD q2 (by rw[q1,cv];omega) λsz d hx=>?_
         rw[q1]at hx;have hi:sz<l! ((arr.toList.take (l! blk.c.toMx)).take (j.toNat*sz')):=by rw[a4.1];exact (bq.1 hx).1
         refine ⟨a4.2.1 d (bf hx),_,?_,a4.2.2 sz d _ hx (aD hi)⟩;have hi':sz<arr.size:=by simp at hi;omega
         simp[hi']) _ hnw1 hnw2
        have hrun:(execOp a.eval o).run P w= .ok (.value (.slice (Z ⟨q,0,U⟩) j.toNat c)) w:=by
         unfold execOp;rw[N];simp[l8,pX,run_underlying hu,hz,gZ,iF,asIntOf,s1,hbv,h0,show j<=c by omega,kV]
        unfold Oper.wp;rw[hrun];exact⟨_,φ',rfl,p2,p3,p4,.G p1 (by omega) hcap hsh⟩
      .cases D
     .cases D
    .cases D
   .rename_i cells n k j hb;split at D
    .rename_i F;simp only[dj,au,bB]at F;obtain⟨⟨h0,h1⟩,h2⟩:=F;have h2:=aZ h2;rw[dx D];refine fZ.reads λφ E h' w a _ hp _=>?_
     have x:=hp d _ (by rw[N];simp[Op.operands]) hx;have hbv:=eV (hp b _ (by rw[N];simp[Op.operands]) hb);generalize hz:a.eval d=z at x;have s1:=gA hs w;cases x with
     |f x=>
      cases x with
      |nil A c F=>
       have hj:j=0:=by omega
       subst hj;refine ⟨.slice A 0 c,?_,by simpa using cu.f (.nil A c F)⟩;unfold execOp;rw[N];cases A<;>simp[l8,pX,run_underlying hu,hz,gZ,iF,asIntOf,s1,hbv,ann]
      |sl _ _ c q off us hn F hO hq hcl hu' x=>
       refine ⟨.slice (Z ⟨q,off,U⟩) j.toNat c,?_,.f (.sl _ _ _ _ _ us (by omega) F hO hq (λy L=>hcl y (il L)) (λsz hi=>hu' sz (by rw[cv]at hi;omega)) λsz y L=>?_)⟩
       .unfold execOp;rw[N];simp[l8,pX,run_underlying hu,hz,gZ,iF,asIntOf,s1,hbv,h0,show j<=c by omega,kV]
       .rw[cP]at L;split at L
        .exact x sz y L
        .cases L
    .cases D
   .cases D
  ·
   rename_i b;split at D
   .rename_i id sz' n k j hb;split at D
    .rename_i F;simp only[dj,fM,au,bB,cF]at F;obtain⟨⟨rfl,h0⟩,h1⟩:=F;rw[dx D];refine fZ.reads λφ E h' w a _ hp _=>?_
     have x:=hp d _ (by rw[N];simp[Op.operands]) hx;have hbv:=eV (hp b _ (by rw[N];simp[Op.operands]) hb);generalize hz:a.eval d=z at x;cases x with
     |@G _ _ _ c q hφ hn F hsh=>
      have s1:=gA hs w;refine ⟨.slice (Z ⟨q,0+j.toNat*sz',U⟩) (n-j.toNat) (c-j.toNat),?_,?_⟩
      .unfold execOp;rw[N];simp[l8,pX,run_underlying hu,hz,gZ,iF,asIntOf,s1,hbv,h0,show j<=n by omega,show ¬c=j.toNat by omega,kV]
      .rw[bO];exact .sl hφ (by omega) (by omega)
    .cases D
   .rename_i cells n k j hb;split at D
    .rename_i F;simp only[dj,au,bB]at F;obtain⟨⟨h0,h1⟩,h2⟩:=F;have h2:=aZ h2;rw[dx D];refine fZ.reads λφ E h' w a _ hp _=>?_
     have x:=hp d _ (by rw[N];simp[Op.operands]) hx;have hbv:=eV (hp b _ (by rw[N];simp[Op.operands]) hb);generalize hz:a.eval d=z at x;have s1:=gA hs w;cases x with
     |f x=>
      cases x with
      |nil A c F=>
       have hj:j=0:=by omega
       subst hj;have hex:∃A',(execOp a.eval o).run P w= .ok (.value (.slice A' 0 c)) w:=by
        unfold execOp;rw[N];cases A with
        |none=>exact⟨U,by simp[l8,pX,run_underlying hu,hz,gZ,iF,asIntOf,s1,hbv]⟩
        |some A=>exact⟨Z A,by simp[l8,pX,run_underlying hu,hz,gZ,iF,asIntOf,s1,hbv,ann]⟩
       obtain⟨A',hex⟩:=hex;exact⟨.slice A' 0 c,hex,by simpa using cu.f (.nil A' c F)⟩
      |sl _ _ c q off us hn F hO hq hcl hu' x=>
       by_cases hcj:c=j.toNat
       .refine ⟨.slice (Z ⟨q,off,U⟩) 0 0,?_,?_⟩
        .unfold execOp;rw[N];simp[l8,pX,run_underlying hu,hz,gZ,iF,asIntOf,s1,hbv,h0,show j<=n by omega,hcj,show n-j.toNat=0 by omega,kV]
        .rw[show n-j.toNat=0 by omega];simpa using cu.f (.nil (Z ⟨q,off,U⟩) 0 (by unfold maxLen;omega))
       .refine ⟨.slice (Z ⟨q,off+j.toNat*i,U⟩) (n-j.toNat) (c-j.toNat),?_,.f (.sl _ _ _ _ _ (λsz=>us (j.toNat*i+sz)) (by omega) (by omega) hO hq (λy L=>hcl y (List.mem_of_mem_drop (il L))) (λsz hi=>?_) λsz y L=>?_)⟩
        .unfold execOp;rw[N];simp[l8,pX,run_underlying hu,hz,gZ,iF,asIntOf,s1,hbv,h0,show j<=n by omega,hcj,kV]
        .rw[ud];refine hu' _ ?_;rw[cv,lW]at hi;omega
        .rw[cP]at L;split at L
         .rw[im]at L;exact x _ y L
         .cases L
    .cases D
   .cases D
  ·
   rename_i b b' _;split at D
   .rename_i cells n k j k' j' hb hb';split at D
    .rename_i F;simp only[dj,au,bB]at F;obtain⟨⟨⟨hjj,h0⟩,h1⟩,h2⟩:=F;subst hjj;have h2:=aZ h2;rw[dx D];refine fZ.reads λφ E h' w a _ hp _=>?_
     have x:=hp d _ (by rw[N];simp[Op.operands]) hx;have hbv:=eV (hp b _ (by rw[N];simp[Op.operands]) hb);have hbv':=eV (hp b' _ (by rw[N];simp[Op.operands]) hb');generalize hz:a.eval d=z at x;have s1:=gA hs w;cases x with
     |f x=>
      cases x with
      |nil A c F=>
       have hj:j=0:=by omega
       subst hj;refine ⟨.slice A 0 0,?_,by simpa using cu.qd (m6.nil A 0 (by unfold maxLen;omega))⟩;unfold execOp;rw[N];cases A<;>simp[l8,pX,run_underlying hu,hz,gZ,iF,asIntOf,s1,hbv,hbv',ann]
      |sl _ _ c q off us hn F hO hq hcl hu' x=>
       refine ⟨.slice (Z ⟨q,off,U⟩) j.toNat j.toNat,?_,.qd (.sl _ _ _ _ _ us (cA _) (by omega) hO hq (λy L=>hcl y (il L)) (λsz hi=>hu' sz (by rw[cv]at hi;omega)) λsz y L=>?_)⟩
       .unfold execOp;rw[N];simp[l8,pX,run_underlying hu,hz,gZ,iF,asIntOf,s1,hbv,hbv',h0,show j<=c by omega,kV];intro hlt;omega
       .rw[cP]at L;split at L
        .exact x sz y L
        .cases L
    .cases D
   .cases D
  .cases D
 .cases D
def ae0 {src:Y AV} {rd:ι} (hrow:y.row? h i=Z (src,j,rd)) {w:World} (hrd:∀sz∈rd,S sz=h.get sz) (hrep:sq V O S w) (F:cu V (tot O V S) w y v):
 ∃A c vs,v= .slice A j c/\Cs V (tot O V S) w src vs/\l! vs=j*i/\(A=U->vs=[])/\(∀ad,A=Z ad->∀(m:Nat) u,vs[m]? =Z u->w.cell? (ad.add m)=Z u):=by
 have emp:∀A c,v= .slice A 0 c->src=[]->j=0->∃A c vs,v= .slice A j c/\Cs V (tot O V S) w src vs/\l! vs=j*i/\(A=U->vs=[])/\(∀ad,A=Z ad->∀(m:Nat) u,vs[m]? =Z u->w.cell? (ad.add m)=Z u):=by
  rintro A c rfl rfl rfl;exact⟨A,c,[],rfl,⟨rfl,(by intro y d;cases d),(by intro m y v d;simp at d)⟩,by simp,λ_=>rfl,by intro ad _ m u z;simp at z⟩
 have own:∀(id off n c k:Nat) (b:kx),V id=Z k->S id=Z b->b.c.isCells=J->off+n*i<=b.c.len->v= .slice (Z ⟨k,off,U⟩) n c->src=(b.c.toMx.drop off).take (n*i)->j=n->
  ∃A c vs,v= .slice A j c/\Cs V (tot O V S) w src vs/\l! vs=j*i/\(A=U->vs=[])/\(∀ad,A=Z ad->∀(m:Nat) u,vs[m]? =Z u->w.cell? (ad.add m)=Z u):=by
  rintro id off n c k b hφ N D hle rfl rfl rfl;obtain⟨arr,g1,g2,g3⟩:=hrep.cs N hφ D;rw[BC.len_toMx D]at hle;refine ⟨_,c,((arr.toList.take (l! b.c.toMx)).drop off).take (j*i),rfl,(g2.drop off).take _,?_,nofun,?_⟩
  .simp;omega
  .intro ad had m u z;cases had;rw[kV];rw[cP]at z;split at z
   .rw[im,cP]at z;split at z
    .rw[bL]at z;simp[QD,g1,z]
    .cases z
   .cases z
 unfold AV.row? at hrow;split at hrow
 .rename_i cells n;split at hrow
  .rename_i hle;have hle:=aZ hle;simp only[af,aI]at hrow;obtain⟨rfl,rfl,rfl⟩:=hrow;cases F with
   |f F=>
    cases F with
    |nil a c D=>exact emp a c rfl (by simp) rfl
    |sl _ _ c b off us hn D hO N hcl z F=>
     refine ⟨_,c,(kY (n*i)).map us,rfl,⟨by simp;omega,λy d=>?_,λm y u d L=>?_⟩,by simp,nofun,?_⟩
     .obtain⟨x,hy,rfl⟩:=cq.1 d;exact hcl x (il hy)
     .obtain⟨rfl,hj⟩:=zB us _ _ _ L;rw[a8,cP,aG hj]at d;cases hq:cells[m]? with
      |none=>rw[hq]at d;cases d
      |some q=>rw[hq]at d;simp at d;subst d;exact .f (F m q hq)
     .intro ad had m u L;cases had;obtain⟨rfl,hj⟩:=zB us _ _ _ L;rw[kV];exact z m (by omega)
  .cases hrow
 .simp only[af,aI]at hrow;obtain⟨rfl,rfl,rfl⟩:=hrow;exact emp U 0 (eV F) rfl rfl
 .simp only[af,aI]at hrow;obtain⟨rfl,rfl,rfl⟩:=hrow;cases F with
  |@emp a=>exact emp a 0 rfl rfl rfl
 .rename_i id sz' n;split at hrow
  .rename_i hsz;split at hrow
   .rename_i b N;split at hrow
    .rename_i D;simp only[au]at D;simp only[af,aI]at hrow;obtain⟨rfl,rfl,rfl⟩:=hrow;cases F with
     |@G _ _ _ c k hφ hn hc' hsh=>
      exact own id 0 n c k b hφ (by rw[hrd id (by simp)];exact N) D.1 (by rw[bO];exact aZ D.2) rfl (by simp) rfl
    .cases hrow
   .cases hrow
  .cases hrow
 .rename_i id off n;split at hrow
  .rename_i b N;split at hrow
   .rename_i D;simp only[au]at D;simp only[af,aI]at hrow;obtain⟨rfl,rfl,rfl⟩:=hrow;cases F with
    |@sl _ _ _ c k hφ hn hc'=>exact own id off n c k b hφ (by rw[hrd id (by simp)];exact N) D.1 (aZ D.2) rfl rfl rfl
   .cases hrow
  .cases hrow
 .cases hrow
def aii {src:Y AV} {rd:ι} (hrow:y.row? h i=Z (src,j,rd)) {w:World} (hrd:∀sz∈rd,S sz=h.get sz) (hrep:sq V O S w) (F:cu V (tot O V S) w y v) {D:TypeId} (z:P.underlying s=Z (.slice D)):
 ∃vs,Src P i s v j vs w/\Cs V (tot O V S) w src vs:=by
 obtain⟨A,c,vs,rfl,h1,h2,N,L⟩:=ae0 hrow hrd hrep F;refine ⟨vs,?_,h1⟩;cases A with
 |none=>
  have:=N rfl;subst this;have hm:j*i=0:=by simpa using h2.symm
  refine ⟨.inl ⟨D,z⟩,λ_=>rfl,run_firstCells_none w i j j c,run_firstCells_none w.drew i j j c,by simp[hm],λ_ h=>by cases h⟩
 |some ad=>exact Src.ofSlice w z ad j c vs h2 (L ad rfl) h1.one
def aeu :∀{l:ι},mem i l=J↔i∈l
 |[]=>by simp[mem]
 |y::r=>by
  simp only[mem,jN,aeu (l:=r),bm];constructor
  .rintro (h|h)
   .exact .inl (av h).symm
   .exact .inr h
  .rintro (h|h)
   .subst h;exact .inl (eP i)
   .exact .inr h
def anz {u el el':TypeId} {x:Operand} (ho:o.op= .call {callee:=.builtin .copy,args:=#[d,x],argTypes:=#[s,u]}) (N:P.underlying s=Z (.slice el)) (hu':P.underlying u=Z (.slice el')) (hs:fD P el=Z i) (D:dB (.copy i d x) e h nx=Z R):fZ P o e.get h.get R.eff:=by
 simp only[dB]at D;split at D
 .rename_i id sz' n y hd hx;split at D
  .rename_i blk src m rd hblk hrow;split at D
   .rename_i hc;simp only[au,cF,cU]at hc;obtain⟨⟨rfl,hmem⟩,hlen⟩:=hc;split at D
    .rename_i c' hput;cases D;unfold BC.put at hput;split at hput
     .rename_i hcc;simp only[au]at hcc;obtain⟨⟨c1,c2⟩,c3⟩:=hcc;have c2:=aZ c2;rw[bO]at c2;have L:c'.toMx=splice blk.c.toMx 0 (src.take (jM m n*sz'))/\c'.isCells=J:=by
       split at hput
       .rename_i l ys hbl hys;cases hput;refine ⟨?_,rfl⟩;have hv:=nI hys;rw[hv,hbl];simp only[BC.toMx];unfold splice;simp[iq,ue]
       .cases hput;exact⟨rfl,rfl⟩
      refine fZ.writes hblk λφ E h' w a hrd hb' hp hrep=>?_
      have hpd:=hp d _ (by rw[ho];simp[Op.operands,dI]) hd;have hpx:=hp x _ (by rw[ho];simp[Op.operands,dI]) hx;obtain⟨A,c,vs,hv,q1,q2,q3,q4⟩:=ae0 hrow (λsz hi=>hrd sz (by simp[hi])) hrep hpx;generalize hz:a.eval d=pv at hpd;cases hpd with
      |@G _ _ _ cap k hφ hn hcap hsh=>
       obtain⟨arr,g1,g2,g3⟩:=hrep.cs hb' hφ c1;rw[BC.len_toMx c1]at c2;have hmn:jM m n<=m:=Nat.min_le_left _ _;have hle:jM m n*sz'<=m*sz':=cH _ hmn
       let z:=vs.take (jM m n*sz')
       have hnl:l! z=jM m n*sz':=by simp only[z,cv,q2];omega
       have hsl:l! (src.take (jM m n*sz'))=jM m n*sz':=by rw[cv,<-q1.1,q2];omega
       have csn:=q1.take (jM m n*sz');rw[hsl]at c2;have hst:=run_storeCells_at (P:=P) k 0 blk.ty z 0 arr w g1 (by rw[hnl];omega) csn.one
       let arr':Array Value:=(arr.toList.take 0++z++arr.toList.drop (0+jM m n*sz')).toArray
       have hsize:arr'.size=arr.size:=by simp only[arr',kX,bG,cv,lW,iV,hnl];omega
       have hfc:(zY sz' (jM m n) (.slice A m c)).run P w= .ok z.toArray w:=by
        cases A with
        |none=>
         have:z=[]:=by simp[z,q3 rfl]
         rw[this];exact run_firstCells_none w sz' _ _ _
        |some ad=>exact run_firstCells_some w sz' _ ad m c z hnl (λj u N=>q4 ad rfl j u (by
          simp only[z,cP]at N;split at N
          .exact N
          .cases N))
       refine ⟨.value (.int .i64 (jM m n)),w.setRow k arr',k,.cells arr' blk.ty (0,0),?_,hφ,Hx.setRow g1 hsize,?_,_,.inl rfl,.f (.raw _)⟩
       .have s1:=gA hs w;simp only[cZ,hnl]at hst;unfold execOp;rw[ho];simp[resolve,invoke,builtin,Builtin.copy_,run_underlying N,hz,hv,Builtin.lenOf,s1,hfc,hst,goInt,arr']
       .refine rD L.2 (by rw[L.1,nB (by rw[hsl];omega),hsize];exact g3) λj q F=>?_
        rw[L.1,mO (by rw[hsl];omega)]at F;have ha':arr'[j]? =if j<0 then arr.toList[j]? else if j<0+l! z then z[j-0]? else arr.toList[j]? :=by
         have:=mO (l:=arr.toList) (vs:=z) (off:=0) (by simp only[iV];omega) j;unfold splice at this;simp only[arr',lM];rw[<- this,hnl]
        rw[ha',aA (by omega)];rw[aA (by omega),hsl]at F;rw[hnl];by_cases h2:j<0+jM m n*sz'
        .rw[aG h2]at F ⊢;have hj3:j-0<l! z:=by rw[hnl];omega
         exact⟨csn.2.1 q (bf F),_,aD hj3,csn.2.2 _ q _ F (aD hj3)⟩
        .rw[aA h2]at F ⊢;have hj:j<l! blk.c.toMx:=(bq.1 F).1;have hj2:j<l! arr.toList:=by simp;omega
         refine ⟨g2.2.1 q (bf F),arr.toList[j],aD hj2,g2.2.2 j q _ F ?_⟩;rw[cP,aG hj,aD hj2]
     .cases hput
    .cases D
   .cases D
  .cases D
 .cases D
def arf {el:TypeId} (ho:o.op= .call {callee:=.builtin .clear,args:=#[d],argTypes:=#[s]}) (hu:P.underlying s=Z (.slice el)) (hz:uz P el=Z L) (hc:nV L=J) (hl:l! L=i) (hsz:i≠0) (D:dB (.clr i L d) e h nx=Z R):fZ P o e.get h.get R.eff:=by
 simp only[dB]at D;split at D
 .rename_i id off n hx;split at D
  .rename_i blk hblk;split at D
   .rename_i hn;have hn:=aZ hn;obtain⟨m,rfl⟩:∃m,n=m+1:=⟨n-1,by omega⟩
    split at D
    .rename_i c' hput;cases D;unfold BC.put at hput;split at hput
     .rename_i hcc;simp only[au]at hcc;obtain⟨⟨c1,c2⟩,c3⟩:=hcc;have c2:=aZ c2;have hsrc:l! ((repl L (m+1)).map AV.f)=(m+1)*i:=by rw[bS,oa,hl]
      rw[hsrc]at c2;have z:c'.toMx=splice blk.c.toMx off ((repl L (m+1)).map AV.f)/\c'.isCells=J:=by
       split at hput
       .rename_i l ys hbl hys;cases hput;refine ⟨?_,rfl⟩;have hv:=nI hys;rw[hv,hbl];simp only[BC.toMx];unfold splice;simp[iq,ue]
       .cases hput;exact⟨rfl,rfl⟩
      refine fZ.writes hblk λφ E h' w a hrd hb' hp hrep=>?_
      have hpx:=hp d _ (by rw[ho];simp[Op.operands,dI]) hx;generalize hzv:a.eval d=pv at hpx;cases hpx with
      |@sl _ _ _ cap k hφ hn2 hcap=>
       obtain⟨arr,g1,g2,g3⟩:=hrep.cs hb' hφ c1;rw[BC.len_toMx c1]at c2;obtain⟨v,z1,z2,_⟩:=vb hz w;have csn:=Cs.repl (φ:=φ) (O:=tot E φ h') (w:=w) z2 (m+1) i hl hsz hc
       let F:=(mM v.cells (m+1)).toList
       have hvs:v.cells.size=i:=by rw[<- hl,<-z2];simp
       have hns:F=((AA ((m+1)*i)).map (λsz=>v.cells[sz%v.cells.size]!)).toList:=by simp only[F,mM,hvs]
       have hnl:l! F=(m+1)*i:=by rw[hns];simp
       rw[<- hns]at csn;have hst:=run_storeCells_at (P:=P) k off blk.ty F 0 arr w g1 (by rw[hnl];omega) csn.one
       let arr':Array Value:=(arr.toList.take (off+0)++F++arr.toList.drop (off+0+l! F)).toArray
       have hsize:arr'.size=arr.size:=by simp only[arr',kX,bG,cv,lW,iV,hnl];omega
       refine ⟨.value (.tuple #[]),w.setRow k arr',k,.cells arr' blk.ty (0,0),?_,hφ,Hx.setRow g1 hsize,?_,_,.inl rfl,.qg (vs:=[]) rfl λj y v hy=>by simp at hy⟩
       .unfold execOp;rw[ho];have hst2:(storeCells ⟨k,off,U⟩ (mM v.cells (m+1)).toList).run P w= .ok () (w.setRow k arr'):=hst;simp[resolve,invoke,builtin,Builtin.clear_,run_underlying hu,hzv,z1,hst2]
       .refine rD z.2 (by rw[z.1,nB (by rw[hsrc];omega),hsize];exact g3) λj q x=>?_
        rw[z.1,mO (by rw[hsrc];omega)]at x;have ha':arr'[j]? =if j<off then arr.toList[j]? else if j<off+l! F then F[j-off]? else arr.toList[j]? :=by
         have:=mO (l:=arr.toList) (vs:=F) (off:=off) (by simp only[iV];omega) j;unfold splice at this;simp only[arr',lM,cZ];rw[<- this]
        rw[ha'];rw[hsrc]at x;rw[hnl];by_cases h1:j<off
        .rw[aG h1]at x ⊢;have hj:j<l! blk.c.toMx:=(bq.1 x).1;have A:j<l! arr.toList:=by simp;omega
         refine ⟨g2.2.1 q (bf x),arr.toList[j],aD A,g2.2.2 j q _ x ?_⟩;rw[cP,aG hj,aD A]
        rw[aA h1]at x ⊢;by_cases h2:j<off+(m+1)*i
        .rw[aG h2]at x ⊢;have N:j-off<l! F:=by rw[hnl];omega
         exact⟨csn.2.1 q (bf x),_,aD N,csn.2.2 _ q _ x (aD N)⟩
        .rw[aA h2]at x ⊢;have hj:j<l! blk.c.toMx:=(bq.1 x).1;have A:j<l! arr.toList:=by simp;omega
         refine ⟨g2.2.1 q (bf x),arr.toList[j],aD A,g2.2.2 j q _ x ?_⟩;rw[cP,aG hj,aD A]
     .cases hput
    .cases D
   .cases D
  .cases D
 .cases D
end
end
end Go.Proofs.YtlimcnhpkfopcaaGreatDoor.AI
