/-
  Texts of the proof, part 3 of 6: what is used to prove the statement. No condition.
-/
import Derived.Test.YthehadcddfilhaaGreatDoorHBOrdersQ1
import Derived.KernelRfl
import Derived.WalkSpells
import Derived.Laws.CopyRow
namespace Go.Proofs.YthehadcddfilhaaGreatDoor.AI
open Go.RowKit
set_option maxRecDepth 100000
set_option maxHeartbeats 4000000
set_option linter.unusedVariables false
set_option linter.unusedSimpArgs false
open _root_.Bool renaming true→ai,false→aj
open Call renaming operands→eU
open _root_.Classical renaming propDecidable→yH
open _root_.Int renaming ofNat_eq_natCast→au,ofNat→aO,toNat→aU,reduceEq→aV,reduceNeg→bp,toNat_natCast→c6,tmod→me
open IntKind renaming wrap→kJ
open _root_.List renaming length→al,replicate→aG,length_cons→b7,range→cS,take→dP,length_singleton→dR,cons_append→gu,length_nil→jT,nil_append→lU,foldl_cons→xk
open _root_.Nat renaming beq→aC,add_zero→dv
open Oper renaming wp→HA
open _root_.Option renaming some→af,none→ah,map_some→ch,getD_some→uX
open _root_.Prod renaming p2→aZ,p3→bk,p4→bw,q3→bL,p5→cA,q5→cX,q4→dA,p6→dV,q6→fk,q7→kD,p7→kE,q8→pZ,p8→Aa
open Result renaming andThen_ok→cL
open Sem renaming run_bind→eL,run→nD
open _root_.Sum renaming inr→bP
noncomputable section
theorem fh (e:Xp):d_ (Xp.op e,Xp.n e,Xp.name e,Xp.l e)=e:=by cases e;rfl
theorem yU (s:Sx):nN (Sx.op s,Sx.line s,Sx.name s,Sx.arg s,Sx.index s,Sx.expr s,Sx.body s,Sx.els s)=s:=by cases s;rfl
abbrev NV:List (List UInt8):=[[97],[98],[120],[121],[118]]
def GE:Nat->Xp->Prop
 |0,_=>False
 |d+1,e=>(e.op=3->e.name=[113])/\(e.op≠1->e.op≠2->1<=e.l.length)/\e.l.length<=2/\(∀ x∈e.l,GE d x)/\(e.op=2->e.name∈NV)/\(e.op≠1->e.op≠2->e.op≠3->2<=e.l.length/\6<=e.op/\e.op<=18)
theorem GE.mono:∀ {d:Nat} {e:Xp},GE d e->GE (d+1) e
 |0,_,h=>h.elim
 |_+1,_,h=>⟨h.1,h.2.1,h.2.2.1,λx I=>(h.2.2.2.1 x I).mono,h.2.2.2.2⟩
theorem GE.le {d k:Nat} {e:Xp} (h:GE d e) (hk:d<=k):GE k e:=by
 induction hk with
 |refl=>exact h
 |step _ I=>exact I.mono
theorem N' (n:Int):rE n=af (.mk 1 n [] []):=rfl
theorem HK (s:List UInt8):po s=af (.mk 2 0 s []):=rfl
theorem Fp (o:Int) (a b:Xp):nM (o,a,b)=af (.mk o 0 [] [a,b]):=by
 cases a;cases b;rfl
theorem tX (s:List UInt8) (e:Xp):jq (s,e)=af (.mk 1 0 s [] [] e [] []):=by
 cases e;rfl
abbrev MK:Type:=Int×Int×Bool×Bool×Bool×Bool
abbrev Pw:Type:=List Int×Int
abbrev HD:Type:=Bool×List (List UInt8)
theorem GE.num (n:Int) (d:Nat):GE (d+1) (.mk 1 n [] []):=⟨λh=>(by cases h),λh=>(h rfl).elim,by simp[Xp.l],λx I=>(by cases I),λh=>(by cases h),λh=>(h rfl).elim⟩
theorem GE.nm {s:List UInt8} (hs:s∈NV) (d:Nat):GE (d+1) (.mk 2 0 s []):=⟨λh=>(by cases h),λ_ h=>(h rfl).elim,by simp[Xp.l],λx I=>(by cases I),λ_=>hs,λ_ h=>(h rfl).elim⟩
theorem GE.bin {o:Int} {a b:Xp} {d:Nat} (J:6<=o/\o<=18) (M:GE d a) (hb:GE d b):GE (d+1) (.mk o 0 [] [a,b]):=
 ⟨λh=>(by have h:o=3:=h;omega),λ_ _=>by simp[Xp.l],by simp[Xp.l],λx I=>by
   simp only[Xp.l,bm,cw,gi] at I;rcases I with rfl|rfl
   .exact M
   .exact hb,λh=>(by have h:o=2:=h;omega),λ_ _ _=>⟨by simp[Xp.l],J⟩⟩
theorem GE.ix {a:Xp} {d:Nat} (J:GE d a):GE (d+1) (.mk 3 0 [113] [a]):=
 ⟨λ_=>rfl,λ_ _=>by simp[Xp.l],by simp[Xp.l],λx I=>by
   simp only[Xp.l,bm,cw,gi] at I;rw[I];exact J,λh=>(by cases h),λ_ _ h=>(h rfl).elim⟩
theorem Dh:∀ (n d:Nat),d<n->d<=10->∀ (m:MK) (t:Pw) (h:HD),TP t->Ok (ip n ((d:Int),m,t,h)) λy=>GE (d+1) y.1/\y.2.1=m/\uT t y.2.2.1/\y.2.2.2=h
 |0,d,hd,_,_,_,_,_=>by omega
 |n+1,d,hd,h10,m,t,h,ht=>by
  rw[yM];unfold nU aZ bk bL dA cX bf bx bB kB aY aE;refine ax (gq 10 t ht) λy I=>?_
  obtain⟨k,t1⟩:=y;obtain⟨s1,k0,k1,_⟩:=I;have k1:=k1 (by decide);dsimp only at s1 k0 k1;refine aX (λx=>x.2=(m,t1,h,(0,0,[]),[[97],[98],[120],[121],[118],[120],[121]])/\(x.1=aj->2<=k/\(d=0->k<7))) ?_ ?_
  .refine bF (λ_=>ar ⟨rfl,λh=>(by cases h)⟩) λg=>aK (λg2=>ar ⟨rfl,λg3=>⟨g,λ_=>?_⟩⟩) λg2=>ar ⟨rfl,λ_=>⟨g,λh=>(g2 (by dsimp only;omega)).elim⟩⟩
   dsimp only at g3;rw[kf] at g3;exact g3
  rintro⟨b,x⟩ ⟨e,hb⟩;dsimp only at e hb;subst e;refine aP (λ_=>?_) λg=>?_
  .refine ax (gq 4 t1 s1.p) λy I=>?_
   refine aT (N' _) (ar ?_);exact⟨GE.num _ _,rfl,s1.trans I.1,rfl⟩
  obtain⟨q0,q1⟩:=hb g;refine bF (λg=>?_) λg=>?_
  .refine ax (gq _ t1 s1.p) λy I=>?_
   obtain⟨Z,M,J,_⟩:=I;have J:=J (show (1:Int)<=7 by decide);refine aS M J (aS M J (aR ?_));refine aT (HK _) (ar ?_);have hnv:∀ z∈([[97],[98],[120],[121],[118],[120],[121]]:List (List UInt8)),z∈NV:=by decide
   exact⟨GE.nm (hnv _ (bJ (T:=.str) M J)) _,rfl,s1.trans Z,rfl⟩
  dsimp only at g;have hd0:d≠0:=λh=>by have:=q1 h;omega
  obtain⟨d,rfl⟩:∃ k,d=k+1:=⟨d-1,by omega⟩
  refine aK (λg=>?_) λg=>?_
  .refine ax (Dh n 0 (by omega) (by omega) m t1 h s1.p) λy I=>?_
   obtain⟨e,m',t',h'⟩:=y;obtain⟨v1,v2,U,Y⟩:=I;dsimp only at v1 v2 U Y;subst v2;subst Y;refine bg (by simp) (ar ?_);dsimp only;rw[fh];exact⟨(GE.ix (v1.le (by omega):GE (d+1) e)),rfl,s1.trans U,rfl⟩
  .refine ax (gq _ t1 s1.p) λy I=>?_
   obtain⟨k2,t2⟩:=y;obtain⟨Z,M,J,_⟩:=I;have J:=J (by decide);dsimp only at Z M J;refine aS M J (aS M J (aR ?_));have ho:(6:Int)<=aJ (T:=.int .i64) [6,7,8,11,13,17] k2/\aJ (T:=.int .i64) [6,7,8,11,13,17] k2<=(18:Int):=by
    have h1:=bJ (T:=.int .i64) (xs:=([6,7,8,11,13,17]:List Int)) M J;have:∀ z:Int,z∈([6,7,8,11,13,17]:List Int)->6<=z/\z<=18:=by decide
    exact this _ h1
   have ew:bc .i64 (((d+1:Nat):Int)-1)=(d:Int):=by rw[hX (by omega) (by omega)];omega
   dsimp only;rw[ew];refine ax (Dh n d (by omega) (by omega) m t2 h Z.p) λy I=>?_
   obtain⟨e,m',t',h'⟩:=y;obtain⟨v1,v2,U,Y⟩:=I;dsimp only at v1 v2 U Y;subst v2;subst Y;refine bg (by simp) ?_;refine ax (Dh n d (by omega) (by omega) m' t' h' U.p) λy I=>?_
   obtain⟨e2,m2,t2',h2⟩:=y;obtain⟨w1,w2,w3,w4⟩:=I;dsimp only at w1 w2 w3 w4;subst w2;subst w4;refine bg (by simp) ?_;refine aT (Fp _ _ _) (ar ?_);dsimp only;rw[fh];exact⟨GE.bin ho v1 w1,rfl,s1.trans (Z.trans (U.trans w3)),rfl⟩
theorem aau (d:Nat) (hd:d<=10) (m:MK) (t:Pw) (h:HD) (ht:TP t):Ok (fd ((d:Int),m,t,h)) λy=>GE (d+1) y.1/\y.2.1=m/\uT t y.2.2.1/\y.2.2.2=h:=Dh fuel d (by rw[jQ];omega) hd m t h ht
def NE (op:Int):Prop:=op=1\/op=2\/op=3\/op=14
def ZE (e:Xp):Prop:=GE 4 e\/e= .mk 0 0 [] []
structure NO (nT:Nat) (s:Sx):Prop where
 o0:1<=s.op
 o1:s.op<=15
 vr:s.op=1->s.index=[]->s.name∈NV
 lk:s.op=4->s.name=[109]\/s.name=[110]
 rw:s.op=5\/s.op=6->s.name=[114]
 cn:s.op=9\/s.op=10\/s.op=11->s.name=[99]
 sp:s.op=12\/s.op=13->s.name∈v9.take nT
 se:s.op=14->s.name=[102]
 ge:s.op=15->s.name=[97]/\s.arg=[102]
 el:¬s.op=2->s.els=[]
 bo:s.op=1\/9<=s.op->s.body=[]
variable {nT:Nat}
def GS (nT:Nat):Nat->Sx->Prop
 |0,_=>False
 |d+1,s=>(s.index≠[]->s.name=[113])/\s.index.length<=1/\(∀ e∈s.index,GE 4 e)/\(NE s.op->GE 4 s.expr)/\ZE s.expr/\s.body.length<=8/\s.els.length<=8/\(∀ x∈s.body,GS nT d x)/\(∀ x∈s.els,GS nT d x)/\NO nT s
theorem GS.mono:∀ {d:Nat} {s:Sx},GS nT d s->GS nT (d+1) s
 |0,_,h=>h.elim
 |_+1,_,⟨a,b,c,e,f,g,i,j,k,l⟩=>⟨a,b,c,e,f,g,i,λx I=>(j x I).mono,λx I=>(k x I).mono,l⟩
theorem GS.le {d k:Nat} {s:Sx} (h:GS nT d s) (hk:d<=k):GS nT k s:=by
 induction hk with
 |refl=>exact h
 |step _ I=>exact I.mono
theorem NO.asg {s a:List UInt8} {e:Xp} {i:List Xp} (hs:i=[]->s∈NV):NO nT (.mk 1 0 s a i e [] []):=by
 constructor<;>simp[Sx.op,Sx.name,Sx.index,Sx.els,Sx.body];exact λh=>by simpa using hs h
theorem GS.asg {d:Nat} {s:List UInt8} (hs:s∈NV) {e:Xp} (h:GE 4 e):GS nT (d+1) (.mk 1 0 s [] [] e [] []):=
 ⟨λh=>(h rfl).elim,by simp[Sx.index],λe he=>(by cases he),λ_=>h,.inl h,by simp[Sx.body],by simp[Sx.els],λx I=>(by cases I),λx I=>(by cases I),NO.asg λ_=>hs⟩
theorem GS.aix {d:Nat} {i e:Xp} (hi:GE 4 i) (h:GE 4 e):GS nT (d+1) (.mk 1 0 [113] [] [i] e [] []):=
 ⟨λ_=>rfl,by simp[Sx.index],λe he=>(by simp only[Sx.index,aL] at he;rw[he];exact hi),λ_=>h,.inl h,by simp[Sx.body],by simp[Sx.els],λx I=>(by cases I),λx I=>(by cases I),NO.asg λh=>(by cases h)⟩
theorem GS.we {d:Nat} {op:Int} {s a:List UInt8} {e:Xp} {b l:List Sx} (h:GE 4 e) (hb:b.length<=8) (hl:l.length<=8) (I:∀ x∈b,GS nT d x) (gl:∀ x∈l,GS nT d x) (hn:NO nT (.mk op 0 s a [] e b l)):GS nT (d+1) (.mk op 0 s a [] e b l):=
 ⟨λh=>(h rfl).elim,by simp[Sx.index],λe he=>(by cases he),λ_=>h,.inl h,hb,hl,I,gl,hn⟩
theorem GS.wo {d:Nat} {op ln:Int} {s a:List UInt8} {b:List Sx} (M:4<=op/\op≠14) (hb:b.length<=8) (J:∀ x∈b,GS nT d x) (hn:NO nT (.mk op ln s a [] (.mk 0 0 [] []) b [])):GS nT (d+1) (.mk op ln s a [] (.mk 0 0 [] []) b []):=
 ⟨λh=>(h rfl).elim,by simp[Sx.index],λe he=>(by cases he),λh=>(by have h:op=1\/op=2\/op=3\/op=14:=h;omega),.inr rfl,hb,by simp[Sx.els],J,λx I=>(by cases I),hn⟩
def QS (nT:Nat) (d:Nat) (n:Int) (t:Pw) (h:HD) (y:MK×Pw×HD×List Sx):Prop:=(y.2.2.2.length:Int)<=max 0 n/\(∀ s∈y.2.2.2,GS nT (d+1) s)/\uT t y.2.1/\y.2.2.1.2=h.2
def QT (nT:Nat) (d:Nat) (t:Pw) (h:HD) (y:Sx×MK×Pw×HD):Prop:=GS nT (d+1) y.1/\uT t y.2.2.1/\y.2.2.2.2=h.2
def QB (nT:Nat) (d:Nat) (t:Pw) (h:HD) (y:List Sx×MK×Pw×HD):Prop:=y.1.length<=2/\(∀ s∈y.1,GS nT (d+1) s)/\uT t y.2.2.1/\y.2.2.2.2=h.2
abbrev RS:Type:=((Int×Int)×MK×Pw×HD)->Option (MK×Pw×HD×List Sx)
abbrev RT:Type:=(Int×MK×Pw×HD)->Option (Sx×MK×Pw×HD)
abbrev RBk:Type:=((List UInt8×Int)×MK×Pw×HD)->Option (List Sx×MK×Pw×HD)
def SpS (nT:Nat) (rs:RS) (d:Nat):Prop:=∀ (n:Int) (m:MK) (t:Pw) (h:HD),n<=3->TP t->h.2.length+d<=100->Ok (rs (((d:Int),n),m,t,h)) (QS nT d n t h)
def SpT (nT:Nat) (I:RT) (d:Nat):Prop:=∀ (m:MK) (t:Pw) (h:HD),TP t->h.2.length+d<=100->Ok (I ((d:Int),m,t,h)) (QT nT d t h)
def SpB (nT:Nat) (I:RBk) (d:Nat):Prop:=∀ (s:List UInt8) (m:MK) (t:Pw) (h:HD),TP t->h.2.length+1+d<=100->Ok (I ((s,(d:Int)),m,t,h)) (QB nT d t h)
theorem Yx (rs:RS) (M:RT) (rb:RBk) (d:Nat) (ht:SpT nT M d):SpS nT (mB rs M rb) d:=by
 intro n m t h hn hp hh;unfold mB aZ bk bw bL dA cX bf bx bB cK aE cE eh;refine qc (λx=>(n-x.1).toNat) (λx=>0<=x.1/\(x.1<=n\/x.1=0)/\uT t x.2.2.1/\(x.2.2.2.1.length:Int)<=x.1/\(∀ s∈x.2.2.2.1,GS nT (d+1) s)/\x.2.2.2.2.2=h.2) ?_ ⟨eT _,.inr rfl,uT.refl hp,by simp,λs hs=>(by cases hs),rfl⟩;rintro⟨(i:Int),m',t',l,h'⟩ ⟨i0,i1,e1,e2,e3,J⟩;dsimp only at i0 i1 e1 e2 e3 J;refine aX (λx=>x.2=(m',t',l,h')/\(x.1=ai->i<n)) ?_ ?_
 .refine bF (λg=>aK (λ_=>ar ⟨rfl,λ_=>g⟩) λ_=>ar ⟨rfl,λ_=>g⟩) λ_=>ar ⟨rfl,λh=>(by cases h)⟩
 rintro⟨b,x⟩ ⟨Z,Y⟩;dsimp only at Z Y;subst Z;refine aP (λhb=>?_) λ_=>ar ⟨by dsimp only;omega,e3,e1,J⟩
 have g:=Y hb;refine ax (ht m' t' h' e1.p (by rw[J];exact hh)) λy hy=>?_
 obtain⟨s,m2,t2,h2⟩:=y;obtain⟨k1,k2,U⟩:=hy;dsimp only at k1 k2 U;refine bg (by simp) (bh (by simp;omega) (by omega) (ar ?_));dsimp only;rw[fh,yU,hX (n:=i+1) (by omega) (by omega)];refine ⟨⟨by omega,by omega,e1.trans k2,by simp;omega,λx I=>?_,U.trans J⟩,by omega⟩;rcases bQ.1 I with I|I
 .exact e3 x I
 .rw[aL] at I;subst I;exact k1
theorem YA (rs:RS) (rt:RT) (rb:RBk) (d:Nat) (hs:SpS nT rs d):SpB nT (mC rs rt rb) d:=by
 intro s m t h hp hh;unfold mC aZ bk bL dA bB aY;refine bh (by simp;omega) (by omega) ?_;refine ax (gq 2 t hp) λy M=>?_
 obtain⟨k,t1⟩:=y;obtain⟨J,Z,I,_⟩:=M;have I:=I (by decide);dsimp only at J Z I;have ew:bc .i64 (1+k)=1+k:=hX (by omega) (by omega);dsimp only;rw[ew];refine ax (hs (1+k) m t1 (h.1,h.2++[s]) (by omega) J.p (by simp;omega)) λy M=>?_
 obtain⟨m2,t2,h2,l⟩:=y;obtain⟨k1,k2,Y,U⟩:=M;dsimp only at k1 k2 Y U;refine bg (by simp) ?_;dsimp only;rw[U];have el:bc .i64 ((aO (h.2++[s]).length)-1)=(h.2.length:Int):=by
  rw[bu,dR,hX (by simp<;>omega) (by simp<;>omega)];simp<;>omega
 rw[el];refine dx (eP (by omega) (Ag (by simp;omega) (ar ?_)));refine ⟨by dsimp only;omega,k2,J.trans Y,?_⟩;show dP (aU (h.2.length:Int)) (h.2++[s])=h.2;simp
theorem C7 (s:List UInt8) (m:MK) (t:Pw) (h:HD) (hh:h.2.length<=100):Ok (eQ (s,m,t,h)) λy=>y.2=(m,t,h):=by
 unfold eQ dA;exact ax (yF h.2 s (by omega)) λy _=>ar rfl
theorem abl (rs:RS) (rt:RT) (rb:RBk) (d:Nat) (hd:d<=5) (h0:1<=d->SpS nT rs 0) (hS:1<=d->SpS nT rs (d-1)) (hB:1<=d->SpB nT rb (d-1)):SpT nT (nS rs rt rb) d:=by
 intro m t h hp hh;unfold nS aZ bk bw bL dA cX bf bx bB kB aE eh;refine ax (gq 18 t hp) λy J=>?_
 obtain⟨k,t1⟩:=y;obtain⟨s1,k0,k1,_⟩:=J;have k1:=k1 (by decide);dsimp only at s1 k0 k1;have hE:∀ (j:Nat) (m':MK) (t':Pw) (h':HD),j<=1->TP t'->Ok (fd ((j:Int),m',t',h')) λy=>GE 4 y.1/\y.2.1=m'/\uT t' y.2.2.1/\y.2.2.2=h':=λj m' t' h' hj ht'=>(aau j (by omega) m' t' h' ht').mono λy J=>⟨J.1.le (by omega),J.2⟩
 have ed:bc .i64 ((d:Int)-1)=(d:Int)-1:=hX (by omega) (by omega);have ed1:1<=d->(d:Int)-1=((d-1:Nat):Int):=λ_=>by omega
 refine aX (λx=>x.2=((m.1,bc .i64 (m.2.1-1),m.2.2),t1,(0,0,[],[],0,0,[]),h)/\(x.1=ai->1<=d)) ?_ ?_
 .refine bF (λg=>aR (bF (λ_=>ar ⟨rfl,λ_=>?_⟩) λ_=>ar ⟨rfl,λh=>(by cases h)⟩)) λ_=>ar ⟨rfl,λh=>(by cases h)⟩
  dsimp only at g;omega
 generalize ((m.1,bc .i64 (m.2.1-1),m.2.2):MK)=m0;rintro⟨nest,x⟩ ⟨e,hn⟩;dsimp only at e hn;subst e;refine bF (λ_=>?_) λg4=>?_
 .refine aS k0 (by dsimp only[al];omega) (aS k0 (by dsimp only[al];omega) (aR ?_));refine ax (hE 1 m0 t1 h (by omega) s1.p) λy J=>?_
  obtain⟨e,m2,t2,h2⟩:=y;obtain⟨v1,v2,v3,v4⟩:=J;dsimp only at v1 v2 v3 v4;subst v2;subst v4;refine bg (by simp) (aT (tX _ _) (ar ?_));dsimp only;rw[fh,yU];have hnv:∀ z∈([[120],[121],[120],[118]]:List (List UInt8)),z∈NV:=by decide
  exact⟨GS.asg (hnv _ (bJ (T:=.str) k0 (by dsimp only[al];omega))) v1,s1.trans v3,rfl⟩
 dsimp only at g4;refine aK (λ_=>?_) λg5=>?_
 .refine ax (gq 2 t1 s1.p) λy J=>?_
  obtain⟨u1,u2,u3,_⟩:=J;have u3:=u3 (by decide);refine aS u2 u3 (aS u2 u3 (aR ?_));refine ax (hE 1 m0 y.2 h (by omega) u1.p) λz M=>?_
  obtain⟨e,m2,t2,h2⟩:=z;obtain⟨v1,v2,v3,v4⟩:=M;dsimp only at v1 v2 v3 v4;subst v2;subst v4;refine bg (by simp) (aT (tX _ _) (ar ?_));dsimp only;rw[fh,yU];have hnv:∀ z∈([[97],[98]]:List (List UInt8)),z∈NV:=by decide
  exact⟨GS.asg (hnv _ (bJ (T:=.str) u2 u3)) v1,s1.trans (u1.trans v3),rfl⟩
 dsimp only at g5;refine aK (λ_=>?_) λg6=>?_
 .refine ax (hE 0 m0 t1 h (by omega) s1.p) λz M=>?_
  obtain⟨e,m2,t2,h2⟩:=z;obtain⟨v1,v2,v3,v4⟩:=M;dsimp only at v1 v2 v3 v4;subst v2;subst v4;refine bg (by simp) ?_;refine ax (hE 1 m2 t2 h2 (by omega) v3.p) λz M=>?_
  obtain⟨e',m3,t3,h3⟩:=z;obtain⟨w1,w2,Z,Y⟩:=M;dsimp only at w1 w2 Z Y;subst w2;subst Y;refine bg (by simp) (ar ?_);dsimp only;rw[fh,fh];exact⟨GS.aix v1 w1,s1.trans (v3.trans Z),rfl⟩
 dsimp only at g6;have M:∀ (c:Prop),c->c:=λ_ h=>h
 have dd:1<=d->d-1+1=d:=λ_=>by omega
 have w8:8<=k->bc .i64 (k-8)=k-8:=λ_=>hX (by omega) (by omega)
 refine aX (λx=>x.2=(m0,t1,(0,0,[],[],0,0,[]),h)/\(x.1=ai->1<=d)) ?_ ?_
 .refine aK (λ_=>ar ⟨rfl,λg=>?_⟩) λ_=>ar ⟨rfl,λh=>(by cases h)⟩
  dsimp only at g;rw[tI] at g;omega
 rintro⟨b,x⟩ ⟨e,hb⟩;dsimp only at e hb;subst e;refine aP (λI=>?_) λ_=>?_
 .have d1:=hb I;refine ax (hE 1 m0 t1 h (by omega) s1.p) λz M=>?_
  obtain⟨e,m2,t2,h2⟩:=z;obtain⟨v1,v2,v3,v4⟩:=M;dsimp only at v1 v2 v3 v4;subst v2;subst v4;refine bg (by simp) ?_;dsimp only;rw[ed,ed1 d1];refine ax (hS d1 1 m2 t2 h2 (by omega) v3.p (by omega)) λz M=>?_
  obtain⟨m3,t3,h3,l⟩:=z;obtain⟨w1,w2,Z,Y⟩:=M;dsimp only at w1 w2 Z Y;rw[dd d1] at w2;refine bg (by simp) ?_;refine aX (λx=>x.2.2.2.1=(2,0,[],[],e.op,e.n,e.name,e.l)/\uT t1 x.2.1/\x.2.2.2.2.1.2=h2.2/\x.2.2.2.2.2.1=l/\x.2.2.2.2.2.2.length<=8/\∀ s∈x.2.2.2.2.2.2,GS nT d s) ?_ ?_
  .refine ax (gq 2 t3 Z.p) λy J=>?_
   refine aK (λ_=>?_) λ_=>ar ⟨rfl,v3.trans (Z.trans J.1),Y,rfl,by simp,λs hs=>(by cases hs)⟩
   dsimp only;refine ax (hS d1 1 m3 y.2 h3 (by omega) J.1.p (by rw[Y];omega)) λz M=>?_
   obtain⟨m4,t4,h4,l2⟩:=z;obtain⟨x1,x2,x3,x4⟩:=M;dsimp only at x1 x2 x3 x4;rw[dd d1] at x2;exact bg (by simp) (ar ⟨rfl,v3.trans (Z.trans (J.1.trans x3)),x4.trans Y,rfl,by dsimp only;omega,x2⟩)
  rintro⟨m5,t5,z5,e5,h5,l5,l6⟩ ⟨x1,x2,x3,x4,x5,x6⟩;dsimp only at x1 x2 x3 x4 x5 x6;subst x1;subst x4;refine ar ?_;dsimp only;rw[fh];exact⟨GS.we v1 (by first|omega|(dsimp only;omega)) x5 w2 x6 (by constructor<;>simp[Sx.op,Sx.name,Sx.index,Sx.arg,Sx.els,Sx.body]),s1.trans x2,x3⟩
 refine aX (λx=>x.2=(m0,t1,(0,0,[],[],0,0,[]),h)/\(x.1=ai->1<=d)) ?_ ?_
 .refine aK (λ_=>ar ⟨rfl,λg=>?_⟩) λ_=>ar ⟨rfl,λh=>(by cases h)⟩
  dsimp only at g;rw[tI] at g;omega
 rintro⟨b,x⟩ ⟨e,hb⟩;dsimp only at e hb;subst e;refine aP (λI=>?_) λ_=>?_
 .have d1:=hb I;refine aT (HK _) (aT (N' _) (aT (Fp _ _ _) ?_));dsimp only;rw[ed,ed1 d1];refine ax (hS d1 1 _ t1 h (by omega) s1.p (by omega)) λz M=>?_
  obtain⟨m3,t3,h3,l⟩:=z;obtain⟨w1,w2,Z,Y⟩:=M;dsimp only at w1 w2 Z Y;rw[dd d1] at w2;refine bg (by simp) ?_;refine aT (HK _) (aT (N' _) (aT (Fp _ _ _) (aT (tX _ _) ?_)));refine bh (by simp;omega) (by omega) (ar ?_);dsimp only;rw[fh,fh,yU];refine ⟨GS.we (GE.bin (by omega) (GE.nm (by decide) 2) (GE.num _ 2)) (by simp;omega) (by simp) (λx U=>?_) (λx U=>(by cases U)) (by constructor<;>simp[Sx.op,Sx.name,Sx.index,Sx.arg,Sx.els,Sx.body]),s1.trans Z,Y⟩;rcases bQ.1 U with U|U
  .exact w2 x U
  .rw[aL] at U;subst U;rw[<- dd d1];exact GS.asg (by decide) (GE.bin (by omega) (GE.nm (by decide) 2) (GE.num _ 2))
 refine aX (λx=>x.2=(m0,t1,(0,0,[],[],0,0,[]),h)/\(x.1=ai->nest=ai/\(k=8\/k=9))) ?_ ?_
 .refine aK (λg=>aP (λgn=>?_) λ_=>ar ⟨rfl,λh=>(by cases h)⟩) λ_=>aK (λg=>aP (λgn=>?_) λ_=>ar ⟨rfl,λh=>(by cases h)⟩) λ_=>ar ⟨rfl,λh=>(by cases h)⟩
  all_goals
   dsimp only at g ⊢;rw[w8 (by omega)];refine aS (by omega) (by simp;omega) (aS (by omega) (by simp;omega) (aR ?_));refine ax (C7 _ m0 t1 h (by omega)) λy J=>?_
   obtain⟨yb,y2⟩:=y;dsimp only at J;subst J;exact bg (by simp) (ar ⟨rfl,λ_=>⟨gn,by omega⟩⟩)
 rintro⟨b,x⟩ ⟨e,hb⟩;dsimp only at e hb;subst e;refine aP (λI=>?_) λ_=>?_
 .obtain⟨q1,q2⟩:=hb I;have d1:=hn q1;have hnm:aJ (T:=.str) [[109],[110]] (k-8)=[109]\/aJ (T:=.str) [[109],[110]] (k-8)=[110]:=by rcases q2 with rfl|rfl<;>simp[aJ]
  dsimp only;rw[w8 (by omega),ed,ed1 d1];refine aS (by omega) (by simp;omega) (aS (by omega) (by simp;omega) (aR ?_));refine ax (hB d1 _ m0 t1 h s1.p (by omega)) λz M=>?_
  obtain⟨l,m3,t3,h3⟩:=z;obtain⟨w1,w2,Z,Y⟩:=M;dsimp only at w1 w2 Z Y;rw[dd d1] at w2;exact bg (by simp) (ar ⟨GS.wo (by omega) (by first|omega|(dsimp only;omega)) w2 (by constructor<;>simp[Sx.op,Sx.name,Sx.index,Sx.arg,Sx.els,Sx.body];exact hnm),s1.trans Z,Y⟩)
 refine aX (λx=>x.2=(m0,t1,(0,0,[],[],0,0,[]),h)/\(x.1=ai->nest=ai/\(k=10\/k=11))) ?_ ?_
 .refine aK (λg=>aP (λgn=>?_) λ_=>ar ⟨rfl,λh=>(by cases h)⟩) λ_=>aK (λg=>aP (λgn=>?_) λ_=>ar ⟨rfl,λh=>(by cases h)⟩) λ_=>ar ⟨rfl,λh=>(by cases h)⟩
  all_goals
   dsimp only at g ⊢;refine ax (C7 _ m0 t1 h (by omega)) λy J=>?_
   obtain⟨yb,y2⟩:=y;dsimp only at J;subst J;exact bg (by simp) (ar ⟨rfl,λ_=>⟨gn,by omega⟩⟩)
 rintro⟨b,x⟩ ⟨e,hb⟩;dsimp only at e hb;subst e;refine aP (λI=>?_) λ_=>?_
 .obtain⟨q1,q2⟩:=hb I;have d1:=hn q1;dsimp only;rw[ed,ed1 d1,hX (n:=k-10) (by omega) (by omega),hX (n:=k-10+5) (by omega) (by omega)];refine ax (hB d1 _ m0 t1 h s1.p (by omega)) λz M=>?_
  obtain⟨l,m3,t3,h3⟩:=z;obtain⟨w1,w2,Z,Y⟩:=M;dsimp only at w1 w2 Z Y;rw[dd d1] at w2;exact bg (by simp) (ar ⟨GS.wo (by omega) (by first|omega|(dsimp only;omega)) w2 (by constructor<;>simp[Sx.op,Sx.name,Sx.index,Sx.arg,Sx.els,Sx.body]<;>omega),s1.trans Z,Y⟩)
 refine aX (λx=>x.2=(m0,t1,(0,0,[],[],0,0,[]),h)/\(x.1=ai->nest=ai)) ?_ ?_
 .exact aK (λ_=>ar ⟨rfl,λg=>g⟩) λ_=>ar ⟨rfl,λh=>(by cases h)⟩
 rintro⟨b,x⟩ ⟨e,hb⟩;dsimp only at e hb;subst e;refine aP (λI=>?_) λ_=>?_
 .have d1:=hn (hb I);refine ax (gq 2 t1 s1.p) λy J=>?_
  obtain⟨u1,u2,u3,_⟩:=J;have u3:=u3 (by decide);dsimp only;rw[hX (n:=1+y.1) (by omega) (by omega)];refine ax (h0 d1 (1+y.1) _ y.2 h (by omega) u1.p (by omega)) λz M=>?_
  obtain⟨m3,t3,h3,l⟩:=z;obtain⟨w1,w2,Z,Y⟩:=M;dsimp only at w1 w2 Z Y;exact bg (by simp) (ar ⟨GS.wo (by omega) (by first|omega|(dsimp only;omega)) (λx U=>(w2 x U).le (by omega)) (by constructor<;>simp[Sx.op,Sx.name,Sx.index,Sx.arg,Sx.els,Sx.body]),s1.trans (u1.trans Z),Y⟩)
 refine aX (λx=>x.2=(m0,t1,(0,0,[],[],0,0,[]),h)/\(x.1=ai->nest=ai)) ?_ ?_
 .exact aK (λ_=>aP (λgn=>ar ⟨rfl,λ_=>gn⟩) λ_=>ar ⟨rfl,λh=>(by cases h)⟩) λ_=>ar ⟨rfl,λh=>(by cases h)⟩
 rintro⟨b,x⟩ ⟨e,hb⟩;dsimp only at e hb;subst e;refine aP (λI=>?_) λ_=>?_
 .have d1:=hn (hb I);dsimp only;rw[ed,ed1 d1];refine ax (hS d1 2 _ t1 h (by omega) s1.p (by omega)) λz M=>?_
  obtain⟨m3,t3,h3,l⟩:=z;obtain⟨w1,w2,Z,Y⟩:=M;dsimp only at w1 w2 Z Y;rw[dd d1] at w2;exact bg (by simp) (ar ⟨GS.wo (by omega) (by first|omega|(dsimp only;omega)) w2 (by constructor<;>simp[Sx.op,Sx.name,Sx.index,Sx.arg,Sx.els,Sx.body]),s1.trans Z,Y⟩)
 refine aX (λx=>x.2=(m0,t1,(0,0,[],[],0,0,[]),h)/\(x.1=ai->nest=ai)) ?_ ?_
 .refine aK (λ_=>aP (λgn=>aP (λ_=>?_) λ_=>ar ⟨rfl,λh=>(by cases h)⟩) λ_=>ar ⟨rfl,λh=>(by cases h)⟩) λ_=>ar ⟨rfl,λh=>(by cases h)⟩
  refine ax (C7 _ m0 t1 h (by omega)) λy J=>?_
  obtain⟨yb,y2⟩:=y;dsimp only at J;subst J;exact bg (by simp) (ar ⟨rfl,λ_=>gn⟩)
 rintro⟨b,x⟩ ⟨e,hb⟩;dsimp only at e hb;subst e;refine aP (λI=>?_) λ_=>?_
 .have d1:=hn (hb I);refine aT (HK _) (aT (tX _ _) (ar ?_));dsimp only;rw[fh,yU];refine ⟨GS.wo (by omega) (by simp) (λx U=>?_) (by constructor<;>simp[Sx.op,Sx.name,Sx.index,Sx.arg,Sx.els,Sx.body]),s1,rfl⟩;simp only[bm,cw,gi] at U;rw[<- dd d1];rcases U with rfl|rfl
  .exact GS.wo (by omega) (by simp) (λx U=>(by cases U)) (by constructor<;>simp[Sx.op,Sx.name,Sx.index,Sx.arg,Sx.els,Sx.body])
  .exact GS.asg (by decide) (GE.nm (by decide) 3)
 refine aX (λx=>x.2=(m0,t1,(0,0,[],[],0,0,[]),h)/\(x.1=ai->nest=ai)) ?_ ?_
 .refine aK (λ_=>aP (λgn=>?_) λ_=>ar ⟨rfl,λh=>(by cases h)⟩) λ_=>ar ⟨rfl,λh=>(by cases h)⟩
  refine ax (C7 _ m0 t1 h (by omega)) λy J=>?_
  obtain⟨yb,y2⟩:=y;dsimp only at J;subst J;exact bg (by simp) (ar ⟨rfl,λ_=>gn⟩)
 rintro⟨b,x⟩ ⟨e,hb⟩;dsimp only at e hb;subst e;refine aP (λI=>?_) λ_=>?_
 .have d1:=hn (hb I);refine ax (gq 2 t1 s1.p) λy J=>ar ?_
  obtain⟨u1,u2,u3,_⟩:=J;have u3:=u3 (by decide);dsimp only;rw[hX (n:=10+y.1) (by omega) (by omega)];refine ⟨GS.wo (by omega) (by simp) (λx U=>?_) (by constructor<;>simp[Sx.op,Sx.name,Sx.index,Sx.arg,Sx.els,Sx.body]),s1.trans u1,rfl⟩;simp only[bm,cw,gi] at U;rw[U,<-dd d1];exact GS.wo (by omega) (by simp) (λx U=>(by cases U)) (by constructor<;>simp[Sx.op,Sx.name,Sx.index,Sx.arg,Sx.els,Sx.body]<;>omega)
 refine aX (λx=>x.2=(m0,t1,(0,0,[],[],0,0,[]),h)) ?_ ?_
 .exact aK (λ_=>aP (λ_=>aP (λ_=>ar rfl) λ_=>ar rfl) λ_=>ar rfl) λ_=>ar rfl
 rintro⟨b,x⟩ e;dsimp only at e;subst e;refine aP (λI=>?_) λ_=>?_
 .refine ax (hE 1 _ t1 h (by omega) s1.p) λz M=>?_
  obtain⟨e,m2,t2,h2⟩:=z;obtain⟨v1,v2,v3,v4⟩:=M;dsimp only at v1 v2 v3 v4;subst v2;subst v4;refine bg (by simp) (ar ?_);dsimp only;rw[fh];exact⟨GS.we v1 (by simp) (by simp) (λx U=>(by cases U)) (λx U=>(by cases U)) (by constructor<;>simp[Sx.op,Sx.name,Sx.index,Sx.arg,Sx.els,Sx.body]),s1.trans v3,rfl⟩
 refine aX (λx=>x.2.1=m0/\uT t1 x.2.2.1/\x.2.2.2.2=h) ?_ ?_
 .refine aK (λ_=>aP (λ_=>?_) λ_=>ar ⟨rfl,uT.refl s1.p,rfl⟩) λ_=>ar ⟨rfl,uT.refl s1.p,rfl⟩
  exact ax (gq 2 t1 s1.p) λy J=>ar ⟨rfl,J.1,rfl⟩
 rintro⟨b,m9,t9,z9,h9⟩ ⟨e1,e2,e3⟩;dsimp only at e1 e2 e3;subst e1;subst e3;refine aP (λI=>?_) λ_=>?_
 .exact ar ⟨GS.wo (by omega) (by simp) (λx U=>(by cases U)) (by constructor<;>simp[Sx.op,Sx.name,Sx.index,Sx.arg,Sx.els,Sx.body]),s1.trans e2,rfl⟩
 refine ax (hE 1 _ t9 h9 (by omega) e2.p) λz M=>?_
 obtain⟨e,m2,t2,h2⟩:=z;obtain⟨v1,v2,v3,v4⟩:=M;dsimp only at v1 v2 v3 v4;subst v2;subst v4;refine bg (by simp) (aT (tX _ _) (ar ?_));dsimp only;rw[fh,yU];exact⟨GS.asg (by decide) v1,s1.trans (e2.trans v3),rfl⟩
theorem M0:∀ (n:Nat),(∀ d:Nat,d<=5->3*d+1<=n->SpT nT (eJ n) d)/\(∀ d:Nat,d<=5->3*d+2<=n->SpS nT (dJ n) d)/\(∀ d:Nat,d<=5->3*d+3<=n->SpB nT (dX n) d)
 |0=>⟨λd _ h=>by omega,λd _ h=>by omega,λd _ h=>by omega⟩
 |n+1=>by
  obtain⟨J,I,M⟩:=M0 n;refine ⟨λd h1 h2=>?_,λd h1 h2=>?_,λd h1 h2=>?_⟩
  .exact abl (dJ n) (eJ n) (dX n) d h1 (λh=>I 0 (by omega) (by omega)) (λh=>I (d-1) (by omega) (by omega)) (λh=>M (d-1) (by omega) (by omega))
  .exact Yx (dJ n) (eJ n) (dX n) d (J d h1 (by omega))
  .exact YA (dJ n) (eJ n) (dX n) d (I d h1 (by omega))
theorem X9 (d:Nat) (hd:d<=5):SpS nT qu d:=(M0 fuel).2.1 d hd (by rw[jQ];omega)
def GX:Nat->Xp->Prop
 |0,_=>False
 |d+1,e=>e.l.length<=2/\∀ x∈e.l,GX d x
theorem GE.x:∀ {d:Nat} {e:Xp},GE d e->GX d e
 |0,_,h=>h.elim
 |_+1,_,h=>⟨h.2.2.1,λx I=>(h.2.2.2.1 x I).x⟩
theorem ZE.x {e:Xp} (h:ZE e):GX 4 e:=by
 rcases h with h|rfl
 .exact h.x
 .exact⟨by simp[Xp.l],λx I=>(by cases I)⟩
def GT:Nat->Sx->Prop
 |0,_=>False
 |d+1,s=>s.index.length<=1/\(∀ e∈s.index,GX 4 e)/\GX 4 s.expr/\s.body.length<=8/\s.els.length<=8/\(∀ x∈s.body,GT d x)/\(∀ x∈s.els,GT d x)
theorem GS.t {nT:Nat}:∀ {d:Nat} {s:Sx},GS nT d s->GT d s
 |0,_,h=>h.elim
 |_+1,_,⟨_,b,c,_,f,g,i,j,k,_⟩=>⟨b,λe he=>(c e he).x,f.x,g,i,λx I=>(j x I).t,λx I=>(k x I).t⟩
theorem yc (s:Sx):nN (Sx.op s,Sx.line s,Sx.name s,Sx.arg s,Sx.index s,d_ (Xp.op (Sx.expr s),Xp.n (Sx.expr s),Xp.name (Sx.expr s),Xp.l (Sx.expr s)),Sx.body s,Sx.els s)=s:=by
 rw[fh,yU]
theorem Ta (k:Int):Ok (ml k) λ_=>True:=by
 unfold ml bf iH aE;with_reducible repeat' first|(refine OS.ok ?_;constructor)|refine IM.mk λ_=>?_
 all_goals trivial
theorem qP (e:Xp):Ok (pm e) λ_=>True:=by
 unfold pm bf aE;with_reducible repeat' first|(refine OS.ok ?_;constructor)|refine IM.mk λ_=>?_
 all_goals trivial
theorem zB:∀ (n d:Nat) (e:Xp),d<n->GX d e->Ok (ia n e) λ_=>True
 |0,_,_,h,_=>by omega
 |n+1,0,_,_,h=>h.elim
 |n+1,d+1,e,hn,h=>by
  obtain⟨h1,h2⟩:=h;rw[sF];unfold l9 bf bx je bA cK aE cE;refine aX (λx=>x.2=e) (aK (λ_=>ar (fh e)) λ_=>ar (fh e)) ?_;rintro⟨b,x⟩ J;dsimp only at J;subst J;refine aX (λy=>y.2=x) ?_ ?_
  .refine ax (Ta _) λ_ _=>?_
   with_reducible repeat' first|refine ca (λ_=>?_) λ_=>?_|refine bF (λ_=>?_) λ_=>?_|refine em (λ_=>?_) λ_=>?_|refine aP (λ_=>?_) λ_=>?_|exact ar (fh x)|refine ax (iw _) λ_ _=>?_
  rintro⟨M,y⟩ I;dsimp only at I;subst I;refine aP (λ_=>ar trivial) λ_=>?_
  refine bZ y.l.length (λi x=>x.1=(i:Int)/\x.2=y) ?_ ?_ ⟨rfl,fh y⟩
  .rintro i ⟨a,z⟩ hi ⟨e1,e2⟩;dsimp only at e1 e2;subst e1;subst e2;refine dk ?_;refine b8 (aR ?_);refine ax (zB n d _ (by omega) (h2 _ (bJ (T:=.ex) (xs:=z.l) (j:=(i:Int)) (by omega) (by omega)))) λ_ _=>?_
   refine em (λ_=>ar trivial) λ_=>ar ?_
   dsimp only;exact⟨gI (by omega),fh z⟩
  .rintro⟨a,z⟩ ⟨e1,e2⟩;dsimp only at e1 e2;subst e1;subst e2;exact dg (ar trivial)
theorem gm (e:Xp) (h:GX 4 e):Ok (ja e) λ_=>True:=zB fuel 4 e (by rw[jQ];omega) h
theorem Lm (d:Int×Int×List UInt8×Int×Int×List UInt8):Ok (jY d) λ_=>True:=by
 unfold jY aZ bk cA fk bf bx je aE;refine aX (λ_=>True) ?_ λx _=>aP (λ_=>ar trivial) λ_=>?_
 .with_reducible repeat' first|refine ca (λ_=>?_) λ_=>?_|refine bF (λ_=>?_) λ_=>?_|refine em (λ_=>?_) λ_=>?_|exact ar trivial|refine ax (iw _) λ_ _=>?_
 refine aX (λ_=>True) ?_ λx _=>aP (λ_=>ar trivial) λ_=>?_
 .with_reducible repeat' first|refine ca (λ_=>?_) λ_=>?_|refine aK (λ_=>?_) λ_=>?_|refine em (λ_=>?_) λ_=>?_|exact ar trivial|refine ax (iw _) λ_ _=>?_
 with_reducible repeat' first|(refine OS.ok ?_;constructor)|refine IM.mk λ_=>?_
 all_goals trivial
theorem Hd (I:Sx->Option Bool) (rs:List Sx->Option Bool) (l:List Sx) (hl:l.length<=1000) (h:∀ s∈l,Ok (I s) λ_=>True):Ok (jx I rs l) λ_=>True:=by
 unfold jx bx v7 aY cK aE cE;refine bZ l.length (λi x=>x=(i:Int)) ?_ ?_ rfl
 .rintro i x hi rfl;refine dk ?_;refine b8 ?_;refine ax (h _ (bJ (T:=.sm) (xs:=l) (j:=(i:Int)) (by omega) (by omega))) λ_ _=>?_
  exact em (λ_=>ar trivial) λ_=>ar (gI (by omega))
 .rintro x rfl;exact dg (ar trivial)
theorem Jn (J:Sx->Option Bool) (rs:List Sx->Option Bool) (s:Sx) (h1:∀ e∈s.index,GX 4 e) (h2:GX 4 s.expr) (hb:Ok (rs s.body) λ_=>True) (he:Ok (rs s.els) λ_=>True):Ok (j6 J rs s) λ_=>True:=by
 unfold j6 bf bx iH je bA aE eh;refine aX (λx=>x.2=s) ?_ ?_
 .with_reducible repeat' first|refine ca (λ_=>?_) λ_=>?_|refine aK (λ_=>?_) λ_=>?_|refine bF (λ_=>?_) λ_=>?_|refine eE (λ_=>?_) λ_=>?_|refine em (λ_=>?_) λ_=>?_|refine aP (λ_=>?_) λ_=>?_|exact ar (yc _)|refine ax (iw _) λ_ _=>?_|refine ax (qP _) λ_ _=>?_|refine ax (gm _ h2x) λ_ _=>?_
 rintro⟨b,x⟩ I;dsimp only at I;have I:=I.symm;subst I;refine aP (λ_=>ar trivial) λ_=>?_
 refine aX (λx=>x.2=s) ?_ ?_
 .with_reducible repeat' first|refine ca (λ_=>?_) λ_=>?_|refine aK (λ_=>?_) λ_=>?_|refine bF (λ_=>?_) λ_=>?_|refine eE (λ_=>?_) λ_=>?_|refine em (λ_=>?_) λ_=>?_|refine aP (λ_=>?_) λ_=>?_|exact ar (yc _)|refine ax (iw _) λ_ _=>?_|refine ax (qP _) λ_ _=>?_|refine ax (gm _ h2x) λ_ _=>?_
 rintro⟨b,x⟩ I;dsimp only at I;have I:=I.symm;subst I;refine aX (λx=>x.2=s) ?_ ?_
 .with_reducible repeat' first|refine ca (λ_=>?_) λ_=>?_|refine aK (λ_=>?_) λ_=>?_|refine bF (λ_=>?_) λ_=>?_|refine eE (λ_=>?_) λ_=>?_|refine em (λ_=>?_) λ_=>?_|refine aP (λ_=>?_) λ_=>?_|exact ar (yc _)|refine ax (iw _) λ_ _=>?_|refine ax (qP _) λ_ _=>?_|refine ax (gm _ h2x) λ_ _=>?_
 rintro⟨b,x⟩ I;dsimp only at I;have I:=I.symm;subst I;refine aP (λ_=>ar trivial) λ_=>?_
 refine aX (λx=>x.2=s) ?_ ?_
 .with_reducible repeat' first|refine ca (λ_=>?_) λ_=>?_|refine aK (λ_=>?_) λ_=>?_|refine bF (λ_=>?_) λ_=>?_|refine eE (λ_=>?_) λ_=>?_|refine em (λ_=>?_) λ_=>?_|refine aP (λ_=>?_) λ_=>?_|exact ar (yc _)|refine ax (iw _) λ_ _=>?_|refine ax (qP _) λ_ _=>?_|refine ax (gm _ h2x) λ_ _=>?_
 rintro⟨b,x⟩ I;dsimp only at I;have I:=I.symm;subst I;refine aP (λ_=>ar trivial) λ_=>?_
 refine aX (λx=>x.2=s) ?_ ?_
 .with_reducible repeat' first|refine ca (λ_=>?_) λ_=>?_|refine aK (λ_=>?_) λ_=>?_|refine bF (λ_=>?_) λ_=>?_|refine eE (λ_=>?_) λ_=>?_|refine em (λ_=>?_) λ_=>?_|refine aP (λ_=>?_) λ_=>?_|exact ar (yc _)|refine ax (iw _) λ_ _=>?_|refine ax (qP _) λ_ _=>?_|refine ax (gm _ h2x) λ_ _=>?_
  all_goals
   rename_i g;dsimp only[au] at g;refine b8 (aR ?_);refine ax (gm _ (h1 _ (bJ (T:=.ex) (xs:=Sx.index _) (j:=0) (by omega) (by omega)))) λ_ _=>ar (yc _)
 rintro⟨b,x⟩ I;dsimp only at I;have I:=I.symm;subst I;refine aP (λ_=>ar trivial) λ_=>?_
 refine aX (λx=>x.2=s) ?_ ?_
 .with_reducible repeat' first|refine ca (λ_=>?_) λ_=>?_|refine aK (λ_=>?_) λ_=>?_|refine bF (λ_=>?_) λ_=>?_|refine eE (λ_=>?_) λ_=>?_|refine em (λ_=>?_) λ_=>?_|refine aP (λ_=>?_) λ_=>?_|exact ar (yc _)|refine ax (iw _) λ_ _=>?_|refine ax (qP _) λ_ _=>?_|refine ax (gm _ h2x) λ_ _=>?_
 rintro⟨b,x⟩ I;dsimp only at I;have I:=I.symm;subst I;refine aX (λx=>x.2=s) ?_ ?_
 .have h2x:GX 4 (d_ (Xp.op (Sx.expr s),Xp.n (Sx.expr s),Xp.name (Sx.expr s),Xp.l (Sx.expr s))):=by rw[fh];exact h2
  with_reducible repeat' first|refine ca (λ_=>?_) λ_=>?_|refine aK (λ_=>?_) λ_=>?_|refine bF (λ_=>?_) λ_=>?_|refine eE (λ_=>?_) λ_=>?_|refine em (λ_=>?_) λ_=>?_|refine aP (λ_=>?_) λ_=>?_|exact ar (yc _)|refine ax (iw _) λ_ _=>?_|refine ax (qP _) λ_ _=>?_|refine ax (gm _ h2x) λ_ _=>?_
 rintro⟨b,x⟩ I;dsimp only at I;have I:=I.symm;subst I;refine aP (λ_=>ar trivial) λ_=>?_
 refine aX (λx=>x.2=s) ?_ ?_
 .with_reducible repeat' first|refine ca (λ_=>?_) λ_=>?_|refine aK (λ_=>?_) λ_=>?_|refine bF (λ_=>?_) λ_=>?_|refine eE (λ_=>?_) λ_=>?_|refine em (λ_=>?_) λ_=>?_|refine aP (λ_=>?_) λ_=>?_|exact ar (yc _)|refine ax (iw _) λ_ _=>?_|refine ax (qP _) λ_ _=>?_|refine ax (gm _ h2x) λ_ _=>?_
 rintro⟨b,x⟩ I;dsimp only at I;have I:=I.symm;subst I;refine aX (λx=>x.2=s) ?_ ?_
 .with_reducible repeat' first|refine ca (λ_=>?_) λ_=>?_|refine aK (λ_=>?_) λ_=>?_|refine bF (λ_=>?_) λ_=>?_|refine eE (λ_=>?_) λ_=>?_|refine em (λ_=>?_) λ_=>?_|refine aP (λ_=>?_) λ_=>?_|exact ar (yc _)|refine ax (iw _) λ_ _=>?_|refine ax (qP _) λ_ _=>?_|refine ax (gm _ h2x) λ_ _=>?_
 rintro⟨b,x⟩ I;dsimp only at I;have I:=I.symm;subst I;refine aP (λ_=>ar trivial) λ_=>?_
 refine aX (λ_=>True) ?_ λ_ _=>ar trivial
 refine ax hb λ_ _=>aP (λ_=>ax he λ_ _=>ar trivial) λ_=>ar trivial
theorem Jt:∀ (n:Nat),(∀ (d:Nat) (s:Sx),2*d<n->GT d s->Ok (eC n s) λ_=>True)/\(∀ (d:Nat) (l:List Sx),2*d+1<n->l.length<=1000->(∀ s∈l,GT d s)->Ok (dG n l) λ_=>True)
 |0=>⟨λd _ h=>by omega,λd _ h=>by omega⟩
 |n+1=>by
  obtain⟨J,I⟩:=Jt n;refine ⟨λd s hd h=>?_,λd l hd hl h=>?_⟩
  .cases d with
   |zero=>exact h.elim
   |succ d=>
    obtain⟨_,Z,Y,g4,g5,U,M⟩:=h;exact Jn (eC n) (dG n) s Z Y (I d _ (by omega) (by omega) U) (I d _ (by omega) (by omega) M)
  .exact Hd (eC n) (dG n) l hl λs hs=>J d s (by omega) (h s hs)
theorem KW (d:Nat) (hd:d<=100) (l:List Sx) (hl:l.length<=1000) (h:∀ s∈l,GT d s):Ok (nL l) λ_=>True:=(Jt fuel).2 d l (by rw[jQ];omega) hl h
abbrev DT:Type:=Int×Int×List UInt8×Int×Int×List UInt8
abbrev HT:Type:=List UInt8×Int×List (List UInt8)×List Sx
abbrev PG:Type:=List DT×List HT
structure PX (p:PG):Prop where
 d:p.1.length<=100
 t:p.2.length<=8
 l:∀ t∈p.2,t.2.2.1.length<=100
 b:∀ t∈p.2,t.2.2.2.length<=100
 s:∀ t∈p.2,∀ s∈t.2.2.2,GT 5 s
theorem Zn (p:PG) (h:PX p):Ok (pK p) λ_=>True:=by
 obtain⟨hd,ht,hl,hb,hs⟩:=h;unfold pK aZ bw cX bx bA aY cK aE cE;refine bZ p.1.length (λi x=>x.1=(i:Int)/\x.2=p) ?_ ?_ ⟨rfl,rfl⟩
 .rintro i ⟨a,x⟩ hi ⟨e1,e2⟩;dsimp only at e1 e2;subst e1;subst e2;refine dk ?_;refine b8 (aR ?_);refine ax (Lm _) λ_ _=>?_
  exact em (λ_=>ar trivial) λ_=>ar ⟨gI (by omega),rfl⟩
 rintro⟨a,x⟩ ⟨e1,e2⟩;dsimp only at e1 e2;subst e1;subst e2;refine dg ?_;refine ax (P:=λ_=>True) ?_ λ_ _=>ar trivial
 refine bZ x.2.length (λi y=>y.1=(i:Int)/\y.2=x) ?_ ?_ ⟨rfl,rfl⟩
 .rintro i ⟨a,x⟩ hi ⟨e1,e2⟩;dsimp only at e1 e2;subst e1;have e2:=e2.symm;subst e2;refine dk ?_;refine b8 (aR ?_);have hm:=bJ (T:=yS) (xs:=x.2) (j:=(i:Int)) (by omega) (by omega);have h1:=hl _ hm;have h2:=hb _ hm;have M:=hs _ hm;revert h1 h2 M;generalize (aJ (T:=yS) x.2 (i:Int))=t;intro h1 h2 M;refine bZ t.2.2.1.length (λk y=>y.1=(k:Int)/\y.2=(x,t)) ?_ ?_ ⟨rfl,rfl⟩
  .rintro k ⟨a,z⟩ hk ⟨J,I⟩;dsimp only at J I;subst J;subst I;refine dk ?_;refine b8 (aR ?_);refine ax (iw _) λ_ _=>?_
   exact em (λ_=>ar trivial) λ_=>ar ⟨gI (by omega),rfl⟩
  .rintro⟨a,z⟩ ⟨J,I⟩;dsimp only at J I;subst J;subst I;refine dg ?_;refine ax (P:=λr=>match r with|.inl y=>y.1=((i+1:Nat):Int)/\y.2=x|.inr _=>True) ?_ ?_
   .refine aX (λy=>y.2=x) ?_ ?_
    .refine ax (iw _) λ_ _=>em (λ_=>ar rfl) λ_=>?_
     exact ax (KW 5 (by omega) _ (by dsimp only;omega) M) λ_ _=>ar rfl
    rintro⟨b,y⟩ e;dsimp only at e;subst e;exact aP (λ_=>ar trivial) λ_=>ar ⟨gI (by omega),rfl⟩
   .rintro (y|y) U
    .exact ar U
    .exact ar trivial
 .rintro⟨a,y⟩ ⟨e1,e2⟩;dsimp only at e1 e2;subst e1;subst e2;exact dg (ar trivial)
theorem xg (l:List DT) (s:List UInt8) (hl:l.length<=1000):Ok (h_ (l,s)) λr=> -1<=r/\r<(l.length:Int):=by
 unfold h_ bx bA aY cK aE cE;refine bZ l.length (λi x=>x=(i:Int)) ?_ ?_ rfl
 .rintro i x hi rfl;refine dk ?_;refine b8 (aR ?_);exact aK (λ_=>ar ⟨by omega,by omega⟩) λ_=>ar (gI (by omega))
 .rintro x rfl;exact dg (ar ⟨by omega,by omega⟩)
theorem sK (l:List HT) (s:List UInt8) (hl:l.length<=1000):Ok (gR (l,s)) λr=> -1<=r/\r<(l.length:Int):=by
 unfold gR bx bA aY cK aE cE;refine bZ l.length (λi x=>x=(i:Int)) ?_ ?_ rfl
 .rintro i x hi rfl;refine dk ?_;refine b8 (aR ?_);exact aK (λ_=>ar ⟨by omega,by omega⟩) λ_=>ar (gI (by omega))
 .rintro x rfl;exact dg (ar ⟨by omega,by omega⟩)
def DD (p:PG) (s:List UInt8):Prop:=∃ v,h_ (p.1,s)=af v/\0<=v/\v<(p.1.length:Int)
theorem ZA (p:PG) (h:PX p) (t:Int) (s:List UInt8):Ok (pJ (p,t,s)) λk=>k≠0->k≠7->k≠8->DD p s:=by
 have hd:=h.d;have ht:=h.t;unfold pJ bf bx iH je v7 bA aY aE;refine aX (λx=>x.2=p) ?_ ?_
 .refine eE (λM=>bF (λJ=>?_) λ_=>ar rfl) λ_=>ar rfl
  dsimp only[au] at M J;refine aS M J (aR ?_);have hm:=h.l _ (bJ (T:=yS) (xs:=p.2) (j:=t) M J);exact ax (yF _ s (dh hm (by omega))) λ_ _=>ar rfl
 rintro⟨b,x⟩ e;dsimp only at e;have e:=e.symm;subst e;refine aP (λ_=>ar λ_ _ h=>(h rfl).elim) λ_=>?_
 obtain⟨v,hv,v0,v1⟩:=xg p.1 s (by omega);refine aT hv ?_;refine bF (λ_=>?_) λg=>?_
 .exact ax (sK p.2 s (by omega)) λ_ _=>eE (λ_=>ar λ_ h=>(h rfl).elim) λ_=>ar λh=>(h rfl).elim
 have I:DD p s:=⟨v,hv,g,v1⟩
 refine aS g v1 (aR ?_);refine aK (λ_=>?_) λ_=>?_
 .exact aS g v1 (aR (ca (λ_=>ar λ_ _ _=>I) λ_=>ar λ_ _ _=>I))
 refine aK (λ_=>ar λ_ _ _=>I) λ_=>?_
 refine aX (λx=>x.2=p) (aK (λ_=>ar rfl) λ_=>aK (λ_=>ar rfl) λ_=>aK (λ_=>ar rfl) λ_=>ar rfl) ?_;rintro⟨b,x⟩ e;dsimp only at e;have e:=e.symm;subst e;exact aP (λ_=>aS g v1 (aR (ar λ_ _ _=>I))) λ_=>ar λ_ _ _=>I
theorem oW (p:PG) (h:PX p) (t:Int) (s:List UInt8) (a b:Int):Ok (gE (p,t,s,a,b)) λr=>r=0->(a≠7/\a≠8)->(b≠7/\b≠8)->DD p s:=by
 unfold gE aZ bk dA bf je aE;refine ax (ZA p h t s) λk hk=>?_
 refine aK (λ_=>ar λh=>(by cases h)) λg=>?_
 refine aX (λx=>x=aj->k=a\/k=b) ?_ ?_
 .refine ca (λ_=>ar λh=>?_) λh=>ar λ_=>.inl h
  simp at h;exact .inr h
 rintro x I;refine aP (λ_=>ar λh=>(by cases h)) λh=>ar λ_ h1 h2=>hk g ?_ ?_
 .rcases I h with h|h<;>omega
 .rcases I h with h|h<;>omega
theorem M1:∀ (n d:Nat) (e:Xp),d<n->GX d e->Ok (nh n e) λ_=>True
 |0,_,_,h,_=>by omega
 |n+1,0,_,_,h=>h.elim
 |n+1,d+1,e,hn,h=>by
  obtain⟨h1,h2⟩:=h;rw[yk];unfold ux bx bA cK aE cE;refine bZ e.l.length (λi x=>x.1.2.2=(i:Int)/\x.2=e) ?_ ?_ ⟨rfl,fh e⟩
  .rintro i ⟨⟨a,b,c⟩,z⟩ hi ⟨e1,e2⟩;dsimp only at e1 e2;subst e1;subst e2;refine dk ?_;refine b8 (aR ?_);refine ax (M1 n d _ (by omega) (h2 _ (bJ (T:=.ex) (xs:=z.l) (j:=(i:Int)) (by omega) (by omega)))) λ_ _=>ar ?_
   exact⟨gI (by omega),fh z⟩
  .rintro⟨⟨a,b,c⟩,z⟩ ⟨e1,e2⟩;dsimp only at e1 e2;subst e1;subst e2;exact dg (ar trivial)
theorem FY (p:PG) (hp:PX p) (t:Int):∀ (n d:Nat) (e:Xp),d<n->GX d e->Ok (ng n (p,t,e)) λ_=>True
 |0,_,_,h,_=>by omega
 |n+1,0,_,_,h=>h.elim
 |n+1,d+1,e,hn,h=>by
  obtain⟨h1,h2⟩:=h;rw[yi];unfold uw bf bx bA cK aE cE;refine aX (λx=>x.2.1=p/\x.2.2=e) ?_ ?_
  .refine aK (λ_=>ax (oW p hp t _ _ _) λ_ _=>ar ⟨rfl,fh e⟩) λ_=>aK (λ_=>ax (oW p hp t _ _ _) λ_ _=>ar ⟨rfl,fh e⟩) λ_=>ar ⟨rfl,fh e⟩
  rintro⟨r,M,e'⟩ ⟨J,I⟩;dsimp only at J I;have J:=J.symm;subst J;have I:=I.symm;subst I;refine qc (λx=>((e.l.length:Int)-x.1.2).toNat) (λx=>0<=x.1.2/\x.2.1=p/\x.2.2=e) ?_ ⟨eT _,rfl,fh e⟩;rintro⟨⟨a,(b:Int)⟩,M,e'⟩ ⟨b0,J,I⟩;dsimp only at b0 J I;have J:=J.symm;subst J;have I:=I.symm;subst I;refine aX (λx=>x.2.1=p/\x.2.2=e/\(x.1=ai->b<(e.l.length:Int))) ?_ ?_
  .exact bF (λg=>ar ⟨rfl,fh e,λ_=>g⟩) λ_=>ar ⟨rfl,fh e,λh=>(by cases h)⟩
  rintro⟨c,M,e'⟩ ⟨J,I,U⟩;dsimp only at J I U;have J:=J.symm;subst J;have I:=I.symm;subst I;refine aP (λhc=>?_) λ_=>ar trivial
  have g:=U hc;refine aS b0 g (aR ?_);refine ax (FY p hp t n d _ (by omega) (h2 _ (bJ (T:=.ex) (xs:=e.l) (j:=b) b0 g))) λ_ _=>ar ?_
  dsimp only;rw[hX (n:=b+1) (by omega) (by omega)];exact⟨⟨by omega,rfl,fh e⟩,by omega⟩
theorem xf (p:PG) (hp:PX p) (t:Int) (e:Xp) (h:GX 4 e):Ok (mj (p,t,e)) λ_=>True:=by
 unfold mj bx aE;have M:GX 4 (d_ (Xp.op e,Xp.n e,Xp.name e,Xp.l e)):=by rw[fh];exact h
 refine ax (gm _ M) λ_ _=>em (λ_=>ar trivial) λ_=>?_
 refine ax (M1 fuel 4 _ (by rw[jQ];omega) M) λ_ _=>?_
 refine aX (λx=>x.2.1=p/\x.2.2=e) (bF (λ_=>ar ⟨rfl,fh e⟩) λ_=>ar ⟨rfl,fh e⟩) ?_;rintro⟨r,U,e'⟩ ⟨J,I⟩;dsimp only at J I;have J:=J.symm;subst J;have I:=I.symm;subst I;exact aP (λ_=>ar trivial) λ_=>ax (FY p hp t fuel 4 _ (by rw[jQ];omega) M) λ_ _=>ar trivial
theorem fD (b:Bool):Ok (c9 b) λ_=>True:=by
 unfold c9;exact aP (λ_=>ar trivial) λ_=>ar trivial
theorem ua (x:Int×Int):Ok (iX x) λr=>r=0->x.1=0/\x.2=0:=by
 unfold iX je;exact ca (λh=>ar λh2=>(h h2).elim) λh=>ar λh2=>⟨h,h2⟩
abbrev WK:Type:=(List DT×List HT×Int)×(Bool×List Sx)×List (List UInt8)×List (List UInt8)
theorem Yc (a b:Int) (s:List UInt8) (w:WK) (h:w.2.1.2.length<=100):Ok (dU ((a,b,s),w)) λy=>y.2=w:=by
 unfold dU aZ bf bx kB aY cK aE cE;refine bZ w.2.1.2.length (λi x=>x.1=(i:Int)/\x.2=w) ?_ ?_ ⟨rfl,rfl⟩
 .rintro i ⟨c,x⟩ hi ⟨e1,e2⟩;dsimp only at e1 e2;subst e1;have e2:=e2.symm;subst e2;refine dk ?_;refine b8 (b8 (aR ?_));refine aX (λx=>x.2=w) ?_ ?_
  .refine aK (λ_=>aK (λ_=>ar rfl) λ_=>ar rfl) λ_=>aK (λ_=>aK (λ_=>ar rfl) λ_=>ar rfl) λ_=>ar rfl
  rintro⟨c,x⟩ e;dsimp only at e;have e:=e.symm;subst e;exact aP (λ_=>ar rfl) λ_=>ar ⟨gI (by omega),rfl⟩
 .rintro⟨c,x⟩ ⟨e1,e2⟩;dsimp only at e1 e2;subst e1;have e2:=e2.symm;subst e2;exact dg (ar rfl)
def PQ:Nat->Sx->Nat
 |0,_=>0
 |d+1,s=>1+(s.body.map (PQ d)).sum+(s.els.map (PQ d)).sum
def nC (d:Nat) (l:List Sx):Nat:=(l.map (PQ d)).sum
def KS:Nat->Nat
 |0=>0
 |d+1=>1+16*KS d
theorem NU {α:Type} {f:α->Nat} {k:Nat}:∀ {l:List α},(∀ x∈l,f x<=k)->(l.map f).sum<=l.length*k
 |[],_=>by simp
 |x::r,h=>by
  have:=NU (l:=r) λy I=>h y (cI _ I)
  have:=h x (dj ..);rw[gr,List.sum_cons,b7,iR];omega
theorem VD:∀ {d:Nat} {s:Sx},GT d s->PQ d s<=KS d
 |0,_,h=>h.elim
 |d+1,s,⟨_,_,_,Y,U,M,J⟩=>by
  have a:=NU (f:=PQ d) (l:=s.body) λx I=>VD (M x I)
  have b:=NU (f:=PQ d) (l:=s.els) λx I=>VD (J x I)
  have c:=cH (KS d) Y;have e:=cH (KS d) U;show 1+_+_<=1+16*KS d;omega
theorem Pb:∀ {d:Nat} {s:Sx},GT d s->PQ (d+1) s=PQ d s
 |0,_,h=>h.elim
 |d+1,s,⟨_,_,_,_,_,M,J⟩=>by
  show 1+(s.body.map (PQ (d+1))).sum+(s.els.map (PQ (d+1))).sum=1+(s.body.map (PQ d)).sum+(s.els.map (PQ d)).sum;rw[p_ λx I=>Pb (M x I),p_ λx I=>Pb (J x I)]
theorem ac1 {d:Nat} {l:List Sx} (h:∀ s∈l,GT d s):nC d l<=l.length*KS d:=NU λx I=>VD (h x I)
theorem wZ {d:Nat} {l:List Sx} {i:Nat} (hi:i<l.length):nC d (l.take (i+1))=nC d (l.take i)+PQ d (aJ (T:=.sm) l (i:Int)):=by
 unfold nC;rw[mH (T:=.sm) hi,cC,Fz];simp
theorem Pc {d:Nat} (l:List Sx) (i:Nat):nC d (l.take i)<=nC d l:=by
 conv=>rhs;rw[<- By i l]
 unfold nC;rw[cC,Fz];omega
theorem E7:∀ (n d:Nat) (l:List Sx),d<n->l.length<=1000->(∀ s∈l,GT d s)->KS d<=100000->nj n l=af ((nC d l:Nat):Int)
 |0,_,_,h,_,_,_=>by omega
 |n+1,d,l,hn,hl,h,J=>by
  refine cB ?_;rw[yl];unfold uy bx v7 aY cK aE cE;have hb:=ac1 h;have I:=Nat.mul_le_mul hl J;refine bZ l.length (λi x=>x.2=(i:Int)/\x.1=(l.length:Int)-i+(nC d (l.take i):Nat)) ?_ ?_ ⟨rfl,by simp[nC]⟩
  .rintro i ⟨a,b⟩ hi ⟨e1,e2⟩;dsimp only at e1 e2;subst e1;subst e2;have hp:=Pc (d:=d) l (i+1);rw[wZ hi] at hp;refine dk ?_;refine b8 (aR ?_);rw[wZ hi];have hm:=h _ (bJ (T:=.sm) (xs:=l) (j:=(i:Int)) (by omega) (by omega));revert hm hp;generalize (aJ (T:=.sm) l (i:Int))=s;intro hp hm;cases d with
   |zero=>exact hm.elim
   |succ d=>
    obtain⟨_,_,_,Z,Y,U,M⟩:=hm;have hk:KS (d+1)=1+16*KS d:=rfl;have hc:PQ (d+1) s=1+nC d s.body+nC d s.els:=rfl;rw[hc] at hp ⊢;refine aT (E7 n d _ (by omega) (by omega) U (by omega)) ?_;refine b8 (aR ?_);refine aT (E7 n d _ (by omega) (by omega) M (by omega)) (ar ⟨gI (by omega),?_⟩);dsimp only;rw[hX (n:=(l.length:Int)-i+(nC (d+1) (l.take i):Nat)+(nC d s.body:Nat)) (by omega) (by omega),hX (by omega) (by omega)];omega
  .rintro⟨a,b⟩ ⟨e1,e2⟩;dsimp only at e1 e2;subst e1;subst e2;rw[cP];exact dg (ar (by dsimp only;omega))
theorem U6 (l:List DT) (hl:l.length<=100):Ok (rB l) λ_=>True:=by
 unfold rB aZ bk bw bL dA fk bf bx iH je bB bA aY cK aE cE;refine bZ l.length (λi x=>x.2.2.2.2=(i:Int)) ?_ ?_ rfl
 .rintro i ⟨a,b,c,d,e⟩ hi e1;dsimp only at e1;subst e1;refine dk ?_;refine aX (λ_=>True) ?_ λx _=>ar (gI (by omega))
  refine b8 (aR ?_);have htk:(dP (aU (i:Int)) l).length<=100:=by rw[bI];omega
  refine dx (eP (by dsimp only;omega) (eP (by dsimp only;omega) ?_));refine ax (xg _ _ (dh htk (by omega))) λv hv=>?_
  refine eE (λ_=>ar trivial) λ_=>bF (λ_=>ar trivial) λ_=>?_
  refine aX (λ_=>True) ?_ λx _=>?_
  .refine aX (λ_=>True) (aK (λ_=>ar trivial) λ_=>ar trivial) λx _=>aP (λ_=>ar trivial) λ_=>?_
   refine aX (λ_=>True) (aK (λ_=>ar trivial) λ_=>ar trivial) λx _=>aP (λ_=>ar trivial) λ_=>?_
   exact aK (λ_=>ar trivial) λ_=>ar trivial
  refine aX (λ_=>True) (bF (λ_=>ar trivial) λ_=>bF (λ_=>ar trivial) λ_=>bF (λ_=>ar trivial) λ_=>ar trivial) λx _=>aP (λ_=>ar trivial) λ_=>?_
  refine aK (λ_=>?_) λ_=>ar trivial
  refine dx (eP (by dsimp only;omega) (eP (by dsimp only;omega) ?_));refine ax (xg _ _ (dh htk (by omega))) λv hv=>?_
  refine bF (λ_=>ar trivial) λg=>?_
  have h2:=hv.2;rw[bI] at h2;exact aS g (by dsimp only at h2 ⊢;omega) (aR (ca (λ_=>ar trivial) λ_=>ar trivial))
 .rintro⟨a,b,c,d,e⟩ e1;dsimp only at e1;subst e1;exact dg (ar trivial)
theorem NR (p:PG) (h:PX p):Ok (nK p) λ_=>True:=by
 have hd:=h.d;have ht:=h.t;unfold nK aZ bk bw bx iH bB bA aY cK aE cE;refine bZ p.2.length (λi x=>x.1=(i:Int)/\x.2=p) ?_ ?_ ⟨rfl,rfl⟩
 .rintro i ⟨a,x⟩ hi ⟨e1,e2⟩;dsimp only at e1 e2;subst e1;have e2:=e2.symm;subst e2;refine dk ?_;refine b8 (aR ?_);refine aX (λx=>x.2.1=p) ?_ ?_
  .refine ax (xg _ _ (by dsimp only;omega)) λv hv=>eE (λ_=>ar rfl) λ_=>?_
   refine dx (eP (by dsimp only;omega) (eP (by dsimp only;omega) ?_));exact ax (sK _ _ (by rw[bI];dsimp only;omega)) λ_ _=>ar rfl
  rintro⟨b,x,z⟩ e;dsimp only at e;have e:=e.symm;subst e;exact aP (λ_=>ar trivial) λ_=>ar ⟨gI (by omega),rfl⟩
 rintro⟨a,x⟩ ⟨e1,e2⟩;dsimp only at e1 e2;subst e1;have e2:=e2.symm;subst e2;refine dg ?_;refine ax (P:=λ_=>True) ?_ λ_ _=>ar trivial
 refine bZ p.2.length (λi x=>x.1=(i:Int)/\x.2=p) ?_ ?_ ⟨rfl,rfl⟩
 .rintro i ⟨a,x⟩ hi ⟨e1,e2⟩;dsimp only at e1 e2;subst e1;have e2:=e2.symm;subst e2;refine dk ?_;refine b8 (aR ?_);have hm:=h.l _ (bJ (T:=yS) (xs:=p.2) (j:=(i:Int)) (by omega) (by omega));revert hm;generalize (aJ (T:=yS) p.2 (i:Int))=t;intro hm;refine bF (λ_=>ar trivial) λ_=>?_
  refine bZ t.2.2.1.length (λk y=>y.1=(k:Int)/\y.2=(p,t)) ?_ ?_ ⟨rfl,rfl⟩
  .rintro k ⟨a,z⟩ hk ⟨J,I⟩;dsimp only at J I;subst J;subst I;refine dk ?_;refine b8 (aR ?_);refine aX (λx=>x.2=(p,t)) ?_ ?_
   .refine ax (xg _ _ (by dsimp only;omega)) λv hv=>eE (λ_=>ar rfl) λ_=>?_
    refine ax (sK _ _ (by dsimp only;omega)) λv hv=>eE (λ_=>ar rfl) λ_=>?_
    refine dx (eP (by dsimp only;omega) (eP (by dsimp only;omega) ?_));exact ax (yF _ _ (by rw[bI];dsimp only;omega)) λ_ _=>ar rfl
   rintro⟨b,x⟩ e;dsimp only at e;subst e;exact aP (λ_=>ar trivial) λ_=>ar ⟨gI (by omega),rfl⟩
  .rintro⟨a,z⟩ ⟨J,I⟩;dsimp only at J I;subst J;subst I;exact dg (ar ⟨gI (by omega),rfl⟩)
 .rintro⟨a,x⟩ ⟨e1,e2⟩;dsimp only at e1 e2;subst e1;have e2:=e2.symm;subst e2;exact dg (ar trivial)
structure WQ (w:WK) (y:Int×WK):Prop where
 p:y.2.1=w.1
 a:y.2.2.1=w.2.1
 s:y.2.2.2.1.length<=w.2.2.1.length+1
 t:y.2.2.2.2.length<=w.2.2.2.length+1
theorem WQ.same (w:WK) (e:Int):WQ w (e,w):=⟨rfl,rfl,Nat.le_succ _,Nat.le_succ _⟩
theorem ain (s:Sx) (D:List DT) (T:List HT) (t:Int) (A:Bool×List Sx) (sp se:List (List UInt8)) (hp:PX (D,T)) (hA:A.2.length<=100) (h1:sp.length<=100000000) (h2:se.length<=100000000) (J:∀ e∈s.index,GX 4 e) (he:GX 4 s.expr):Ok (mi (s,((D,T,t),A,sp,se))) (WQ ((D,T,t),A,sp,se)):=by
 have hex:GX 4 (d_ (Xp.op s.expr,Xp.n s.expr,Xp.name s.expr,Xp.l s.expr)):=by rw[fh];exact he
 have hin:∀ (a b:Int) (n:List UInt8),Ok (dU ((a,b,n),((D,T,t),A,sp,se))) λy=>y.2=((D,T,t),A,sp,se):=λa b n=>Yc a b n _ hA
 have hth:T.length<=1000:=by have:=hp.t;dsimp only at this;omega
 have hdl:D.length<=1000:=by have:=hp.d;dsimp only at this;omega
 have sm:∀ e,WQ ((D,T,t),A,sp,se) (e,((D,T,t),A,sp,se)):=WQ.same _;unfold mi aZ bk bw cA bL dA cX fk bf iH je bB bA aE eh;refine ax (hin _ _ _) λy I=>?_
 obtain⟨b1,M⟩:=y;dsimp only at I;subst I;refine bg (by simp) ?_;refine ax (hin _ _ _) λy I=>?_
 obtain⟨Z,M⟩:=y;dsimp only at I;subst I;refine bg (by simp) ?_;refine ax (hin _ _ _) λy I=>?_
 obtain⟨Y,M⟩:=y;dsimp only at I;subst I;refine bg (by simp) ?_;refine aK (λ_=>?_) λ_=>?_
 .refine aK (λ_=>?_) λg=>?_
  .exact ax (oW _ hp _ _ _ _) λ_ _=>ax (xf _ hp _ _ hex) λ_ _=>ax (ua _) λ_ _=>ar (sm _)
  .refine ax (oW _ hp _ _ _ _) λ_ _=>?_
   dsimp only[au] at g;refine b8 (aR ?_);refine ax (xf _ hp _ _ (J _ (bJ (T:=.ex) (xs:=s.index) (j:=0) (by omega) (by omega)))) λ_ _=>?_
   exact ax (xf _ hp _ _ hex) λ_ _=>ax (ua _) λ_ _=>ax (ua _) λ_ _=>ar (sm _)
 refine aX (λx=>x.2=((D,T,t),A,s,(D,T),sp,se)) (aK (λ_=>ar (by dsimp only;rw[yc])) λ_=>ar (by dsimp only;rw[yc])) ?_;rintro⟨b,x⟩ e;dsimp only at e;subst e;refine aP (λ_=>ax (xf _ hp _ _ hex) λ_ _=>ar (sm _)) λ_=>?_
 refine aK (λ_=>?_) λ_=>?_
 .refine aX (λx=>WQ ((D,T,t),A,sp,se) x) ?_ λx J=>ar J
  refine ax (oW _ hp _ _ _ _) λ_ _=>aP (λ_=>?_) λ_=>?_
  .exact ax (fD _) λ_ _=>ax (ua _) λ_ _=>ar (sm _)
  .refine ax (hin _ _ _) λy I=>?_
   obtain⟨U,M⟩:=y;dsimp only at I;subst I;exact bg (by simp) (ax (fD _) λ_ _=>ax (ua _) λ_ _=>ar (sm _))
 refine aX (λx=>x.2=((D,T,t),A,s,(D,T),sp,se)) (aK (λ_=>ar (by dsimp only;rw[yc])) λ_=>ar (by dsimp only;rw[yc])) ?_;rintro⟨b,x⟩ e;dsimp only at e;subst e;refine aP (λ_=>?_) λ_=>?_
 .refine aX (λx=>WQ ((D,T,t),A,sp,se) x) ?_ λx J=>ar J
  refine ax (oW _ hp _ _ _ _) λ_ _=>aP (λ_=>?_) λ_=>?_
  .exact ax (fD _) λ_ _=>ax (ua _) λ_ _=>ar (sm _)
  .refine ax (hin _ _ _) λy I=>?_
   obtain⟨U,M⟩:=y;dsimp only at I;subst I;exact bg (by simp) (ax (fD _) λ_ _=>ax (ua _) λ_ _=>ar (sm _))
 refine aK (λ_=>ax (fD _) λ_ _=>ar (sm _)) λ_=>?_
 refine aK (λ_=>?_) λ_=>?_
 .refine aX (λx=>WQ ((D,T,t),A,sp,se) x) ?_ λx J=>ar J
  exact aP (λ_=>ax (fD _) λ_ _=>ar (sm _)) λ_=>ax (fD _) λ_ _=>ar (sm _)
 refine aX (λx=>x.2=((D,T,t),A,s,(D,T),sp,se)) (aK (λ_=>ar (by dsimp only;rw[yc])) λ_=>aK (λ_=>ar (by dsimp only;rw[yc])) λ_=>ar (by dsimp only;rw[yc])) ?_;rintro⟨b,x⟩ e;dsimp only at e;subst e;refine aP (λ_=>?_) λ_=>?_
 .refine ax (oW _ hp _ _ _ _) λr hr=>ca (λ_=>ar (sm _)) λg=>?_
  obtain⟨v,hv,v0,v1⟩:=hr g (by omega) (by omega);refine aT hv (aS v0 v1 (aR ?_));refine ax (hin _ _ _) λy I=>?_
  obtain⟨U,M⟩:=y;dsimp only at I;subst I;refine bg (by simp) ?_;refine aX (λx=>WQ ((D,T,t),A,sp,se) x) ?_ λx J=>ar J
  refine aP (λ_=>ax (fD _) λ_ _=>ar (sm _)) λ_=>em (λ_=>ax (fD _) λ_ _=>ar (sm _)) λ_=>?_
  exact aK (λ_=>ax (fD _) λ_ _=>ar (sm _)) λ_=>ax (fD _) λ_ _=>ar (sm _)
 refine aK (λ_=>?_) λ_=>?_
 .refine ax (oW _ hp _ _ _ _) λr hr=>ca (λ_=>ar (sm _)) λg=>?_
  refine ax (sK T _ hth) λv hv=>?_
  refine aX (λx=>x.2=((D,T,t),A,s,sp,se)) ?_ ?_
  .refine aP (λ_=>ar (by dsimp only;rw[yc])) λ_=>aP (λ_=>ar (by dsimp only;rw[yc])) λ_=>aP (λ_=>ar (by dsimp only;rw[yc])) λ_=>aK (λ_=>ar (by dsimp only;rw[yc])) λ_=>ar (by dsimp only;rw[yc])
  rintro⟨b,x⟩ e;dsimp only at e;subst e;refine aP (λ_=>ar (sm _)) λ_=>?_
  refine ax (yF sp _ (by omega)) λ_ _=>eE (λ_=>ar (sm _)) λ_=>?_
  exact bh (by simp;omega) (by omega) (ar ⟨rfl,rfl,by simp,Nat.le_succ _⟩)
 refine aK (λ_=>?_) λ_=>?_
 .refine aX (λx=>WQ ((D,T,t),A,sp,se) x) ?_ λx J=>ar J
  refine ax (oW _ hp _ _ _ _) λr hr=>?_
  refine aP (λ_=>ax (fD _) λ_ _=>ax (ua _) λ_ _=>ar (sm _)) λ_=>?_
  refine aP (λ_=>ax (fD _) λ_ _=>ax (ua _) λ_ _=>ar (sm _)) λ_=>?_
  exact ax (sK T _ hth) λv hv=>ax (fD _) λ_ _=>ax (ua _) λ_ _=>ar (sm _)
 refine aK (λ_=>?_) λ_=>?_
 .refine aX (λx=>x.2=((D,T,t),A,s,(D,T),sp,se)) ?_ ?_
  .refine ax (oW _ hp _ _ _ _) λr hr=>?_
   exact aP (λ_=>ax (fD _) λ_ _=>ax (ua _) λ_ _=>ar (by dsimp only;rw[yc])) λ_=>ax (fD _) λ_ _=>ax (ua _) λ_ _=>ar (by dsimp only;rw[yc])
  rintro⟨b,x⟩ e;dsimp only at e;subst e;refine aX (λx=>x.2=((D,T,t),A,s,(D,T),sp,se)) ?_ ?_
  .refine aX (λx=>x.2=((D,T,t),A,s,(D,T),sp,se)) ?_ ?_
   .exact aK (λ_=>ax (yF se _ (by omega)) λ_ _=>ar (by dsimp only;rw[yc])) λ_=>ar (by dsimp only;rw[yc])
   rintro⟨b,x⟩ e;dsimp only at e;subst e;exact aP (λ_=>ar (by dsimp only;rw[yc])) λ_=>ar (by dsimp only;rw[yc])
  rintro⟨b,x⟩ e;dsimp only at e;subst e;refine bh (by simp;omega) (by omega) ?_;exact ax (xf _ hp _ _ hex) λ_ _=>ax (ua _) λ_ _=>ar ⟨rfl,rfl,Nat.le_succ _,by simp⟩
 exact ax (oW _ hp _ _ _ _) λ_ _=>ax (oW _ hp _ _ _ _) λ_ _=>ax (fD _) λ_ _=>ax (ua _) λ_ _=>ax (ua _) λ_ _=>ar (sm _)
abbrev RA4:Type:=(List Sx×WK)->Option ((Int×Int)×WK)
structure QA (l:List Sx) (d:Nat) (w:WK) (y:(Int×Int)×WK):Prop where
 p:y.2.1=w.1
 a:y.2.2.1.2.length=w.2.1.2.length
 s:y.2.2.2.1.length<=w.2.2.1.length+l.length*KS d
 t:y.2.2.2.2.length<=w.2.2.2.length+l.length*KS d
def SpA (rr:RA4) (d:Nat):Prop:=∀ (l:List Sx) (w:WK),l.length<=100->(∀ s∈l,GT d s)->PX (w.1.1,w.1.2.1)->w.2.1.2.length+d<=50->w.2.2.1.length+l.length*KS d<=100000000->w.2.2.2.length+l.length*KS d<=100000000->Ok (rr (l,w)) (QA l d w)
theorem af3 (rr:RA4) (d:Nat) (hr:∀ d',d=d'+1->SpA rr d'):SpA (mn rr) d:=by
 rintro l ⟨⟨D,T,t⟩,A,sp,se⟩ hl hg hp hA h1 h2;dsimp only at hp hA h1 h2;have hK:∀ i:Nat,i<=l.length->i*KS d<=l.length*KS d:=λi hi=>cH _ hi
 unfold mn aZ bk bw bL dA cX ck bf bx je bB bA aY cK aE cE eh;refine bZ l.length (λi x=>x.1=(i:Int)/\x.2.1=(D,T,t)/\x.2.2.1.2.length=A.2.length/\x.2.2.2.1.length<=sp.length+i*KS d/\x.2.2.2.2.length<=se.length+i*KS d) ?_ ?_ ⟨rfl,rfl,rfl,by simp,by simp⟩
 .rintro i ⟨a,P,A',sp',se'⟩ hi ⟨e1,e2,e3,M,J⟩;dsimp only at e1 e2 e3 M J;subst e1;subst e2;have hKi:=hK (i+1) (by omega);have hKs:=iR i (KS d);rw[Nat.succ_eq_add_one] at hKs;refine dk ?_;refine b8 (aR ?_);have hm:=hg _ (bJ (T:=.sm) (xs:=l) (j:=(i:Int)) (by omega) (by omega));revert hm;generalize (aJ (T:=.sm) l (i:Int))=s;intro hm;cases d with
  |zero=>exact hm.elim
  |succ d=>
   have Z:=hr d rfl;obtain⟨_,g2,g3,g4,g5,g6,g7⟩:=hm;have hk:KS (d+1)=1+16*KS d:=rfl;have kb:s.body.length*KS d<=8*KS d:=cH _ g4;have ke:s.els.length*KS d<=8*KS d:=cH _ g5;dsimp only;rw[yc];refine ax (ain s D T t A' sp' se' hp (by omega) (by omega) (by omega) g2 g3) λy I=>?_
   obtain⟨e,P2,A2,sp2,se2⟩:=y;obtain⟨q1,q2,q3,q4⟩:=I;dsimp only at q1 q2 q3 q4;subst q1;subst q2;refine bg (by simp) ?_;refine aX (λx=>x.2=((D,T,t),s,A2,sp2,se2)) (bF (λ_=>ar rfl) λ_=>ar rfl) ?_;rintro⟨e,x⟩ ex;dsimp only at ex;subst ex;refine ca (λ_=>ar ⟨rfl,e3,by dsimp only;omega,by dsimp only;omega⟩) λ_=>?_
   refine bh (by simp;omega) (by omega) (aS (by simp) (by simp;omega) (aS (by simp) (by simp;omega) ?_));dsimp only;rw[yc];refine ax (Z s.body ((D,T,t),(A2.1,cQ (A2.2++[_]) _ s),sp2,se2) (by omega) g6 hp ?_ ?_ ?_) λy I=>?_
   .dsimp only;rw[bV];simp;omega
   .dsimp only;omega
   .dsimp only;omega
   obtain⟨e6,P6,A6,sp6,se6⟩:=y;obtain⟨q1,q2,q5,q6⟩:=I;dsimp only at q1 q2 q5 q6;subst q1;rw[bV,bu,dR] at q2;refine bg (by simp) ?_;refine aX (λx=>x.2.1=(D,T,t)/\x.2.2.1.2.length=A2.2.length+1/\x.2.2.2.1.length<=sp2.length+16*KS d/\x.2.2.2.2.length<=se2.length+16*KS d) ?_ ?_
   .refine aK (λ_=>?_) λ_=>ar ⟨rfl,q2,by dsimp only;omega,by dsimp only;omega⟩
    refine ax (Z s.els ((D,T,t),A6,sp6,se6) (by omega) g7 hp (by dsimp only;omega) (by dsimp only;omega) (by dsimp only;omega)) λy I=>?_
    obtain⟨e7,P7,A7,sp7,se7⟩:=y;obtain⟨r1,r2,Y,U⟩:=I;dsimp only at r1 r2 Y U;subst r1;exact bg (by simp) (ar ⟨rfl,r2.trans q2,by dsimp only;omega,by dsimp only;omega⟩)
   rintro⟨e8,P8,A8,sp8,se8⟩ ⟨r1,r2,Y,U⟩;dsimp only at r1 r2 Y U;subst r1;have el:bc .i64 ((aO A8.2.length)-1)=(A2.2.length:Int):=by
    rw[r2,hX (by simp<;>omega) (by simp<;>omega)];simp<;>omega
   dsimp only;rw[el];have tk:(dP (aU (A2.2.length:Int)) A8.2).length=A2.2.length:=by rw[bI];omega
   refine dx (eP (by omega) (Ag (by rw[r2];omega) ?_));refine ca (λ_=>ar ⟨rfl,by dsimp only;omega,by dsimp only;omega,by dsimp only;omega⟩) λ_=>ar ?_
   exact⟨gI (by omega),rfl,by dsimp only;omega,by dsimp only;omega,by dsimp only;omega⟩
 .rintro⟨a,P,A',sp',se'⟩ ⟨e1,e2,e3,M,J⟩;dsimp only at e1 e2 e3 M J;subst e1;subst e2;exact dg (ar ⟨rfl,e3,M,J⟩)
theorem Xk:∀ (n d:Nat),d<n->SpA (iF n) d
 |0,_,h=>by omega
 |n+1,d,h=>af3 (iF n) d λI hd=>Xk n I (by omega)
theorem D5 (p:PG) (h:PX p):Ok (fm p) λr=>r.1=0->(p.2.map λt=>nC 5 t.2.2.2).sum<=60:=by
 have hd:=h.d;have ht:=h.t;unfold fm aZ bk bw bL cX bx je bB bA aY cK aE cE;refine ax (Zn p h) λ_ _=>em (λ_=>ar λh=>(by cases h)) λ_=>?_
 refine ax (U6 p.1 hd) λ_ _=>ca (λhn=>ar λh=>(hn h).elim) λ_=>bF (λ_=>ar λh=>(by cases h)) λ_=>?_
 refine ax (NR p h) λ_ _=>ca (λhn=>ar λh=>(hn h).elim) λ_=>?_
 have J:KS 5=69905:=rfl;refine bZ p.2.length (λi x=>x.1.2=(i:Int)/\x.2=p/\x.1.1=((((p.2.take i).map λt=>nC 5 t.2.2.2).sum:Nat):Int)/\(x.1.1:Int)<=((i*6990500:Nat):Int)) ?_ ?_ ⟨rfl,rfl,by simp,by simp⟩
 .rintro i ⟨⟨(c:Int),a⟩,x⟩ hi ⟨e1,e2,e3,I⟩;dsimp only at e1 e2 e3 I;subst e1;have e2:=e2.symm;subst e2;refine dk ?_;refine b8 (aR ?_);have hm:=bJ (T:=yS) (xs:=p.2) (j:=(i:Int)) (by omega) (by omega);have hb:=h.b _ hm;have hcb:=ac1 (h.s _ hm);have hcb2:=cH (KS 5) hb;rw[J] at hcb hcb2;refine aT (E7 fuel 5 _ (by rw[jQ];omega) (dh hb (by omega)) (h.s _ hm) (by rw[J];omega)) (ar ⟨gI (by omega),rfl,?_,?_⟩)
  .dsimp only;rw[mH (T:=yS) hi,cC,Fz,hX (by omega) (by omega),e3];simp
  .dsimp only;rw[hX (by omega) (by omega)];omega
 rintro⟨⟨(c:Int),a⟩,x⟩ ⟨e1,e2,e3,I⟩;dsimp only at e1 e2 e3 I;subst e1;have e2:=e2.symm;subst e2;rw[cP] at e3;refine dg ?_;refine ax (P:=λr=>r.1=0->(p.2.map λt=>nC 5 t.2.2.2).sum<=60) ?_ λ_ h=>ar h
 refine bF (λ_=>ar λh=>(by cases h)) λM=>?_
 have M:c<=60:=M;refine bZ p.2.length (λi x=>x.1=(i:Int)/\x.2.1=p/\x.2.2.1.1=p.1/\x.2.2.1.2.1=p.2/\x.2.2.2.1.2.length=0/\x.2.2.2.2.1.length<=i*6990500/\x.2.2.2.2.2.length<=i*6990500) ?_ ?_ ⟨rfl,rfl,rfl,rfl,rfl,by simp,by simp⟩
 .rintro i ⟨a,x,⟨D,T,t⟩,A,sp,se⟩ hi ⟨e1,e2,e3,I,e5,Z,Y⟩;dsimp only at e1 e2 e3 I e5 Z Y;subst e1;have e2:=e2.symm;subst e2;subst e3;subst I;refine dk ?_;refine b8 (aR ?_);have hm:=bJ (T:=yS) (xs:=p.2) (j:=(i:Int)) (by omega) (by omega);have hb:=h.b _ hm;have hs:=h.s _ hm;revert hb hs;dsimp only;generalize (aJ (T:=yS) p.2 (i:Int))=th;intro hb hs;have hk:KS 5=69905:=rfl;have hle:th.2.2.2.length*KS 5<=100*KS 5:=cH _ hb;rw[hk] at hle;refine ax (Xk fuel 5 (by rw[jQ];omega) th.2.2.2 ((p.1,p.2,(i:Int)),A,sp,se) hb hs h (by dsimp only;omega) (by dsimp only;rw[hk];omega) (by dsimp only;rw[hk];omega)) λy U=>?_
  obtain⟨e,P2,A2,sp2,se2⟩:=y;obtain⟨q1,q2,q3,q4⟩:=U;dsimp only at q1 q2 q3 q4;subst q1;rw[hk] at q3 q4;refine bg (by simp) (ca (λhn=>ar λh=>(hn h).elim) λ_=>ar ?_);exact⟨gI (by omega),rfl,rfl,rfl,by dsimp only;omega,by dsimp only;omega,by dsimp only;omega⟩
 .rintro⟨a,x,P,w⟩ ⟨e1,e2,_⟩;dsimp only at e1 e2;subst e1;have e2:=e2.symm;subst e2;exact dg (ar λ_=>by omega)
theorem c_ {R:Type} {o o':Option R} {Q:R->Prop} (h:o=o') (hk:Ok o' Q):Ok o Q:=h▸hk
def D0:List DT:=[(1,0,[120],0,0,[]),(1,0,[121],0,1,[]),(2,0,[118],0,0,[]),(1,0,[113],2,0,[]),(3,0,[109],0,0,[]),(3,0,[110],0,0,[]),(4,0,[114],0,0,[]),(5,0,[99],0,0,[109]),(6,0,[102],0,0,[])]
def L0:List (List UInt8):=[[97],[98]]
set_option maxHeartbeats 20000000 in
theorem amb:∃ r,fm (D0,[([109,97,105,110],0,L0,[nN (1,0,[120],[],[],d_ (1,1,[],[]),[],[])])])=af r/\r.1=0:=by
 suffices h:Ok (fm (D0,[([109,97,105,110],0,L0,[nN (1,0,[120],[],[],d_ (1,1,[],[]),[],[])])])) λr=>r.1=0 by
  obtain⟨y,h1,h2⟩:=h;exact⟨y,h1,h2⟩
 unfold fm aZ bk bw bL cX bx je bB bA aY cK aE cE;with_reducible repeat' first|exact ar rfl|refine WU ?_|refine WS ?_|refine WR ?_|refine WO ?_|refine Qt ?_|refine aed ?_|refine aR ?_|refine fI rfl ?_|refine fJ rfl ?_|refine bg rfl ?_|refine WP ?_|refine Qu ?_|refine c_ (pK.eq_1 ..) ?_|refine c_ (jY.eq_1 ..) ?_|refine c_ (fg.eq_1 ..) ?_|refine c_ (jF.eq_1 ..) ?_|refine c_ (ko.eq_1 ..) ?_|refine c_ (ly.eq_1 ..) ?_|refine c_ (pn.eq_1 ..) ?_|refine c_ (rC.eq_1 ..) ?_|refine c_ (nL.eq_1 ..) ?_|refine c_ (jx.eq_1 ..) ?_|refine c_ (j6.eq_1 ..) ?_|refine c_ (l9.eq_1 ..) ?_|refine c_ (ja.eq_1 ..) ?_|refine c_ (ml.eq_1 ..) ?_|refine c_ (pm.eq_1 ..) ?_|refine c_ (rB.eq_1 ..) ?_|refine c_ (h_.eq_1 ..) ?_|refine c_ (nK.eq_1 ..) ?_|refine c_ (gR.eq_1 ..) ?_|refine c_ (iY.eq_1 ..) ?_|refine c_ (BV.eq_1 ..) ?_|refine c_ (uy.eq_1 ..) ?_|refine c_ (vK.eq_1 ..) ?_|refine c_ (mn.eq_1 ..) ?_|refine c_ (mi.eq_1 ..) ?_|refine c_ (dU.eq_1 ..) ?_|refine c_ (gE.eq_1 ..) ?_|refine c_ (pJ.eq_1 ..) ?_|refine c_ (mj.eq_1 ..) ?_|refine c_ (BU.eq_1 ..) ?_|refine c_ (ux.eq_1 ..) ?_|refine c_ (BT.eq_1 ..) ?_|refine c_ (uw.eq_1 ..) ?_|refine c_ (iX.eq_1 ..) ?_|refine c_ (c9.eq_1 ..) ?_|refine c_ (ck.eq_1 ..) ?_|refine c_ (congrFun (gO dG jQ) _) ?_|refine c_ (yL _ _) ?_|refine c_ (congrFun (gO eC jQ) _) ?_|refine c_ (zu _ _) ?_|refine c_ (congrFun (gO ia jQ) _) ?_|refine c_ (sF _ _) ?_|refine c_ (congrFun (gO nj jQ) _) ?_|refine c_ (yl _ _) ?_|refine c_ (congrFun (gO iF jQ) _) ?_|refine c_ (B7 _ _) ?_|refine c_ (congrFun (gO nh jQ) _) ?_|refine c_ (yk _ _) ?_|refine c_ (congrFun (gO ng jQ) _) ?_|refine c_ (yi _ _) ?_
 all_goals trace_state
structure TM (nT:Nat) (t:HT):Prop where
 l:t.2.2.1=L0
 b:t.2.2.2.length<=8
 s:∀ s∈t.2.2.2,GS nT 3 s
structure PJ (p:PG):Prop where
 d:p.1=D0
 t0:1<=p.2.length
 t:p.2.length<=4
 m:∀ t∈p.2,TM p.2.length t
 n:p.2.map Prod.fst=v9.take p.2.length
theorem PJ.x {p:PG} (h:PJ p):PX p:=⟨by rw[h.d];decide,by have:=h.t;omega,λt ht=>by rw[(h.m t ht).l];decide,λt ht=>by have:=(h.m t ht).b;omega,λt ht s hs=>((h.m t ht).s s hs).le (by omega:3<=5) |>.t⟩
theorem RJ:sw ()=af D0:=rfl
theorem act:∀ m:Nat,m<5->∀ j:Nat,j<m->aJ (T:=.str) v9 (j:Int)∈v9.take m:=by decide
theorem Qc {nT:Nat} (op:Int) {n:List UInt8} (J:op=12\/op=13) (hn:n∈v9.take nT):GS nT 3 (nN (op,0,n,[],[],d_ (0,0,[],[]),[],[])):=GS.wo (by omega) (by simp) (λx I=>(by cases I)) (by rcases J with rfl|rfl<;>(constructor<;>simp[Sx.op,Sx.name,Sx.index,Sx.arg,Sx.els,Sx.body]<;>exact hn))
theorem G4 (x:List Int) (hl:x.length<=9223372036854775807) (hx:∀ z∈x,0<=z/\z<=255):Ok (oL x) λp=>PJ p/\∃ r,fm p=af r/\r.1=0:=by
 unfold oL aZ bk bw cA dV kE Aa bL fk kD pZ Prod.q9 bf bx je bB kB cK aE cE eh;refine aT RJ ?_;refine ax (gq 3 (x,0) ⟨hl,hx,by dsimp only;omega,by dsimp only;omega⟩) λy J=>?_
 obtain⟨n,t0⟩:=y;obtain⟨s0,n0,n1,_⟩:=J;have n1:=n1 (by decide);dsimp only at s0 n0 n1;have ew:bc .i64 (2+n)=2+n:=hX (by omega) (by omega);obtain⟨nT,hnT⟩:∃ m:Nat,2+n=(m:Int):=⟨(2+n).toNat,by omega⟩
 refine bZ nT (λi x=>x.1=(i:Int)/\x.2.2.1=D0/\x.2.2.2.1=v9/\TP x.2.2.2.2.1/\x.2.2.2.2.2.1.2=[]/\x.2.2.2.2.2.2.map Prod.fst=v9.take i/\∀ t∈x.2.2.2.2.2.2,TM nT t) ?_ ?_ ⟨rfl,rfl,rfl,s0.p,rfl,rfl,λt ht=>(by cases ht)⟩
 .rintro i ⟨a,m,D,N,t,h,th⟩ hi ⟨e1,e2,e3,e4,e5,e6,e7⟩;dsimp only at e1 e2 e3 e4 e5 e6 e7;subst e1;subst e2;refine bF (λg=>?_) λg=>(by dsimp only at g;rw[ew] at g;omega)
  have l4:N.length=4:=by rw[e3];rfl
  refine b8 (b8 (aR ?_));have hthl:th.length=i:=by have:=gO al e6;rw[bR,bI] at this;have q4:v9.length=4:=rfl;omega
  refine aX (λx=>x.2.2.2.1.1=aJ (T:=.str) N (i:Int)/\x.2.1=D0/\x.2.2.1=v9/\TP x.2.2.2.2.1/\x.2.2.2.2.2.1.2=[]/\x.2.2.2.2.2.2.1=th/\x.2.2.2.2.2.2.2.1=L0/\x.2.2.2.2.2.2.2.2.length<=3/\∀ s∈x.2.2.2.2.2.2.2.2,GS nT 3 s) ?_ ?_
  .refine aK (λ_=>?_) λ_=>ar ⟨rfl,rfl,e3,e4,e5,rfl,rfl,by simp,λs hs=>(by cases hs)⟩
   refine bZ (1+n).toNat (λk x=>x.2.2.2.2.1.1=aJ (T:=.str) N (i:Int)/\x.1=1+(k:Int)/\x.2.2.1=D0/\x.2.2.2.1=v9/\TP x.2.2.2.2.2.1/\x.2.2.2.2.2.2.1.2=[]/\x.2.2.2.2.2.2.2.1=th/\x.2.2.2.2.2.2.2.2.1=L0/\x.2.2.2.2.2.2.2.2.2.length<=k/\∀ s∈x.2.2.2.2.2.2.2.2.2,GS nT 3 s) ?_ ?_ ⟨rfl,rfl,rfl,e3,e4,e5,rfl,rfl,by simp,λs hs=>(by cases hs)⟩
   .rintro k ⟨c,m1,D1,N1,z1,t1,h1,th1,l1,b1⟩ hk ⟨fz,f1,f2,I,Z,f5,Y,U,f8,M⟩;dsimp only at fz f1 f2 I Z f5 Y U f8 M;subst f1;refine bF (λ_=>?_) λg=>(by dsimp only at g;rw[ew] at g;omega)
    have l41:N1.length=4:=by rw[I];rfl
    refine b8 (b8 (aR ?_));refine bh (by simp;omega) (by omega) (ar ?_);dsimp only;rw[hX (n:=1+(k:Int)+1) (by omega) (by omega)];refine ⟨fz,by omega,f2,I,Z,f5,Y,U,by simp;omega,λs hs=>?_⟩;rcases bQ.1 hs with hs|hs
    .exact M s hs
    .rw[aL] at hs;rw[hs];refine Qc 12 (.inl rfl) ?_;rw[I,show 1+(k:Int)=((1+k:Nat):Int) by omega];exact act nT (by omega) (1+k) (by omega)
   .rintro⟨c,m1,D1,N1,z1,t1,h1,th1,l1,b1⟩ ⟨fz,f1,f2,I,Z,f5,Y,U,f8,M⟩;dsimp only at fz f1 f2 I Z f5 Y U f8 M;subst f1;refine bF (λg=>(by dsimp only at g;rw[ew] at g;omega)) λ_=>ar ?_
    exact⟨fz,f2,I,Z,f5,Y,U,by dsimp only;omega,M⟩
  rintro⟨m1,D1,N1,z1,t1,h1,th1,l1,b1⟩ ⟨fz,f2,I,Z,f5,Y,U,f8,M⟩;dsimp only at fz f2 I Z f5 Y U f8 M;subst f2;subst Y;subst U;refine ax (gq 3 t1 Z) λy J=>?_
  obtain⟨k2,t2⟩:=y;obtain⟨u1,u2,u3,_⟩:=J;have u3:=u3 (by decide);dsimp only at u1 u2 u3;dsimp only;rw[hX (n:=1+k2) (by omega) (by omega)];refine ax (X9 (nT:=nT) 2 (by omega) (1+k2) m1 t2 h1 (by omega) u1.p (by rw[f5];simp)) λy J=>?_
  obtain⟨m3,t3,h3,l3⟩:=y;obtain⟨w1,w2,w3,w4⟩:=J;dsimp only at w1 w2 w3 w4;refine bg (by simp) (bh (by simp;omega) (by omega) ?_);have hbody:∀ s∈b1++l3,GS nT 3 s:=λs hs=>by
   rcases bQ.1 hs with hs|hs
   .exact M s hs
   .exact w2 s hs
  have hlen:(b1++l3).length<=6:=by rw[bu];omega
  refine aX (λx=>x.2.2.2.1.1=aJ (T:=.str) N (i:Int)/\x.2.1=D0/\x.2.2.1=v9/\TP x.2.2.2.2.1/\x.2.2.2.2.2.1.2=[]/\x.2.2.2.2.2.2.1=th1/\x.2.2.2.2.2.2.2.1=L0/\x.2.2.2.2.2.2.2.2.length<=8/\∀ s∈x.2.2.2.2.2.2.2.2,GS nT 3 s) ?_ ?_
  .refine aX (λx=>x.2.2.2.2.1.1=aJ (T:=.str) N (i:Int)/\x.2.2.1=D0/\x.2.2.2.1=v9/\TP x.2.2.2.2.2.1/\x.2.2.2.2.2.2.1.2=[]/\x.2.2.2.2.2.2.2.1=th1/\x.2.2.2.2.2.2.2.2.1=L0/\x.2.2.2.2.2.2.2.2.2=b1++l3) ?_ ?_
   .refine aK (λ_=>?_) λ_=>ar ⟨fz,rfl,I,w3.p,w4.trans f5,rfl,rfl,rfl⟩
    exact ax (gq 3 t3 w3.p) λy J=>ar ⟨fz,rfl,I,J.1.p,w4.trans f5,rfl,rfl,rfl⟩
   rintro⟨b,m4,D4,N4,z4,t4,h4,th4,l4,b4⟩ ⟨pz,p2,p3,p4,p5,p6,p7,p8⟩;dsimp only at pz p2 p3 p4 p5 p6 p7 p8;subst p2;subst p6;subst p7;subst p8;have l44:N4.length=4:=by rw[p3];rfl
   refine aP (λ_=>?_) λ_=>ar ⟨pz,rfl,p3,p4,p5,rfl,rfl,by dsimp only;omega,hbody⟩
   refine b8 (b8 (aR ?_));refine bh (by simp at hlen ⊢;omega) (by omega) (ar ⟨pz,rfl,p3,p4,p5,rfl,rfl,by dsimp only;rw[bu,dR];omega,λs hs=>?_⟩);rcases bQ.1 hs with hs|hs
   .exact hbody s hs
   .rw[aL] at hs;rw[hs];refine Qc 13 (.inr rfl) ?_;rw[p3];exact act nT (by omega) 1 (by omega)
  rintro⟨m4,D4,N4,z4,t4,h4,th4,l4,b4⟩ ⟨pz,p2,p3,p4,p5,p6,p7,p8,p9⟩;dsimp only at pz p2 p3 p4 p5 p6 p7 p8 p9;subst p2;subst p6;subst p7;refine bh (by simp;omega) (by omega) (ar ?_);dsimp only;refine ⟨gI (by omega),rfl,p3,p4,p5,by rw[mH (T:=.str) (xs:=v9) (i:=i) (by have q4:v9.length=4:=rfl;omega),cC,e6,<-e3];show _++[z4.1]=_;rw[pz],λt ht=>?_⟩;rcases bQ.1 ht with ht|ht
  .exact e7 t ht
  .rw[aL] at ht;rw[ht];exact⟨rfl,p8,p9⟩
 .rintro⟨a,m,D,N,t,h,th⟩ ⟨e1,e2,e3,e4,e5,e6,e7⟩;dsimp only at e1 e2 e3 e4 e5 e6 e7;subst e1;subst e2;refine bF (λg=>(by dsimp only at g;rw[ew] at g;omega)) λ_=>?_
  have hthl:th.length=nT:=by have:=gO al e6;rw[bR,bI] at this;have q4:v9.length=4:=rfl;omega
  have hpm:PJ (D0,th):=⟨rfl,by dsimp only;omega,by dsimp only;omega,by dsimp only;rw[hthl];exact e7,by dsimp only;rw[hthl];exact e6⟩
  refine ax (P:=λp=>PJ p/\∃ r,fm p=af r/\r.1=0) ?_ λr hr=>ar hr
  obtain⟨y,J,_⟩:=D5 (D0,th) hpm.x;refine aT J (ca (λ_=>?_) λh=>ar ⟨hpm,y,J,h⟩);refine aT RJ (aT (N' _) (aT (tX _ _) (ar ?_)));refine ⟨⟨rfl,by simp,by simp,λt ht=>?_,rfl⟩,amb⟩;simp only[aL] at ht;rw[ht];refine ⟨rfl,by simp,λs hs=>?_⟩;simp only[aL] at hs;rw[hs,fh,yU];exact GS.asg (by decide) (GE.num _ 3)
abbrev iA (l:List IT) (k:Nat):IT:=aJ (T:=BD) l (k:Int)
def JT (l:List IT) (ρ:Nat->Nat) (a e k:Nat):Prop:=(iA l k).1=5->∃ k':Nat,(iA l k).2.1=(k':Int)/\(k'=e\/a<=k'/\k'<e/\ρ k'<ρ k)
def qT (l:List IT) (a e:Nat):Prop:=a<=e/\∃ ρ:Nat->Nat,∀ k,a<=k->k<e->1<=ρ k/\ρ k<=e-a/\JT l ρ a e k/\((iA l k).1<5->k+1=e\/ρ (k+1)<ρ k)
theorem qT.nil (l:List IT) (a:Nat):qT l a a:=⟨bW _,λ_=>0,λk h1 h2=>by omega⟩
theorem qT.one {l:List IT} {a:Nat} (h:¬(iA l a).1=5):qT l a (a+1):=⟨by omega,λ_=>1,λk h1 h2=>⟨bW 1,by show 1<=a+1-a;omega,λI=>by rw[show k=a by omega] at I;exact (h I).elim,λ_=>.inl (by omega)⟩⟩
theorem qT.congr {l I:List IT} {a e:Nat} (h:qT l a e) (hc:∀ k,a<=k->k<e->iA I k=iA l k):qT I a e:=by
 obtain⟨h1,ρ,h2⟩:=h;exact⟨h1,ρ,λk M J=>by unfold JT;rw[hc k M J];exact h2 k M J⟩
theorem qT.app {l:List IT} {a b c:Nat} (h:qT l a b) (k:qT l b c):qT l a c:=by
 obtain⟨h1,ρ,h2⟩:=h;obtain⟨k1,σ,k2⟩:=k;refine ⟨by omega,λk=>if k<b then ρ k+(c-b) else σ k,λk M J=>?_⟩;by_cases hk:k<b
 .obtain⟨q1,q2,q3,q4⟩:=h2 k M hk;simp only[aF hk];refine ⟨by omega,by omega,?_,λI=>?_⟩
  .intro I;simp only[aF hk];obtain⟨k',e,r⟩:=q3 I;refine ⟨k',e,?_⟩;rcases r with r|⟨r1,r2,r3⟩
   .subst r;by_cases hc:k'=c
    .exact .inl hc
    .have:=(k2 k' (bW _) (by omega)).2.1;rw[ay (Co _)];exact .inr ⟨by omega,by omega,by omega⟩
   .rw[aF r2];exact .inr ⟨r1,by omega,by omega⟩
  .rcases q4 I with r|r
   .by_cases hc:k+1=c
    .exact .inl hc
    .have:=(k2 (k+1) (by omega) (by omega)).2.1;rw[ay (by omega)];exact .inr (by omega)
   .by_cases hb:k+1<b
    .rw[aF hb];exact .inr (by omega)
    .rw[ay hb];by_cases hc:k+1=c
     .exact .inl hc
     .have:=(k2 (k+1) (by omega) (by omega)).2.1;exact .inr (by omega)
 .obtain⟨q1,q2,q3,q4⟩:=k2 k (by omega) J;simp only[ay hk];refine ⟨q1,by omega,?_,λI=>?_⟩
  .intro I;simp only[ay hk];obtain⟨k',e,r⟩:=q3 I;refine ⟨k',e,r.imp id λ⟨r1,r2,r3⟩=>⟨by omega,r2,?_⟩⟩;rw[ay (by omega)];exact r3
  .rw[ay (by omega)];exact q4 I
theorem qT.ite {l:List IT} {a j e:Nat} (h:qT l a j) (hj:(iA l j).1=5) (J:(iA l j).2.1=(e:Int)) (k:qT l (j+1) e):qT l a e:=by
 obtain⟨h1,ρ,h2⟩:=h;obtain⟨k1,σ,k2⟩:=k;refine ⟨by omega,λk=>if k<j then ρ k+(e-j) else if k=j then e-j else σ k,λk U M=>?_⟩;by_cases hk:k<j
 .obtain⟨q1,q2,q3,q4⟩:=h2 k U hk;simp only[aF hk];refine ⟨by omega,by omega,?_,λI=>?_⟩
  .intro I;simp only[aF hk];obtain⟨k',e',r⟩:=q3 I;refine ⟨k',e',.inr ?_⟩;rcases r with r|⟨r1,r2,r3⟩
   .rw[r,ay (Co _),aF rfl];exact⟨by omega,by omega,by omega⟩
   .rw[aF r2];exact⟨r1,by omega,by omega⟩
  .refine .inr ?_;by_cases hb:k+1<j
   .rw[aF hb];rcases q4 I with r|r<;>omega
   .rw[ay hb,aF (by omega)];omega
 .by_cases hkj:k=j
  .subst hkj;simp only[ay hk,aF];exact⟨by omega,by omega,λ_=>⟨e,J,.inl rfl⟩,λI=>by rw[hj] at I;omega⟩
  .obtain⟨q1,q2,q3,q4⟩:=k2 k (by omega) M;simp only[ay hk,ay hkj];refine ⟨q1,by omega,?_,λI=>?_⟩
   .intro I;simp only[ay hk,ay hkj];obtain⟨k',e',r⟩:=q3 I;refine ⟨k',e',r.imp id λ⟨r1,r2,r3⟩=>⟨by omega,r2,?_⟩⟩;rw[ay (by omega),ay (by omega)];exact r3
   .rw[ay (by omega),ay (by omega)];exact q4 I
theorem qT.whl {l:List IT} {a c j:Nat} (h:qT l a c) (hc:(iA l c).1=10) (k:qT l (c+1) j) (hj:(iA l j).1=5) (M:(iA l j).2.1=(a:Int)):qT l a (j+1):=by
 obtain⟨h1,ρ,h2⟩:=h;obtain⟨k1,σ,k2⟩:=k;refine ⟨by omega,λk=>if k<c then ρ k+1 else if k=c then 1 else if k<j then σ k+(c-a)+2 else c-a+2,λk U Y=>?_⟩;by_cases hk:k<c
 .obtain⟨q1,q2,q3,q4⟩:=h2 k U hk;simp only[aF hk];refine ⟨by omega,by omega,?_,λI=>?_⟩
  .intro I;simp only[aF hk];obtain⟨k',e',r⟩:=q3 I;refine ⟨k',e',.inr ?_⟩;rcases r with r|⟨r1,r2,r3⟩
   .rw[r,ay (Co _),aF rfl];exact⟨by omega,by omega,by omega⟩
   .rw[aF r2];exact⟨r1,by omega,by omega⟩
  .refine .inr ?_;by_cases hb:k+1<c
   .rw[aF hb];rcases q4 I with r|r<;>omega
   .rw[ay hb,aF (by omega)];omega
 .by_cases hkc:k=c
  .subst hkc;simp only[ay hk,aF];exact⟨by omega,by omega,λI=>by rw[hc] at I;omega,λI=>by rw[hc] at I;omega⟩
  .simp only[ay hk,ay hkc];by_cases hkj:k<j
   .obtain⟨q1,q2,q3,q4⟩:=k2 k (by omega) hkj;simp only[aF hkj];refine ⟨by omega,by omega,?_,λI=>?_⟩
    .intro I;simp only[ay hk,ay hkc,aF hkj];obtain⟨k',e',r⟩:=q3 I;refine ⟨k',e',.inr ?_⟩;rcases r with r|⟨r1,r2,r3⟩
     .rw[r,ay (by omega),ay (by omega),ay (Co _)];exact⟨by omega,by omega,by omega⟩
     .rw[ay (by omega),ay (by omega),aF r2];exact⟨by omega,by omega,by omega⟩
    .refine .inr ?_;rw[ay (by omega),ay (by omega)];by_cases hb:k+1<j
     .rw[aF hb];rcases q4 I with r|r<;>omega
     .rw[ay hb];omega
   .have hkj:k=j:=by omega
    subst hkj;simp only[ay (Co _)];refine ⟨by omega,by omega,λ_=>⟨a,M,.inr ⟨bW _,by omega,?_⟩⟩,λI=>by rw[hj] at I;omega⟩;simp only[ay hk,ay hkc,ay (Co _)];by_cases J:a<c
    .rw[aF J];have:=(h2 a (bW _) J).2.1;omega
    .rw[ay J,aF (by omega)];omega
def OB (nT:Nat) (i:IT):Prop:=
 if i.1=6 then 0<=i.2.2.1/\i.2.2.1<=2 else if i.1=8 then 0<=i.2.1/\i.2.1<=2 else if i.1=7 then i.2.2.1=3/\i.2.2.2.2.1=2 else if i.1=9 then i.2.1=3/\i.2.2.2.2.1=2 else if i.1=11\/i.1=12 then i.2.1=0\/i.2.1=1 else if 13<=i.1/\i.1<=16 then i.2.1=2 else if 21<=i.1/\i.1<=23 then i.2.1=0 else if i.1=24\/i.1=25 then 0<=i.2.1/\i.2.1<(nT:Int) else if i.1=26 then i.2.1=0 else if i.1=27 then i.2.2.1=0 else if i.1=4 then 6<=i.2.2.2.2.1/\i.2.2.2.2.1<=18 else ¬i.1=3
structure GO (nT:Nat) (i:IT):Prop where
 o1:1<=i.1
 o2:i.1<=27
 r:∀ j:Int,j∈iO i->0<=j/\j<32
 b:OB nT i
def SO (ss:List (Int×Int×Int)) (t s:Int):Prop:=0<=s/\s<ss.length/\(aJ (T:=x_) ss s).1=t
structure GI (nT:Nat) (ss:List (Int×Int×Int)) (t:Int) (i:IT):Prop where
 o:GO nT i
 s:SO ss t i.2.2.2.2.2
theorem Uo (l:List IT) (hl:l.length<=1000000) (h1:1<=l.length) (hb:qT l 0 (l.length-1)) (he:(iA l (l.length-1)).1=28) (k:Nat) (hk:k<l.length):pl (l,(k:Int))=af ai:=by
 obtain⟨_,ρ,hρ⟩:=hb;refine cB ?_;unfold pl bf bx iH bA aY cK aE cE;refine qc (λx=>((l.length:Int)+1-x.2).toNat) (λx=>0<=x.2/\∃ q:Nat,x.1=(q:Int)/\q<l.length/\((if q<l.length-1 then ρ q else 0:Nat):Int)+x.2<=(l.length:Int)) ?_ ⟨by dsimp only;omega,k,rfl,hk,?_⟩
 .rintro⟨a,(n:Int)⟩ ⟨n0,q,e,hq,hr⟩;dsimp only at n0 e hr;subst e;refine eE (λ_=>?_) λg=>(by dsimp only[au] at g;omega)
  refine gB ?_;refine gB (bF (λg=>by dsimp only at g;omega) λ_=>ar ?_);refine fJ (by rw[kf];dsimp only[au];omega) ?_;refine b8 (aR ?_);refine aT (Fv _) ?_;refine em (λ_=>ar rfl) λhs=>?_
  have hs:1<=(iA l q).1/\(iA l q).1<=5:=bn hs;have J:q<l.length-1:=vF λh=>by rw[show q=l.length-1 by omega] at hs;rw[he] at hs;omega
  obtain⟨r1,r2,r3,Y⟩:=hρ q (li _) J;rw[aF J] at hr;refine b8 (aR ?_);have fin:∀ I:Nat,I=l.length-1\/I<l.length-1/\ρ I<ρ q->0<=n+1/\∃ q2:Nat,(I:Int)=(q2:Int)/\q2<l.length/\((if q2<l.length-1 then ρ q2 else 0:Nat):Int)+(n+1)<=(l.length:Int):=λI h=>⟨by omega,I,rfl,by omega,by
   rcases h with h|⟨h,h'⟩
   .rw[ay (by omega)];omega
   .rw[aF h];omega⟩
  refine aK (λM=>?_) λM=>ar (ar ?_)
  .obtain⟨I,e,U⟩:=r3 M;refine aS (dS _) (by dsimp only;omega) (aR (ar (ar ?_)));dsimp only;rw[hX (n:=n+1) (by omega) (by omega)];have:=fin I (U.imp id λh=>⟨h.2.1,h.2.2⟩);rw[<- e] at this;exact⟨this,by omega⟩
  .dsimp only;have M:¬(iA l q).1=5:=M;rw[hX (n:=n+1) (by omega) (by omega),gI (by omega)];refine ⟨fin (q+1) ?_,by omega⟩;rcases Y (by omega) with h|h
   .exact .inl h
   .by_cases hb:q+1=l.length-1
    .exact .inl hb
    .exact .inr ⟨by omega,h⟩
 .dsimp only;split
  .rename_i h;have:=(hρ k (li _) h).2.1;omega
  .omega
theorem KJ (w:WT) (I:w.1=C0):m6 (w,3,2)=af ai:=by
 refine cB ?_;have h0:(0:Int)<=3:=by decide
 have h1:(3:Int)<(w.1.length:Int):=by rw[I];decide
 have J:aJ (T:=P1) w.1 3=([113],0,2,aj,0):=by rw[I];rfl
 unfold m6 bf je bA aY aE;refine gB (aT (rY _ _) (aK (λ_=>?_) λh=>(h ⟨h0,h1⟩).elim));dsimp only;rw[J];refine aS h0 h1 (aR (aK (λ_=>?_) λh=>(h rfl).elim));refine aS h0 h1 (aR (ca (λ_=>?_) λh=>cR h (by decide)));exact aS h0 h1 (aR (ar (ar rfl)))
theorem N9 {nT:Nat} (w:WT) (i:IT) (hw:WX w) (hT:w.2.2.2.2.1.length=nT) (hb:OB nT i):lG (w,i)=af ai:=by
 obtain⟨hc,hl,hd,hf,_,_,_⟩:=hw;refine cB ?_;unfold lG aZ bk bw cA dV bf iH bA aY aE;unfold OB at hb;simp only[rY,WY];refine aK (λh=>?_) λn6=>?_
 .rw[aF h] at hb;have J:(aJ (T:=P1) w.1 i.2.2.1).2.2.1=(0:Int):=by
   rw[hc];rcases (by omega:i.2.2.1=0\/i.2.2.1=1\/i.2.2.1=2) with h|h|h<;>rw[h]<;>rfl
  have hi:0<=i.2.2.1/\i.2.2.1<(w.1.length:Int):=⟨hb.1,by rw[hc];have:=hb.2;show i.2.2.1<5;omega⟩
  exact gB (aK (λ_=>aS hi.1 hi.2 (aR (ar (ar (aQ J))))) λh=>(h hi).elim)
 rw[ay n6] at hb;refine aK (λh=>?_) λZ=>?_
 .rw[aF h] at hb;have J:(aJ (T:=P1) w.1 i.2.1).2.2.1=(0:Int):=by
   rw[hc];rcases (by omega:i.2.1=0\/i.2.1=1\/i.2.1=2) with h|h|h<;>rw[h]<;>rfl
  have hi:0<=i.2.1/\i.2.1<(w.1.length:Int):=⟨hb.1,by rw[hc];have:=hb.2;show i.2.1<5;omega⟩
  exact gB (aK (λ_=>aS hi.1 hi.2 (aR (ar (ar (aQ J))))) λh=>(h hi).elim)
 rw[ay Z] at hb;refine aK (λh=>?_) λn7=>?_
 .rw[aF h] at hb;rw[hb.1,hb.2];exact aT (KJ w hc) (ar rfl)
 rw[ay n7] at hb;refine aK (λh=>?_) λY=>?_
 .rw[aF h] at hb;rw[hb.1,hb.2];exact aT (KJ w hc) (ar rfl)
 rw[ay Y] at hb;refine aX (λx=>x.2=(w,i)/\(x.1=ai↔i.1=11\/i.1=12)) (aK (λh=>ar ⟨rfl,λ_=>.inl h,λ_=>aQ h⟩) λh=>ar ⟨rfl,λh2=>.inr (bn h2),λh2=>aQ (h2.resolve_left h)⟩) ?_;rintro⟨b,x⟩ ⟨e,M⟩;dsimp only at e M;subst e;refine aP (λh=>?_) λh=>?_
 .rw[aF (M.1 h)] at hb;have J:(aJ (T:=TZ) w.2.1 i.2.1).2=aj:=by
   rw[hl];rcases hb with h|h<;>rw[h]<;>rfl
  have hi:0<=i.2.1/\i.2.1<(w.2.1.length:Int):=⟨by omega,by rw[hl];show i.2.1<3;omega⟩
  exact gB (aK (λ_=>aS hi.1 hi.2 (aR (ar (ar (by dsimp only;rw[J];rfl))))) λh=>(h hi).elim)
 rw[ay λh2=>by rw[M.2 h2] at h;cases h] at hb;have hj:∀ {p:Prop} {b:Bool},(b=ai->p)->(p->b=ai)->b=aj->¬p:=λ_ h2 U I=>by rw[h2 I] at U;cases U
 refine aX (λx=>x.2=(w,i)/\(x.1=ai->13<=i.1/\i.1<=16)/\(13<=i.1/\i.1<=16->x.1=ai)) (aK (λh=>ar ⟨rfl,λ_=>by first|omega|(dsimp only at h;omega),λ_=>aQ h⟩) λ_=>aK (λh=>ar ⟨rfl,λ_=>by first|omega|(dsimp only at h;omega),λ_=>aQ h⟩) λ_=>aK (λh=>ar ⟨rfl,λ_=>by first|omega|(dsimp only at h;omega),λ_=>aQ h⟩) λ_=>ar ⟨rfl,λh=>by have:=bn h;first|omega|(dsimp only at this;omega),λh=>aQ (by first|omega|(dsimp only at *;omega))⟩) ?_;rintro⟨b,x⟩ ⟨e,h1,h2⟩;dsimp only at e h1 h2;subst e;refine aP (λh=>?_) λh=>?_
 .rw[aF (h1 h)] at hb;have hi:0<=i.2.1/\i.2.1<(w.2.1.length:Int):=⟨by omega,by rw[hl];show i.2.1<3;omega⟩
  exact gB (aK (λ_=>aS hi.1 hi.2 (aR (ar (ar (by dsimp only;rw[hb,hl];rfl))))) λh=>(h hi).elim)
 rw[ay (hj h1 h2 h)] at hb;refine aX (λx=>x.2=(w,i)/\(x.1=ai->21<=i.1/\i.1<=23)/\(21<=i.1/\i.1<=23->x.1=ai)) (aK (λh=>ar ⟨rfl,λ_=>by first|omega|(dsimp only at h;omega),λ_=>aQ h⟩) λ_=>aK (λh=>ar ⟨rfl,λ_=>by first|omega|(dsimp only at h;omega),λ_=>aQ h⟩) λ_=>ar ⟨rfl,λh=>by have:=bn h;first|omega|(dsimp only at this;omega),λh=>aQ (by first|omega|(dsimp only at *;omega))⟩) ?_;rintro⟨b,x⟩ ⟨e,h1,h2⟩;dsimp only at e h1 h2;subst e;refine aP (λh=>?_) λh=>?_
 .rw[aF (h1 h)] at hb;exact ar (aQ ⟨by dsimp only;omega,by dsimp only;rw[hd];show i.2.1<1;omega⟩)
 rw[ay (hj h1 h2 h)] at hb;refine aX (λx=>x.2=(w,i)/\(x.1=ai->i.1=24\/i.1=25)/\(i.1=24\/i.1=25->x.1=ai)) (aK (λh=>ar ⟨rfl,λ_=>.inl h,λ_=>aQ h⟩) λh=>ar ⟨rfl,λh2=>.inr (bn h2),λh2=>aQ (h2.resolve_left h)⟩) ?_;rintro⟨b,x⟩ ⟨e,h1,h2⟩;dsimp only at e h1 h2;subst e;refine aP (λh=>?_) λh=>?_
 .rw[aF (h1 h)] at hb;exact ar (aQ ⟨hb.1,by dsimp only;rw[hT];exact hb.2⟩)
 rw[ay (hj h1 h2 h)] at hb;refine aK (λh=>?_) λn=>?_
 .rw[aF h] at hb;exact ar (aQ ⟨by dsimp only;omega,by dsimp only;rw[hf];show i.2.1<1;omega⟩)
 rw[ay n] at hb;refine aK (λh=>?_) λn=>?_
 .rw[aF h] at hb;exact ar (aQ ⟨by dsimp only;omega,by dsimp only;rw[hf];show i.2.2.1<1;omega⟩)
 rw[ay n] at hb;by_cases I:i.1=4
 .rw[aF I] at hb;refine aK (λh=>by have h:i.1=3:=h;omega) λ_=>aK (λ_=>?_) λh=>(h I).elim
  refine gB (eE (λ_=>ar (ar (HO.2 hb.2))) λh=>by dsimp only at h;omega)
 .rw[ay I] at hb;exact aK (λh=>(hb h).elim) λ_=>aK (λh=>(I h).elim) λ_=>ar rfl
structure GC (nT:Nat) (ss:List (Int×Int×Int)) (k:Int) (c:Int×List IT):Prop where
 r0:1<=c.1
 r1:c.1<=32
 n:1<=c.2.length
 u:c.2.length<=1000000
 e:(iA c.2 (c.2.length-1)).1=28/\(iA c.2 (c.2.length-1)).2.2.2.2.2= -1
 b:qT c.2 0 (c.2.length-1)
 i:∀ q:Nat,q<c.2.length-1->GI nT ss k (iA c.2 q)
 r:∀ q:Nat,q<c.2.length-1->(iA c.2 q).1=10->0<=(iA c.2 q).2.2.1/\(iA c.2 q).2.2.1<(c.2.length:Int)
 g:∀ q:Nat,q<c.2.length-1->∀ j:Int,j∈iO (iA c.2 q)->j<c.1
theorem Ee {nT:Nat} {w:WT} {k:Int} {c:Int×List IT} (hw:WX w) (hT:w.2.2.2.2.1.length=nT) (hc:GC nT w.2.2.2.2.2 k c):im (w,k,c)=af ai:=by
 obtain⟨r0,r1,n1,hu,he,hb,hi,hr,hg⟩:=hc;refine cB ?_;unfold im aZ bk bw cA bL cX pZ bf bx je bA aY cK aE cE;refine aX (λx=>x.2=(w,c)/\x.1=aj) ?_ ?_
 .refine bF (λh=>by have h:c.1<0:=h;omega) λ_=>bF (λh=>by have h:32<c.1:=h;omega) λ_=>ar ⟨rfl,bG λh=>by have h:aO c.2.length=0:=h;dsimp only[au] at h;omega⟩
 rintro⟨b,x⟩ ⟨e,Y⟩;dsimp only at e Y;subst e;subst Y;refine gd ?_;refine bZ c.2.length (λi x=>x.1=(i:Int)/\x.2=(w,c)) ?_ ?_ ⟨rfl,rfl⟩
 .rintro i ⟨a,x⟩ hi2 ⟨e1,e2⟩;dsimp only at e1 e2;subst e1;subst e2;have hla:=Uo c.2 hu n1 hb he.1 i hi2;have Z:∀ z:IT,z=iA c.2 i->(i<c.2.length-1->GI nT w.2.2.2.2.2 k z/\(z.1=10->0<=z.2.2.1/\z.2.2.1<(c.2.length:Int))/\(z.1=5->0<=z.2.1/\z.2.1<(c.2.length:Int))/\∀ j:Int,j∈iO z->j<c.1)/\(i=c.2.length-1->z.1=28/\z.2.2.2.2.2= -1):=λz Z=>by
   subst Z;refine ⟨λh=>⟨hi i h,hr i h,λh5=>?_,hg i h⟩,λh=>by rw[h];exact he⟩;obtain⟨_,ρ,hρ⟩:=hb;obtain⟨q',e,hq'⟩:=(hρ i (li _) h).2.2.1 h5;rw[e];omega
  refine dk ?_;refine b8 (aR ?_);generalize hzz:(aJ (T:=BD) c.2 (i:Int))=z;obtain⟨I,J⟩:=Z z hzz.symm;have hcs:i<c.2.length-1\/i=c.2.length-1:=by omega
  have o1:1<=z.1:=by
   rcases hcs with h|h
   .exact (I h).1.o.o1
   .rw[(J h).1];decide
  have o2:z.1<=28:=by
   rcases hcs with h|h
   .exact Int.le_trans (I h).1.o.o2 (by decide)
   .rw[(J h).1];decide
  have M:z.1=28->i=c.2.length-1:=λh=>hcs.resolve_left λg=>by have:=(I g).1.o.o2;rw[h] at this;exact cR this (by decide)
  have hob:OB nT z:=by
   rcases hcs with h|h
   .exact (I h).1.o.b
   .unfold OB;rw[(J h).1];simp
  have hrg:∀ j:Int,j∈iO z->0<=j/\j<c.1:=λj hj=>by
   rcases hcs with h|h
   .exact⟨((I h).1.o.r j hj).1,(I h).2.2.2 j hj⟩
   .unfold iO at hj;rw[(J h).1] at hj;simp at hj
  have hwr:bc .i64 (aO c.2.length-1)=((c.2.length-1:Nat):Int):=by rw[hX (by dsimp only[au];omega) (by dsimp only[au];omega)];dsimp only[au];omega
  have hcd:((decide (z.1=28)==decide ((i:Int)=bc .i64 (aO c.2.length-1))) !=ai)=aj:=by
   rw[hwr];rcases hcs with h|h
   .rw[bG λh2=>by have:=M h2;omega,bG (by omega:¬(i:Int)=((c.2.length-1:Nat):Int))];rfl
   .rw[aQ (J h).1,aQ (by omega:(i:Int)=((c.2.length-1:Nat):Int))];rfl
  refine aX (λx=>x=(aj,w,c,z)) ?_ ?_
  .refine bF (λh=>cR h (Ck.2 o1)) λ_=>bF (λh=>cR h (Ck.2 o2)) λ_=>fJ hcd ?_
   refine aT (N9 w z hw hT hob) (fJ rfl (aT hla (ar rfl)))
  rintro x rfl;refine gd (aX (λx=>x=(aj,w,c,z)) ?_ ?_)
  .simp only[rY,WY];refine aK (λh=>?_) λh=>?_
   .have h5:=(J (M h)).2;exact ca (λg=>(g h5).elim) λ_=>ca (λg=>(g h).elim) λ_=>ar rfl
   .have hsi:=(I (hcs.resolve_right λg=>h (J g).1)).1.s;refine ca (λ_=>ca (λg=>(g ⟨hsi.1,hsi.2.1⟩).elim) λg=>aS g.1 g.2 (aR (ar ?_))) λg=>(h g).elim
    rw[aQ hsi.2.2];rfl
  rintro x rfl;refine gd (aX (λx=>x=(aj,w,c,z)) ?_ ?_)
  .simp only[rY,WY];have U:z.1=5\/z.1=10->i<c.2.length-1:=λh=>hcs.resolve_right λg=>by rw[(J g).1] at h;exact cR h (by decide)
   refine aK (λh=>?_) λh=>?_
   .have h2:=(I (U (.inl h))).2.2.1 h;refine ca (λg=>(g h2).elim) λ_=>aK (λg=>?_) λ_=>ar rfl
    rw[h] at g;exact cR g (by decide)
   .refine aK (λg=>ar ?_) λ_=>ar rfl
    have h2:=(I (U (.inr g))).2.1 g;rw[aQ (show 0<=z.2.2.1/\z.2.2.1<aO c.2.length from h2)];rfl
  rintro x rfl;refine gd (aT (tM z) ?_);have hrl:=CI z;refine bZ (iO z).length (λj x=>x=((j:Int),w,c)) ?_ ?_ rfl
  .rintro j x hj rfl;refine dk ?_;refine b8 (aR ?_);refine aT (rY _ _) (ca (λg=>(g (hrg _ (bJ (T:=.int .i64) (xs:=iO z) (j:=(j:Int)) (by omega) (by omega)))).elim) λ_=>ar ?_);dsimp only;rw[gI (by omega)]
  .rintro x rfl;exact dg (ar ⟨gI (by omega),rfl⟩)
 .rintro⟨a,x⟩ ⟨e1,e2⟩;dsimp only at e1 e2;subst e1;subst e2;exact dg (ar rfl)
abbrev GN:Type:=List (List UInt8×Int×Int×Bool×Int)×List (List UInt8×Bool)×List (List UInt8×Int)×List (List UInt8)×List (List UInt8)×List (Int×Int×Int)×List (List UInt8)×Int×Int
theorem MQ (l:List (List UInt8×Bool)) (s:List UInt8) (hl:l.length<=1000):Ok (j_ (l,s)) λr=> -1<=r/\r<l.length/\(0<=r->(aJ (T:=TZ) l r).1=s)/\(r<0->∀ c∈l,c.1≠s):=by
 unfold j_ bx bA aY cK aE cE;refine bZ l.length (λi x=>x=(i:Int)/\∀ k:Nat,k<i->(aJ (T:=TZ) l (k:Int)).1≠s) ?_ ?_ ⟨rfl,λk hk=>by omega⟩
 .rintro i x hi ⟨rfl,I⟩;refine dk ?_;refine b8 (aR ?_);refine aK (λh=>ar ⟨by omega,by omega,λ_=>h,λh=>by omega⟩) λh=>ar ⟨gI (by omega),λk hk=>?_⟩
  rcases b9 k i with h1|h1
  .exact I k h1
  .rw[show k=i by omega];exact h
 .rintro x ⟨rfl,I⟩;exact dg (ar ⟨by omega,by omega,λh=>by omega,λ_=>ir (T:=TZ) (p:=λc=>c.1≠s) I⟩)
theorem ahd {r:Int} {s:List UInt8} (h: -1<=r/\r<GY.length/\(0<=r->(aJ (T:=TZ) GY r).1=s)/\(r<0->∀ c∈GY,c.1≠s)):(s=[109]->r=0)/\(s=[110]->r=1)/\(s=[114]->r=2):=by
 obtain⟨h0,h1,h2,I⟩:=h;have h1:r<3:=h1;rcases (by omega:r= -1\/r=0\/r=1\/r=2) with rfl|rfl|rfl|rfl
 .have I:=I (by decide);exact⟨λh=>(I ([109],aj) (by decide) h.symm).elim,λh=>(I ([110],aj) (by decide) h.symm).elim,λh=>(I ([114],ai) (by decide) h.symm).elim⟩
 .have h2:[109]=s:=h2 (by decide);subst h2;exact⟨λ_=>rfl,λh=>(by cases h),λh=>(by cases h)⟩
 .have h2:[110]=s:=h2 (by decide);subst h2;exact⟨λh=>(by cases h),λ_=>rfl,λh=>(by cases h)⟩
 .have h2:[114]=s:=h2 (by decide);subst h2;exact⟨λh=>(by cases h),λh=>(by cases h),λ_=>rfl⟩
theorem As (w:WT) (s:List UInt8) (J:w.1=C0):Ok (lx (w,s)) λr=>(s∈NV->s∉L0->0<=r/\r<=2)/\(s=[113]->r=3):=by
 have hl:w.1.length=5:=by rw[J];rfl
 unfold lx bx bA aY cK aE cE;refine bZ w.1.length (λi x=>x.1=(i:Int)/\x.2=w/\∀ k:Nat,k<i->(aJ (T:=P1) w.1 (k:Int)).1≠s) ?_ ?_ ⟨rfl,rfl,λk hk=>by omega⟩
 .rintro i ⟨a,x⟩ hi ⟨e1,e2,e3⟩;dsimp only at e1 e2 e3;subst e1;have e2:=e2.symm;subst e2;refine dk ?_;refine b8 (aR ?_);refine aK (λh=>ar ?_) λg=>ar ?_
  .rw[J] at h e3;rw[hl] at hi;rcases (by omega:i=0\/i=1\/i=2\/i=3\/i=4) with rfl|rfl|rfl|rfl|rfl
   .have h:[120]=s:=h;subst h;exact⟨λ_ _=>⟨by dsimp only;omega,by dsimp only;omega⟩,λh=>(by cases h)⟩
   .have h:[121]=s:=h;subst h;exact⟨λ_ _=>⟨by dsimp only;omega,by dsimp only;omega⟩,λh=>(by cases h)⟩
   .have h:[118]=s:=h;subst h;exact⟨λ_ _=>⟨by dsimp only;omega,by dsimp only;omega⟩,λh=>(by cases h)⟩
   .have h:[113]=s:=h;subst h;exact⟨λh=>cR h (by decide),λ_=>rfl⟩
   .have h:[113]=s:=h;exact (e3 3 (by omega) h).elim
  .refine ⟨gI (by omega),rfl,λk hk=>?_⟩;rcases b9 k i with h1|h1
   .exact e3 k h1
   .rw[show k=i by omega];exact g
 .rintro⟨a,x⟩ ⟨e1,e2,e3⟩;dsimp only at e1 e2 e3;subst e1;have e2:=e2.symm;subst e2;refine dg (ar ?_);have hn:=ir (T:=P1) (p:=λc=>c.1≠s) e3;rw[J] at hn;have a1:=hn ([120],0,0,aj,0) (by decide);have a2:=hn ([121],0,0,aj,1) (by decide);have a3:=hn ([118],0,0,ai,0) (by decide);have M:=hn ([113],0,2,aj,0) (by decide);refine ⟨λh I=>?_,λh=>(M h.symm).elim⟩;simp only[bm,cw,gi,L0] at h I;rcases h with rfl|rfl|rfl|rfl|rfl
  .exact (I (.inl rfl)).elim
  .exact (I (.inr rfl)).elim
  .exact (a1 rfl).elim
  .exact (a2 rfl).elim
  .exact (a3 rfl).elim
theorem In (i:IT) (g:GN) (out:List IT) (h:out.length<=100000000):Ok (cD (i,g,out)) λy=>y.1=g/\y.2=out++[(i.1,i.2.1,i.2.2.1,i.2.2.2.1,i.2.2.2.2.1,g.2.2.2.2.2.2.2.1)]:=by
 unfold cD aZ bk bw kE bB;exact bh (by simp;omega) (by omega) (ar ⟨rfl,rfl⟩)
def VE:Nat->Nat
 |0=>0
 |d+1=>1+2*VE d
theorem IW {l m:List IT} {k:Nat} (h:k<l.length):iA (l++m) k=iA l k:=by
 unfold iA;rw[yK,yK,aA,aA,bO h]
theorem xA (l:List IT) (x:IT):iA (l++[x]) l.length=x:=by
 unfold iA;rw[yK,aA,b_ (bW _)];simp
structure QC (nT:Nat) (ss:List (Int×Int×Int)) (t:Int) (n:Nat) (out o:List IT):Prop where
 l:out.length<=o.length
 u:o.length<=out.length+n
 p:∀ k:Nat,k<out.length->iA o k=iA out k
 b:qT o out.length o.length
 i:∀ k:Nat,out.length<=k->k<o.length->GI nT ss t (iA o k)
 r:∀ k:Nat,out.length<=k->k<o.length->(iA o k).1=10->0<=(iA o k).2.2.1/\(iA o k).2.2.1<=(o.length:Int)
variable {nT:Nat} {ss:List (Int×Int×Int)} {t:Int}
theorem QC.nil (n:Nat) (out:List IT):QC nT ss t n out out:=⟨bW _,by omega,λ_ _=>rfl,qT.nil _ _,λk h1 h2=>by omega,λk h1 h2=>by omega⟩
theorem QC.trans {a b c:Nat} {x y z:List IT} (h:QC nT ss t a x y) (k:QC nT ss t b y z) (hc:a+b<=c):QC nT ss t c x z:=by
 obtain⟨h1,h2,h3,h4,h5,h6⟩:=h;obtain⟨k1,k2,I,k4,Z,Y⟩:=k;refine ⟨by omega,by omega,λq hq=>(I q (by omega)).trans (h3 q hq),(h4.congr λq _ hq=>I q hq).app k4,λq U M=>?_,λq U M J=>?_⟩
 .by_cases hq:q<y.length
  .rw[I q hq];exact h5 q U hq
  .exact Z q (by omega) M
 .by_cases hq:q<y.length
  .rw[I q hq] at J ⊢;have:=h6 q U hq J;omega
  .exact Y q (by omega) M J
theorem QC.one {out:List IT} {i:IT} (h:GI nT ss t i) (I:¬i.1=5/\¬i.1=10):QC nT ss t 1 out (out++[i]):=by
 have hl:(out++[i]).length=out.length+1:=by rw[bu];rfl
 refine ⟨by omega,by omega,λk hk=>IW hk,?_,λk h1 h2=>?_,λk h1 h2 J=>?_⟩
 .rw[hl];exact qT.one (by rw[xA];exact I.1)
 .rw[show k=out.length by omega,xA];exact h
 .rw[show k=out.length by omega,xA] at J;exact (I.2 J).elim
structure GK (ss:List (Int×Int×Int)) (t:Int) (g:GN):Prop where
 c:g.1=C0
 l:g.2.2.2.2.2.2.1=L0
 s:SO ss t g.2.2.2.2.2.2.2.1
theorem Yz {nT:Nat} {op A B C N Z:Int} (h1:1<=op) (h2:op<=27) (hr:∀ j:Int,j∈iO (op,A,B,C,N,Z)->0<=j/\j<32) (hb:OB nT (op,A,B,C,N,Z)):GO nT (op,A,B,C,N,Z):=⟨h1,h2,hr,hb⟩
theorem Ek {op:Int} {r:Int×Int×Int×Int×Int} {g:GN} {out:List IT} (h:out.length<=100000000) (hg:GK ss t g) (hi:GO nT (op,r)) (J:¬op=5/\¬op=10):Ok (cD ((op,r),g,out)) λy=>y.1=g/\QC nT ss t 1 out y.2:=(In (op,r) g out h).mono λy I=>⟨I.1,by rw[I.2];exact QC.one ⟨⟨hi.o1,hi.o2,hi.r,hi.b⟩,hg.s⟩ J⟩
theorem MX:∀ (n d:Nat),d<n->∀ (e:Xp) (k:Int) (g:GN) (out:List IT),GE d e->GK ss t g->0<=k->k+d<=31->out.length+VE d<=100000000->Ok (iK n ((e,k),g,out)) λy=>y.1=g/\QC nT ss t (VE d) out y.2
 |0,_,h,_,_,_,_,_,_,_,_,_=>by omega
 |n+1,0,_,e,_,_,_,h,_,_,_,_=>h.elim
 |n+1,d+1,hn,e,k,g,out,h,hg,k0,k1,hb=>by
  obtain⟨h1,h2,h3,h4,h5,h6⟩:=h;obtain⟨U,gl,gs⟩:=id hg;have hv:VE (d+1)=1+2*VE d:=rfl;rw[AG];unfold qD aZ bk bw cA dV bf iH bB bA aE cE;refine aX (λy=>y.1=g/\QC nT ss t (VE (d+1)) out y.2) ?_ λx hx=>ar hx
  have fin:∀ {y:GN×List IT},(y.1=g/\QC nT ss t 1 out y.2)->y.1=g/\QC nT ss t (VE (d+1)) out y.2:=λh=>⟨h.1,(QC.nil 0 out).trans h.2 (by omega)⟩
  refine aK (λ_=>?_) λn1=>?_
  .refine ax (Ek (nT:=nT) (by omega) hg (Yz (by decide) (by decide) (by simp[iO];omega) ((by decide:¬(1:Int)=3))) (by decide)) λy I=>bg (by simp) (ar (fin I))
  refine aK (λM=>?_) λM=>?_
  .refine ax (yF _ _ (by dsimp only;rw[gl];decide)) λv hv=>eE (λg0=>?_) λg0=>?_
   .have v1:=hv.2.1;dsimp only at v1 g0;rw[gl] at v1;have v1:v<2:=v1;refine ax (Ek (nT:=nT) (by omega) hg (Yz (by decide) (by decide) (by simp[iO];omega) ((by decide:¬(2:Int)=3))) (by decide)) λy I=>bg (by simp) (ar (fin I))
   .have v1:=hv.2.2.2 g0;dsimp only at v1;rw[gl] at v1;refine ax (As _ _ U) λv J=>?_
    have v2:=J.1 (h5 M) v1;refine ax (Ek (nT:=nT) (by omega) hg (Yz (by decide) (by decide) (by simp[iO];omega) (v2)) (by decide)) λy I=>bg (by simp) (ar (fin I))
  have hl:=h2 n1 M;have hrec:∀ (j:Nat),j<e.l.length->∀ (k':Int) (o:List IT),0<=k'->k'+d<=31->o.length+VE d<=100000000->Ok (iK n ((aJ (T:=.ex) e.l (j:Int),k'),g,o)) λy=>y.1=g/\QC nT ss t (VE d) o y.2:=λj hj k' o q0 q1 ho=>MX n d (by omega) _ k' g o (h4 _ (bJ (T:=.ex) (xs:=e.l) (j:=(j:Int)) (by omega) (by omega))) hg q0 q1 ho
  refine aK (λZ=>?_) λZ=>?_
  .refine b8 (aR ?_);refine ax (hrec 0 hl k out k0 (by omega) (by omega)) λy I=>?_
   obtain⟨g2,o2⟩:=y;obtain⟨q1,q2⟩:=I;dsimp only at q1 q2;subst q1;have q3:=q2.u;refine bg (by simp) ?_;refine ax (As _ _ U) λv J=>?_
   have Y:=J.2 (h1 Z);have Y:v=3:=Y;subst Y;refine aS (by decide) (by dsimp only;rw[U];decide) (aR ?_);refine ax (Ek (nT:=nT) (by omega) hg (Yz (by decide) (by decide) (by simp[iO];omega) (⟨rfl,by dsimp only;rw[U];rfl⟩)) (by decide)) λy I=>bg (by simp) (ar ⟨I.1,q2.trans I.2 (by omega)⟩)
  obtain⟨h7,h8,h9⟩:=h6 n1 M Z;refine aK (λn4=>?_) λn4=>?_
  .dsimp only[au] at n4;omega
  .have hl2:1<e.l.length:=by omega
   refine b8 (aR ?_);refine ax (hrec 0 hl k out k0 (by omega) (by omega)) λy I=>?_
   obtain⟨g2,o2⟩:=y;obtain⟨q1,q2⟩:=I;dsimp only at q1 q2;subst q1;have q3:=q2.u;refine bg (by simp) ?_;refine b8 (aR ?_);dsimp only;rw[hX (n:=k+1) (by omega) (by omega)];refine ax (hrec 1 hl2 _ o2 (by omega) (by omega) (by omega)) λy I=>?_
   obtain⟨g3,o3⟩:=y;obtain⟨r1,r2⟩:=I;dsimp only at r1 r2;subst r1;have r3:=r2.u;refine bg (by simp) ?_;refine ax (Ek (nT:=nT) (by omega) hg (Yz (by decide) (by decide) (by simp[iO];omega) (⟨h8,h9⟩)) (by decide)) λy I=>bg (by simp) (ar ⟨I.1,(q2.trans r2 (bW _)).trans I.2 (by omega)⟩)
theorem TW (e:Xp) (k:Int) (g:GN) (out:List IT) (he:GE 4 e) (hg:GK ss t g) (I:0<=k) (k1:k<=27) (h:out.length<=99999900):Ok (iJ ((e,k),g,out)) λy=>y.1=g/\QC nT ss t 15 out y.2:=MX fuel 4 (by rw[jQ];omega) e k g out he hg I (by omega) (by have:VE 4=15:=rfl;omega)
structure GB (nT:Nat) (g:GN):Prop where
 c:g.1=C0
 l:g.2.1=GY
 d:g.2.2.1=Ms
 f:g.2.2.2.1=Tk
 t:g.2.2.2.2.1=v9.take nT
 h:g.2.2.2.2.2.2.1=L0
structure GQ (g y:GN):Prop where
 a:y.1=g.1
 b:y.2.1=g.2.1
 c:y.2.2.1=g.2.2.1
 d:y.2.2.2.1=g.2.2.2.1
 e:y.2.2.2.2.1=g.2.2.2.2.1
 h:y.2.2.2.2.2.2.1=g.2.2.2.2.2.2.1
theorem GQ.refl (g:GN):GQ g g:=⟨rfl,rfl,rfl,rfl,rfl,rfl⟩
theorem GQ.trans {a b c:GN} (h:GQ a b) (k:GQ b c):GQ a c:=⟨k.a.trans h.a,k.b.trans h.b,k.c.trans h.c,k.d.trans h.d,k.e.trans h.e,k.h.trans h.h⟩
variable {nT:Nat} {ss:List (Int×Int×Int)} {t:Int}
theorem GB.of {g y:GN} (h:GB nT g) (q:GQ g y):GB nT y:=⟨q.a.trans h.c,q.b.trans h.l,q.c.trans h.d,q.d.trans h.f,q.e.trans h.t,q.h.trans h.h⟩
theorem GQ.site (g:GN) (x:List (Int×Int×Int)) (a b:Int):GQ g (g.1,g.2.1,g.2.2.1,g.2.2.2.1,g.2.2.2.2.1,x,g.2.2.2.2.2.2.1,a,b):=⟨rfl,rfl,rfl,rfl,rfl,rfl⟩
abbrev gS (g:GN):Int:=g.2.2.2.2.2.2.2.1
abbrev gN (g:GN):Int:=g.2.2.2.2.2.2.2.2
structure QG (nT:Nat) (ss:List (Int×Int×Int)) (t:Int) (n m:Nat) (g:GN) (out:List IT) (y:GN×List IT):Prop where
 q:GQ g y.1
 c:QC nT ss t n out y.2
 x:gN y.1=gN g+(m:Int)
theorem xq {op:Int} {r:Int×Int×Int×Int×Int} {g:GN} {out:List IT} (h:out.length<=100000000) (hg:GB nT g) (hs:SO ss t (gS g)) (hi:GO nT (op,r)) (I:¬op=5/\¬op=10):Ok (cD ((op,r),g,out)) λy=>y.1=g/\QC nT ss t 1 out y.2:=Ek h ⟨hg.c,hg.h,hs⟩ hi I
theorem Cv (e:Xp) (k:Int) (g:GN) (out:List IT) (he:GE 4 e) (hg:GB nT g) (hs:SO ss t (gS g)) (I:0<=k) (k1:k<=27) (h:out.length<=99999000):Ok (iJ ((e,k),g,out)) λy=>y.1=g/\QC nT ss t 15 out y.2:=TW e k g out he ⟨hg.c,hg.h,hs⟩ I k1 (by omega)
theorem GB.len {g:GN} (h:GB nT g):aO (al g.2.2.2.2.2.2.1)=2:=by rw[h.h];rfl
theorem V4 (s:Sx) (g:GN) (out:List IT) (h1:s.index≠[]->s.name=[113]) (h2:∀ e∈s.index,GE 4 e) (h3:GE 4 s.expr) (h4:s.index=[]->s.name∈NV) (hg:GB nT g) (hs:SO ss t (gS g)) (h:out.length<=99990000):Ok (lY (s,g,out)) λy=>y.1=g/\QC nT ss t 40 out y.2:=by
 have hex:GE 4 (d_ (Xp.op s.expr,Xp.n s.expr,Xp.name s.expr,Xp.l s.expr)):=by rw[fh];exact h3
 have e3:bc .i64 ((2:Int)+1)=3:=hX (by decide) (by decide);unfold lY aZ bk bw cA dV bx iH bB bA aY;refine bF (λJ=>?_) λJ=>?_
 .dsimp only[au] at J;refine b8 (aR ?_);refine ax (Cv _ _ g out (h2 _ (bJ (T:=.ex) (xs:=s.index) (j:=0) (by omega) (by omega))) hg hs (by rw[hg.len];decide) (by rw[hg.len];decide) (by omega)) λy I=>?_
  obtain⟨Z,o2⟩:=y;obtain⟨q1,q2⟩:=I;dsimp only at q1 q2;subst q1;have q3:=q2.u;refine bg (by simp) ?_;dsimp only;rw[hg.len,e3];refine ax (Cv _ _ Z o2 hex hg hs (by decide) (by decide) (by omega)) λy I=>?_
  obtain⟨g3,o3⟩:=y;obtain⟨r1,r2⟩:=I;dsimp only at r1 r2;subst r1;have r3:=r2.u;refine bg (by simp) ?_;refine ax (As _ _ hg.c) λv hv=>?_
  have M:=hv.2 (h1 (λh=>by rw[h] at J;simp at J));have M:v=3:=M;subst M;refine aS (by decide) (by dsimp only;rw[hg.c];decide) (aR ?_);refine ax (xq (by omega) hg hs (Yz (by decide) (by decide) (by simp[iO,hg.h,L0]) (⟨rfl,by dsimp only;rw[hg.c];rfl⟩)) (by decide)) λy I=>bg (by simp) (ar ⟨I.1,(q2.trans r2 (bW _)).trans I.2 (by omega)⟩)
 .have Y:s.index=[]:=gM.1 (by dsimp only[au] at J;omega);refine ax (Cv _ _ g out hex hg hs (by rw[hg.len];decide) (by rw[hg.len];decide) (by omega)) λy I=>?_
  obtain⟨Z,o2⟩:=y;obtain⟨q1,q2⟩:=I;dsimp only at q1 q2;subst q1;have q3:=q2.u;refine bg (by simp) ?_;refine ax (yF _ _ (by dsimp only;rw[hg.h];decide)) λv hv=>eE (λJ=>?_) λJ=>?_
  .have v1:=hv.2.1;dsimp only at v1 J;rw[hg.h] at v1;have v1:v<2:=v1;refine ax (xq (by omega) hg hs (Yz (by decide) (by decide) (by simp[iO,hg.h,L0];omega) ((by decide:¬(2:Int)=3))) (by decide)) λy I=>bg (by simp) (ar ⟨I.1,q2.trans I.2 (by omega)⟩)
  .have v1:=hv.2.2.2 J;dsimp only at v1;rw[hg.h] at v1;refine ax (As _ _ hg.c) λv U=>?_
   have v2:=U.1 (h4 Y) v1;refine ax (xq (by omega) hg hs (Yz (by decide) (by decide) (by simp[iO,hg.h,L0]) (v2)) (by decide)) λy I=>bg (by simp) (ar ⟨I.1,q2.trans I.2 (by omega)⟩)
theorem ac0 (s:List UInt8) (g:GN) (out:List IT) (hg:GB nT g):Ok (jt (s,g,out)) λy=>y.2=(g,out)/\(s=[99]->y.1=0):=by
 have hd:g.2.2.1.length=1:=by rw[hg.d];rfl
 unfold jt aZ bx bA aY cK aE cE;refine bZ 1 (λi x=>x.1=(i:Int)/\x.2=(g,out)/\(s=[99]->i=0)) ?_ ?_ ⟨rfl,rfl,λ_=>rfl⟩
 .rintro i ⟨a,x⟩ hi ⟨e1,e2,e3⟩;dsimp only at e1 e2 e3;subst e1;subst e2;refine dk ?_;refine b8 (aR ?_);refine aK (λ_=>ar ⟨rfl,λ_=>by dsimp only;omega⟩) λh=>ar ⟨gI (by omega),rfl,λh2=>?_⟩
  refine (h ?_).elim;dsimp only;rw[hg.d,show i=0 by omega,h2];rfl
 .rintro⟨a,x⟩ ⟨e1,e2,e3⟩;dsimp only at e1 e2 e3;subst e1;subst e2;exact dg (ar ⟨rfl,λh=>by have:=e3 h;omega⟩)
def ME:Nat->Nat
 |0=>0
 |d+1=>50+16*ME d
def SR (ss:List (Int×Int×Int)) (t a:Int) (m:Nat):Prop:=0<=a/\a+m<=1000/\∀ i:Int,a<=i->i<a+m->SO ss t i
def SpG (nT:Nat) (ss:List (Int×Int×Int)) (t:Int) (I:Sx×GN×List IT->Option (GN×List IT)) (d:Nat):Prop:=∀ (s:Sx) (g:GN) (out:List IT),GS nT d s->GB nT g->SR ss t (gN g) (PQ d s)->out.length+ME d<=90000000->Ok (I (s,g,out)) (QG nT ss t (ME d) (PQ d s) g out)
def acx (nT:Nat) (ss:List (Int×Int×Int)) (t:Int) (rs:List Sx×GN×List IT->Option (GN×List IT)) (d:Nat):Prop:=∀ (l:List Sx) (g:GN) (out:List IT),l.length<=100->(∀ s∈l,GS nT d s)->GB nT g->SR ss t (gN g) (nC d l)->out.length+l.length*ME d<=90000000->Ok (rs (l,g,out)) (QG nT ss t (l.length*ME d) (nC d l) g out)
abbrev FS6:Type:=List Sx×GN×List IT->Option (GN×List IT)
abbrev FT6:Type:=Sx×GN×List IT->Option (GN×List IT)
abbrev FA6:Type:=(Sx×Int×Int×Int)×GN×List IT->Option (GN×List IT)
variable {nT:Nat} {ss:List (Int×Int×Int)} {t:Int}
def ajv (nT:Nat) (ss:List (Int×Int×Int)) (t:Int) (I:FT6) (d:Nat):Prop:=∀ (s:Sx) (g:GN) (out:List IT),s.op=2\/s.op=3->GE 4 s.expr->s.body.length<=8->s.els.length<=8->(∀ x∈s.body,GS nT d x)->(∀ x∈s.els,GS nT d x)->(¬s.op=2->s.els=[])->GB nT g->SO ss t (gS g)->SR ss t (gN g) (nC d s.body+nC d s.els)->out.length+ME (d+1)<=90000000->Ok (I (s,g,out)) (QG nT ss t (17+16*ME d) (nC d s.body+nC d s.els) g out)
def ajw (nT:Nat) (ss:List (Int×Int×Int)) (t:Int) (ra:FA6) (d:Nat):Prop:=∀ (s:Sx) (a b c:Int) (g:GN) (out:List IT),s.body.length<=8->(∀ x∈s.body,GS nT d x)->GO nT (a,c,0,0,0,0)->GO nT (b,c,0,0,0,0)->¬a=5/\¬a=10->¬b=5/\¬b=10->GB nT g->SO ss t (gS g)->SR ss t (gN g) (nC d s.body)->out.length+ME (d+1)<=90000000->Ok (ra ((s,a,b,c),g,out)) (QG nT ss t (17+16*ME d) (nC d s.body) g out)
theorem SR.sub {a b:Int} {m n:Nat} (h:SR ss t a m) (h1:a<=b) (h2:b+n<=a+m):SR ss t b n:=⟨by have:=h.1;omega,by have:=h.2.1;omega,λi J I=>h.2.2 i (by omega) (by omega)⟩
theorem U2 (rs:FS6) (J:FT6) (U:FT6) (ra:FA6) (d:Nat) (ht:SpG nT ss t J d):acx nT ss t (qE rs J U ra) d:=by
 intro l g out hl hs hg hso hb;unfold qE bx bB bA aY cK aE cE;refine bZ l.length (λi x=>x.1=(i:Int)/\QG nT ss t (i*ME d) (nC d (l.take i)) g out x.2) ?_ ?_ ⟨rfl,GQ.refl g,QC.nil _ _,by simp[nC]⟩
 .rintro i ⟨a,M,o2⟩ hi ⟨e1,q1,q2,q3⟩;dsimp only at e1 q1 q2 q3;subst e1;have Y:(i+1)*ME d<=l.length*ME d:=cH _ (by omega);have hKs:=iR i (ME d);rw[Nat.succ_eq_add_one] at hKs;have hp:=Pc (d:=d) l (i+1);rw[wZ hi] at hp;have q4:=q2.u;refine dk ?_;refine b8 (aR ?_);refine ax (ht _ M o2 (hs _ (bJ (T:=.sm) (xs:=l) (j:=(i:Int)) (by omega) (by omega))) (hg.of q1) (hso.sub (by rw[q3];omega) (by rw[q3];dsimp only;omega)) (by omega)) λy I=>bg (by simp) (ar ?_)
  rw[wZ hi];exact⟨gI (by omega),q1.trans I.q,q2.trans I.c (by omega),by rw[I.x,q3];dsimp only;omega⟩
 .rintro⟨a,M,o2⟩ ⟨e1,q⟩;dsimp only at e1;subst e1;rw[cP] at q;exact dg (ar q)
theorem Rk (rs:FS6) (Y:FT6) (Z:FT6) (ra:FA6) (d:Nat) (hS:acx nT ss t rs d):ajw nT ss t (oZ rs Y Z ra) d:=by
 intro s a b c g out h1 h2 ga gb na nb hg hs hso hb;have hm:ME (d+1)=50+16*ME d:=rfl;have kb:s.body.length*ME d<=8*ME d:=cH _ h1;unfold oZ aZ bk bw cA dV kE bL pZ bB;refine ax (xq (by omega) hg hs ga na) λy I=>?_
 obtain⟨U,o2⟩:=y;obtain⟨q1,q2⟩:=I;dsimp only at q1 q2;subst q1;have q3:=q2.u;refine bg (by simp) ?_;refine ax (hS s.body U o2 (by omega) h2 hg hso (by omega)) λy I=>?_
 obtain⟨J,o3⟩:=y;obtain⟨r1,r2,r3⟩:=I;dsimp only at r1 r2 r3;have r4:=r2.u;refine bg (by simp) ?_;have M:=r1.trans (GQ.site J J.2.2.2.2.2.1 U.2.2.2.2.2.2.2.1 J.2.2.2.2.2.2.2.2);refine ax (xq (by dsimp only;omega) (hg.of M) hs gb nb) λy I=>bg (by simp) (ar ⟨?_,?_,?_⟩)
 .rw[I.1];exact M
 .exact (q2.trans r2 (bW _)).trans I.2 (by omega)
 .rw[I.1];exact r3
theorem zj {l:List IT} {j k:Nat} {x:IT} (h:j<l.length):iA (cQ l (j:Int) x) k=if k=j then x else iA l k:=Jh (T:=BD) l j k x h
abbrev ptB (l:List IT) (j:Nat) (b:Int):List IT:=cQ l (j:Int) ((iA l j).1,(iA l j).2.1,b,(iA l j).2.2.2.1,(iA l j).2.2.2.2.1,(iA l j).2.2.2.2.2)
abbrev ptA (l:List IT) (j:Nat) (a:Int):List IT:=cQ l (j:Int) ((iA l j).1,a,(iA l j).2.2.1,(iA l j).2.2.2.1,(iA l j).2.2.2.2.1,(iA l j).2.2.2.2.2)
theorem GI.pb {i:IT} {b:Int} (h:GI nT ss t i) (h1:i.1=10):GI nT ss t (i.1,i.2.1,b,i.2.2.2.1,i.2.2.2.2.1,i.2.2.2.2.2):=by
 obtain⟨Z,Y,U,M,J,I⟩:=i;dsimp only at h1;subst h1;exact⟨⟨h.o.o1,h.o.o2,h.o.r,(by decide:¬(10:Int)=3)⟩,h.s⟩
theorem QC.cbr {n m:Nat} {out o1 o2 I:List IT} {br:IT} (h1:QC nT ss t n out o1) (h2:o2=o1++[br]) (hb:GI nT ss t br) (U:br.1=10) (M:QC nT ss t m o2 I) (F:List IT) (hl:I.length<=F.length) (Y:∀ k:Nat,k<I.length->¬k=o1.length->iA F k=iA I k) (hFb:∃ b:Int,(0<=b/\b<=(F.length:Int))/\iA F o1.length=(br.1,br.2.1,b,br.2.2.2.1,br.2.2.2.2.1,br.2.2.2.2.2)):(∀ k:Nat,k<out.length->iA F k=iA out k)/\qT F out.length o1.length/\(iA F o1.length).1=10/\qT F (o1.length+1) I.length/\(∀ k:Nat,out.length<=k->k<I.length->GI nT ss t (iA F k))/\∀ k:Nat,out.length<=k->k<I.length->(iA F k).1=10->0<=(iA F k).2.2.1/\(iA F k).2.2.1<=(F.length:Int):=by
 have l2:o2.length=o1.length+1:=by rw[h2,bu];rfl
 have l1:=h1.l;have l3:=M.l;have e1:∀ k:Nat,k<o1.length->iA F k=iA o1 k:=λk hk=>by rw[Y k (by omega) (by omega),M.p k (by omega),h2,IW hk]
 obtain⟨b,hb0,eb⟩:=hFb;refine ⟨λk hk=>(e1 k (by omega)).trans (h1.p k hk),h1.b.congr λk _ hk=>e1 k hk,by rw[eb];exact U,?_,λk g1 J=>?_,λk g1 J Z=>?_⟩
 .have:=M.b;rw[l2] at this;exact this.congr λk g1 J=>Y k J (by omega)
 .rcases NI k o1.length with hk|hk|hk
  .rw[e1 k hk];exact h1.i k g1 hk
  .rw[hk,eb];exact hb.pb U
  .rw[Y k J (by omega)];exact M.i k (by omega) J
 .rcases NI k o1.length with hk|hk|hk
  .rw[e1 k hk] at Z ⊢;have:=h1.r k g1 hk Z;omega
  .rw[hk,eb];exact hb0
  .rw[Y k J (by omega)] at Z ⊢;have:=M.r k (by omega) J Z;omega
theorem LU (rs:FS6) (rt:FT6) (rb:FT6) (ra:FA6) (d:Nat) (hS:acx nT ss t rs d):ajv nT ss t (mz rs rt rb ra) d:=by
 intro s g out hop he h1 h2 h3 h4 hel hg hs hso hb;have hm:ME (d+1)=50+16*ME d:=rfl;have kb:s.body.length*ME d<=8*ME d:=cH _ h1;have ke:s.els.length*ME d<=8*ME d:=cH _ h2;have hex:GE 4 (d_ (Xp.op s.expr,Xp.n s.expr,Xp.name s.expr,Xp.l s.expr)):=by rw[fh];exact he
 unfold mz aZ bk bw cA dV kE pZ ck bf bB aY;refine ax (Cv _ _ g out hex hg hs (by rw[hg.len];decide) (by rw[hg.len];decide) (by omega)) λy hy=>?_
 obtain⟨Y,o1⟩:=y;obtain⟨p1,p2⟩:=hy;dsimp only at p1 p2;subst p1;have p3:=p2.u;have p4:=p2.l;refine bg (by simp) ?_;refine ax (In _ Y o1 (by omega)) λy hy=>?_
 obtain⟨J,o2⟩:=y;obtain⟨q1,q2⟩:=hy;dsimp only at q1 q2;subst q1;rw[hg.len] at q2;have hbr:GI nT ss t ((10,2,0,0,0,J.2.2.2.2.2.2.2.1):IT):=⟨Yz (by decide) (by decide) (by simp[iO]) (by decide:¬(10:Int)=3),hs⟩
 have l2:o2.length=o1.length+1:=by rw[q2,bu];rfl
 refine bg (by simp) ?_;refine ax (hS s.body J o2 (by omega) h3 hg (hso.sub (eT _) (by omega)) (by omega)) λy hy=>?_
 obtain⟨U,I⟩:=y;obtain⟨r1,r2,r3⟩:=hy;dsimp only at r1 r2 r3;have r4:=r2.u;have r5:=r2.l;have ebr:iA I o1.length=(10,2,0,0,0,J.2.2.2.2.2.2.2.1):=by rw[r2.p _ (by omega),q2,xA]
 refine bg (by simp) ?_;have qs:=r1.trans (GQ.site U U.2.2.2.2.2.1 J.2.2.2.2.2.2.2.1 U.2.2.2.2.2.2.2.2);refine aK (λh3w=>?_) λh3w=>?_
 .have hels:nC d s.els=0:=by rw[hel (by have h3w:s.op=3:=h3w;omega)];rfl
  rw[hels,dv];refine ax (In _ _ I (by omega)) λy hy=>?_
  obtain⟨g4,M⟩:=y;obtain⟨w1,w2⟩:=hy;dsimp only at w1 w2;have l4:M.length=I.length+1:=by rw[w2,bu];rfl
  refine bg (by simp) (aS (dS _) (by dsimp only[au];omega) (aS (dS _) (by dsimp only[au];omega) (ar ?_)));have hat:o1.length<M.length:=by omega
  have ej:iA M I.length=(5,(out.length:Int),0,0,0,J.2.2.2.2.2.2.2.1):=by rw[w2,xA];rfl
  have e43:∀ k:Nat,k<I.length->iA M k=iA I k:=λk hk=>by rw[w2,IW hk]
  refine ⟨by dsimp only;rw[w1];exact qs,?_,by dsimp only;rw[w1];exact r3⟩;dsimp only;have eF:∀ {z:IT} {k:Nat},¬k=o1.length->iA (cQ M ((o1.length:Nat):Int) z) k=iA M k:=λh=>by rw[zj hat,ay h]
  obtain⟨f1,f2,f3,f4,f5,f6⟩:=p2.cbr q2 hbr rfl r2 (ptB M o1.length (aO M.length)) (by rw[bV];omega) (λk hk hn=>(eF hn).trans (e43 k hk)) ⟨_,⟨dS _,by rw[bV];exact eT _⟩,by rw[zj hat,aF rfl,e43 _ (by omega),ebr];rfl⟩;show QC nT ss t _ out (ptB M o1.length (aO M.length));have ejF:iA (ptB M o1.length (aO M.length)) I.length=(5,(out.length:Int),0,0,0,J.2.2.2.2.2.2.2.1):=(eF (by omega:¬I.length=o1.length)).trans ej;refine ⟨by rw[bV];omega,by rw[bV];omega,f1,?_,λk Y J=>?_,λk Y J U=>?_⟩
  .rw[(bV _ _ _).trans l4];exact f2.whl f3 f4 (by rw[ejF]) (by rw[ejF])
  .rw[bV,l4] at J;by_cases hk:k<I.length
   .exact f5 k Y hk
   .rw[show k=I.length by omega,ejF];exact⟨Yz (by decide) (by decide) (by simp[iO]) (by decide:¬(5:Int)=3),hs⟩
  .have g2':=J;rw[bV,l4] at g2';by_cases hk:k<I.length
   .exact f6 k Y hk U
   .rw[show k=I.length by omega,ejF] at U;cases U
 refine aK (λhz=>?_) λ_=>?_
 .have hels:nC d s.els=0:=by rw[gM.1 (by dsimp only[au] at hz;omega:s.els.length=0)];rfl
  rw[hels,dv];refine aS (dS _) (by dsimp only[au];omega) (aS (dS _) (by dsimp only[au];omega) (ar ⟨qs,?_,r3⟩));dsimp only;have hat:o1.length<I.length:=by omega
  obtain⟨f1,f2,f3,f4,f5,f6⟩:=p2.cbr q2 hbr rfl r2 (ptB I o1.length (aO I.length)) (by rw[bV];omega) (λk hk hn=>by rw[zj hat,ay hn]) ⟨_,⟨dS _,by rw[bV];exact eT _⟩,by rw[zj hat,aF rfl,ebr];rfl⟩;show QC nT ss t _ out (ptB I o1.length (aO I.length));refine ⟨by rw[bV];omega,by rw[bV];omega,f1,?_,λk Y J=>?_,λk Y J U=>?_⟩
  .rw[bV];exact (f2.app (qT.one (by rw[f3];decide))).app f4
  .rw[bV] at J;exact f5 k Y J
  .exact f6 k Y (by rw[bV] at J;exact J) U
 .refine ax (In _ _ I (by omega)) λy hy=>?_
  obtain⟨g4,M⟩:=y;obtain⟨w1,w2⟩:=hy;dsimp only at w1 w2;have l4:M.length=I.length+1:=by rw[w2,bu];rfl
  have qs4:GQ J g4:=by rw[w1];exact qs
  have x4:gN g4=gN J+(nC d s.body:Nat):=by rw[w1];exact r3
  have hat:o1.length<M.length:=by omega
  have ej:iA M I.length=(5,0,0,0,0,J.2.2.2.2.2.2.2.1):=by rw[w2,xA]
  have e43:∀ k:Nat,k<I.length->iA M k=iA I k:=λk hk=>by rw[w2,IW hk]
  refine bg (by simp) (aS (dS _) (by dsimp only[au];omega) (aS (dS _) (by dsimp only[au];omega) ?_));have eF:∀ {z:IT} {k:Nat},¬k=o1.length->iA (cQ M ((o1.length:Nat):Int) z) k=iA M k:=λh=>by rw[zj hat,ay h]
  refine ax (hS s.els g4 (ptB M o1.length (aO M.length)) (by omega) h4 (hg.of qs4) (hso.sub (by rw[x4];omega) (by rw[x4];omega)) (by rw[bV];omega)) λy hy=>?_
  obtain⟨g5,Z⟩:=y;obtain⟨z1,z2,z3⟩:=hy;dsimp only at z1 z2 z3;have z4:=z2.l;have z5:=z2.u;have zp:=z2.p;have zb:=z2.b;have zi:=z2.i;have zr:=z2.r;rw[bV] at z4 z5 zp zb zi zr;have hj5:I.length<Z.length:=by omega
  refine bg (by simp) (aS (dS _) (by dsimp only[au];omega) (aS (dS _) (by dsimp only[au];omega) (ar ⟨qs4.trans z1,?_,by dsimp only;rw[z3,x4];omega⟩)));dsimp only;show QC nT ss t _ out (ptA Z I.length (aO Z.length));have eG:∀ {z:IT} {k:Nat},¬k=I.length->iA (cQ Z ((I.length:Nat):Int) z) k=iA Z k:=λh=>by rw[zj hj5,ay h]
  have ej5:iA Z I.length=(5,0,0,0,0,J.2.2.2.2.2.2.2.1):=by rw[zp _ (by omega),eF (by omega),ej]
  obtain⟨f1,f2,f3,f4,f5,f6⟩:=p2.cbr q2 hbr rfl r2 (ptA Z I.length (aO Z.length)) (by rw[bV];omega) (λk hk hn=>by rw[eG (by omega),zp k (by omega),eF hn,e43 k hk]) ⟨aO M.length,⟨dS _,by rw[bV];dsimp only[au];omega⟩,by rw[eG (by omega),zp _ (by omega),zj hat,aF rfl,e43 _ (by omega),ebr]⟩;have ejF:iA (ptA Z I.length (aO Z.length)) I.length=(5,aO Z.length,0,0,0,J.2.2.2.2.2.2.2.1):=by rw[zj hj5,aF rfl,ej5]
  refine ⟨by rw[bV];omega,by rw[bV];omega,f1,?_,λk Y J=>?_,λk Y J U=>?_⟩
  .rw[bV];refine ((f2.app (qT.one (by rw[f3];decide))).app f4).ite (by rw[ejF]) (by rw[ejF];rfl) ?_;rw[l4] at zb;exact zb.congr λk Y J=>eG (by omega)
  .rw[bV] at J;rcases NI k I.length with hk|hk|hk
   .exact f5 k Y hk
   .rw[hk,ejF];exact⟨Yz (by decide) (by decide) (by simp[iO]) (by decide:¬(5:Int)=3),hs⟩
   .rw[eG (by omega)];exact zi k (by omega) J
  .have g2':=J;rw[bV] at g2';rcases NI k I.length with hk|hk|hk
   .exact f6 k Y hk U
   .rw[hk,ejF] at U;cases U
   .rw[eG (by omega)] at U ⊢;rw[bV];exact zr k (by omega) g2' U
theorem Yy (rs:FS6) (rt:FT6) (rb:FT6) (ra:FA6) (d:Nat) (hB:ajv nT ss t rb d) (hA:ajw nT ss t ra d):SpG nT ss t (rZ rs rt rb ra) (d+1):=by
 intro s g out hs hg hso hb;have hm:ME (d+1)=50+16*ME d:=rfl;obtain⟨i1,i2,i3,i4,i5,i6,i7,i8,i9,Y⟩:=hs;have hcn:PQ (d+1) s=1+nC d s.body+nC d s.els:=rfl;rw[hcn] at hso ⊢;obtain⟨so0,so1,so2⟩:=id hso;have so0:0<=g.2.2.2.2.2.2.2.2:=so0;have so1:g.2.2.2.2.2.2.2.2+((1+nC d s.body+nC d s.els:Nat):Int)<=1000:=so1;have ew:bc .i64 (g.2.2.2.2.2.2.2.2+1)=g.2.2.2.2.2.2.2.2+1:=hX (by omega) (by omega);have gs:=GQ.site g g.2.2.2.2.2.1 g.2.2.2.2.2.2.2.2 (bc .i64 (g.2.2.2.2.2.2.2.2+1));unfold rZ aZ bk bw cA dV bL pZ bf bB aY aE cE eh;refine aX (λx=>QG nT ss t (ME (d+1)) (1+nC d s.body+nC d s.els) g out x) ?_ λx hx=>ar hx
 dsimp only;have Z:SO ss t (gS ((g.1,g.2.1,g.2.2.1,g.2.2.2.1,g.2.2.2.2.1,g.2.2.2.2.2.1,g.2.2.2.2.2.2.1,g.2.2.2.2.2.2.2.2,bc .i64 (g.2.2.2.2.2.2.2.2+1)):GN)):=so2 _ (eT _) (by show g.2.2.2.2.2.2.2.2<g.2.2.2.2.2.2.2.2+((1+nC d s.body+nC d s.els:Nat):Int);omega);have hn1:gN ((g.1,g.2.1,g.2.2.1,g.2.2.2.1,g.2.2.2.2.1,g.2.2.2.2.2.1,g.2.2.2.2.2.2.1,g.2.2.2.2.2.2.2.2,bc .i64 (g.2.2.2.2.2.2.2.2+1)):GN)=gN g+1:=ew;revert gs Z hn1;generalize ((g.1,g.2.1,g.2.2.1,g.2.2.2.1,g.2.2.2.2.1,g.2.2.2.2.2.1,g.2.2.2.2.2.2.1,g.2.2.2.2.2.2.2.2,bc .i64 (g.2.2.2.2.2.2.2.2+1)):GN)=U;intro gs Z hn1;have M:=hg.of gs;have hso1:=hso.sub (b:=gN U) (n:=nC d s.body+nC d s.els) (by rw[hn1];omega) (by rw[hn1];omega);have fin:∀ (n m:Nat) (y:GN×List IT),QG nT ss t n m U out y->n<=ME (d+1)->m=nC d s.body+nC d s.els->QG nT ss t (ME (d+1)) (1+nC d s.body+nC d s.els) g out y:=λn m y J hn hm=>⟨gs.trans J.q,(QC.nil 0 out).trans J.c (by omega),by rw[J.x,hn1];omega⟩
 have fin0:s.op=1\/9<=s.op->∀ (n:Nat) (y:GN×List IT),y.1=U/\QC nT ss t n out y.2->n<=ME (d+1)->QG nT ss t (ME (d+1)) (1+nC d s.body+nC d s.els) g out y:=λI n y J hn=>fin n 0 y ⟨by rw[J.1];exact GQ.refl U,J.2,by rw[J.1];simp⟩ hn (by rw[Y.bo I,Y.el (by omega)];rfl)
 refine aK (λI=>?_) λ_=>?_
 .refine ax (V4 (nN _) U out ?_ ?_ ?_ ?_ M Z (by omega)) λy J=>bg (by simp) (ar (fin0 (.inl I) _ _ J (by omega)))
  .rw[yc];exact i1
  .rw[yc];exact i3
  .rw[yc];exact i4 (.inl I)
  .rw[yc];exact Y.vr I
 refine aX (λx=>x.2=(U,s,out)/\(x.1=ai↔s.op=2\/s.op=3)) ?_ ?_
 .exact aK (λh=>ar ⟨by dsimp only;rw[yc],λ_=>.inl h,λ_=>aQ h⟩) λh=>ar ⟨by dsimp only;rw[yc],λh2=>.inr (bn h2),λh2=>aQ (h2.resolve_left h)⟩
 rintro⟨b,x⟩ ⟨e,hb2⟩;dsimp only at e hb2;subst e;refine aP (λhb3=>?_) λhbf=>?_
 .dsimp only;rw[yc];refine ax (hB s U out (hb2.1 hb3) (i4 (by rcases hb2.1 hb3 with h|h;exact .inr (.inl h);exact .inr (.inr (.inl h)))) i6 i7 i8 i9 Y.el M Z hso1 hb) λy J=>bg (by simp) (ar (fin _ _ _ J (by omega) rfl))
 have har:∀ (a b c:Int),4<=s.op->GO nT (a,c,0,0,0,0)->GO nT (b,c,0,0,0,0)->¬a=5/\¬a=10->¬b=5/\¬b=10->Ok (ra ((s,a,b,c),U,out)) λy=>QG nT ss t (ME (d+1)) (1+nC d s.body+nC d s.els) g out y:=λa b c h4 ga gb na nb=>(hA s a b c U out i6 i8 ga gb na nb M Z (hso1.sub (eT _) (by omega)) hb).mono λy J=>fin _ _ _ J (by omega) (by rw[Y.el (by omega)];rfl)
 have hput:∀ {op:Int} {r:Int×Int×Int×Int×Int},9<=s.op->GO nT (op,r)->¬op=5/\¬op=10->Ok (cD ((op,r),U,out)) (QG nT ss t (ME (d+1)) (1+nC d s.body+nC d s.els) g out):=λh9 hi h5=>(xq (by omega) M Z hi h5).mono λy J=>fin0 (.inr h9) _ _ J (by omega)
 have hlk:∀ n:List UInt8,Ok (j_ (U.2.1,n)) λr=>(n=[109]->r=0)/\(n=[110]->r=1)/\(n=[114]->r=2):=λn=>(MQ U.2.1 n (by rw[M.l];decide)).mono λr h=>ahd (by rw[M.l] at h;exact h)
 have hcond:∀ (n:List UInt8),Ok (jt (n,U,out)) λy=>y.2=(U,out)/\(n=[99]->y.1=0):=λn=>ac0 n U out M
 have hth:Ok (iY (U.2.2.2.2.1,s.name)) λr=>s.op=12\/s.op=13->0<=r/\r<(nT:Int):=(yF U.2.2.2.2.1 s.name (by rw[M.t,bI];have q4:v9.length=4:=rfl;omega)).mono λr hr I=>by
  have hn:=Y.sp I;have hl:(v9.take nT).length<=nT:=qa ..;obtain⟨_,h2,_,h4⟩:=hr;rw[M.t] at h2 h4;exact⟨Ck.1 λh=>h4 h hn,by omega⟩
 have hft:∀ n:List UInt8,Ok (iY (U.2.2.2.1,n)) λr=>n=[102]->r=0:=λn=>(yF U.2.2.2.1 n (by rw[M.f];decide)).mono λr hr hn=>by
  obtain⟨h1,h2,_,h4⟩:=hr;rw[M.f] at h2 h4;have h2:r<1:=h2;have:¬r<0:=λh=>h4 h (by rw[hn];decide)
  omega
 dsimp only;rw[yc];have gor:∀ {a c:Int},1<=a->a<=27->iO (a,c,0,0,0,0)=[]->OB nT (a,c,0,0,0,0)->GO nT (a,c,0,0,0,0):=λh1 h2 h3 h4=>⟨h1,h2,by rw[h3];exact λj hj=>(by cases hj),h4⟩
 refine aK (λI=>ax (hlk _) λv hv=>ax (har _ _ _ (by have I:s.op=4:=I;omega) (gor (by decide) (by decide) rfl ?_) (gor (by decide) (by decide) rfl ?_) (by decide) (by decide)) λy J=>bg (by simp) (ar J)) λ_=>?_
 .exact (Y.lk I).imp hv.1 hv.2.1
 .exact (Y.lk I).imp hv.1 hv.2.1
 refine aK (λI=>ax (hlk _) λv hv=>ax (har _ _ _ (by have I:s.op=5:=I;omega) (gor (by decide) (by decide) rfl ?_) (gor (by decide) (by decide) rfl ?_) (by decide) (by decide)) λy J=>bg (by simp) (ar J)) λ_=>?_
 .exact hv.2.2 (Y.rw (.inl I))
 .exact hv.2.2 (Y.rw (.inl I))
 refine aK (λI=>ax (hlk _) λv hv=>ax (har _ _ _ (by have I:s.op=6:=I;omega) (gor (by decide) (by decide) rfl ?_) (gor (by decide) (by decide) rfl ?_) (by decide) (by decide)) λy J=>bg (by simp) (ar J)) λ_=>?_
 .exact hv.2.2 (Y.rw (.inr I))
 .exact hv.2.2 (Y.rw (.inr I))
 refine aK (λI=>ax (har _ _ _ (by have I:s.op=7:=I;omega) (gor (by decide) (by decide) rfl (by decide:¬(17:Int)=3)) (gor (by decide) (by decide) rfl (by decide:¬(18:Int)=3)) (by decide) (by decide)) λy J=>bg (by simp) (ar J)) λ_=>?_
 refine aK (λI=>ax (har _ _ _ (by have I:s.op=8:=I;omega) (gor (by decide) (by decide) rfl (by decide:¬(19:Int)=3)) (gor (by decide) (by decide) rfl (by decide:¬(20:Int)=3)) (by decide) (by decide)) λy J=>bg (by simp) (ar J)) λ_=>?_
 refine aK (λI=>ax (hcond _) λy J=>?_) λ_=>?_
 .obtain⟨v,y2⟩:=y;obtain⟨y3,y4⟩:=J;dsimp only at y3;subst y3;exact bg (by simp) (ax (hput (by have I:s.op=9:=I;omega) (gor (by decide) (by decide) rfl (y4 (Y.cn (.inl I)))) (by decide)) λy J=>bg (by simp) (ar J))
 refine aK (λI=>ax (hcond _) λy J=>?_) λ_=>?_
 .obtain⟨v,y2⟩:=y;obtain⟨y3,y4⟩:=J;dsimp only at y3;subst y3;exact bg (by simp) (ax (hput (by have I:s.op=10:=I;omega) (gor (by decide) (by decide) rfl (y4 (Y.cn (.inr (.inl I))))) (by decide)) λy J=>bg (by simp) (ar J))
 refine aK (λI=>ax (hcond _) λy J=>?_) λ_=>?_
 .obtain⟨v,y2⟩:=y;obtain⟨y3,y4⟩:=J;dsimp only at y3;subst y3;exact bg (by simp) (ax (hput (by have I:s.op=11:=I;omega) (gor (by decide) (by decide) rfl (y4 (Y.cn (.inr (.inr I))))) (by decide)) λy J=>bg (by simp) (ar J))
 refine aK (λI=>ax hth λv hv=>ax (hput (by have I:s.op=12:=I;omega) (gor (by decide) (by decide) rfl (hv (.inl I))) (by decide)) λy J=>bg (by simp) (ar J)) λ_=>?_
 refine aK (λI=>ax hth λv hv=>ax (hput (by have I:s.op=13:=I;omega) (gor (by decide) (by decide) rfl (hv (.inr I))) (by decide)) λy J=>bg (by simp) (ar J)) λ_=>?_
 refine aK (λI=>?_) λn14=>?_
 .have hex:GE 4 (d_ (Xp.op s.expr,Xp.n s.expr,Xp.name s.expr,Xp.l s.expr)):=by rw[fh];exact i4 (.inr (.inr (.inr I)))
  refine ax (Cv _ _ U out hex M Z (by rw[hg.len];decide) (by rw[hg.len];decide) (by omega)) λy J=>?_
  obtain⟨g2,o2⟩:=y;obtain⟨q1,q2⟩:=J;dsimp only at q1 q2;subst q1;have q3:=q2.u;refine bg (by simp) (ax (hft _) λv hv=>?_);refine ax (xq (by omega) M Z (Yz (by decide) (by decide) (by simp[iO,hg.h,L0]) (hv (Y.se I))) (by decide)) λy J=>bg (by simp) (ar (fin0 (.inr (by have I:s.op=14:=I;omega)) 16 _ ⟨J.1,q2.trans J.2 (bW _)⟩ (by omega)))
 refine aK (λI=>?_) λn15=>?_
 .refine ax (yF _ _ (by rw[M.h];decide)) λv hv=>ax (hft _) λv2 hv2=>?_
  have hge:=Y.ge I;have hl:(0:Int)<=v/\v<2:=by
   obtain⟨_,h2,_,h4⟩:=hv;rw[M.h] at h2 h4;exact⟨Ck.1 λh=>h4 h (by rw[hge.1];decide),h2⟩
  exact ax (hput (by have I:s.op=15:=I;omega) (Yz (by decide) (by decide) (by simp[iO];omega) (hv2 hge.2)) (by decide)) λy J=>bg (by simp) (ar J)
 .exfalso;have h1:=Y.o0;have h2:=Y.o1;have h3:¬(s.op=2\/s.op=3):=λh=>by have hbf:b=aj:=hbf;rw[hb2.2 h] at hbf;cases hbf
  omega
variable {nT:Nat} {ss:List (Int×Int×Int)} {t:Int}
theorem Xj:∀ (n:Nat),(∀ d:Nat,3*d<n->SpG nT ss t (eR n) d)/\(∀ d:Nat,3*d+1<n->acx nT ss t (dM n) d)/\(∀ d:Nat,3*d+2<n->ajv nT ss t (db n) d)/\(∀ d:Nat,3*d+2<n->ajw nT ss t (dI n) d)
 |0=>⟨λd h=>by omega,λd h=>by omega,λd h=>by omega,λd h=>by omega⟩
 |n+1=>by
  obtain⟨J,I,M,hA⟩:=Xj n;refine ⟨λd h=>?_,λd h=>?_,λd h=>?_,λd h=>?_⟩
  .cases d with
   |zero=>exact λs g out hs=>hs.elim
   |succ d=>exact Yy (dM n) (eR n) (db n) (dI n) d (M d (by omega)) (hA d (by omega))
  .exact U2 (dM n) (eR n) (db n) (dI n) d (J d (by omega))
  .exact LU (dM n) (eR n) (db n) (dI n) d (I d (by omega))
  .exact Rk (dM n) (eR n) (db n) (dI n) d (I d (by omega))
theorem OK (d:Nat) (hd:d<=100):acx nT ss t uj d:=(Xj fuel).2.1 d (by rw[jQ];omega)
structure SL (t k:Int) (m:Nat) (S:List (Int×Int×Int)):Prop where
 l:S.length=m
 v:∀ i:Nat,i<m->(aJ (T:=x_) S (i:Int)).1=t/\(aJ (T:=x_) S (i:Int)).2.1=k+i
theorem Jj {T:Ty} {l m:List T.den} {k:Nat} (h:k<l.length):aJ (l++m) (k:Int)=aJ l (k:Int):=by
 rw[yK,yK,aA,aA,bO h]
theorem Ji {T:Ty} {l m:List T.den} {k:Nat} (h:l.length<=k):aJ (l++m) (k:Int)=aJ m ((k-l.length:Nat):Int):=by
 rw[yK,yK,aA,aA,b_ h]
theorem SL.nil (t k:Int):SL t k 0 []:=⟨rfl,λi h=>by omega⟩
theorem SL.one (t k z:Int):SL t k 1 [(t,k,z)]:=⟨rfl,λi h=>by rw[show i=0 by omega];exact⟨rfl,by show k=k+((0:Nat):Int);omega⟩⟩
theorem SL.app {k k':Int} {a b:Nat} {S S':List (Int×Int×Int)} (h:SL t k a S) (h':SL t k' b S') (hk:k'=k+a):SL t k (a+b) (S++S'):=by
 obtain⟨h1,h2⟩:=h;obtain⟨J,I⟩:=h';refine ⟨by rw[bu];omega,λi hi=>?_⟩;by_cases hl:i<S.length
 .rw[Jj (T:=x_) hl];exact h2 i (by omega)
 .rw[Ji (T:=x_) (by omega)];have:=I (i-S.length) (by omega);exact⟨this.1,this.2.trans (show k'+((i-S.length:Nat):Int)=k+(i:Int) by omega)⟩
theorem E4:∀ (n d:Nat),d<n->∀ (t k:Int) (l:List Sx) (out:List (Int×Int×Int)),l.length<=100->(∀ s∈l,GT d s)->0<=k->k+nC d l<=100000000->out.length+nC d l<=100000000->Ok (pu n ((t,k,l),out)) λy=>y.1=k+nC d l/\∃ S,y.2=out++S/\SL t k (nC d l) S
 |0,_,h,_,_,_,_,_,_,_,_,_=>by omega
 |n+1,d,hn,t,k,l,out,hl,hs,k0,hkb,hb=>by
  rw[He];unfold xD bx v7 bB aY cK aE cE;refine bZ l.length (λi x=>x.1.2=(i:Int)/\x.1.1=k+nC d (l.take i)/\∃ S,x.2=out++S/\SL t k (nC d (l.take i)) S) ?_ ?_ ⟨rfl,by simp[nC],[],by simp,by simp[nC];exact SL.nil t k⟩
  .rintro i ⟨⟨a,b⟩,o⟩ hi ⟨e1,e2,S,e3,e4⟩;dsimp only at e1 e2 e3;subst e1;subst e2;subst e3;have hp:=Pc (d:=d) l (i+1);rw[wZ hi] at hp;rw[wZ hi];refine dk ?_;have hin:((i:Nat):Int)<(l.length:Int):=by omega
   have hm:=hs _ (bJ (T:=.sm) (xs:=l) (j:=(i:Int)) (by omega) (by omega));have hSl:=e4.l;cases d with
   |zero=>exact hm.elim
   |succ d=>
    obtain⟨_,_,_,g4,g5,g6,g7⟩:=hm;have hc:PQ (d+1) (aJ (T:=.sm) l (i:Int))=1+nC d (Sx.body (aJ (T:=.sm) l (i:Int)))+nC d (Sx.els (aJ (T:=.sm) l (i:Int))):=rfl;rw[hc] at hp ⊢;dsimp only;refine aS (by omega) hin (aR (bh (by simp;omega) (by omega) (aS (by omega) hin (aR ?_))));rw[hX (n:=k+(nC (d+1) (l.take i):Nat)+1) (by omega) (by omega)];refine ax (E4 n d (by omega) _ _ _ _ (by omega) g6 (by omega) (by omega) (by simp;omega)) λy I=>bg (by simp) ?_
    obtain⟨a2,o2⟩:=y;obtain⟨Z,S2,Y,U⟩:=I;dsimp only at Z Y;subst Z;subst Y;have hSl2:=U.l;refine aS (by omega) hin (aR ?_);refine ax (E4 n d (by omega) _ _ _ _ (by omega) g7 (by omega) (by omega) (by simp;omega)) λy I=>bg (by simp) (ar ?_)
    obtain⟨a3,o3⟩:=y;obtain⟨M,S3,J,z3⟩:=I;dsimp only at M J;subst M;subst J;refine ⟨gI (by omega),by dsimp only;omega,S++([_]++(S2++S3)),by simp only[iB];rfl,?_⟩;refine e4.app ?_ rfl;rw[px];exact (SL.one t _ _).app (U.app z3 rfl) (by simp)
  .rintro⟨⟨a,b⟩,o⟩ ⟨e1,e2,e3⟩;dsimp only at e1 e2 e3;subst e1;subst e2;rw[cP] at e3 ⊢;exact dg (ar ⟨rfl,e3⟩)
theorem Wy {T k' J k:Int} {l S:List (Int×Int×Int)} {m:Nat} (h:Li T l=af (k',J)) (M:SL t k m S) (hk:(k'=t/\J=k)\/(k'<t/\t<T/\k=0)):∀ i:Nat,i<=m->Li T (l++S.take i)=af (if i=0 then (k',J) else (t,k+i))
 |0,_=>by rw[List.take_zero,iU,aF rfl];exact h
 |i+1,hi=>by
  have Y:=Wy h M hk i (by omega);rw[mH (T:=x_) (xs:=S) (i:=i) (by rw[M.l];omega),<-iB,WA,Y];obtain⟨v1,v2⟩:=M.v i (by omega);rw[ay (Nat.succ_ne_zero i)];by_cases I:i=0
  .subst I;rw[aF rfl];unfold TE;dsimp only;rcases hk with ⟨h1,h2⟩|⟨h1,h2,U⟩
   .rw[aF ⟨by rw[v1,h1],by rw[v2,h2];simp⟩,h1,h2];simp
   .rw[ay (λh=>by rw[v1] at h;omega),aF ⟨by rw[v1];exact h1,by rw[v1];exact h2,by rw[v2,U];rfl⟩,v1,U];simp
  .rw[ay I];unfold TE;dsimp only;rw[aF ⟨v1,v2⟩];congr 2;omega
abbrev CE6:Type:=List UInt8×Int×Int×Bool×Int
abbrev W4T:Type:=List CE6×List (List UInt8×Bool)×List (List UInt8×Int)×List (List UInt8)
def ceD (z:DT):List CE6:=(cS (aU (iD z.2.2.2.1 1))).map λ(k:Nat)=>(z.2.2.1,(k:Int),z.2.2.2.1,decide (z.1=2),z.2.2.2.2.1)
def adD (y:W4T) (z:DT):W4T:=
 if z.1=1\/z.1=2 then (y.1++ceD z,y.2) else if z.1=3\/z.1=4 then (y.1,y.2.1++[(z.2.2.1,decide (z.1=4))],y.2.2) else if z.1=5 then (y.1,y.2.1,y.2.2.1++[(z.2.2.1,0)],y.2.2.2) else (y.1,y.2.1,y.2.2.1,y.2.2.2++[z.2.2.1])
def W4 (i:Nat):W4T:=(D0.take i).foldl adD ([],[],[],[])
theorem W4_9:W4 9=(C0,GY,Ms,Tk):=rfl
theorem W4_s {i:Nat} (hi:i<9):W4 (i+1)=adD (W4 i) (aJ (T:=tDc) D0 (i:Int)):=by
 unfold W4;rw[mH (T:=tDc) (xs:=D0) hi,dQ];rfl
theorem D0_c:∀ i:Nat,i<9->(aJ (T:=tDc) D0 (i:Int)).1=5->i=7:=by decide
theorem ams:∀ i:Nat,i<9->(W4 i).1.length<=5/\(W4 i).2.1.length<=3/\(W4 i).2.2.1.length<=1/\(W4 i).2.2.2.length<=1/\iD (aJ (T:=tDc) D0 (i:Int)).2.2.2.1 1<=2/\1<=iD (aJ (T:=tDc) D0 (i:Int)).2.2.2.1 1:=by decide
def bsN (p:PG) (i:Nat):Nat:=((p.2.take i).map λt=>nC 5 t.2.2.2).sum
def boN (p:PG) (i:Nat):Nat:=nC 5 (aJ (T:=yS) p.2 (i:Int)).2.2.2
theorem ahn {p:PG} {i:Nat} (hi:i<p.2.length):bsN p (i+1)=bsN p i+boN p i:=by
 unfold bsN boN;rw[mH (T:=yS) hi,cC,Fz];simp
theorem VZ {p:PG} (i:Nat) (h:(p.2.map λt=>nC 5 t.2.2.2).sum<=60):bsN p i<=60:=by
 refine dh ?_ h
 conv=>rhs;rw[<- By i p.2]
 unfold bsN;rw[cC,Fz];omega
structure SW (p:PG) (i:Nat) (S:List (Int×Int×Int)):Prop where
 l:S.length=bsN p i
 f:∃ a b,Li p.2.length S=af (a,b)/\(a<i\/a=0/\b=0)
 s:∀ j:Nat,j<i->SR S (j:Int) (bsN p j:Nat) (boN p j)
structure WW (p:PG) (w:WT):Prop where
 x:WX w
 t:w.2.2.2.2.1=v9.take p.2.length
 s:∀ j:Nat,j<p.2.length->SR w.2.2.2.2.2 (j:Int) (bsN p j:Nat) (boN p j)
theorem SO.app {S S':List (Int×Int×Int)} {t s:Int} (h:SO S t s):SO (S++S') t s:=by
 obtain⟨h0,h1,h2⟩:=h;obtain⟨s,rfl⟩:∃ n:Nat,s=(n:Int):=⟨s.toNat,by omega⟩
 exact⟨h0,by rw[bu];omega,by rw[Jj (T:=x_) (by omega)];exact h2⟩
theorem V7 (p:PG) (hp:PJ p) (r:Int×Int) (hr:fm p=af r) (h0:r.1=0) (hc:(p.2.map λt=>nC 5 t.2.2.2).sum<=60):Ok (uk p) (WW p):=by
 have hpt:=hp.t;unfold uk aZ bk bw cA dV bL dA cX fk kD bf bx je bB bA aY cK aE cE;refine aT hr (ca (λh=>(h h0).elim) λ_=>?_);have hD:p.1=D0:=hp.d;have hlen:p.1.length=9:=by rw[hD];rfl
 refine bZ 9 (λi x=>x.1=(i:Int)/\x.2.1=p/\x.2.2=W4 i) ?_ ?_ ⟨rfl,rfl,rfl⟩
 .rintro i ⟨a,p',y⟩ hi ⟨e1,e2,e3⟩;dsimp only at e1 e2 e3;subst e1;have e2:=e2.symm;subst e2;obtain⟨b1,b2,b3,b4,b5,b6⟩:=ams i hi;rw[<- e3] at b1 b2 b3 b4;have hW:=W4_s hi;rw[<- e3] at hW;have hcd:=D0_c i hi;have hlk:i=7->y.2.1=GY/\(aJ (T:=tDc) D0 (i:Int)).2.2.2.2.2=[109]:=λh=>by subst h;rw[e3];exact⟨rfl,rfl⟩
  refine dk ?_;refine b8 (aR ?_);dsimp only;rw[hD];revert hW hcd hlk b5 b6;generalize (aJ (T:=tDc) D0 (i:Int))=z;intro b5 b6 hW hcd hlk;refine aX (λx=>x=(p,W4 (i+1))) ?_ ?_
  .rw[hW];unfold adD;refine aX (λx=>x.2=(p,z,y)/\(x.1=ai↔(z.1=1\/z.1=2))) ?_ ?_
   .exact aK (λh=>ar ⟨rfl,λ_=>.inl h,λ_=>aQ h⟩) λh=>ar ⟨rfl,λh2=>.inr (bn h2),λh2=>aQ (h2.resolve_left h)⟩
   rintro⟨b,x⟩ ⟨e,hb⟩;dsimp only at e hb;subst e;refine aP (λI=>?_) λI=>?_
   .rw[aF (hb.1 I)];unfold ceD;obtain⟨m,hm⟩:∃ m:Nat,iD z.2.2.2.1 1=(m:Int):=⟨(iD z.2.2.2.1 1).toNat,by omega⟩
    rw[hm,c6];refine bZ m (λk x=>x=((k:Int),p,z,y.1++(cS k).map (λ(k:Nat)=>(z.2.2.1,(k:Int),z.2.2.2.1,decide (z.1=2),z.2.2.2.2.1)),y.2)) ?_ ?_ (by simp)
    .rintro k x hk rfl;refine bF (λ_=>?_) λg=>(by dsimp only at g;rw[hm] at g;omega)
     refine bh (by simp;omega) (by omega) (ar ?_);dsimp only;rw[gI (by omega),FA,cC,<-iB];rfl
    .rintro x rfl;exact bF (λg=>(by dsimp only at g;rw[hm] at g;omega)) λ_=>ar rfl
   rw[ay λh=>by have I:b=aj:=I;rw[hb.2 h] at I;cases I];refine aX (λx=>x.2=(p,z,y)/\(x.1=ai↔(z.1=3\/z.1=4))) ?_ ?_
   .exact aK (λh=>ar ⟨rfl,λ_=>.inl h,λ_=>aQ h⟩) λh=>ar ⟨rfl,λh2=>.inr (bn h2),λh2=>aQ (h2.resolve_left h)⟩
   rintro⟨c,x⟩ ⟨e,U⟩;dsimp only at e U;subst e;refine aP (λh=>?_) λh=>?_
   .rw[aF (U.1 h)];exact bh (by simp;omega) (by omega) (ar rfl)
   rw[ay λh2=>by have h:c=aj:=h;rw[U.2 h2] at h;cases h];refine aK (λh5=>?_) λh5=>?_
   .obtain⟨l1,l2⟩:=hlk (hcd h5);rw[aF h5];refine ax (MQ _ _ (by dsimp only;rw[l1];decide)) λv hv=>?_
    have hv:=(ahd (by dsimp only at hv;rw[l1] at hv;exact hv)).1 l2;subst hv;exact bh (by simp;omega) (by omega) (ar rfl)
   .rw[ay h5];exact bh (by simp;omega) (by omega) (ar rfl)
  rintro x rfl;exact ar ⟨gI (by omega),rfl,rfl⟩
 .rintro⟨a,p',y⟩ ⟨e1,e2,j⟩;dsimp only at e1 e2 j;subst e1;have e2:=e2.symm;subst e2;rw[W4_9] at j;subst j;refine dg ?_;refine ax (P:=WW p) ?_ λr hr=>ar hr
  refine bZ p.2.length (λi x=>x.1=(i:Int)/\x.2.1=p/\x.2.2.1=C0/\x.2.2.2.1=GY/\x.2.2.2.2.1=Ms/\x.2.2.2.2.2.1=Tk/\x.2.2.2.2.2.2.1=v9.take i/\SW p i x.2.2.2.2.2.2.2) ?_ ?_ ⟨rfl,rfl,rfl,rfl,rfl,rfl,rfl,rfl,⟨0,0,rfl,.inr ⟨rfl,rfl⟩⟩,λj hj=>by omega⟩
  .rintro i ⟨a,p2,c2,l2,d2,f2,t2,s2⟩ hi ⟨e1,e2,e3,e4,e5,e6,Z,M,⟨fa,fb,f8,f9⟩,J⟩;dsimp only at e1 e2 e3 e4 e5 e6 Z M f8 J;subst e1;have e2:=e2.symm;subst e2;have hb8:=VZ (i+1) hc;have hbs:=ahn hi;refine dk ?_;have hin:((i:Nat):Int)<(p.2.length:Int):=by omega
   have hm:=hp.m _ (bJ (T:=yS) (xs:=p.2) (j:=(i:Int)) (by omega) hin);have hnm:(aJ (T:=yS) p.2 (i:Int)).1=aJ (T:=.str) v9 (i:Int):=by
    have h1:=mH (T:=yS) hi;have h2:=gO (List.map Prod.fst) h1;rw[cC,kH,kH,hp.n,List.take_take,List.take_take,sM (by omega),sM (by omega),mH (T:=.str) (xs:=v9) (i:=i) (by have q4:v9.length=4:=rfl;omega)] at h2;exact ((List.cons.inj (List.append_cancel_left h2)).1).symm
   have htl:t2.length=i:=by rw[Z,bI];have q4:v9.length=4:=rfl;omega
   dsimp only;refine aS (by omega) hin (aR (bh (by simp;omega) (by omega) (aS (by omega) hin (aR ?_))));refine ax (E4 fuel 5 (by rw[jQ];omega) _ _ _ s2 (by have:=hm.b;omega) (λs hs=>((hm.s s hs).le (by omega:3<=5)).t) (eT _) ?_ ?_) λy hy=>bg (by simp) (ar ?_)
   .show (0:Int)+(boN p i:Nat)<=_;omega
   .show s2.length+boN p i<=_;omega
   obtain⟨_,S,h2,Y⟩:=hy;have Y:SL (i:Int) 0 (boN p i) S:=Y;refine ⟨gI (by omega),rfl,e3,e4,e5,e6,?_,?_⟩
   .dsimp only;rw[Z,hnm,<-mH (T:=.str) (xs:=v9) (i:=i) (by have q4:v9.length=4:=rfl;omega)]
   .dsimp only;rw[h2];refine ⟨by rw[bu,Y.l,M,hbs],?_,λj hj=>?_⟩
    .have hr:=Wy f8 Y (by rcases f9 with h|⟨h,h'⟩;exact .inr ⟨h,by omega,rfl⟩;rcases Lc i with hi0|hi0;exact .inl ⟨by omega,h'⟩;exact .inr ⟨by omega,by omega,rfl⟩) (boN p i) (bW _);rw[<- Y.l,cP] at hr;rw[hr];split
     .exact⟨_,_,rfl,f9.imp (λh=>by omega) id⟩
     .exact⟨_,_,rfl,.inl (by omega)⟩
    .rcases b9 j i with h1|h1
     .obtain⟨g1,g2,g3⟩:=J j h1;exact⟨g1,g2,λq q1 q2=>(g3 q q1 q2).app⟩
     .have hj:j=i:=by omega
      subst hj;refine ⟨by omega,by omega,λq q1 q2=>?_⟩;obtain⟨q,rfl⟩:∃ n:Nat,q=(n:Int):=⟨q.toNat,by omega⟩
      refine ⟨by omega,by rw[bu,Y.l];omega,?_⟩;rw[Ji (T:=x_) (by omega)];exact (Y.v _ (by omega)).1
  .rintro⟨a,p2,c2,l2,d2,f2,t2,s2⟩ ⟨e1,e2,e3,e4,e5,e6,Z,M,⟨fa,fb,f8,f9⟩,J⟩;dsimp only at e1 e2 e3 e4 e5 e6 Z M f8 J;subst e1;have e2:=e2.symm;subst e2;subst e3;subst e4;subst e5;subst e6;subst Z;refine dg (ar ?_);have hb8:=VZ p.2.length hc;refine ⟨⟨rfl,rfl,rfl,rfl,⟨p.2.length,hp.t0,hp.t,rfl⟩,by dsimp only;omega,?_⟩,rfl,J⟩;unfold SV0;have hTl:(v9.take p.2.length).length=p.2.length:=by rw[bI];have q4:v9.length=4:=rfl;omega
   dsimp only;rw[hTl,f8];simp
def Zr:List (List UInt8):=[[120],[121],[118],[113],[109],[110],[114],[99],[102]]
set_option maxHeartbeats 20000000 in
theorem aap (t:List (List UInt8)) (ht:t.length<=4) (s:List (Int×Int×Int)):pj (C0,GY,Ms,Tk,t,s)=af (Zr++t,ai):=by
 refine cB ?_;unfold pj aZ bk bw cA dA kD bf bx je bB bA aY cK aE cE;with_reducible repeat' first|exact ar rfl|refine WU ?_|refine WS ?_|refine WR ?_|refine WO ?_|refine aed ?_|refine aR ?_|refine fI rfl ?_|refine fJ rfl ?_|refine bg rfl ?_|refine WP ?_|refine Qu ?_|refine Qt ?_
 refine bh (by show 9+t.length<=1073741824;omega) (by decide) ?_;with_reducible repeat' first|exact ar rfl|refine WU ?_|refine WS ?_|refine WR ?_|refine WO ?_|refine aed ?_|refine aR ?_|refine fI rfl ?_|refine fJ rfl ?_|refine bg rfl ?_|refine WP ?_|refine Qu ?_|refine Qt ?_
theorem Ti:∀ x∈Zr++v9,Ok (fg x) λb=>b=ai:=by
 intro x I;simp only[Zr,v9,gu,lU,bm,cw,gi] at I;rcases I with rfl|rfl|rfl|rfl|rfl|rfl|rfl|rfl|rfl|rfl|rfl|rfl|rfl;all_goals with_reducible repeat' first|exact ar rfl|refine WU ?_|refine WS ?_|refine WR ?_|refine WO ?_|refine Qt ?_|refine aed ?_|refine aR ?_|refine fI rfl ?_|refine fJ rfl ?_|refine bg rfl ?_|refine WP ?_|refine Qu ?_|refine c_ (fg.eq_1 ..) ?_|refine c_ (jF.eq_1 ..) ?_|refine c_ (ko.eq_1 ..) ?_|refine c_ (ly.eq_1 ..) ?_|refine c_ (pn.eq_1 ..) ?_|refine c_ (rC.eq_1 ..) ?_
theorem GT.up:∀ {d:Nat} {s:Sx},GT d s->GT (d+1) s
 |0,_,h=>h.elim
 |_+1,_,⟨a,b,c,e,f,g,i⟩=>⟨a,b,c,e,f,λx I=>GT.up (g x I),λx I=>GT.up (i x I)⟩
theorem aj4 {l:List Sx} (h:∀ s∈l,GT 3 s):nC 5 l=nC 3 l:=by
 unfold nC;rw[p_ λx I=>(Pb (GT.up (h x I))).trans (Pb (h x I))]
theorem ajz:∀ i:Nat,i<13->∀ r:Nat,r<i->aJ (T:=.str) (Zr++v9) (r:Int)≠aJ (T:=.str) (Zr++v9) (i:Int):=by decide
theorem Qd (T:Int):∀ l:List (Int×Int×Int),l.foldl (TE T) ah=ah
 |[]=>rfl
 |_::r=>Qd T r
theorem Wz {T:Int} {l:List (Int×Int×Int)} (h:Li T l≠ah) (i:Nat):Li T (l.take i)≠ah:=λhn=>h (by
 unfold Li at hn ⊢;rw[<- By i l,dQ,hn,Qd])
theorem aa5 {T t n:Int} {z:Int×Int×Int} (h:TE T (af (t,n)) z≠ah):TE T (af (t,n)) z=af (z.1,z.2.1+1)/\(z.1=t/\z.2.1=n\/t<z.1/\z.1<T/\z.2.1=0):=by
 unfold TE at h ⊢;dsimp only at h ⊢;by_cases h1:z.1=t/\z.2.1=n
 .rw[aF h1];exact⟨by rw[h1.1,h1.2],.inl h1⟩
 .rw[ay h1] at h ⊢;by_cases h2:t<z.1/\z.1<T/\z.2.1=0
  .rw[aF h2];exact⟨by rw[h2.2.2];rfl,.inr h2⟩
  .rw[ay h2] at h;exact (h rfl).elim
theorem BN {R:Type} {a b:Int} {t f:Option R} {Q:R->Prop} (h:b<=a) (hf:Ok f Q):Ok (bcase (fQ a b) t f) Q:=fJ (gk.2 h) hf
theorem Hs {w:WT} (hx:WX w):hZ w=af ai:=by
 obtain⟨w1,w2,w3,w4,I,J⟩:=w;obtain⟨hc,hl,hd,hf,⟨n,n1,n4,ht⟩,hs,hv⟩:=hx;dsimp only at hc hl hd hf ht hs;subst hc;subst hl;subst hd;subst hf;have hT:I.length=n:=by rw[ht,bI];have q4:v9.length=4:=rfl;omega
 have hv:Li I.length J≠ah:=hv;refine cB ?_;unfold hZ aZ bk bw cA cX fk bf bx iH je bB bA aY cK aE cE;refine aX (λx=>x=(aj,C0,GY,Ms,Tk,I,J)) ?_ ?_
 .refine BN (show (5:Int)<=12 by decide) (BN (show (3:Int)<=4 by decide) (BN (show (1:Int)<=2 by decide) (BN (show (1:Int)<=2 by decide) (BN (show (1:Int)<=(I.length:Int) by omega) (BN (show (I.length:Int)<=4 by omega) (ar ?_))))));dsimp only[au];rw[gk.2 (show (J.length:Int)<=60 by omega)]
 rintro x rfl;refine gd (aT (aap I (by omega) J) (fJ rfl ?_));have hN:Zr++I=(Zr++v9).take (9+n):=by rw[ht];rcases (by omega:n=1\/n=2\/n=3\/n=4) with rfl|rfl|rfl|rfl<;>rfl
 have hNl:(Zr++I).length=9+n:=by rw[bu,hT];rfl
 have hNg:∀ i:Nat,i<9+n->aJ (T:=.str) (Zr++I) (i:Int)=aJ (T:=.str) (Zr++v9) (i:Int):=λi hi=>by
  rw[hN,yK,yK,aA,aA,List.getElem?_take_of_lt hi]
 refine bZ (9+n) (λi x=>x=((i:Int),C0,GY,Ms,Tk,I,J)) ?_ ?_ rfl
 .rintro i x hi rfl;refine bF (λ_=>?_) λg=>(by dsimp only[au] at g;rw[hNl] at g;omega)
  refine aX (λx=>x=(aj,C0,GY,Ms,Tk,I,J)) ?_ ?_
  .refine aS (by dsimp only;omega) (by dsimp only;rw[hNl];omega) (aR ?_);have hmem:aJ (T:=.str) (Zr++I) (i:Int)∈Zr++v9:=by rw[hNg i hi];exact bJ (T:=.str) (by omega) (by have:(Zr++v9).length=13:=rfl;omega)
   refine ax (Ti _ hmem) λb hb=>?_
   refine fJ (by rw[hb];rfl) (dx (eP (by dsimp only;omega) (eP (by dsimp only;rw[hNl];omega) ?_)));refine aS (by dsimp only;omega) (by dsimp only;rw[hNl];omega) (aR ?_);refine ax (yF _ _ (by dsimp only;rw[bI,hNl];omega)) λr hr=>ar ?_
   obtain⟨_,h2,Z,_⟩:=hr;dsimp only at h2 Z;rw[bI,hNl] at h2;have hr0:¬0<=r:=λh0=>by
    have Z:=Z h0;obtain⟨r,rfl⟩:∃ m:Nat,r=(m:Int):=⟨r.toNat,by omega⟩
    rw[yK,aA,List.getElem?_take_of_lt (by omega),<-aA,<-yK (T:=.str),hNg r (by omega),hNg i hi] at Z;exact ajz i (by omega) r (by omega) Z
   rw[kf.2 (by omega)]
  .rintro x rfl;exact gd (ar (by dsimp only;rw[gI (by omega)]))
 rintro x rfl;refine bF (λg=>(by dsimp only[au] at g;rw[hNl] at g;omega)) λ_=>?_
 refine ax (P:=λb=>b=ai) ?_ λy hy=>ar hy
 refine bZ 1 (λi x=>x=((i:Int),C0,GY,Ms,Tk,I,J)) ?_ ?_ rfl
 .rintro i x hi rfl;have hi0:i=0:=by omega
  subst hi0;refine fI rfl (bg rfl (aR (aX (λx=>x=(aj,C0,GY,Ms,Tk,I,J)) ?_ ?_)))
  .exact fJ rfl (fJ rfl (bg rfl (aR (ar rfl))))
  .rintro x rfl;exact gd (ar (by dsimp only;rw[gI (by omega)]))
 rintro x rfl;refine bF (λg=>(by have g:(1:Int)<1:=g;omega)) λ_=>?_
 refine ax (P:=λb=>b=ai) ?_ λy hy=>ar hy
 refine bZ J.length (λi x=>x=((i:Int),C0,GY,Ms,Tk,I,J)/\∃ t k:Int,Li I.length (J.take i)=af (t,k)/\0<=t/\t<(I.length:Int)/\(i=0->t=0/\k=0)/\(¬i=0->(aJ (T:=x_) J ((i-1:Nat):Int)).1=t/\(aJ (T:=x_) J ((i-1:Nat):Int)).2.1+1=k/\0<k/\k<=i)) ?_ ?_ ⟨rfl,0,0,rfl,by omega,by omega,λ_=>⟨rfl,rfl⟩,λh=>(h rfl).elim⟩
 .rintro i x hi ⟨rfl,t,k,hF,t0,tT,hz,hp⟩;have hw:¬(i:Int)=0->bc .i64 ((i:Int)-1)=((i-1:Nat):Int):=λh=>by rw[hX (by omega) (by omega)];omega
  have hnx:=Ij (T:=I.length) hi;have hne:=Wz hv (i+1);rw[hnx,hF] at hne;obtain⟨hs1,M⟩:=aa5 hne;rw[hF,hs1] at hnx;refine dk ?_;refine aX (λx=>x=(C0,GY,Ms,Tk,I,J)) ?_ ?_
  .refine b8 (aR ?_);revert M;generalize (aJ (T:=x_) J (i:Int))=z;obtain⟨(U:Int),(z2:Int),z3⟩:=z;intro M;dsimp only at M;refine aX (λx=>x=(aj,(C0,GY,Ms,Tk,I,J),U,z2,z3)) ?_ ?_
   .refine BN (show (0:Int)<=U by omega) (ar ?_);dsimp only[au];rw[kf.2 (show U<(I.length:Int) by omega)]
   rintro x rfl;refine gd (aX (λx=>x.2=((C0,GY,Ms,Tk,I,J),U,z2,z3)/\(x.1=ai->i=0\/¬t=U)/\(x.1=aj->¬i=0/\t=U)) ?_ ?_)
   .refine aK (λh=>ar ⟨rfl,λ_=>.inl (by have h:((i:Nat):Int)=0:=h;omega),λh=>(by cases h)⟩) λh=>?_
    have h:¬((i:Nat):Int)=0:=h;dsimp only;rw[hw h];have hq:=(hp (by omega)).1;exact aS (by omega) (by first|omega|(dsimp only;omega)) (aR (ar ⟨rfl,λh2=>.inr (by rw[<- hq];simpa using h2),λh2=>⟨by omega,by rw[<- hq];simpa using h2⟩⟩))
   rintro⟨c,x⟩ ⟨e,Y,hc⟩;dsimp only at e Y hc;subst e;refine aP (λhct=>?_) λhcf=>?_
   .have hz2:z2=0:=by
     rcases Y hct with h|h
     .have:=hz h;omega
     .omega
    refine aX (λx=>x=(aj,C0,GY,Ms,Tk,I,J)) ?_ ?_
    .refine ca (λh=>(h hz2).elim) λ_=>bF (λh=>?_) λ_=>ar rfl
     have h:(0:Int)<((i:Nat):Int):=h;dsimp only;rw[hw (by omega)];have hq:=(hp (by omega)).1;refine aS (by omega) (by first|omega|(dsimp only;omega)) (aR (ar ?_));dsimp only;rw[hq,gk.2 (show t<=U by omega)]
    rintro x rfl;exact gd (ar rfl)
   .obtain⟨h1,h2⟩:=hc hcf;obtain⟨_,p2,p3,p4⟩:=hp h1;dsimp only;rw[hw (by omega)];refine aS (by omega) (by first|omega|(dsimp only;omega)) (aR ?_);refine ca (λh=>(h ?_).elim) λ_=>ar rfl
    try dsimp only
    rw[p2,hX (by omega) (by omega)];omega
  .rintro x rfl;refine ar ⟨by dsimp only;rw[gI (by omega)],_,_,hnx,?_⟩;revert M;rw[show i+1-1=i by omega];generalize (aJ (T:=x_) J (i:Int))=z;obtain⟨(U:Int),(z2:Int),z3⟩:=z;intro M;dsimp only at M ⊢;refine ⟨by omega,by omega,λh=>by omega,λ_=>⟨rfl,rfl,?_,?_⟩⟩
   .by_cases h0:i=0
    .have:=hz h0;omega
    .have:=hp h0;omega
   .by_cases h0:i=0
    .have:=hz h0;omega
    .have:=hp h0;omega
 .rintro x ⟨rfl,_⟩;exact dg (ar rfl)
theorem V9 {c:CT} (I:WX c.1) (hl:c.2.length=c.1.2.2.2.2.1.length) (h:∀ k:Nat,k<c.2.length->GC c.2.length c.1.2.2.2.2.2 (k:Int) (aJ (T:=vZ) c.2 (k:Int))):jD c=af ai:=by
 obtain⟨w,l⟩:=c;dsimp only at I hl h;have M:l.length<=4:=by
  obtain⟨n,_,J,ht⟩:=I.t;rw[hl,ht,bI];omega
 refine cB ?_;unfold jD bw bx bA aY cK aE cE;refine aX (λx=>x=(aj,w,l)) ?_ ?_
 .refine aT (Hs I) (fJ rfl (ar ?_));dsimp only;rw[hl];simp
 rintro x rfl;refine gd (bZ l.length (λi x=>x=((i:Int),w,l)) ?_ ?_ rfl)
 .rintro i x hi rfl;refine dk ?_;refine b8 (aR (aT (Ee I hl.symm (h i hi)) (fJ rfl (ar ?_))));dsimp only;rw[gI (by omega)]
 .rintro x rfl;exact dg (ar rfl)
theorem Py (p:PG) (hp:PJ p) (hr4:∃ r,fm p=af r/\r.1=0):Ok (qr p) λy=>CB y.1:=by
 have hpt:=hp.t;obtain⟨r,hr,h0⟩:=hr4;obtain⟨r',hr',Y⟩:=D5 p hp.x;rw[hr] at hr';cases hr';have Y:=Y h0;unfold qr aZ bk bw cA dV bL cX fk pZ bx je bB bA kB aY cK aE cE;refine aT hr (ca (λh=>(h h0).elim) λ_=>?_);refine ax (V7 p hp r hr h0 Y) λw M=>?_
 have hwT:w.2.2.2.2.1.length=p.2.length:=by rw[M.t,bI];have q4:v9.length=4:=rfl;omega
 refine bZ p.2.length (λi x=>x.1.1=((bsN p i:Nat):Int)/\x.1.2=(i:Int)/\x.2.1=p/\x.2.2.1=w/\x.2.2.2.length=i/\∀ j:Nat,j<i->GC p.2.length w.2.2.2.2.2 (j:Int) (aJ (T:=vZ) x.2.2.2 (j:Int))) ?_ ?_ ⟨rfl,rfl,rfl,rfl,rfl,λj hj=>by omega⟩
 .rintro i ⟨⟨a,b⟩,p2,w2,cs⟩ hi ⟨e0,e1,e2,e3,Z,e5⟩;dsimp only at e0 e1 e2 e3 Z e5;subst e0;subst e1;have e2:=e2.symm;subst e2;have e3:=e3.symm;subst e3;have hin:((i:Nat):Int)<(p.2.length:Int):=by omega
  refine dk ?_;have hm:=hp.m _ (bJ (T:=yS) (xs:=p.2) (j:=(i:Int)) (by omega) hin);have hsr:=M.s i hi;have hbs:=ahn hi;have hb1:=VZ (i+1) Y;have hbo:boN p i=nC 3 (aJ (T:=yS) p.2 (i:Int)).2.2.2:=aj4 λs hs=>(hm.s s hs).t
  rw[hbo] at hsr hbs;dsimp only;refine aS (by omega) hin (aR (aS (by omega) hin (aR ?_)));revert hm hsr hbs;generalize (aJ (T:=yS) p.2 (i:Int))=t;intro hm hsr hbs;have hk:ME 3=50+16*(50+16*50):=rfl;have hle:=cH (ME 3) hm.b;rw[hk] at hle;have hll:t.2.2.1.length=2:=by rw[hm.l];rfl
  refine ax (OK (nT:=p.2.length) (ss:=w.2.2.2.2.2) (t:=(i:Int)) 3 (by omega) _ _ [] (by have:=hm.b;omega) hm.s ⟨M.x.c,M.x.l,M.x.d,M.x.f,M.t,hm.l⟩ hsr (by rw[hk,jT];omega)) λy hy=>bg (by simp) ?_
  obtain⟨g2,o2⟩:=y;obtain⟨q1,q2,q3⟩:=hy;dsimp only at q1 q2 q3;have q4:=q2.u;rw[hk,jT] at q4;refine ax (In _ _ o2 (by omega)) λy hy=>bg (by simp) ?_
  obtain⟨g3,I⟩:=y;obtain⟨hg3,U⟩:=hy;dsimp only at hg3 U;have hL:aO (al g3.2.2.2.2.2.2.1)=2:=by
   rw[hg3];show aO (al g2.2.2.2.2.2.2.1)=2;rw[q1.h];show aO (al t.2.2.1)=2;rw[hll];rfl
  have l3:I.length=o2.length+1:=by rw[U,bu];rfl
  have J:I.length-1=o2.length:=by omega
  have iq:∀ q:Nat,q<o2.length->iA I q=iA o2 q:=λq hq=>by rw[U,IW hq]
  have iend:iA I o2.length=(28,0,0,0,0,-1):=by rw[U,xA]
  have hreg:∀ q:Nat,q<I.length->∀ j:Int,j∈iO (iA I q)->0<=j/\j<32:=λq hq j hj=>by
   by_cases h:q<o2.length
   .rw[iq q h] at hj;exact (q2.i q (li _) h).o.r j hj
   .rw[show q=o2.length by omega,iend] at hj;simp[iO] at hj
  dsimp only;rw[hL];refine bZ I.length (λk x=>∃ rg:Int,x=((k:Int),p,w,g3,rg,cs,I)/\2<=rg/\rg<=32/\∀ q:Nat,q<k->∀ j:Int,j∈iO (iA I q)->j<rg) ?_ ?_ ⟨2,rfl,by omega,by omega,λq hq=>by omega⟩
  .rintro k x hk2 ⟨rg,rfl,r0,r1,r2⟩;refine dk ?_;dsimp only;refine b8 (b8 (aR (aT (tM _) ?_)));have hrk:=hreg k hk2;have hrl:=CI (iA I k);revert hrk hrl;generalize hins:(aJ (T:=BD) I (k:Int))=ins;rw[show iA I k=ins from hins];intro hrk hrl;refine bZ (iO ins).length (λj x=>∃ rg':Int,x=((j:Int),p,w,g3,rg',cs,I)/\rg<=rg'/\rg'<=32/\∀ q:Nat,q<j->rg'>aJ (T:=.int .i64) (iO ins) (q:Int)) ?_ ?_ ⟨rg,rfl,eT _,r1,λq hq=>by omega⟩
   .rintro j x hj ⟨rg',rfl,s0,s1,s2⟩;refine dk ?_;refine b8 (aR (ar ?_));have hz:=hrk _ (bJ (T:=.int .i64) (xs:=iO ins) (j:=(j:Int)) (by omega) (by omega));dsimp only;obtain⟨z,hzj⟩:∃ z:Int,aJ (T:=.int .i64) (iO ins) (j:Int)=z:=⟨_,rfl⟩
    rw[hzj] at hz ⊢;have hz0:(0:Int)<=z:=hz.1;have hz1:(32:Int)>z:=hz.2;rw[gI (by omega),hX (n:=z+1) (by omega) (by omega)];have him:rg'<=iD rg' (z+1)/\z+1<=iD rg' (z+1)/\iD rg' (z+1)<=32:=by
     unfold iD;split
     .rename_i h;have h:=tI.1 h;omega
     .rename_i h;have h:=gk.1 (Bool.eq_false_iff.2 h);omega
    refine ⟨_,rfl,by omega,him.2.2,λq hq=>?_⟩;rcases b9 q j with h1|h1
    .have:=s2 q h1;omega
    .rw[show q=j by omega,hzj];exact Int.lt_of_lt_of_le (show z<z+1 by omega) him.2.1
   .rintro x ⟨rg',rfl,s0,s1,s2⟩;refine dg (ar ?_);refine ⟨rg',by dsimp only;rw[gI (by omega)],by omega,s1,λq hq j hj=>?_⟩;rcases b9 q k with h1|h1
    .have:=r2 q h1 j hj;omega
    .rw[show q=k by omega,show iA I k=ins from hins] at hj;exact ir (T:=.int .i64) (p:=λc=>rg'>c) s2 j hj
  .rintro x ⟨rg,rfl,r0,r1,r2⟩;refine dg (Qu (bh (by simp;omega) (by omega) (Qt (ar ?_))));dsimp only;have q3':(g2.2.2.2.2.2.2.2.2:Int)=(bsN p i:Nat)+(nC 3 t.2.2.2:Nat):=q3;refine ⟨by rw[q3',hbs];omega,gI (by omega),rfl,rfl,by simp;omega,λj hj=>?_⟩;rcases b9 j i with h1|h1
   .rw[Jj (T:=vZ) (by rw[Z];exact h1)];exact e5 j h1
   .rw[show j=i by omega,Ji (T:=vZ) (by rw[Z];omega),Z,HB];refine ⟨show (1:Int)<=rg by omega,r1,show 1<=I.length by omega,show I.length<=1000000 by omega,?_,?_,?_,?_,?_⟩
    .show (iA I (I.length-1)).1=28/\(iA I (I.length-1)).2.2.2.2.2= -1;rw[J,iend];exact⟨rfl,rfl⟩
    .show qT I 0 (I.length-1);rw[J];exact q2.b.congr λq _ hq=>iq q hq
    .show ∀ q:Nat,q<I.length-1->GI p.2.length w.2.2.2.2.2 (i:Int) (iA I q);rw[J];exact λq hq=>by rw[iq q hq];exact q2.i q (li _) hq
    .show ∀ q:Nat,q<I.length-1->(iA I q).1=10->0<=(iA I q).2.2.1/\(iA I q).2.2.1<(I.length:Int)
     rw[J];intro q hq h10;rw[iq q hq] at h10 ⊢;have:=q2.r q (li _) hq h10;omega
    .exact λq hq j hj=>r2 q (show q<I.length by have hq:q<I.length-1:=hq;omega) j hj
 .rintro⟨⟨a,b⟩,p2,w2,cs⟩ ⟨e0,e1,e2,e3,Z,e5⟩;dsimp only at e0 e1 e2 e3 Z e5;subst e1;subst e2;subst e3;refine dg (ar ?_);have hgc:∀ t∈cs,∃ k:Nat,GC p2.2.length w2.2.2.2.2.2 (k:Int) t:=ir (T:=vZ) λk hk=>⟨k,e5 k (by omega)⟩
  refine ⟨by dsimp only;omega,λt ht=>?_,λt ht=>?_,M.x,V9 M.x ?_ ?_⟩
  .obtain⟨k,hk⟩:=hgc t ht;exact hk.u
  .obtain⟨k,hk⟩:=hgc t ht;exact hk.r0
  .dsimp only;rw[Z,hwT]
  .dsimp only;rw[Z];exact e5
theorem Lt (a b:List Int) (M:a.length<=9223372036854775807) (J:∀ z∈a,0<=z/\z<=255) (hb:b.length<=1000000):Ok (sx (a,b)) TR:=by
 unfold sx;refine ax (P:=CB) ?_ λc hc=>ax (Wk b hb) λl hl=>?_
 .unfold xw;exact ax (G4 a M J) λp hp=>ax (Py p hp.1 hp.2) λy I=>ar I
 .exact ax (ajx c l hc (by omega)) λy I=>ar I
theorem Px (a b c:List Int) (n:Int) (n0:0<=n) (n1:n<=1000000) (M:a.length<=9223372036854775807) (J:∀ z∈a,0<=z/\z<=255) (hc:c.length<=9223372036854775807) (I:∀ z∈c,0<=z/\z<=255):Ok (kX ((a,b,c),n)) TR:=by
 unfold kX bx bB aY;refine bF (λ_=>ax (Ik c n hc I) λy h=>ar h) λ_=>?_
 have h0:0<=G8 (aO b.length) n/\G8 (aO b.length) n<=(b.length:Int)/\G8 (aO b.length) n<=n:=by
  unfold G8;split
  .rename_i h;rw[tI] at h;dsimp only[au] at h;exact⟨n0,by omega,eT _⟩
  .rename_i h;have h:=gk.1 (Bool.eq_false_iff.2 h);dsimp only[au] at h ⊢;exact⟨by omega,eT _,h⟩
 refine dx (eP h0.1 (eP h0.2.1 ?_));have h1:(dP (aU (G8 (aO b.length) n)) b).length<=1000000:=by rw[bI];have:=h0.1;have:=h0.2.2;omega
 exact ax (Lt a _ M J h1) λy h=>ar h
def HS.zero (w:uS):HS:=⟨aG w.2.2.2.2.1.length [],aG w.2.2.2.2.1.length [],aG w.2.1.length [],aG w.2.1.length [],aG w.1.length [],aG w.2.2.2.1.length [],[],aG w.2.2.2.2.1.length [],aG w.2.2.2.2.1.length (-1)⟩
theorem HS.zero_ok {w:uS} (h1:w.1.length<=1000) (h2:w.2.1.length<=1000) (J:w.2.2.2.1.length<=1000) (I:w.2.2.2.2.1.length<=1000):TJ 0 (HS.zero w):=by
 have z:(0:Int)<=0:=by omega
 exact⟨z,by omega,Bw.repl z _,Bw.repl z _,Bw.repl z _,Bw.repl z _,Bw.repl z _,Bw.repl z _,En.nil z,Bw.repl z _,by simpa[HS.zero] using I,by simp[HS.zero],by simp[HS.zero],by simp[HS.zero],by simpa[HS.zero] using h2,by simp[HS.zero],by simpa[HS.zero] using h1,by simpa[HS.zero] using J⟩
structure Fit (w:uS) (h:HS):Prop where
 T:h.T.length=w.2.2.2.2.1.length
 L:h.L.length=w.2.1.length
 C:h.C.length=w.1.length
 F:h.F.length=w.2.2.2.1.length
theorem Fit.zero (w:uS):Fit w (HS.zero w):=⟨by simp[HS.zero],by simp[HS.zero],by simp[HS.zero],by simp[HS.zero]⟩
theorem Fit.ent {w:uS} {h:HS} (f:Fit w h) (e:EV) (x:List Int):Fit w (jN w h e x):=by
 obtain⟨a,b,c,d,g,i,j,k⟩:=FZ w h e x;exact⟨a.trans f.T,c.trans f.L,g.trans f.C,i.trans f.F⟩
theorem Fit.step {w:uS} {h:HS} (f:Fit w h) (e:EV):Fit w (P4 w h e).1:=f.ent e _
def evP (e:ET):EV:=⟨e.1.toNat,e.2.1.toNat,e.2.2.1.toNat,e.2.2.2.1⟩
theorem ame {w:WT} {e:ET} (f:EvF w e):EvT (evP e) e:=by
 obtain⟨⟨k1,k2,ce,lk,cd,th,fu⟩,t0,_,_⟩:=f;refine ⟨(G0 t0).symm,(G0 (by omega)).symm,λh=>(G0 ?_).symm,rfl⟩;unfold evP at h;simp only[bm,cw,gi] at h;by_cases h1:e.2.1=3\/e.2.1=4
 .exact (ce h1).1
 by_cases h2:6<=e.2.1/\e.2.1<=11
 .exact (lk h2).1
 by_cases M:16<=e.2.1/\e.2.1<=19
 .exact (cd M).1
 by_cases J:e.2.1=20\/e.2.1=21
 .exact (th J).1
 by_cases I:e.2.1=22\/e.2.1=23
 .exact (fu I).1
 omega
theorem abq {w:WT} {e:ET} (f:EvF w e) (wb:WB w) {h:HS} (I:Fit w h):EOK w h (evP e):=by
 obtain⟨⟨k1,k2,ce,lk,cd,th,fu⟩,t0,t1,J⟩:=f;have b5:=wb.t;have Z:=I.T;have Y:=I.L;have U:=I.C;have M:=I.F;unfold evP;refine ⟨by dsimp only;omega,by dsimp only;omega,by dsimp only;omega,by dsimp only;omega,λq=>?_,λq=>?_,λq=>?_,λq=>?_,λq=>?_⟩<;>dsimp only at q ⊢
 .have:=th (by omega);omega
 .have:=lk (by omega);omega
 .have g:=cd (by omega);have hl:e.2.2.1.toNat<w.2.2.1.length:=by omega
  have hm:=J (w.2.2.1.getD e.2.2.1.toNat ([],0)) (by rw[aA,aB hl];exact u_ hl);refine ⟨hl,hm.1,?_⟩;unfold Oc;have:=hm.2;have:=hm.1;omega
 .have:=ce (by omega);omega
 .have:=fu (by omega);omega
theorem jm {σ R:Type} {f:σ->Option (σ⊕R)} {Q:R->Prop} (n:Nat) (hn:n<=1000000) (I:Nat->σ->Prop) (h0:∀ i x,i<n->I i x->Ok (f x) λr=>match r with|.inl y=>I (i+1) y|.inr r=>Q r) (h1:∀ x,I n x->Ok (f x) λr=>match r with|.inl _=>False|.inr r=>Q r) {x:σ} (U:I 0 x):Ok (gh f x) Q:=by
 have key:∀ m i x,i+m=n->I i x->∃ r,iterN f (m+1) x=af r/\Q r:=by
  intro m;induction m with
  |zero=>
   intro i x hi U;have:i=n:=by omega
   subst this;obtain⟨r,M,J⟩:=h1 x U;cases r with
   |inl y=>exact J.elim
   |inr r=>exact⟨r,by rw[iterN,M],J⟩
  |succ m Y=>
   intro i x hi U;obtain⟨r,M,J⟩:=h0 i x (by omega) U;cases r with
   |inl y=>
    obtain⟨r,g3,Z⟩:=Y (i+1) y (by omega) J;exact⟨r,by rw[iterN,M];exact g3,Z⟩
   |inr r=>exact⟨r,zg (n:=1) (by rw[iterN,M]) (by omega),J⟩
 obtain⟨r,M,J⟩:=key n 0 x (by omega) U;exact⟨r,zg M (by omega),J⟩
theorem NL (a b:Int):e_ (a,b)=af (decide (0<=a/\a<b)):=by
 refine cB ?_;unfold e_ iH aE;with_reducible repeat' first|(refine OS.ok ?_;constructor)|refine IM.mk λ_=>?_
 .by_cases h:a<b<;>simp[*,fQ]
 .simp;omega
theorem Tw (l:List Int) (t:Int) (hl:l.length<=1000):kw (l,t)=af (l.contains t):=by
 refine cB ?_;unfold kw rG xK bf bx bA aY cK aE cE;refine ax (P:=λy:Int=>0<=y↔t∈l) ?_ λy I=>ar ?_
 .refine jm l.length (by omega) (λi x=>x=(i:Int)/\∀ j,j<i->¬l.getD j 0=t) ?_ ?_ ⟨rfl,λj hj=>by omega⟩
  .rintro i x hi ⟨rfl,hn⟩;refine dk ?_;refine b8 (aR (aK (λh=>ar ?_) λh=>ar ?_))
   .refine ⟨λ_=>?_,λ_=>by omega⟩;have h:t=aJ (T:=.int .i64) l (i:Int):=h;rw[h];exact bJ (T:=.int .i64) (xs:=l) (by omega) (by omega)
   .refine ⟨gI (by omega),λj hj=>?_⟩;have h:¬t=l.getD i 0:=h;by_cases e:j=i
    .subst e;exact λg=>h g.symm
    .exact hn j (by omega)
  .rintro x ⟨rfl,hn⟩;refine dg (ar ?_);refine ⟨λg=>(by omega),λg=>?_⟩;obtain⟨j,hj,e⟩:=List.getElem_of_mem g;exact (hn j hj (by rw[aA,aB hj];exact e)).elim
 .by_cases h:t∈l
  .have:=I.2 h;simp[c7,h,this]
  .have:¬0<=y:=λg=>h (I.1 g)
   simp[c7,h,this]
theorem ai9 (w:WT) (s:SY) (I:w.2.2.1.length<=1000) (cd:∀ c∈w.2.2.1,0<=c.2/\c.2<w.2.1.length) (e1:s.1.length=w.2.1.length) (e2:s.2.2.1.length=w.2.2.2.1.length) (e3:s.2.2.2.length=w.2.2.2.2.1.length):ka (w,s)=af ai:=by
 refine cB ?_;unfold ka tJ aZ bk bw dA bx je bA aY cK aE cE;refine aX (λx=>x=(aj,w)) ?_ ?_
 .refine ca (λh=>(h (by dsimp only[au];omega)).elim) λ_=>ca (λh=>(h (by dsimp only[au];omega)).elim) λ_=>ar ?_
  dsimp only[au];rw[e3];simp
 rintro x rfl;refine gd (jm w.2.2.1.length (by omega) (λi x=>x=((i:Int),w)) ?_ ?_ rfl)
 .rintro i x hi rfl;refine dk ?_;refine b8 (aR (aT (NL _ _) (ca (λh=>(h ?_).elim) λ_=>ar ?_)))
  .exact cd _ (bJ (T:=TD) (xs:=w.2.2.1) (j:=(i:Int)) (by omega) (by omega))
  .dsimp only;rw[gI (by omega)]
 .rintro x rfl;exact dg (ar rfl)
theorem acj (w:WT) (k o:Int) (h:NM w k o):lZ (w,k,o)=af ai:=by
 refine cB ?_;obtain⟨k1,k2,ce,lk,cn,th,fu,no,mu,rw_⟩:=h;unfold lZ aZ bk bw cA bf bA aY aE;rcases @IQ k with rfl|rfl|rfl|rfl|rfl|rfl|rfl|rfl|rfl|rfl|rfl|rfl|rfl|rfl|rfl|rfl|rfl|rfl|rfl|rfl|rfl|rfl|rfl|⟨hk,I⟩
 case inr.inr.inr.inr.inr.inr.inr.inr.inr.inr.inr.inr.inr.inr.inr.inr.inr.inr.inr.inr.inr.inr.inr=>omega
 all_goals simp only[aV,bp,s7,NL]
 all_goals with_reducible repeat' first|(refine OS.ok ?_;constructor)|refine IM.mk λ_=>?_
 all_goals try simp only[au,qZ] at*
 all_goals first|omega|exact rw_ ⟨by decide,by decide⟩|(simp only[*,Bool.not_false,cM];done)
theorem aik {n:Nat} (w:WT) (s:SY) (hs:SB n s) (hn:n<=1000) (t k o:Int) (he:EN w s t k o) (hr:Wd w s t k o):oJ (w,s,t,k,o)=af ai:=by
 refine cB ?_;obtain⟨nm,t0,t1,cd,e1,e2,e3⟩:=id he;obtain⟨_,_,ce,lk,cn,th,fu,no,mu,rw_⟩:=nm;obtain⟨_,_,_,aq,wr,ra,rl,rr,xb,xe,ab,ae,nt,sp,jo,se,ge⟩:=hr;have hm:16<=k/\k<=19->0<=(aJ (T:=TD) w.2.2.1 o).2/\(aJ (T:=TD) w.2.2.1 o).2<w.2.1.length:=λh=>cd _ (bJ (cn h).1 (cn h).2)
 have M:6<=k/\k<=11->kw ((aJ (T:=At) s.1 o).2,t)=af ((aJ (T:=At) s.1 o).2.contains t):=λh=>Tw _ _ (by
  have:=hs.rd _ (bJ (T:=At) (lk h).1 (by have:=(lk h).2;omega));omega)
 have lk1:6<=k/\k<=11->0<=o/\o<(s.1.length:Int):=λh=>by have:=lk h;omega
 have J:t<(s.2.2.2.length:Int):=by omega
 have fu1:k=22\/k=23->0<=o/\o<(s.2.2.1.length:Int):=λh=>by have:=fu h;omega
 have th1:k=20\/k=21->0<=o/\o<(s.2.2.2.length:Int):=λh=>by have:=th h;omega
 have I:∀ {p:Prop} [Decidable p],p->decide p=ai:=λh=>aQ h
 unfold oJ aZ bk bw dA cX bf je bA aY aE;refine aK (λh=>?_) λn6=>?_
 .have h:k=6:=h;exact aS (lk1 (by omega)).1 (lk1 (by omega)).2 (aR (ar (I (aq (.inl h)))))
 refine aK (λh=>?_) λU=>?_
 .have h:k=10:=h;refine gB (aS (lk1 (by omega)).1 (lk1 (by omega)).2 (aR (aK (λ_=>?_) λg=>(g (aq (.inr (.inr h)))).elim)));refine aS (lk1 (by omega)).1 (lk1 (by omega)).2 (aR (ar (ar (I ?_))));have:=wr h;dsimp only[au] at this ⊢;omega
 refine aK (λh=>?_) λZ=>?_
 .have h:k=8:=h;refine gB (aS (lk1 (by omega)).1 (lk1 (by omega)).2 (aR (aK (λ_=>?_) λg=>(g (aq (.inr (.inl h)))).elim)));refine aS (lk1 (by omega)).1 (lk1 (by omega)).2 (aR (aT (M (by omega)) (ar (ar ?_))));rw[ra h];rfl
 refine aX (λx=>x.2=(w,s)/\(x.1=ai↔k=7\/k=11)) (aK (λh=>ar ⟨rfl,λ_=>.inl h,λ_=>I h⟩) λh=>ar ⟨rfl,λh2=>.inr (bn h2),λh2=>I (h2.resolve_left h)⟩) ?_;rintro⟨b,x⟩ ⟨e,hb⟩;dsimp only at e hb;subst e;refine aP (λh=>?_) λ_=>?_
 .have h:=hb.1 h;exact aS (lk1 (by omega)).1 (lk1 (by omega)).2 (aR (ar (I (rl h))))
 refine aK (λh=>?_) λY=>?_
 .have h:k=9:=h;refine aS (lk1 (by omega)).1 (lk1 (by omega)).2 (aR (aT (M (by omega)) (ar (rr h))))
 refine aK (λh=>ar (I (xb h))) λ_=>aK (λh=>ar (I (xe h))) λ_=>?_
 refine aK (λh=>aS t0 J (aR (ar (by have:=ab h;dsimp only at this ⊢;rw[this];rfl)))) λ_=>aK (λh=>aS t0 J (aR (ar (ae h)))) λ_=>?_
 refine aX (λx=>x.2=(w,s)/\(x.1=ai->k=16\/k=18\/k=19)) (aK (λh=>ar ⟨rfl,λ_=>.inl h⟩) λ_=>aK (λh=>ar ⟨rfl,λ_=>.inr (.inl h)⟩) λ_=>ar ⟨rfl,λh=>.inr (.inr (bn h))⟩) ?_;rintro⟨c,x⟩ ⟨e,hc⟩;dsimp only at e hc;subst e;refine aP (λh=>?_) λ_=>?_
 .have h:=hc h;have hq:=hm (by omega);exact aS (cn (by omega)).1 (cn (by omega)).2 (aR (aS hq.1 (by rw[e1];exact hq.2) (aR (ar (I (nt h))))))
 refine aK (λh=>?_) λ_=>?_
 .have h:k=20:=h;exact gB (ca (λ_=>aS (th1 (.inl h)).1 (th1 (.inl h)).2 (aR (ar (ar (I (sp h).2))))) λg=>((sp h).1 g).elim)
 refine aK (λh=>?_) λ_=>?_
 .have h:k=21:=h;exact gB (ca (λ_=>aS (th1 (.inr h)).1 (th1 (.inr h)).2 (aR (ar (ar (I (jo h).2))))) λg=>((jo h).1 g).elim)
 refine aK (λh=>aS (fu1 (.inl h)).1 (fu1 (.inl h)).2 (aR (ar (by have:=se h;dsimp only at this ⊢;rw[this];rfl)))) λ_=>aK (λh=>aS (fu1 (.inr h)).1 (fu1 (.inr h)).2 (aR (ar (ge h)))) λ_=>ar rfl
theorem D9 {n:Nat} (w:WT) (s:SY) (hs:SB n s) (hn:n<=1000) (U:w.2.2.1.length<=1000) (t k o:Int) (he:EN w s t k o) (hr:Wd w s t k o):jb (w,s,t,k,o)=af ai:=by
 refine cB ?_;obtain⟨nm,t0,t1,cd,e1,e2,e3⟩:=id he;have hrd:=aik w s hs hn t k o he hr;have M:t<(s.2.2.2.length:Int):=by omega
 unfold jb aZ bk bw bL dA cX bf bA aY aE;refine aX (λx=>x=(aj,w,s)) ?_ ?_
 .refine aT (ai9 w s U cd e1 e2 e3) (fJ rfl (aT (NL _ _) ?_));refine ca (λh=>(h ⟨t0,t1⟩).elim) λ_=>aT (acj w k o nm) (ar rfl)
 rintro x rfl;refine gd (aS t0 M (aR ?_));refine aK (λh=>ar (aQ (hr.b h))) λn1=>?_
 refine aK (λh=>?_) λn17=>?_
 .have h:k=17:=h;obtain⟨a1,a2,a3⟩:=hr.wk h;obtain⟨J,I⟩:=nm.cd (by omega);have hq:=cd _ (bJ (T:=TD) (xs:=w.2.2.1) (j:=o) J I);refine gB (aK (λ_=>aK (λ_=>?_) λg=>(g a2).elim) λg=>(g a1).elim);exact aS J I (aR (aS hq.1 (by rw[e1];exact hq.2) (aR (ar (ar (aQ a3))))))
 refine gB (aK (λ_=>aT hrd (ar (ar rfl))) λg=>(g (hr.r n1 n17)).elim)
theorem aeb (w:WT) (e:ET) (h1:e.2.1=1\/e.2.1=2->e.2.2.2.2.1= -1) (h2:¬(e.2.1=1\/e.2.1=2)->0<=e.2.2.2.2.1/\e.2.2.2.2.1<w.2.2.2.2.2.length/\(aJ (T:=x_) w.2.2.2.2.2 e.2.2.2.2.1).1=e.1):jB (w,e)=af ai:=by
 refine cB ?_;unfold jB aZ dV cX bf bx iH bA aY aE;refine aX (λx=>x.2=(w,e)/\(x.1=ai↔e.2.1=1\/e.2.1=2)) (aK (λh=>ar ⟨rfl,λ_=>.inl h,λ_=>rfl⟩) λh=>ar ⟨rfl,λh2=>.inr (bn h2),λh2=>aQ (h2.resolve_left h)⟩) ?_;rintro⟨b,x⟩ ⟨e1,hb⟩;dsimp only at e1 hb;subst e1;refine aP (λh=>ar (aQ (h1 (hb.1 h)))) λh=>?_
 obtain⟨a1,a2,a3⟩:=h2 λg=>by rw[hb.2 g] at h;cases h
 exact gB (eE (λ_=>dk (aS a1 a2 (aR (ar (ar (aQ a3)))))) λg=>(by dsimp only at g;omega))
theorem ach {l:List Int} (h:Hx l) (i:Nat) (hi:i<l.length):∀ z∈l.drop (i+1),l.getD i 0<z:=by
 induction l generalizing i with
 |nil=>cases hi
 |cons a l I=>
  cases i with
  |zero=>exact λz J=>h.1 z (by simpa using J)
  |succ i=>exact I h.2 i (by simpa using hi)
theorem RH (w:WT) (s:SN) (e:ET) (ce:e.2.1=3\/e.2.1=4->0<=e.2.2.1/\e.2.2.1<w.1.length) (de:0<e.2.2.2.2.2.1.length->e.2.1=5\/(e.2.1=3\/e.2.1=4)/\¬(aJ (T:=P1) w.1 e.2.2.1).2.2.1=0) (fr:0<e.2.2.2.2.2.2.length->e.2.1=4\/e.2.1=22) (t0:0<=e.1) (t1:e.1<s.2.2.2.length) (nd:AN (aJ (T:=.int .i64) s.2.2.2 e.1) e.2.2.2.2.2.1) (nf:AN (aJ (T:=.int .i64) s.2.2.2 e.1) e.2.2.2.2.2.2) (ld:e.2.2.2.2.2.1.length<=1000000) (lf:e.2.2.2.2.2.2.length<=1000000):eY (w,s,e)=af ai:=by
 refine cB ?_;unfold eY jr aZ bk bw cA bL dA fk bf bx iH bB bA aY cK aE cE;refine aX (λx=>x.2=(s,e)/\((e.2.1=3\/e.2.1=4)/\¬(aJ (T:=P1) w.1 e.2.2.1).2.2.1=0->x.1=ai)) ?_ ?_
 .refine aK (λh=>?_) λn3=>aK (λh=>?_) λn4=>?_
  .exact aS (ce (.inl h)).1 (ce (.inl h)).2 (aR (ar ⟨rfl,λg=>by simpa using g.2⟩))
  .exact aS (ce (.inr h)).1 (ce (.inr h)).2 (aR (ar ⟨rfl,λg=>by simpa using g.2⟩))
  .exact ar ⟨rfl,λg=>(g.1.elim n3 n4).elim⟩
 rintro⟨b,x⟩ ⟨e1,hb⟩;dsimp only at e1 hb;subst e1;refine aX (λx=>x.1=s/\x.2.1=e/\(0<e.2.2.2.2.2.1.length->x.2.2.1=ai)/\(0<e.2.2.2.2.2.2.length->x.2.2.2=ai)) ?_ ?_
 .refine aK (λZ=>aK (λI=>ar ⟨rfl,rfl,λ_=>rfl,λ_=>rfl⟩) λI=>ar ⟨rfl,rfl,λ_=>rfl,λg=>?_⟩) λZ=>aK (λI=>ar ⟨rfl,rfl,λg=>?_,λ_=>rfl⟩) λI=>ar ⟨rfl,rfl,λg=>?_,λg=>?_⟩
  .exact aQ ((fr g).resolve_left I)
  .exact hb ((de g).resolve_left Z)
  .exact hb ((de g).resolve_left Z)
  .exact aQ ((fr g).resolve_left I)
 rintro⟨s',e',a,b'⟩ ⟨e1,e2,h1,h2⟩;dsimp only at e1 e2 h1 h2;subst e1;subst e2;have key:∀ (r:List Int),r.length<=1000000->AN (aJ (T:=.int .i64) s'.2.2.2 e'.1) r->∀ j:Nat,j<r.length->∀ z∈r.drop (j+1),aJ (T:=.int .i64) r (j:Int)<z:=λr _ h j hj z U=>ach h.a j hj z U
 refine jm 2 (by omega) (λi x=>x=((i:Int),s',e',a,b')) ?_ ?_ rfl
 .rintro i x hi rfl;refine dk ?_;refine dx (eP (by dsimp only;omega) (Ag (by dsimp only;omega) (aR ?_)));have hr:∃ r:List Int,aJ (T:=.sl (.int .i64)) [e'.2.2.2.2.2.1,e'.2.2.2.2.2.2] (i:Int)=r/\AN (aJ (T:=.int .i64) s'.2.2.2 e'.1) r/\r.length<=1000000/\(0<r.length->aJ (T:=.bool) [a,b'] (i:Int)=ai):=by
   match i,hi with
   |0,_=>exact⟨_,rfl,nd,ld,h1⟩
   |1,_=>exact⟨_,rfl,nf,lf,h2⟩
  obtain⟨r,er,hA,hl,Y⟩:=hr;have er':aJ (T:=.sl aM) [e'.2.2.2.2.2.1,e'.2.2.2.2.2.2] (i:Int)=r:=er;dsimp only at er' ⊢;rw[er'];refine aX (λx=>x=(aj,s',e',a,b')) ?_ ?_
  .refine bF (λg=>?_) λ_=>ar rfl
   have g':0<r.length:=by dsimp only[au] at g;omega
   refine dx (eP (by omega) (Ag (by omega) (b8 (aR (ar ?_)))));rw[Y g'];rfl
  rintro x rfl;refine gd ?_;refine jm r.length (by omega) (λj x=>x.1.2=(j:Int)/\x.2=(s',e',a,b')/\∀ z∈r.drop j,x.1.1<z) ?_ ?_ ⟨rfl,rfl,λz U=>?_⟩
  .rintro j ⟨⟨la,ix⟩,x⟩ hj ⟨M,J,g3⟩;dsimp only at M J g3;subst M;subst J;have m:aJ (T:=.int .i64) r (j:Int)∈r:=bJ (T:=.int .i64) (xs:=r) (by omega) (by omega);have m2:aJ (T:=.int .i64) r (j:Int)∈r.drop j:=by
    have:aJ (T:=.int .i64) r (j:Int)=r[j]:=by
     show r.getD j 0=_;rw[aA,aB hj];rfl
    rw[this,List.drop_eq_getElem_cons hj];exact dj
   refine dk ?_;refine b8 (aR (aX (λx=>x=(aj,s',e',a,b')) ?_ ?_))
   .refine eE (λg=>?_) λ_=>aS t0 t1 (aR (ar ?_))
    .have q1:=g3 _ m2;exact cR q1 (by dsimp only at g;exact λq=>cR (Int.lt_of_lt_of_le q g) (Int.lt_irrefl _))
    .have:=(hA.m _ m).2;rw[kf.2 (show aJ (T:=.int .i64) r (j:Int)<aJ (T:=.int .i64) s'.2.2.2 e'.1 from this)]
   rintro x rfl;exact gd (ar ⟨gI (by omega),rfl,key r hl hA j hj⟩)
  .rintro⟨⟨la,ix⟩,x⟩ ⟨M,J,_⟩;dsimp only at M J;subst M;subst J;exact dg (ar (gO (·,s',e',a,b') (gI (by omega))))
  .have:=(hA.m z (by simpa using U)).1;dsimp only;omega
 .rintro x rfl;exact dg (ar rfl)
theorem ama (w:WT) (s:SN) (I:w.2.2.1.length<=1000) (t k o:Int) (he:EN w s.1 t k o) (hf:F16 w s):kU (w,s)=af ai:=by
 obtain⟨_,_,_,cd,e1,e2,e3⟩:=he;obtain⟨U,M,J⟩:=hf;refine cB ?_;unfold kU aZ bk bw dA bf aY aE;refine gB (aT (ai9 w s.1 I cd e1 e2 e3) (FH (aK (λ_=>aK (λ_=>ar (ar (aQ ?_))) λg=>(g ?_).elim) λg=>(g ?_).elim)));all_goals dsimp only[au];omega
theorem HE (th:List (Int×Int×Bool)) (c:Int) (i:Nat):wl th c (i+1)=if H8 c (aJ (T:=jA) th (i:Int)) then wl th c i++[(i:Int)] else wl th c i:=rfl
theorem adx {n:Nat} (w:WT) (s:SN) (hs:SB n s.1) (e:ET) (hf:F16 w s) (he:EN w s.1 e.1 e.2.1 e.2.2.1) (va:VA w s.1 s.2.1 s.2.2.1 e.1 e.2.1 e.2.2.1 e.2.2.2.1):gy (s,e)=af ai:=by
 refine cB ?_;obtain⟨t,k,o,v,si,de,fr⟩:=e;obtain⟨s1,s2,s3,s4⟩:=s;obtain⟨nm,t0,t1,cd,e1,e2,e3⟩:=he;obtain⟨_,_,ce,lk,cn,th,fu,_,_,_⟩:=nm;obtain⟨f1,f2,f3⟩:=hf;have hth:=hs.th;obtain⟨v3,Y,v5,vel⟩:=va;dsimp only at*
 unfold gy lJ aZ bk bw cA bL bf bx bA aY cK aE cE;refine aK (λh=>?_) λn3=>?_
 .have h:k=3:=h;obtain⟨c0,c1⟩:=ce (.inl h);exact aS c0 (by rw[f1];exact c1) (aR (ar (aQ (v3 h))))
 refine aK (λh=>?_) λZ=>?_
 .have h:k=23:=h;obtain⟨c0,c1⟩:=fu (.inr h);exact aS c0 (by rw[f2];exact c1) (aR (ar (aQ (Y h))))
 refine aK (λh=>?_) λn5=>?_
 .have h:k=5:=h;exact gB (aK (λ_=>ar (ar rfl)) λg=>ar (ar (aQ ((v5 h).resolve_left g))))
 refine aX (λx=>x.2=((s1,s2,s3,s4),t,k,o,v,si,de,fr)/\(x.1=aj->¬k=4/\¬k=22)) (aK (λh=>ar ⟨rfl,λh2=>(by rw[aQ h] at h2;cases h2)⟩) λh=>ar ⟨rfl,λh2=>⟨h,TK h2⟩⟩) ?_;rintro⟨b,x⟩ ⟨e,hb⟩;dsimp only at e hb;subst e;refine aP (λh=>ar rfl) λh=>?_
 obtain⟨n4,n22⟩:=hb h;have vel:=vel n3 Z n5 n4 n22;have hWl:=vG s1.2.2.2 o s1.2.2.2.length;refine aK (λh=>?_) λn18=>?_
 .have h:k=18:=h;subst h;rw[Fr] at vel;refine jm s1.2.2.2.length (by omega) (λi x=>x.1.2.2=(i:Int)/\x.2=(t,18,o,v,si,de,fr)/\x.1.1=((wl s1.2.2.2 o i).length:Int)/\(x.1.2.1=ai↔v∈wl s1.2.2.2 o i)) ?_ ?_ ⟨rfl,rfl,rfl,by simp[wl]⟩
  .rintro i ⟨⟨c,hit,ix⟩,x⟩ hi ⟨J,I,M,U⟩;dsimp only at J I M U;subst J;subst I;subst M;have hl:=vG s1.2.2.2 o i;refine dk ?_;refine aX (λx=>x.2=(t,18,o,v,si,de,fr)/\x.1.1=((wl s1.2.2.2 o (i+1)).length:Int)/\(x.1.2=ai↔v∈wl s1.2.2.2 o (i+1))) ?_ ?_
   .refine b8 (aR (aX (λx=>x=(H8 o (aJ (T:=jA) s1.2.2.2 (i:Int)),t,18,o,v,si,de,fr)) ?_ ?_))
    .unfold H8;refine aK (λh=>ar ?_) λh=>ar ?_
     .dsimp only at h ⊢;rw[h];rfl
     .dsimp only at h ⊢;rw[bG h];rfl
    rintro x rfl;rw[HE];dsimp only;cases hw:H8 o (aJ (T:=jA) s1.2.2.2 (i:Int)) with
    |true=>
     refine FH (aP (λh=>ar ⟨rfl,?_,?_⟩) λh=>ar ⟨rfl,?_,?_⟩)
     .dsimp only;rw[gI (by omega)];simp
     .simp[U.1 h]
     .dsimp only;rw[gI (by omega)];simp
     .have:¬v∈wl s1.2.2.2 o i:=λg=>by rw[U.2 g] at h;cases h
      simp[this]
    |false=>exact gd (ar ⟨rfl,rfl,U⟩)
   rintro⟨⟨c,hit'⟩,x⟩ ⟨J,I,M⟩;dsimp only at J I M;subst J;subst I;exact ar ⟨gI (by omega),rfl,rfl,M⟩
  .rintro⟨⟨c,hit,ix⟩,x⟩ ⟨J,I,M,U⟩;dsimp only at J I M U;subst J;subst I;subst M;refine dg (ax (P:=λy=>y=ai) (gB (aP (λ_=>ar (ar rfl)) λh=>?_)) λy hy=>ar hy);have hn:¬v∈wl s1.2.2.2 o s1.2.2.2.length:=λg=>by rw[U.2 g] at h;cases h
   by_cases h0:(wl s1.2.2.2 o s1.2.2.2.length).length=0
   .rw[aF h0] at vel;refine aK (λ_=>ar (ar (aQ vel))) λg=>(g (by dsimp only;omega)).elim
   .rw[ay h0] at vel;have vel:v=Bs (wl s1.2.2.2 o s1.2.2.2.length) v:=vel;exact (hn (vel▸H0 v h0)).elim
 refine aK (λh=>?_) λn19=>?_
 .have h:k=19:=h;subst h;rw[aje] at vel;refine jm s1.2.2.2.length (by omega) (λi x=>x.1.2=(i:Int)/\x.2=(t,19,o,v,si,de,fr)/\x.1.1=((wl s1.2.2.2 o i).length:Int)) ?_ ?_ ⟨rfl,rfl,rfl⟩
  .rintro i ⟨⟨c,ix⟩,x⟩ hi ⟨J,I,M⟩;dsimp only at J I M;subst J;subst I;subst M;have hl:=vG s1.2.2.2 o i;refine dk ?_;refine aX (λx=>x.2=(t,19,o,v,si,de,fr)/\x.1=((wl s1.2.2.2 o (i+1)).length:Int)) ?_ ?_
   .refine b8 (aR (aX (λx=>x=(H8 o (aJ (T:=jA) s1.2.2.2 (i:Int)),t,19,o,v,si,de,fr)) ?_ ?_))
    .unfold H8;refine aK (λh=>ar ?_) λh=>ar ?_
     .dsimp only at h ⊢;rw[h];rfl
     .dsimp only at h ⊢;rw[bG h];rfl
    rintro x rfl;rw[HE];dsimp only;cases hw:H8 o (aJ (T:=jA) s1.2.2.2 (i:Int)) with
    |true=>
     refine FH (ar ⟨rfl,?_⟩);dsimp only;rw[gI (by omega)];simp
    |false=>exact gd (ar ⟨rfl,rfl⟩)
   rintro⟨c,x⟩ ⟨J,I⟩;dsimp only at J I;subst J;subst I;exact ar ⟨gI (by omega),rfl,rfl⟩
  .rintro⟨⟨c,ix⟩,x⟩ ⟨J,I,M⟩;dsimp only at J I M;subst J;subst I;subst M;exact dg (ar (aQ vel))
 exact ar (aQ (by rw[ahr _ _ _ _ _ _ n18 n19] at vel;exact vel))
theorem Z3 (x:Int×Int×Bool) (c:Int):mm (x,c)=af (H8 c x):=by
 refine cB ?_;unfold mm H8 bf aE;refine gB (aK (λh=>ar (ar ?_)) λh=>ar (ar ?_))
 .have h:x.1=3:=h;rw[h];rfl
 .have h:¬x.1=3:=h;rw[bG h];rfl
theorem ac2 {n:Nat} (s:SY) (hs:SB n s):kq s=af (s.2.1,s.1,s.2.2.1,s.2.2.2):=by
 refine cB ?_;obtain⟨s1,s2,J,I⟩:=s;have hn:=hs.n1;have hlk:=hs.lk;have hdn:=hs.dn;have hth:=hs.th;have hrd:=hs.rd;dsimp only at hlk hdn hth hrd;unfold kq r7 aZ bL ck bx bB bA aY cK cE;dsimp only[au];refine dx (dx (eP (by omega) (eP (by omega) (bh (by simp;omega) (by omega) ?_))));refine jm s1.length (by omega) (λi x=>∃ c d,x=((i:Int),(s1,s2,J,I),c,d)/\d.length=s1.length/\∀ j,j<i->d.getD j (0,[])=s1.getD j (0,[])) ?_ ?_ ⟨_,_,rfl,by simp,λj hj=>by omega⟩
 .rintro i x hi ⟨c,d,rfl,hd,he⟩;have hr:=hrd _ (bJ (T:=At) (xs:=s1) (j:=(i:Int)) (by omega) (by omega));refine dk ?_;refine b8 (aR (aT (x:=(aJ (T:=At) s1 (i:Int)).2) (cB ?_) ?_))
  .exact bh (by dsimp only;omega) (by omega) (ar rfl)
  refine b8 (b8 (ar ⟨c,d.set i (aJ (T:=At) s1 (i:Int)),?_,by simp[hd],λj hj=>?_⟩))
  .dsimp only;rw[gI (by omega)];rfl
  .by_cases e:i=j
   .subst e;rw[aA,List.getElem?_set_self (by omega)];rfl
   .rw[aA,List.getElem?_set_ne e,<-aA];exact he j (by omega)
 .rintro x ⟨c,d,rfl,hd,he⟩;have:d=s1:=by
   refine dE hd λj Y M=>?_
   have:=he j M;rw[aA,aA,aB Y,aB M] at this;exact this
  subst this;refine dg (ax (P:=λy=>y=(s2,d,J,I)) ?_ λy U=>ar U);refine aT (x:=J) (cB (bh (by dsimp only;omega) (by omega) (ar rfl))) (aT (x:=I) (cB (bh (by dsimp only;omega) (by omega) (ar rfl))) (ar rfl))
theorem Xy (l:List Int) (i u:Int):Bs (l++[i]) u=if l.length=0 then i else if i=u then i else Bs l u:=by
 unfold Bs;cases l with
 |nil=>
  by_cases h:u=i
  .subst h;simp
  .simp[h];rfl
 |cons a r=>
  have e1:¬(a::r++[i]).length=0:=by simp
  have e2:¬(a::r).length=0:=by simp
  simp only[ay e1,ay e2];by_cases h:i=u
  .subst h;simp
  .have h':¬u=i:=λg=>h g.symm
   rw[ay h];have:(a::r++[i]).contains u=(a::r).contains u:=by simp[h']
   rw[this];rfl
theorem Pm {th:List (Int×Int×Bool)} {c u:Int} {i:Nat} (h:¬(wl th c i).length=0):0<=Bs (wl th c i) u/\Bs (wl th c i) u<i:=by
 have:=rj.1 (H0 u h);exact⟨this.1,this.2.1⟩
theorem Kx {l:List Int} {u:Int} (h:l.length=0):Bs l u= -1:=by unfold Bs;rw[aF h]
theorem aeh (s:SY) (o u:Int) (hs:s.2.2.2.length<=1000):jG ((s.2.1,o,u),s.1,s.2.2.1,s.2.2.2)=af (Bs (wl s.2.2.2 o s.2.2.2.length) u,s.1,s.2.2.1,if (wl s.2.2.2 o s.2.2.2.length).length=0 then s.2.2.2 else ya s.2.2.2 (Bs (wl s.2.2.2 o s.2.2.2.length) u) 4):=by
 refine cB ?_;obtain⟨s1,s2,J,I⟩:=s;dsimp only at hs ⊢;unfold jG qF aZ bk bL ck bx iH kB aY cK aE cE;dsimp only[au];refine jm I.length (by omega) (λi x=>x=((Bs (wl I o i) u,(i:Int)),s1,J,I,s2)) ?_ ?_ rfl
 .rintro i x hi rfl;refine dk ?_;refine aX (λx=>x=(Bs (wl I o (i+1)) u,s1,J,I,s2)) ?_ ?_
  .refine b8 (b8 (aR ?_));refine aX (λx=>x=(decide (H8 o (aJ (T:=jA) I (i:Int))=ai/\((wl I o i).length=0\/(i:Int)=u)),s1,J,I,s2)) ?_ ?_
   .refine aT (Z3 _ _) (aP (λh=>?_) λh=>ar ?_)
    .have h:H8 o (aJ (T:=jA) I (i:Int))=ai:=h;refine bF (λg=>ar ?_) λg=>ar ?_
     .have:(wl I o i).length=0:=vF λq=>by have:=(Pm (u:=u) q).1;dsimp only at g;omega
      simp[h,this]
     .have:¬(wl I o i).length=0:=λq=>by have:=Kx (u:=u) q;dsimp only at g;omega
      simp[h,this]
    .have h:H8 o (aJ (T:=jA) I (i:Int))=aj:=h;simp[h]
   rintro x rfl;rw[HE];refine aK (λh=>ar ?_) λh=>ar ?_
   .rw[aF h.1,Xy];rcases h.2 with g|g
    .rw[aF g]
    .rw[aF g];simp
   .by_cases g:H8 o (aJ (T:=jA) I (i:Int))=ai
    .rw[aF g,Xy,ay λq=>h ⟨g,.inl q⟩,ay λq=>h ⟨g,.inr q⟩]
    .rw[ay g]
  rintro x rfl;exact ar (by dsimp only;rw[gI (by omega)])
 .rintro x rfl;refine dg (ax (P:=λy=>y=(Bs (wl I o I.length) u,s1,J,if (wl I o I.length).length=0 then I else ya I (Bs (wl I o I.length) u) 4)) ?_ λy M=>ar M);refine aX (λx=>x=(s1,J,if (wl I o I.length).length=0 then I else ya I (Bs (wl I o I.length) u) 4)) ?_ ?_
  .refine eE (λg=>?_) λg=>ar ?_
   .have h0:¬(wl I o I.length).length=0:=λq=>by have:=Kx (u:=u) q;dsimp only at g;omega
    have hp:=Pm (u:=u) h0;refine aS hp.1 hp.2 (aS hp.1 hp.2 (ar ?_));rw[ay h0];rfl
   .have:(wl I o I.length).length=0:=vF λq=>by have:=(Pm (u:=u) q).1;dsimp only at g;omega
    rw[aF this]
  rintro x rfl;exact ar rfl
theorem ael (th:List (Int×Int×Bool)) (l:List Int) (i:Int):CQ th (l++[i])=ya (CQ th l) i 4:=by unfold CQ;rw[dQ];rfl
theorem aek (l:List Int):∀ (th:List (Int×Int×Bool)) (j:Int),0<=j->(∀ z∈l,0<=z/\z<th.length/\¬z=j)->aJ (T:=jA) (CQ th l) j=aJ (T:=jA) th j:=by
 induction l with
 |nil=>intro th j _ _;rfl
 |cons x r J=>
  intro th j hj h;have I:=h x (by simp);refine (J (ya th x 4) j hj λz M=>?_).trans ?_
  .have:=h z (by simp[M]);unfold ya;rw[bV];exact this
  .unfold ya;rw[rL (T:=jA) th x j _ I.1 I.2.1 hj,ay λq=>I.2.2 q.symm]
theorem Uk (s:SY) (o:Int) (hs:s.2.2.2.length<=1000):gV ((s.2.1,o),s.1,s.2.2.1,s.2.2.2)=af (((wl s.2.2.2 o s.2.2.2.length).length:Int),s.1,s.2.2.1,CQ s.2.2.2 (wl s.2.2.2 o s.2.2.2.length)):=by
 refine cB ?_;obtain⟨s1,s2,J,I⟩:=s;dsimp only at hs ⊢;unfold gV mA aZ bk bL dA ck bx kB aY cK aE cE;dsimp only[au];refine jm I.length (by omega) (λi x=>x=((((wl I o i).length:Int),(i:Int)),s1,J,CQ I (wl I o i),s2)) ?_ ?_ rfl
 .rintro i x hi rfl;have hl:=vG I o i;have hg:aJ (T:=jA) (CQ I (wl I o i)) (i:Int)=aJ (T:=jA) I (i:Int):=aek _ _ _ (by omega) λz M=>by have:=rj.1 M;exact⟨this.1,by omega,by omega⟩
  have hq:=HL (wl I o i) I;refine dk ?_;refine aX (λx=>x=(((wl I o (i+1)).length:Int),s1,J,CQ I (wl I o (i+1)),s2)) ?_ ?_
  .refine b8 (b8 (aR (aT (Z3 _ _) ?_)));rw[HE];refine aP (λh=>?_) λh=>ar ?_
   .have h:H8 o (aJ (T:=jA) I (i:Int))=ai:=hg▸h;refine b8 (b8 (ar ?_));rw[aF h,ael];dsimp only;rw[gI (by omega)];simp only[bu,b7,jT];rfl
   .have h:H8 o (aJ (T:=jA) I (i:Int))=aj:=hg▸h;rw[h];rfl
  rintro x rfl;exact ar (by dsimp only;rw[gI (by omega)])
 .rintro x rfl;exact dg (ar rfl)
theorem agx {n:Nat} (w:WT) (s:SY) (hs:SB n s) (hn:n<=1000) (U:w.2.2.1.length<=1000) (t k o u:Int) (he:EN w s t k o) (hr:Wd w s t k o) (J:¬k=8) (I:¬k=9):gW (w,s,t,k,o,u)=af ((re w s t k o u).1,(re w s t k o u).2,ai):=by
 refine cB ?_;unfold gW aZ bk bw cA dV bL dA cX fk kD ck bf bB bA kB aE;refine aT (D9 w s hs hn U t k o he hr) (fJ rfl (aT (ac2 s hs) ?_));suffices hmain:Ok _ _ from aX (λx=>((x.2.2.2.1,x.2.1,x.2.2.2.2),x.1)=re w s t k o u) hmain λx M=>ar (by rw[<- M])
 obtain⟨nm,t0,t1,cd,e1,e2,e3⟩:=id he;obtain⟨_,_,ce,lk,cn,th,fu⟩:=nm;have hm:16<=k/\k<=19->0<=(aJ (T:=TD) w.2.2.1 o).2/\(aJ (T:=TD) w.2.2.1 o).2<w.2.1.length:=λh=>cd _ (bJ (cn h).1 (cn h).2)
 rcases @IQ k with rfl|rfl|rfl|rfl|rfl|rfl|rfl|rfl|rfl|rfl|rfl|rfl|rfl|rfl|rfl|rfl|rfl|rfl|rfl|rfl|rfl|rfl|rfl|⟨hk,Y⟩
 case inr.inr.inr.inr.inr.inr.inr.inr.inr.inr.inr.inr.inr.inr.inr.inr.inr.inr.inr.inr.inr.inr.inr=>omega
 all_goals first|exact (J rfl).elim|exact (I rfl).elim|skip
 all_goals simp only[aV,bp,s7]
 all_goals with_reducible repeat' first|(refine OS.ok ?_;constructor)|refine IM.mk λ_=>?_
 all_goals try simp only[au,qZ] at*
 all_goals try rw[bV]
 all_goals first|omega|exact (hm ⟨by decide,by decide⟩).1|exact e1▸(hm ⟨by decide,by decide⟩).2|exact rfl|skip
 .refine aT (aeh s o u hs.th) (bg ?_ (ar ?_))
  .have:al (if (wl s.2.2.2 o s.2.2.2.length).length=0 then s.2.2.2 else ya s.2.2.2 (Bs (wl s.2.2.2 o s.2.2.2.length) u) 4)=s.2.2.2.length:=by
    split
    .rfl
    .exact bV ..
   dsimp only;rw[this];simp
  .rw[Fr];by_cases h:(wl s.2.2.2 o s.2.2.2.length).length=0
   .rw[aF h,aF h,Kx h]
   .rw[ay h,ay h]
 .refine aT (Uk s o hs.th) (bg ?_ (ar rfl));dsimp only;rw[HL];simp
def AO:Nat->List (List Int)
 |0=>[[]]
 |m+1=>AO m++(AO m).map ((3-(m:Int))::·)
theorem Mx:∀ m,[]∈AO m
 |0=>by simp[AO]
 |m+1=>by simp[AO,Mx m]
theorem Eg:∀ (m:Nat) (l:List Int),Hx l->(∀ z∈l,4-(m:Int)<=z/\z<4)->l∈AO m
 |m,[],_,_=>Mx m
 |0,a::r,_,h=>by have:=h a (by simp);omega
 |m+1,a::r,hA,h=>by
  have J:=h a (by simp);rw[AO,bQ];by_cases e:a=3-(m:Int)
  .refine .inr (di.2 ⟨r,Eg m r hA.2 λz I=>?_,by rw[e]⟩);have:=h z (by simp[I]);have:=hA.1 z I;omega
  .refine .inl (Eg m (a::r) hA λz I=>?_);have:=h z I;rcases bm.1 I with rfl|I
   .omega
   .have:=hA.1 z I;omega
theorem ah2 {l:List Int} (h:Hx l) (h2:∀ z∈l,0<=z/\z<4):l∈AO 4:=Eg 4 l h λz I=>by have:=h2 z I;omega
def in4:List Int:=[0,1,2,3]
theorem W7 {t:Int} (h0:0<=t) (h1:t<4):t∈in4:=by
 have:t=0\/t=1\/t=2\/t=3:=by omega
 rcases this with rfl|rfl|rfl|rfl<;>simp[in4]
def alt (l:List Int) (t:Int):Bool:=l.contains t||((wF (l++[t])==af (xm l [t]))&&(lI (xm l [t])==af (xm l [t]))&&aC (xm l [t]).length (l++[t]).length)
def amn (l:List Int) (t:Int):Bool:= !l.contains t||(jd (l,t)==af (t,wo l t))
theorem ae1:((AO 4).all λl=>in4.all λt=>alt l t)=ai:=by kernel_rfl
theorem afb:((AO 4).all λl=>in4.all λt=>amn l t)=ai:=by kernel_rfl
theorem srt8 {l:List Int} {t:Int} (h:Hx l) (h2:∀ z∈l,0<=z/\z<4) (h0:0<=t) (h1:t<4) (hn:¬t∈l):wF (l++[t])=af (xm l [t])/\lI (xm l [t])=af (xm l [t])/\(xm l [t]).length=(l++[t]).length:=by
 have:=gw.1 (gw.1 ae1 l (ah2 h h2)) t (W7 h0 h1);unfold alt at this;have hc:l.contains t=aj:=by simp[hn]
 rw[hc,Bool.false_or,av,av] at this;exact⟨eq_of_beq this.1.1,eq_of_beq this.1.2,aw this.2⟩
theorem del8 {l:List Int} {t:Int} (h:Hx l) (h2:∀ z∈l,0<=z/\z<4) (h0:0<=t) (h1:t<4) (hn:l.contains t=ai):jd (l,t)=af (t,wo l t):=by
 have:=gw.1 (gw.1 afb l (ah2 h h2)) t (W7 h0 h1);unfold amn at this;rw[hn,Bool.not_true,Bool.false_or] at this;exact eq_of_beq this
theorem afm (a0 a1 a2:Int) (r0 r1 r2:List Int) (h:Int) (d:List Bool) (th:List (Int×Int×Bool)) (h0:r0.length<=1000) (h1:r1.length<=1000) (h2:r2.length<=1000) (hd:d.length<=1000) (ht:th.length<=1000):m7 ([(a0,r0),(a1,r1),(a2,r2)],h,d,th)=af ((h,d,th),(a0,a1,a2),r0,r1,r2):=by
 refine cB ?_;have I:∀ l:List Int,l.length<=1000->oY l=af l:=λl hl=>cB (bh (by omega) (by omega) (ar rfl))
 unfold m7 aZ bL bx bB bA aY aE;refine bg rfl (aX (λx=>x=(([(a0,r0),(a1,r1),(a2,r2)],h,d,th),0,(a0,a1,a2),r0,r1,r2)) ?_ ?_)
 .exact fI rfl (bg rfl (aR (aT (I _ h0) (fI rfl (bg rfl (aR (aT (I _ h1) (fI rfl (bg rfl (aR (aT (I _ h2) (fJ rfl (ar rfl)))))))))))))
 rintro x rfl;refine aT (x:=d) (cB (bh (by dsimp only;omega) (by omega) (ar rfl))) (aT (x:=th) (cB (bh (by dsimp only;omega) (by omega) (ar rfl))) (ar rfl))
theorem agy {n:Nat} (w:WT) (s:SY) (hs:SB n s) (hn:n<=1000) (I:w.2.2.1.length<=1000) (t k o u:Int) (he:EN w s t k o) (hr:Wd w s t k o) (hk:k=8\/k=9):gW (w,s,t,k,o,u)=ah:=by
 have h1:=D9 w s hs hn I t k o he hr;have h2:=ac2 s hs;rcases hk with rfl|rfl
 .unfold gW aZ bk bw cA dV bL dA cX fk kD ck bf bB bA kB aE;simp only[h1,h2,aV,bp,s7];cases fe o (al s.1)<;>rfl
 .unfold gW aZ bk bw cA dV bL dA cX fk kD ck bf bB bA kB aE;simp only[h1,h2,aV,bp,s7];cases fe o (al s.1)<;>rfl
theorem agw {n:Nat} (w:WT) (s:SY) (hs:SB n s) (hn:n<=900) (M:w.2.2.1.length<=1000) (t k u:Int) (he:EN w s t k 2) (hr:Wd w s t k 2) (hk:k=8\/k=9) (U:s.1.length=3) (hA:Hx (aJ (T:=At) s.1 2).2) (I:∀ z∈(aJ (T:=At) s.1 2).2,0<=z/\z<4) (J:t<4):kY (w,s,t,k,2,u)=af ((re w s t k 2 u).1,(re w s t k 2 u).2,ai):=by
 have h1:=D9 w s hs (by omega) M t k 2 he hr;have t0:=he.t0;have ra:=hr.ra;have rr:=hr.rr;have hrd:=hs.rd;have hdn:=hs.dn;have hth:=hs.th;obtain⟨s1,h,d,th⟩:=s
 match s1,U with
 |[(a0,r0),(a1,r1),(a2,r2)],_=>
  have g0:r0.length<=n:=hrd (a0,r0) (by simp);have Z:r1.length<=n:=hrd (a1,r1) (by simp);have Y:r2.length<=n:=hrd (a2,r2) (by simp);have hA:Hx r2:=hA;have I:∀ z∈r2,0<=z/\z<4:=I;dsimp only at hdn hth;have hc:=afm a0 a1 a2 r0 r1 r2 h d th (by omega) (by omega) (by omega) hdn hth;refine cB ?_;unfold kY aZ bk bw cA dV kE dA cX fk pZ bf v7 bB aE;rcases hk with rfl|rfl
  .have ra:r2.contains t=aj:=ra rfl;obtain⟨q1,q2,q3⟩:=srt8 hA I t0 J (by simpa using ra);simp only[h1,hc,aV,bp,s7];refine aX (λx=>x=(0,(h,d,th),0,(((a0,r0),(a1,r1),a2)),ai,xm r2 [t])) ?_ ?_
   .refine bh (by simp;omega) (by omega) (aT q1 (bg ?_ (aT q2 (bg ?_ (ar ?_)))))
    .rw[q3];simp
    .simp
    .rfl
   rintro x rfl;exact ar rfl
  .have rr:r2.contains t=ai:=rr rfl;have q1:=del8 hA I t0 J rr;simp only[h1,hc,aV,bp,s7];refine aX (λx=>x=(0,(h,d,th),0,(((a0,r0),(a1,r1),a2)),aj,wo r2 t)) ?_ ?_
   .exact aT q1 (bg (by simp) (ar rfl))
   rintro x rfl;exact ar rfl
theorem al9 {n:Nat} (w:WT) (s:SY) (hs:SB n s) (hn:n<=900) (I:w.2.2.1.length<=1000) (t k o u:Int) (he:EN w s t k o) (hr:Wd w s t k o) (h2:k=8\/k=9->o=2) (M:s.1.length=3) (hA:∀ l∈s.1,Hx l.2/\∀ z∈l.2,0<=z/\z<4) (J:t<4):rW (w,s,t,k,o,u)=af ((re w s t k o u).1,(re w s t k o u).2,ai):=by
 unfold rW;by_cases hk:k=8\/k=9
 .have:=h2 hk;subst this;have hg:=hA _ (bJ (T:=At) (xs:=s.1) (j:=2) (by omega) (by omega));rw[agy w s hs (by omega) I t k 2 u he hr hk,agw w s hs hn I t k u he hr hk M hg.1 hg.2 J];rfl
 .rw[agx w s hs (by omega) I t k o u he hr (λh=>hk (.inl h)) λh=>hk (.inr h)];rfl
theorem Xw (l:List Int) (h:l.length<=100000):zd l=af l:=cB (bh (by omega) (by omega) (ar rfl))
theorem afn (l:List Int) (h:l.length<=100000):oY l=af l:=cB (bh (by omega) (by omega) (ar rfl))
theorem and {n:Nat} (w:WT) (s:SN) (e:ET) (hs:NB n s) (hn:n<=900) (U:w.2.2.1.length<=1000) (Y:F16 w s) (J:EN w s.1 e.1 e.2.1 e.2.2.1) (hS:S16 w s e) (ld:e.2.2.2.2.2.1.length<=1000000) (lf:e.2.2.2.2.2.2.length<=1000000) (h2:e.2.1=8\/e.2.1=9->e.2.2.1=2) (h3:s.1.1.length=3) (hA:∀ l∈s.1.1,Hx l.2/\∀ z∈l.2,0<=z/\z<4) (t4:e.1<4):fP (w,s,e)=af (nxP w s e,ai):=by
 refine cB ?_;obtain⟨rd,q1,q2,de,fr,nd,nf,va⟩:=id hS;obtain⟨nm,t0,t1,cd,e1,e2,e3⟩:=id J;obtain⟨k1,k2,ce,lk,cn,th,fu,_,_,_⟩:=nm;obtain⟨f1,f2,f3⟩:=id Y;have hsc:=hs.c;have hsf:=hs.f;have hsk:=hs.k;unfold fP aZ bk bw bL dA cX ck bf bx iH kB aY aE cE;refine aX (λx=>x=(aj,w,s,e,0)) ?_ ?_
 .refine aT (ama w s U _ _ _ J Y) (fJ rfl (dg (eE (λg=>(by dsimp only[au] at g;omega)) λ_=>dg (ar ?_))));rw[gk.2 (show e.2.1<=23 by omega)]
 rintro x rfl;refine gd (aX (λx=>x=(aj,w,s,e,0)) ?_ ?_)
 .exact aT (D9 w s.1 hs.sb (by omega) U _ _ _ J rd) (fJ rfl (aT (aeb w e q1 q2) (fJ rfl (aT (RH w s e (λh=>ce h) de fr t0 (by rw[f3];exact t1) nd nf ld lf) (fJ rfl (aT (adx w s hs.sb e Y J va) (ar rfl)))))))
 rintro x rfl;refine gd (aX (λx=>x.2=(w,s,e,0)/\re w s.1 e.1 e.2.1 e.2.2.1 x.1=re w s.1 e.1 e.2.1 e.2.2.1 e.2.2.2.1) ?_ ?_)
 .exact aK (λ_=>ar ⟨rfl,rfl⟩) λh=>ar ⟨rfl,XI _ _ _ _ _ _ _ h⟩
 rintro⟨u,x⟩ ⟨Z,hu⟩;dsimp only at Z hu;subst Z;refine aT (al9 w s.1 hs.sb hn U _ _ _ u J rd h2 h3 hA t4) (fJ rfl (aT (Xw _ (by dsimp only;omega)) (aT (Xw _ (by dsimp only;omega)) (aT (afn _ (by dsimp only;omega)) ?_))));rw[hu];refine aX (λx=>x.1=e/\x.2.2.1=(re w s.1 e.1 e.2.1 e.2.2.1 e.2.2.2.1).1/\x.2.2.2.1=Y6 s.2.1 e/\x.2.2.2.2.1=ZW s.2.2.1 e/\x.2.2.2.2.2=s.2.2.2) ?_ ?_
 .unfold Y6 ZW;refine aK (λh=>?_) λh=>aK (λh'=>?_) λh'=>ar ⟨rfl,rfl,(ay h).symm,(ay h').symm,rfl⟩
  .have h:e.2.1=4:=h;have I:=ce (.inr h);exact aS I.1 (by rw[f1];exact I.2) (aS I.1 (by rw[f1];exact I.2) (ar ⟨rfl,rfl,(aF h).symm,(ay (by omega)).symm,rfl⟩))
  .have h:e.2.1=22:=h';have I:=fu (.inl h);exact aS I.1 (by rw[f2];exact I.2) (aS I.1 (by rw[f2];exact I.2) (ar ⟨rfl,rfl,(ay (by omega)).symm,(aF h).symm,rfl⟩))
 rintro⟨x1,x2,x3,x4,x5,x6⟩ ⟨h1,h2,h4,h5,h6⟩;simp only at h1 h2 h4 h5 h6;subst h1;subst h2;subst h4;subst h5;subst h6;have M:x1.1<(s.2.2.2.length:Int):=by rw[f3];exact t1
 exact aS t0 M (aS t0 M (aR (aS t0 M (aS t0 M (ar rfl)))))
theorem Y_ (r:List Bool) (e:ET) (h1:∀ y∈e.2.2.2.2.2.1,0<=y/\r.getD y.toNat aj=ai) (h2:∀ y∈e.2.2.2.2.2.2,0<=y/\r.getD y.toNat aj=ai) (ld:e.2.2.2.2.2.1.length<=1000000) (I:e.2.2.2.2.2.2.length<=1000000):ci (r,e)=af ai:=by
 refine cB ?_;unfold ci kh dV kD bx iH bB bA aY cK aE cE;refine jm 2 (by omega) (λi x=>x=(i:Int)) ?_ ?_ rfl
 .rintro i x hi rfl;refine bF (λ_=>?_) λg=>(by omega)
  refine dx (eP (by omega) (Ag (by omega) (aR ?_)));have hr:∃ l:List Int,aJ (T:=.sl (.int .i64)) [e.2.2.2.2.2.1,e.2.2.2.2.2.2] (i:Int)=l/\(∀ y∈l,0<=y/\r.getD y.toNat aj=ai)/\l.length<=1000000:=by
   match i,hi with
   |0,_=>exact⟨_,rfl,h1,ld⟩
   |1,_=>exact⟨_,rfl,h2,I⟩
  obtain⟨l,J,hA,hl⟩:=hr;have er':aJ (T:=.sl aM) [e.2.2.2.2.2.1,e.2.2.2.2.2.2] (i:Int)=l:=J;dsimp only at er' ⊢;rw[er'];refine jm l.length (by omega) (λj x=>x=(j:Int)) ?_ ?_ rfl
  .rintro j x hj rfl;refine dk ?_;have m:=hA _ (bJ (T:=.int .i64) (xs:=l) (j:=(j:Int)) (by omega) (by omega));refine b8 (aR (aX (λx=>x=aj) ?_ ?_))
   .revert m;generalize aJ (T:=.int .i64) l (j:Int)=z;intro m;have M:z.toNat<r.length:=by
     rcases b9 z.toNat r.length with g|g
     .exact g
     .have:=m.2;rw[aA,bS g] at this;cases this
    refine bF (λg=>(by have:=m.1;omega)) λ_=>eE (λg=>(by have:=m.1;dsimp only[au] at g;omega)) λ_=>aS m.1 (by have:=m.1;omega) (aR (ar ?_))
    have:aJ (T:=.bool) r z=ai:=m.2;show (!aJ (T:=.bool) r z)=aj;rw[this];rfl
   rintro x rfl;exact gd (ar (gI (by omega)))
  .rintro x rfl;exact dg (ar (gI (by omega)))
 .rintro x rfl;exact bF (λg=>(by omega)) λ_=>ar rfl
abbrev W8 (n:Nat) (s:List (Int×Int×Int)):WT:=(C0,GY,Ms,Tk,v9.take n,s)
theorem WX.w8 {w:WT} (U:WX w):∃ n,(n=1\/n=2\/n=3\/n=4)/\w=W8 n w.2.2.2.2.2:=by
 obtain⟨h1,h2,M,J,⟨n,n1,Y,I⟩,_,_⟩:=U;obtain⟨c,l,d,f,t,s⟩:=w;dsimp only at h1 h2 M J I;subst h1;subst h2;subst M;subst J;subst I;exact⟨n,by omega,rfl⟩
abbrev sn8 (w:WT):SN:=(PN w,ce0 w,fu0 w,aG w.2.2.2.2.1.length 0)
theorem Ii (s:List (Int×Int×Int)):dl (W8 1 s)=af (sn8 (W8 1 s)):=by kernel_rfl
theorem st2 (s:List (Int×Int×Int)):dl (W8 2 s)=af (sn8 (W8 2 s)):=by kernel_rfl
theorem st3 (s:List (Int×Int×Int)):dl (W8 3 s)=af (sn8 (W8 3 s)):=by kernel_rfl
theorem st4 (s:List (Int×Int×Int)):dl (W8 4 s)=af (sn8 (W8 4 s)):=by kernel_rfl
theorem Cf {w:WT} (I:WX w):dl w=af (sn8 w):=by
 obtain⟨n,hn,e⟩:=I.w8;rw[e];rcases hn with rfl|rfl|rfl|rfl
 .exact Ii _
 .exact st2 _
 .exact st3 _
 .exact st4 _
abbrev VN4:List (List UInt8):=[[120],[121],[118],[113]]
theorem vc8:g_ C0=af (VN4,ai):=by kernel_rfl
theorem vn1 (s:List (Int×Int×Int)):dN (W8 1 s,VN4)=af ai:=by kernel_rfl
theorem vn2 (s:List (Int×Int×Int)):dN (W8 2 s,VN4)=af ai:=by kernel_rfl
theorem vn3 (s:List (Int×Int×Int)):dN (W8 3 s,VN4)=af ai:=by kernel_rfl
theorem vn4 (s:List (Int×Int×Int)):dN (W8 4 s,VN4)=af ai:=by kernel_rfl
theorem vs8 {w:WT} (J:WX w) (hb:VL w):fZ w=af ai:=by
 have hv:=J.v;have hs:=J.s;have ht:=hb.t0;unfold SV0 at hv;refine cB ?_;unfold fZ kM aZ bk cA cX bx je bA aY cK aE cE;refine jm w.2.2.2.2.2.length (by omega) (λi x=>∃ t n:Int,x=((t,n,(i:Int)),w)/\Li w.2.2.2.2.1.length (w.2.2.2.2.2.take i)=af (t,n)/\0<=t/\t<w.2.2.2.2.1.length/\0<=n/\n<=i) ?_ ?_ ⟨0,0,rfl,rfl,by omega,by omega,by omega,by omega⟩
 .rintro i x hi ⟨t,n,rfl,h1,t0,t1,n0,n1⟩;refine dk ?_;refine b8 (aR ?_);have h2:=Wz hv (i+1);have I:Li w.2.2.2.2.1.length (w.2.2.2.2.2.take (i+1))=TE w.2.2.2.2.1.length (af (t,n)) (aJ (T:=x_) w.2.2.2.2.2 (i:Int)):=by rw[Ij hi,h1]
  rw[I] at h2;dsimp only;revert h2 I;change _->_->Ok _ _;generalize aJ (T:=x_) w.2.2.2.2.2 (i:Int)=z;intro h2 I;obtain⟨(a:Int),(b:Int),(c:Int)⟩:=z;have M:(a=t/\b=n)\/(t<a/\a<w.2.2.2.2.1.length/\b=0):=by
   simp only[TE] at h2;split at h2
   .rename_i h;exact .inl h
   .split at h2
    .rename_i h;exact .inr h
    .exact (h2 rfl).elim
  refine aX (λx=>x=(aj,w,a,b,c)) ?_ ?_
  .refine dg (ar ?_);dsimp only;rw[kf.2 (by dsimp only[au];omega)]
  rintro x rfl;refine gd ?_;rcases M with ⟨rfl,rfl⟩|⟨q1,q2,rfl⟩
  .refine aX (λx=>x=((a,b),w,a,b,c)) (dg (ar rfl)) ?_;rintro x rfl;refine ca (λg=>(g rfl).elim) λ_=>ar ⟨a,b+1,?_,?_,t0,t1,by omega,by omega⟩
   .dsimp only;rw[hX (n:=b+1) (by omega) (by omega),gI (by omega)]
   .rw[I];simp[TE]
  .refine aX (λx=>x=((a,0),w,a,0,c)) (dk (ar rfl)) ?_;rintro x rfl;refine ca (λg=>(g rfl).elim) λ_=>ar ⟨a,1,?_,?_,by omega,q2,by omega,by omega⟩
   .dsimp only;rw[hX (n:=0+1) (by omega) (by omega),gI (by omega)];rfl
   .rw[I];show (if a=t/\(0:Int)=n then af (t,n+1) else if t<a/\a<_/\(0:Int)=0 then af (a,1) else ah)=af (a,1);rw[ay (by omega),aF ⟨q1,q2,rfl⟩]
 .rintro x ⟨t,n,rfl,_⟩;exact dg (ar rfl)
theorem VW8 {w:WT} (M:WX w) (hb:VL w):dO w=af ai:=by
 have hs:=vs8 M hb;have hvn:dN (w,VN4)=af ai:=by
  obtain⟨n,hn,e⟩:=M.w8;rw[e];rcases hn with rfl|rfl|rfl|rfl
  .exact vn1 _
  .exact vn2 _
  .exact vn3 _
  .exact vn4 _
 have hc:=M.c;have hd:=M.d;have hl:=M.l;obtain⟨w1,w2,w3,U,J,I⟩:=w;obtain⟨b1,b2,b3,b4,b0,Z,Y⟩:=hb;dsimp only at hc hd hl b1 b2 b3 b4 Z Y b0;subst hc;subst hd;subst hl;refine cB ?_;unfold dO kN aZ bk cA cX bx bA aY cK aE cE;have f:∀ n m:Nat,n<=m->fQ (m:Int) (aO n)=aj:=λn m h=>gk.2 (by dsimp only[au];omega)
 refine aX (λx=>x=(aj,C0,GY,Ms,U,J,I)) ?_ ?_
 .refine fJ rfl (fJ rfl (fJ rfl (fJ (f _ 2 b4) (ar ?_))));rw[show fQ 60 (aO (al I))=aj from f _ 60 Y]
 rintro x rfl;refine gd (aX (λx=>x=(aj,C0,GY,Ms,U,J,I)) ?_ ?_)
 .refine fJ (gk.2 (by dsimp only[au];omega)) (ar ?_);rw[show fQ 4 (aO (al J))=aj from f _ 4 Z]
 rintro x rfl;refine gd (aT vc8 (aX (λx=>x=(aj,C0,GY,Ms,U,J,I)) ?_ ?_))
 .exact gd (aT hvn (ar rfl))
 rintro x rfl;refine gd (jm 1 (by omega) (λi x=>x=((i:Int),C0,GY,Ms,U,J,I)) ?_ ?_ rfl)
 .rintro i x hi rfl;have:i=0:=by omega
  subst this;refine fI rfl (bg rfl (aR (aT (x:=ai) ?_ (gd (ar rfl)))));rfl
 .rintro x rfl;exact fJ rfl (aT (x:=ai) (by rw[hs];rfl) (ar rfl))
abbrev eN (l:List ET) (i:Nat):ET:=aJ (T:=tE) l (i:Int)
theorem JG {l:List ET} {i:Nat} (h:i<l.length):eN l i∈l:=bJ (T:=tE) (by omega) (by omega)
theorem aj1 {l:List ET} {e:ET} {i:Nat} (h:i<l.length):eN (l++[e]) i=eN l i:=by
 unfold eN;rw[yK,yK,aA,aA,bO h]
theorem afa (l:List ET) (e:ET):eN (l++[e]) l.length=e:=by
 unfold eN;rw[yK,aA,b_ (bW _),HB];rfl
def Nx (w:WT) (l:List ET):SY×List Int×List Int:=l.foldl (λs e=>((re w s.1 e.1 e.2.1 e.2.2.1 e.2.2.2.1).1,Y6 s.2.1 e,ZW s.2.2 e)) (PN w,ce0 w,fu0 w)
theorem S1 (w:WT) {l:List ET} {i:Nat} (h:i<l.length):Nx w (l.take (i+1))=((re w (Nx w (l.take i)).1 (eN l i).1 (eN l i).2.1 (eN l i).2.2.1 (eN l i).2.2.2.1).1,Y6 (Nx w (l.take i)).2.1 (eN l i),ZW (Nx w (l.take i)).2.2 (eN l i)):=by
 rw[mH (T:=tE) h];unfold Nx;rw[dQ];rfl
theorem Acw.all {w:WT} {l:List ET} {sy:SY} {ce fu:List Int} (h:Acw w l sy ce fu):Nx w l=(sy,ce,fu)/\∀ i,i<l.length->SCx w (l.take i) (Nx w (l.take i)).1 (Nx w (l.take i)).2.1 (Nx w (l.take i)).2.2 (eN l i):=by
 induction h with
 |nil=>exact⟨rfl,λi hi=>cR hi (xi _)⟩
 |snoc h hs I=>
  rename_i l sy ce fu e;obtain⟨h1,h2⟩:=I;refine ⟨by unfold Nx at h1 ⊢;rw[dQ,h1];rfl,λi hi=>?_⟩;rw[bu,dR] at hi;rcases b9 i l.length with g|g
  .rw[lj (by omega),aj1 g];exact h2 i g
  .have:i=l.length:=by omega
   subst this;rw[lj (bW _),cP,afa,h1];exact hs
theorem TR.sc {w:WT} {l:List ET} (I:TR (w,l)) {i:Nat} (h:i<l.length):SCx w (l.take i) (Nx w (l.take i)).1 (Nx w (l.take i)).2.1 (Nx w (l.take i)).2.2 (eN l i):=by
 obtain⟨sy,ce,fu,ac⟩:=I.ac;exact ac.all.2 i h
def Ec (w:WT) (l:List ET):HS:=l.foldl (λh e=>(P4 w h (evP e)).1) (HS.zero w)
def cG (l:List ET) (i:Nat):EV:=evP (eN l i)
def oe (w:WT) (l:List ET) (i:Nat):List Int:=Fl w (Ec w (l.take i)) (cG l i)
theorem zk (w:WT) {l:List ET} {i:Nat} (h:i<l.length):Ec w (l.take (i+1))=jN w (Ec w (l.take i)) (cG l i) (oe w l i):=by
 rw[mH (T:=tE) h];unfold Ec;rw[dQ];rfl
theorem zl {w:WT} {l:List ET} (I:TR (w,l)):∀ i:Nat,i<=l.length->TJ (i:Int) (Ec w (l.take i))/\Fit w (Ec w (l.take i))
 |0,_=>by
  have wb:=I.wb;dsimp only at wb;exact⟨HS.zero_ok (by have:=wb.c;omega) (by have:=wb.l;omega) (by have:=wb.f;omega) (by have:=wb.t;omega),Fit.zero w⟩
 |i+1,h=>by
  obtain⟨o,J⟩:=zl I i (by omega);have hl:=I.len;dsimp only at hl;have ok:=abq (I.ev _ (JG (l:=l) (i:=i) (by omega))) I.wb J;rw[zk w (by omega)];exact⟨aa1 (w:=w) (e:=cG l i) o (by omega) ok.th4,J.step (cG l i)⟩
theorem uC {w:WT} {l:List ET} (I:TR (w,l)) {i:Nat} (h:i<l.length):EOK w (Ec w (l.take i)) (cG l i):=abq (I.ev _ (JG h)) I.wb (zl I i (by omega)).2
theorem oN {w:WT} {l:List ET} (I:TR (w,l)) {i:Nat} (h:i<l.length):EvT (cG l i) (eN l i):=ame (I.ev _ (JG h))
theorem VK {w:WT} {l:List ET} (I:TR (w,l)) {i:Nat} (h:i<l.length):En ((i:Int)+1) (oe w l i):=Pf (zl I i (by omega)).1 (uC I h).th4
def LE (a b:List Int):Prop:=a.length<=b.length/\∀ k,a.getD k 0<=b.getD k 0
theorem LE.refl (a:List Int):LE a a:=⟨bW _,λ_=>eT _⟩
theorem LE.trans {a b c:List Int} (h:LE a b) (g:LE b c):LE a c:=⟨dh h.1 g.1,λk=>Int.le_trans (h.2 k) (g.2 k)⟩
theorem LE.jl {a b:List Int} (h:LE a b):jl a b=b:=wI (by rw[pO];have:=h.1;omega) λi=>by rw[vM,qz];have:=h.2 i;omega
theorem anx (a b:List Int):LE a (jl a b):=⟨by rw[pO];omega,λk=>by rw[vM,qz];omega⟩
theorem LE_r (a b:List Int):LE b (jl a b):=⟨by rw[pO];omega,λk=>by rw[vM,qz];omega⟩
theorem ai7 (a:List Int) (t:Nat):LE a (tk a t):=⟨by rw[Mw];omega,λk=>by rw[If];split<;>(try subst k)<;>omega⟩
theorem PF:∀ (l:List (List Int)) (c:List Int),LE c (l.foldl jl c)
 |[],c=>LE.refl c
 |x::r,c=>(anx c x).trans (PF r _)
theorem ahi (w:uS) (h:HS) (e:EV):LE (h.T.getD e.th []) (Fl w h e):=(PF _ _).trans (ai7 _ _)
theorem qH {α:Type} (l:List α) (i j:Nat) (x d:α):(l.set i x).getD j d=if i=j/\i<l.length then x else l.getD j d:=by
 rw[aA,oU];by_cases e:i=j
 .subst e;by_cases g:i<l.length
  .rw[aF rfl,aF g,aF ⟨rfl,g⟩];rfl
  .rw[aF rfl,ay g,ay λq=>g q.2,aA,bS (by omega)]
 .rw[ay e,ay λq=>e q.1,aA]
structure oa (P:List Int->Prop) (h:HS):Prop where
 T:∀ u,P (h.T.getD u [])
 S:∀ u,P (h.S.getD u [])
 L:∀ u,P (h.L.getD u [])
 R:∀ u,P (h.R.getD u [])
 C:∀ u,P (h.C.getD u [])
 F:∀ u,P (h.F.getD u [])
 X:P h.X
 N:∀ u,P (h.N.getD u [])
theorem oa.mono {P Q:List Int->Prop} {h:HS} (a:oa P h) (g:∀ x,P x->Q x):oa Q h:=⟨λu=>g _ (a.T u),λu=>g _ (a.S u),λu=>g _ (a.L u),λu=>g _ (a.R u),λu=>g _ (a.C u),λu=>g _ (a.F u),g _ a.X,λu=>g _ (a.N u)⟩
theorem oa.set {P:List Int->Prop} {l:List (List Int)} {c:List Int} (h:∀ u,P (l.getD u [])) (hc:P c) (i:Nat):∀ u,P ((l.set i c).getD u []):=λu=>by
 rw[qH];split
 .exact hc
 .exact h u
theorem oa.repl {P:List Int->Prop} (h:P []) (n:Nat):∀ u,P ((aG n []).getD u []):=λu=>by
 rw[aA,lz];split<;>exact h
theorem oa.zero {P:List Int->Prop} (h:P []) (w:uS):oa P (HS.zero w):=⟨oa.repl h _,oa.repl h _,oa.repl h _,oa.repl h _,oa.repl h _,oa.repl h _,h,oa.repl h _⟩
theorem oa.step {P:List Int->Prop} (hj:∀ a b,P a->P b->P (jl a b)) {w:uS} {h:HS} (a:oa P h) (e:EV) {c:List Int} (hc:P c):oa P (jN w h e c):=by
 have b:oa P {h with T:=h.T.set e.th c}:={a with T:=oa.set a.T hc _}
 unfold jN;simp only[];repeat' split
 .exact {b with S:=oa.set a.S hc _}
 .exact {b with L:=oa.set a.L (hj _ _ (a.L _) hc) _}
 .exact {b with R:=oa.set a.R (hj _ _ (a.R _) hc) _}
 .exact {b with L:=oa.set a.L (hj _ _ (a.L _) hc) _}
 .exact {b with C:=oa.set a.C (hj _ _ (a.C _) hc) _}
 .exact b
 .exact {b with F:=oa.set a.F (hj _ _ (a.F _) hc) _}
 .exact {b with X:=hj _ _ a.X hc}
 .exact {b with N:=oa.set a.N hc _}
 .exact b
 .refine {b with N:=λu=>?_};have:=a.N u;simp only[Cu];rw[aA] at this ⊢;rw[Ea];cases I:h.N[u]? with
  |none=>rw[I] at this;exact this
  |some x=>
   rw[I] at this;simp only[ch,uX];split
   .exact hc
   .exact this
 .exact b
theorem oa.src {P:List Int->Prop} {w:uS} {h:HS} (a:oa P h) (e:EV):∀ x∈tu w h e,P x:=by
 intro c hc;unfold tu at hc;repeat' (split at hc)
 all_goals simp only[bm,cw,gi] at hc
 .subst hc;exact a.S _
 .subst hc;exact a.T _
 .rcases hc with rfl|rfl
  .exact a.L _
  .exact a.R _
 .subst hc;exact a.L _
 .rcases hc with rfl|rfl|rfl
  .exact a.L _
  .exact a.R _
  .exact a.N _
 .subst hc;exact a.C _
 .subst hc;exact a.F _
 .subst hc;exact a.X
theorem abn {P:List Int->Prop} (hj:∀ a b,P a->P b->P (jl a b)):∀ (l:List (List Int)) (c:List Int),P c->(∀ x∈l,P x)->P (l.foldl jl c)
 |[],_,hc,_=>hc
 |x::r,_,hc,h=>abn hj r _ (hj _ _ hc (h x (dj ..))) λy I=>h y (cI _ I)
theorem abu (w:uS) (h:HS) (e:EV) (c:List Int):(jN w h e c).T=h.T.set e.th c:=by
 unfold jN;simp only[];repeat' split
 all_goals rfl
def Ar (l:List ET) (u:Nat):Nat->Nat
 |0=>0
 |i+1=>if (cG l i).th=u then Ar l u i+1 else Ar l u i
theorem Sw (l:List ET) (u i:Nat):∀ j,Ar l u i<=Ar l u (i+j)
 |0=>bW _
 |j+1=>by
  have:=Sw l u i j;show Ar l u i<=Ar l u (i+j+1);rw[Ar];split<;>omega
theorem VB (l:List ET) (u:Nat) {i j:Nat} (h:i<=j):Ar l u i<=Ar l u j:=by
 obtain⟨k,rfl⟩:∃ k,j=i+k:=⟨j-i,by omega⟩
 exact Sw l u i k
theorem HZ (l:List ET) (i:Nat):Ar l (cG l i).th (i+1)=Ar l (cG l i).th i+1:=by rw[Ar,aF rfl]
structure Gd (w:WT) (l:List ET) (i:Nat) (x:List Int):Prop where
 le:∀ u,x.getD u 0<=(Ar l u i:Int)
 dn:∀ k,k<i->(Ar l (cG l k).th k:Int)+1<=x.getD (cG l k).th 0->LE (oe w l k) x
theorem Gd.nil (w:WT) (l:List ET) (i:Nat):Gd w l i []:=⟨λu=>by simp,λk _ h=>by simp at h;omega⟩
theorem Gd.jl {w:WT} {l:List ET} {i:Nat} (a b:List Int) (I:Gd w l i a) (hb:Gd w l i b):Gd w l i (jl a b):=by
 refine ⟨λu=>?_,λk hk h=>?_⟩
 .rw[vM,qz];have:=I.le u;have:=hb.le u;omega
 .rw[vM,qz] at h;by_cases g:(Ar l (cG l k).th k:Int)+1<=a.getD (cG l k).th 0
  .exact (I.dn k hk g).trans (anx _ _)
  .exact (hb.dn k hk (by omega)).trans (LE_r _ _)
theorem Gd.succ {w:WT} {l:List ET} {i:Nat} {x:List Int} (h:Gd w l i x):Gd w l (i+1) x:=by
 refine ⟨λu=>?_,λk hk g=>?_⟩
 .have:=h.le u;have:=VB l u (show i<=i+1 by omega);omega
 .by_cases e:k=i
  .subst e;have:=h.le (cG l k).th;omega
  .exact h.dn k (by omega) g
structure GS1 (w:WT) (l:List ET) (i:Nat) (h:HS):Prop where
 a:oa (Gd w l i) h
 t:∀ u,(h.T.getD u []).getD u 0=(Ar l u i:Int)
theorem Pj {w:WT} {l:List ET} {i:Nat} (g:GS1 w l i (Ec w (l.take i))):Gd w l (i+1) (oe w l i)/\(oe w l i).getD (cG l i).th 0=(Ar l (cG l i).th i:Int)+1:=by
 have J:Gd w l i ((tu w (Ec w (l.take i)) (cG l i)).foldl AI.jl ((Ec w (l.take i)).T.getD (cG l i).th [])):=abn Gd.jl _ _ (g.a.T _) (g.a.src (w:=w) _);have M:=g.t (cG l i).th;have hL:=PF (tu w (Ec w (l.take i)) (cG l i)) ((Ec w (l.take i)).T.getD (cG l i).th []);have U:=(g.a.T (cG l i).th).dn;have I:=ahi w (Ec w (l.take i)) (cG l i);have e:(oe w l i).getD (cG l i).th 0=(Ar l (cG l i).th i:Int)+1:=by
  unfold oe Fl;rw[If,aF rfl];have:=hL.2 (cG l i).th;have:=J.le (cG l i).th;omega
 refine ⟨⟨λu=>?_,λk hk h=>?_⟩,e⟩
 .by_cases hu:(cG l i).th=u
  .subst hu;rw[e,HZ];omega
  .have:=J.le u;unfold oe Fl;rw[If,ay λq=>hu q.symm,Ar,ay hu];exact this
 .by_cases hki:k=i
  .subst hki;exact LE.refl _
  have hk:k<i:=by omega
  by_cases hu:(cG l k).th=(cG l i).th
  .refine (U k hk ?_).trans I;rw[hu,M];have:=VB l (cG l k).th (show k+1<=i from hk);rw[HZ,hu] at this;omega
  .refine (J.dn k hk ?_).trans (ai7 _ _);unfold oe Fl at h;rw[If,ay hu] at h;exact h
theorem IY {w:WT} {l:List ET} (I:TR (w,l)):∀ i:Nat,i<=l.length->GS1 w l i (Ec w (l.take i))
 |0,_=>⟨oa.zero (Gd.nil w l 0) w,λu=>by have:=oa.repl (P:=λx=>x.getD u 0=0) (by simp) w.2.2.2.2.1.length u;exact this⟩
 |i+1,h=>by
  have g:=IY I i (by omega);obtain⟨M,J⟩:=Pj g;have ht:=(uC I (show i<l.length by omega)).th;rw[zk w (by omega)];refine ⟨oa.step Gd.jl (g.a.mono λx h=>h.succ) _ M,λu=>?_⟩;rw[abu,qH];by_cases hu:(cG l i).th=u
  .subst hu;rw[aF ⟨rfl,ht⟩,J,HZ];omega
  .rw[ay λq=>hu q.1,g.t u,Ar,ay hu]
theorem Xx {w:WT} {l:List ET} (I:TR (w,l)) {i:Nat} (h:i<l.length):(oe w l i).getD (cG l i).th 0=(Ar l (cG l i).th i:Int)+1:=(Pj (IY I i (by omega))).2
theorem ac3 {w:WT} {l:List ET} (I:TR (w,l)) {i:Nat} (h:i<l.length):Gd w l (i+1) (oe w l i):=(Pj (IY I i (by omega))).1
def XQ (w:WT) (l:List ET) (k j:Nat):Prop:=(Ar l (cG l k).th k:Int)+1<=(oe w l j).getD (cG l k).th 0
theorem XQ.le {w:WT} {l:List ET} (I:TR (w,l)) {k j:Nat} (hk:k<=j) (hj:j<l.length) (h:XQ w l k j):LE (oe w l k) (oe w l j):=(ac3 I hj).dn k (by omega) h
theorem XQ.of {w:WT} {l:List ET} (I:TR (w,l)) {k j:Nat} (hk:k<l.length) (h:LE (oe w l k) (oe w l j)):XQ w l k j:=by
 have:=h.2 (cG l k).th;rw[Xx I hk] at this;exact this
theorem XQ.own {w:WT} {l:List ET} (I:TR (w,l)) {k j:Nat} (hk:k<j) (hj:j<l.length) (h:(cG l k).th=(cG l j).th):XQ w l k j:=by
 unfold XQ;rw[h,Xx I hj];have:=VB l (cG l k).th (show k+1<=j from hk);rw[HZ,h] at this;omega
theorem XQ.trans {w:WT} {l:List ET} (I:TR (w,l)) {i j k:Nat} (hi:i<=j) (hj:j<=k) (hk:k<l.length) (h:XQ w l i j) (g:XQ w l j k):XQ w l i k:=XQ.of I (by omega) ((h.le I hi (by omega)).trans (g.le I hj hk))
def Q8 (r:List Int):Prop:=Hx r/\∀ z∈r,0<=z/\z<4
def P8 (s:List (Int×List Int)):Prop:=∀ x∈s,Q8 x.2
theorem P8.get {s:List (Int×List Int)} (h:P8 s) (o:Int):Q8 (aJ (T:=At) s o).2:=by
 unfold aJ;rw[aA];cases e:s[o.toNat]? with
 |none=>exact⟨trivial,λz I=>by cases I⟩
 |some x=>exact h x (bd e)
theorem P8.set {s:List (Int×List Int)} (h:P8 s) (o a:Int) {r:List Int} (hr:Q8 r):P8 (cQ s o (a,r)):=λx I=>by
 rcases CA I with I|rfl
 .exact h x I
 .exact hr
theorem Cd (p:Int->Bool):∀ {l:List Int},Hx l->Hx (l.filter p)
 |[],_=>trivial
 |x::r,h=>by
  rw[List.filter_cons];split
  .exact⟨λy I=>h.1 y ((xj.1 I).1),Cd p h.2⟩
  .exact Cd p h.2
theorem P8.ite {c:Prop} [Decidable c] {a b:SY×Int} (I:P8 a.1.1) (hb:P8 b.1.1):P8 (if c then a else b).1.1:=by by_cases h:c<;>simp[h,I,hb]
theorem P8.ap {w:WT} {s:SY} (h:P8 s.1) {t:Int} (k o v:Int) (t0:0<=t) (J:t<4):P8 (re w s t k o v).1.1:=by
 have ow:∀ a b,P8 (owP s.1 a b):=λa b=>h.set a b (h.get a)
 have un:P8 (rdP s.1 o (xm (aJ (T:=At) s.1 o).2 [t])):=h.set _ _ ⟨P0 _ _,λz I=>by
  rcases Ie.1 I with I|I
  .exact (h.get o).2 z I
  .rw[aL] at I;subst I;exact⟨t0,J⟩⟩
 have wt:P8 (rdP s.1 o (wo (aJ (T:=At) s.1 o).2 t)):=h.set _ _ ⟨Cd _ (h.get o).1,λz I=>(h.get o).2 z (xj.1 I).1⟩;unfold re;exact P8.ite h (P8.ite h (P8.ite (ow _ _) (P8.ite (ow _ _) (P8.ite un (P8.ite wt (P8.ite h (P8.ite h (P8.ite h (P8.ite h (P8.ite (ow _ _) (P8.ite (ow _ _) (P8.ite (P8.ite h h) (P8.ite h (P8.ite h (P8.ite h h)))))))))))))))
def iC (w:WT) (l:List ET):SN:=l.foldl (nxP w) (sn8 w)
theorem Mz (w:WT) {l:List ET} {i:Nat} (h:i<l.length):iC w (l.take (i+1))=nxP w (iC w (l.take i)) (eN l i):=by
 rw[mH (T:=tE) h];unfold iC;rw[dQ];rfl
structure K8 (w:WT) (l:List ET) (i:Nat) (s:SN):Prop where
 a:(s.1,s.2.1,s.2.2.1)=Nx w (l.take i)
 r:P8 s.1.1
 c:s.2.1.length=w.1.length
 f:s.2.2.1.length=w.2.2.2.1.length
 k:s.2.2.2.length=w.2.2.2.2.1.length
 n:CN (l.take i) s.2.2.2
theorem Ww {w:WT} {l:List ET} (I:TR (w,l)):∀ i:Nat,i<=l.length->K8 w l i (iC w (l.take i))
 |0,_=>⟨rfl,λx M=>by rw[py M];exact⟨trivial,λz J=>by cases J⟩,by simp[iC,ce0],by simp[iC,fu0],by simp[iC],λt t0 t1=>by
   have:(aG w.2.2.2.2.1.length (0:Int)).getD t.toNat 0=0:=by rw[aA,lz];split<;>rfl
   exact this⟩
 |i+1,h=>by
  obtain⟨a,r,c,f,k,n⟩:=Ww I i (by omega);have sc:=I.sc (i:=i) (by omega);have hl:=I.len;have ht:=I.wb.t;dsimp only at hl ht;have en:=sc.en;have e1:=en.t1;have htk:=qa i l;rw[Mz w (by omega)];refine ⟨?_,r.ap _ _ _ en.t0 (by omega),?_,?_,?_,?_⟩
  .rw[S1 w (by omega),<-a];rfl
  .unfold nxP Y6;dsimp only;split
   .rw[bV];exact c
   .exact c
  .unfold nxP ZW;dsimp only;split
   .rw[bV];exact f
   .exact f
  .unfold nxP;rw[bV];exact k
  .have:=n.next (eN l i) en.t0 (by rw[k];exact e1) (by omega);rw[mH (T:=tE) (show i<l.length by omega)];exact this
theorem NY {w:WT} {l:List ET} (I:TR (w,l)) {i:Nat} (hi:i<l.length):fP (w,iC w (l.take i),eN l i)=af (iC w (l.take (i+1)),ai):=by
 obtain⟨a,r,c,f,k,n⟩:=Ww I i (by omega);have sc:=I.sc hi;have J:=I.wx;have ht:=I.wb.t;have hls:=I.ls _ (JG hi);dsimp only at J ht hls;rw[Mz w hi];rw[<- a] at sc;generalize iC w (l.take i)=s at*
 generalize eN l i=e at*
 have en:=sc.en;have e1:=en.t1;have l3:w.2.1.length=3:=by rw[J.l];rfl
 have M:=n e.1 en.t0 (by rw[k];exact e1);have b1:=I.wb.c;have Y:=I.wb.f;have Z:=I.wb.d;dsimp only at b1 Y Z;have q1:=en.e1;have q2:=en.e2;have q3:=en.e3;dsimp only at q1 q2 q3;refine and (n:=4) w s e ⟨⟨by omega,by omega,λx U=>?_,by omega,by omega⟩,by omega,by omega,by omega⟩ (by omega) (by omega) ⟨c,f,k⟩ en ⟨sc.rd,sc.s1,sc.s2,sc.de,sc.fr,by rw[M];exact sc.nd,by rw[M];exact sc.nf,sc.va⟩ hls.1 hls.2 (λh=>?_) (by omega) r (by omega)
 .have:=Ps x.2 0 4 (r x U).1 (r x U).2;omega
 .have o1:=en.nm.lk (by omega);have o2:=en.nm.rw (by omega);generalize e.2.2.1=o at o1 o2;rw[J.l] at o1 o2;have:o=0\/o=1\/o=2:=by have:GY.length=3:=rfl;omega
  rcases this with rfl|rfl|rfl
  .cases o2
  .cases o2
  .rfl
abbrev fN (l:List ET) (i:Nat) (t:Int):List Bool:=fl (l.take i) t
theorem OP {l:List ET} {i:Nat} (h:i<l.length) {t:Int} (e:(eN l i).1=t):fN l (i+1) t=fN l i t++[tB (eN l i)]:=by
 unfold fN;rw[mH (T:=tE) h,uB,zw e]
theorem OQ {l:List ET} {i:Nat} (h:i<l.length) {t:Int} (e:¬(eN l i).1=t):fN l (i+1) t=fN l i t:=by
 unfold fN;rw[mH (T:=tE) h,uB,wO e,iU]
theorem HI {w:WT} {l:List ET} (I:TR (w,l)) {i:Nat} (hi:i<l.length) {t:Int} (e:(eN l i).1=t):ci (fN l i t,eN l i)=af ai:=by
 have sc:=I.sc hi;have hls:=I.ls _ (JG hi);subst e;exact Y_ _ _ sc.rd1 sc.rd2 hls.1 hls.2
theorem OR (l:List ET) (i:Nat) (t:Int):(fN l i t).length<=l.length:=dh (Xg _ _) (List.length_take_le' ..)
theorem adh {w:WT} {l:List ET} (I:TR (w,l)) (hn:w.2.2.2.2.1.length=4):eo (w,l)=af (0,0):=by
 have hl:=I.len;dsimp only at hl;refine cB ?_;unfold eo jJ aZ bk bw cA dV kE bL fk kD pZ bf bx bB bA aY cK aE cE;refine fJ (gk.2 (by dsimp only[au];omega)) (aT (VW8 I.wx I.vl) (gd (aT (Cf I.wx) (bg (by show (c7 0 (aO w.2.2.2.2.1.length)&&c7 (aO w.2.2.2.2.1.length) (aO w.2.2.2.2.1.length)&&a_ (aU (aO w.2.2.2.2.1.length)) 24&&decide ((aO w.2.2.2.2.1.length:Int)=4))=ai;rw[hn];rfl) ?_))));refine jm l.length (by omega) (λi x=>x=((i:Int),(w,l),iC w (l.take i),fN l i 0,fN l i 1,fN l i 2,fN l i 3)) ?_ ?_ rfl
 .rintro i x hi rfl;have e1:=(I.sc hi).en.t1;have e0:=(I.sc hi).en.t0;have st:=NY I hi;have fa:=λt=>OR l i t
  have rd:=λt=>HI I hi (t:=t)
  have own:=λt=>OP hi (t:=t)
  have oth:=λt=>OQ hi (t:=t)
  refine dk ?_;refine b8 (aR ?_);have ht:(eN l i).1=0\/(eN l i).1=1\/(eN l i).1=2\/(eN l i).1=3:=by omega
  have hg:aJ (T:=tE) l (i:Int)=eN l i:=rfl;dsimp only;rw[hg];generalize eN l i=e at*
  refine aT st ?_;obtain⟨(t:Int),e⟩:=e;dsimp only at ht;rcases ht with rfl|rfl|rfl|rfl
  .refine aX (λx=>x=(aj,(w,l),iC w (l.take i),(0,e),iC w (l.take (i+1)),fN l i 0,fN l i 1,fN l i 2,fN l i 3)) ?_ ?_
   .simp only[aV,bp,s7];exact aT (rd 0 rfl) (ar rfl)
   rintro x rfl;refine gd (aX (λx=>x=((w,l),iC w (l.take i),iC w (l.take (i+1)),fN l (i+1) 0,fN l (i+1) 1,fN l (i+1) 2,fN l (i+1) 3)) ?_ ?_)
   .simp only[aV,bp,s7];rw[own 0 rfl,oth 1 (by show ¬(0:Int)=1;decide),oth 2 (by show ¬(0:Int)=2;decide),oth 3 (by show ¬(0:Int)=3;decide)];have:=fa 0;refine aK (λh=>bh (by simp;omega) (by omega) (ar ?_)) λh=>bh (by simp;omega) (by omega) (ar ?_)
    .have:tB (0,e)=ai:=by unfold tB;rw[aQ h];rfl
     rw[this]
    .have:tB (0,e)=decide (e.1=23):=by unfold tB;rw[bG h];rfl
     rw[this]
   rintro x rfl;exact ar (by rw[gI (by omega)])
  .refine aX (λx=>x=(aj,(w,l),iC w (l.take i),(1,e),iC w (l.take (i+1)),fN l i 0,fN l i 1,fN l i 2,fN l i 3)) ?_ ?_
   .simp only[aV,bp,s7];exact aT (rd 1 rfl) (ar rfl)
   rintro x rfl;refine gd (aX (λx=>x=((w,l),iC w (l.take i),iC w (l.take (i+1)),fN l (i+1) 0,fN l (i+1) 1,fN l (i+1) 2,fN l (i+1) 3)) ?_ ?_)
   .simp only[aV,bp,s7];rw[own 1 rfl,oth 0 (by show ¬(1:Int)=0;decide),oth 2 (by show ¬(1:Int)=2;decide),oth 3 (by show ¬(1:Int)=3;decide)];have:=fa 1;refine aK (λh=>bh (by simp;omega) (by omega) (ar ?_)) λh=>bh (by simp;omega) (by omega) (ar ?_)
    .have:tB (1,e)=ai:=by unfold tB;rw[aQ h];rfl
     rw[this]
    .have:tB (1,e)=decide (e.1=23):=by unfold tB;rw[bG h];rfl
     rw[this]
   rintro x rfl;exact ar (by rw[gI (by omega)])
  .refine aX (λx=>x=(aj,(w,l),iC w (l.take i),(2,e),iC w (l.take (i+1)),fN l i 0,fN l i 1,fN l i 2,fN l i 3)) ?_ ?_
   .simp only[aV,bp,s7];exact aT (rd 2 rfl) (ar rfl)
   rintro x rfl;refine gd (aX (λx=>x=((w,l),iC w (l.take i),iC w (l.take (i+1)),fN l (i+1) 0,fN l (i+1) 1,fN l (i+1) 2,fN l (i+1) 3)) ?_ ?_)
   .simp only[aV,bp,s7];rw[own 2 rfl,oth 0 (by show ¬(2:Int)=0;decide),oth 1 (by show ¬(2:Int)=1;decide),oth 3 (by show ¬(2:Int)=3;decide)];have:=fa 2;refine aK (λh=>bh (by simp;omega) (by omega) (ar ?_)) λh=>bh (by simp;omega) (by omega) (ar ?_)
    .have:tB (2,e)=ai:=by unfold tB;rw[aQ h];rfl
     rw[this]
    .have:tB (2,e)=decide (e.1=23):=by unfold tB;rw[bG h];rfl
     rw[this]
   rintro x rfl;exact ar (by rw[gI (by omega)])
  .refine aX (λx=>x=(aj,(w,l),iC w (l.take i),(3,e),iC w (l.take (i+1)),fN l i 0,fN l i 1,fN l i 2,fN l i 3)) ?_ ?_
   .simp only[aV,bp,s7];exact aT (rd 3 rfl) (ar rfl)
   rintro x rfl;refine gd (aX (λx=>x=((w,l),iC w (l.take i),iC w (l.take (i+1)),fN l (i+1) 0,fN l (i+1) 1,fN l (i+1) 2,fN l (i+1) 3)) ?_ ?_)
   .simp only[aV,bp,s7];rw[own 3 rfl,oth 0 (by show ¬(3:Int)=0;decide),oth 1 (by show ¬(3:Int)=1;decide),oth 2 (by show ¬(3:Int)=2;decide)];have:=fa 3;refine aK (λh=>bh (by simp;omega) (by omega) (ar ?_)) λh=>bh (by simp;omega) (by omega) (ar ?_)
    .have:tB (3,e)=ai:=by unfold tB;rw[aQ h];rfl
     rw[this]
    .have:tB (3,e)=decide (e.1=23):=by unfold tB;rw[bG h];rfl
     rw[this]
   rintro x rfl;exact ar (by rw[gI (by omega)])
 .rintro x rfl;exact dg (ar rfl)
theorem Fy {w:WT} {l:List ET} (I:TR (w,l)) (hn:¬w.2.2.2.2.1.length=4):eo (w,l)=ah:=by
 have hl:=I.len;dsimp only at hl;unfold eo jJ aZ bk bw cA dV kE bL fk kD pZ bf bx bB bA aY cK aE cE;rw[show fQ 400 (aO (al (w,l).2))=aj from gk.2 (by dsimp only[au];omega)];simp only[aV,bp,s7];rw[VW8 I.wx I.vl];simp only[aV,bp,s7];rw[Cf I.wx];simp only[aV,bp,s7];rw[show decide ((aO w.2.2.2.2.1.length:Int)=4)=aj from bG (by dsimp only[au];omega),Bool.and_false];rfl
theorem adi {w:WT} {l:List ET} (I:TR (w,l)) (hn:w.2.2.2.2.1.length=3):dL (w,l)=af (0,0):=by
 have hl:=I.len;dsimp only at hl;refine cB ?_;unfold dL jK aZ bk bw cA dV bL cX fk kD bf bx bB bA aY cK aE cE;refine fJ (gk.2 (by dsimp only[au];omega)) (aT (VW8 I.wx I.vl) (gd (aT (Cf I.wx) (bg (by show (c7 0 (aO w.2.2.2.2.1.length)&&c7 (aO w.2.2.2.2.1.length) (aO w.2.2.2.2.1.length)&&a_ (aU (aO w.2.2.2.2.1.length)) 24&&decide ((aO w.2.2.2.2.1.length:Int)=3))=ai;rw[hn];rfl) ?_))));refine jm l.length (by omega) (λi x=>x=((i:Int),(w,l),iC w (l.take i),fN l i 0,fN l i 1,fN l i 2)) ?_ ?_ rfl
 .rintro i x hi rfl;have e1:=(I.sc hi).en.t1;have e0:=(I.sc hi).en.t0;have st:=NY I hi;have fa:=λt=>OR l i t
  have rd:=λt=>HI I hi (t:=t)
  have own:=λt=>OP hi (t:=t)
  have oth:=λt=>OQ hi (t:=t)
  refine dk ?_;refine b8 (aR ?_);have ht:(eN l i).1=0\/(eN l i).1=1\/(eN l i).1=2:=by omega
  have hg:aJ (T:=tE) l (i:Int)=eN l i:=rfl;dsimp only;rw[hg];generalize eN l i=e at*
  refine aT st ?_;obtain⟨(t:Int),e⟩:=e;dsimp only at ht;rcases ht with rfl|rfl|rfl
  .refine aX (λx=>x=(aj,(w,l),iC w (l.take i),(0,e),iC w (l.take (i+1)),fN l i 0,fN l i 1,fN l i 2)) ?_ ?_
   .simp only[aV,bp,s7];exact aT (rd 0 rfl) (ar rfl)
   rintro x rfl;refine gd (aX (λx=>x=((w,l),iC w (l.take i),iC w (l.take (i+1)),fN l (i+1) 0,fN l (i+1) 1,fN l (i+1) 2)) ?_ ?_)
   .simp only[aV,bp,s7];rw[own 0 rfl,oth 1 (by show ¬(0:Int)=1;decide),oth 2 (by show ¬(0:Int)=2;decide)];have:=fa 0;refine aK (λh=>bh (by simp;omega) (by omega) (ar ?_)) λh=>bh (by simp;omega) (by omega) (ar ?_)
    .have:tB (0,e)=ai:=by unfold tB;rw[aQ h];rfl
     rw[this]
    .have:tB (0,e)=decide (e.1=23):=by unfold tB;rw[bG h];rfl
     rw[this]
   rintro x rfl;exact ar (by rw[gI (by omega)])
  .refine aX (λx=>x=(aj,(w,l),iC w (l.take i),(1,e),iC w (l.take (i+1)),fN l i 0,fN l i 1,fN l i 2)) ?_ ?_
   .simp only[aV,bp,s7];exact aT (rd 1 rfl) (ar rfl)
   rintro x rfl;refine gd (aX (λx=>x=((w,l),iC w (l.take i),iC w (l.take (i+1)),fN l (i+1) 0,fN l (i+1) 1,fN l (i+1) 2)) ?_ ?_)
   .simp only[aV,bp,s7];rw[own 1 rfl,oth 0 (by show ¬(1:Int)=0;decide),oth 2 (by show ¬(1:Int)=2;decide)];have:=fa 1;refine aK (λh=>bh (by simp;omega) (by omega) (ar ?_)) λh=>bh (by simp;omega) (by omega) (ar ?_)
    .have:tB (1,e)=ai:=by unfold tB;rw[aQ h];rfl
     rw[this]
    .have:tB (1,e)=decide (e.1=23):=by unfold tB;rw[bG h];rfl
     rw[this]
   rintro x rfl;exact ar (by rw[gI (by omega)])
  .refine aX (λx=>x=(aj,(w,l),iC w (l.take i),(2,e),iC w (l.take (i+1)),fN l i 0,fN l i 1,fN l i 2)) ?_ ?_
   .simp only[aV,bp,s7];exact aT (rd 2 rfl) (ar rfl)
   rintro x rfl;refine gd (aX (λx=>x=((w,l),iC w (l.take i),iC w (l.take (i+1)),fN l (i+1) 0,fN l (i+1) 1,fN l (i+1) 2)) ?_ ?_)
   .simp only[aV,bp,s7];rw[own 2 rfl,oth 0 (by show ¬(2:Int)=0;decide),oth 1 (by show ¬(2:Int)=1;decide)];have:=fa 2;refine aK (λh=>bh (by simp;omega) (by omega) (ar ?_)) λh=>bh (by simp;omega) (by omega) (ar ?_)
    .have:tB (2,e)=ai:=by unfold tB;rw[aQ h];rfl
     rw[this]
    .have:tB (2,e)=decide (e.1=23):=by unfold tB;rw[bG h];rfl
     rw[this]
   rintro x rfl;exact ar (by rw[gI (by omega)])
 .rintro x rfl;exact dg (ar rfl)
theorem NG {w:WT} {l:List ET} (I:TR (w,l)) (hn:¬w.2.2.2.2.1.length=3):dL (w,l)=ah:=by
 have hl:=I.len;dsimp only at hl;unfold dL jK aZ bk bw cA dV bL cX fk kD bf bx bB bA aY cK aE cE;rw[show fQ 400 (aO (al (w,l).2))=aj from gk.2 (by dsimp only[au];omega)];simp only[aV,bp,s7];rw[VW8 I.wx I.vl];simp only[aV,bp,s7];rw[Cf I.wx];simp only[aV,bp,s7];rw[show decide ((aO w.2.2.2.2.1.length:Int)=3)=aj from bG (by dsimp only[au];omega),Bool.and_false];rfl
theorem adk {w:WT} {l:List ET} (I:TR (w,l)) (hn:w.2.2.2.2.1.length=2):dt (w,l)=af (0,0):=by
 have hl:=I.len;dsimp only at hl;refine cB ?_;unfold dt jL aZ bk bw cA bL dA fk bf bx bB bA aY cK aE cE;refine fJ (gk.2 (by dsimp only[au];omega)) (aT (VW8 I.wx I.vl) (gd (aT (Cf I.wx) (bg (by show (c7 0 (aO w.2.2.2.2.1.length)&&c7 (aO w.2.2.2.2.1.length) (aO w.2.2.2.2.1.length)&&a_ (aU (aO w.2.2.2.2.1.length)) 24&&decide ((aO w.2.2.2.2.1.length:Int)=2))=ai;rw[hn];rfl) ?_))));refine jm l.length (by omega) (λi x=>x=((i:Int),(w,l),iC w (l.take i),fN l i 0,fN l i 1)) ?_ ?_ rfl
 .rintro i x hi rfl;have e1:=(I.sc hi).en.t1;have e0:=(I.sc hi).en.t0;have st:=NY I hi;have fa:=λt=>OR l i t
  have rd:=λt=>HI I hi (t:=t)
  have own:=λt=>OP hi (t:=t)
  have oth:=λt=>OQ hi (t:=t)
  refine dk ?_;refine b8 (aR ?_);have ht:(eN l i).1=0\/(eN l i).1=1:=by omega
  have hg:aJ (T:=tE) l (i:Int)=eN l i:=rfl;dsimp only;rw[hg];generalize eN l i=e at*
  refine aT st ?_;obtain⟨(t:Int),e⟩:=e;dsimp only at ht;rcases ht with rfl|rfl
  .refine aX (λx=>x=(aj,(w,l),iC w (l.take i),(0,e),iC w (l.take (i+1)),fN l i 0,fN l i 1)) ?_ ?_
   .simp only[aV,bp,s7];exact aT (rd 0 rfl) (ar rfl)
   rintro x rfl;refine gd (aX (λx=>x=((w,l),iC w (l.take i),iC w (l.take (i+1)),fN l (i+1) 0,fN l (i+1) 1)) ?_ ?_)
   .simp only[aV,bp,s7];rw[own 0 rfl,oth 1 (by show ¬(0:Int)=1;decide)];have:=fa 0;refine aK (λh=>bh (by simp;omega) (by omega) (ar ?_)) λh=>bh (by simp;omega) (by omega) (ar ?_)
    .have:tB (0,e)=ai:=by unfold tB;rw[aQ h];rfl
     rw[this]
    .have:tB (0,e)=decide (e.1=23):=by unfold tB;rw[bG h];rfl
     rw[this]
   rintro x rfl;exact ar (by rw[gI (by omega)])
  .refine aX (λx=>x=(aj,(w,l),iC w (l.take i),(1,e),iC w (l.take (i+1)),fN l i 0,fN l i 1)) ?_ ?_
   .simp only[aV,bp,s7];exact aT (rd 1 rfl) (ar rfl)
   rintro x rfl;refine gd (aX (λx=>x=((w,l),iC w (l.take i),iC w (l.take (i+1)),fN l (i+1) 0,fN l (i+1) 1)) ?_ ?_)
   .simp only[aV,bp,s7];rw[own 1 rfl,oth 0 (by show ¬(1:Int)=0;decide)];have:=fa 1;refine aK (λh=>bh (by simp;omega) (by omega) (ar ?_)) λh=>bh (by simp;omega) (by omega) (ar ?_)
    .have:tB (1,e)=ai:=by unfold tB;rw[aQ h];rfl
     rw[this]
    .have:tB (1,e)=decide (e.1=23):=by unfold tB;rw[bG h];rfl
     rw[this]
   rintro x rfl;exact ar (by rw[gI (by omega)])
 .rintro x rfl;exact dg (ar rfl)
theorem ZR {w:WT} {l:List ET} (I:TR (w,l)) (hn:¬w.2.2.2.2.1.length=2):dt (w,l)=ah:=by
 have hl:=I.len;dsimp only at hl;unfold dt jL aZ bk bw cA bL dA fk bf bx bB bA aY cK aE cE;rw[show fQ 400 (aO (al (w,l).2))=aj from gk.2 (by dsimp only[au];omega)];simp only[aV,bp,s7];rw[VW8 I.wx I.vl];simp only[aV,bp,s7];rw[Cf I.wx];simp only[aV,bp,s7];rw[show decide ((aO w.2.2.2.2.1.length:Int)=2)=aj from bG (by dsimp only[au];omega),Bool.and_false];rfl
theorem adl {w:WT} {l:List ET} (I:TR (w,l)) (hn:w.2.2.2.2.1.length=1):ey (w,l)=af (0,0):=by
 have hl:=I.len;dsimp only at hl;refine cB ?_;unfold ey lK aZ bk bw bL cX bf bx bB bA aY cK aE cE;refine fJ (gk.2 (by dsimp only[au];omega)) (aT (VW8 I.wx I.vl) (gd (aT (Cf I.wx) (bg (by show (c7 0 (aO w.2.2.2.2.1.length)&&c7 (aO w.2.2.2.2.1.length) (aO w.2.2.2.2.1.length)&&a_ (aU (aO w.2.2.2.2.1.length)) 24&&decide ((aO w.2.2.2.2.1.length:Int)=1))=ai;rw[hn];rfl) ?_))));refine jm l.length (by omega) (λi x=>x=((i:Int),(w,l),iC w (l.take i),fN l i 0)) ?_ ?_ rfl
 .rintro i x hi rfl;have e1:=(I.sc hi).en.t1;have e0:=(I.sc hi).en.t0;have st:=NY I hi;have fa:=λt=>OR l i t
  have rd:=λt=>HI I hi (t:=t)
  have own:=λt=>OP hi (t:=t)
  have oth:=λt=>OQ hi (t:=t)
  refine dk ?_;refine b8 (aR ?_);have ht:(eN l i).1=0:=by omega
  have hg:aJ (T:=tE) l (i:Int)=eN l i:=rfl;dsimp only;rw[hg];generalize eN l i=e at*
  refine aT st ?_;obtain⟨(t:Int),e⟩:=e;dsimp only at ht;subst ht
  .refine aX (λx=>x=(aj,(w,l),iC w (l.take i),(0,e),iC w (l.take (i+1)),fN l i 0)) ?_ ?_
   .simp only[aV,bp,s7];exact aT (rd 0 rfl) (ar rfl)
   rintro x rfl;refine gd (aX (λx=>x=((w,l),iC w (l.take i),iC w (l.take (i+1)),fN l (i+1) 0)) ?_ ?_)
   .simp only[aV,bp,s7];rw[own 0 rfl];have:=fa 0;refine aK (λh=>bh (by simp;omega) (by omega) (ar ?_)) λh=>bh (by simp;omega) (by omega) (ar ?_)
    .have:tB (0,e)=ai:=by unfold tB;rw[aQ h];rfl
     rw[this]
    .have:tB (0,e)=decide (e.1=23):=by unfold tB;rw[bG h];rfl
     rw[this]
   rintro x rfl;exact ar (by rw[gI (by omega)])
 .rintro x rfl;exact dg (ar rfl)
theorem al8 {w:WT} {l:List ET} (I:TR (w,l)):mw (w,l)=af (0,0):=by
 have h1:=I.vl.t0;have J:=I.vl.t;dsimp only at h1 J;unfold mw;have:w.2.2.2.2.1.length=4\/w.2.2.2.2.1.length=3\/w.2.2.2.2.1.length=2\/w.2.2.2.2.1.length=1:=by omega
 rcases this with h|h|h|h
 .rw[adh I h];rfl
 .rw[Fy I (by omega),adi I h];rfl
 .rw[Fy I (by omega),NG I (by omega),adk I h];rfl
 .rw[Fy I (by omega),NG I (by omega),ZR I (by omega),adl I h];rfl
theorem aa2 {w:WT} {l:List ET} (I:TR (w,l)):pM w=af (HS.zero w).t:=by
 have wb:=I.wb;dsimp only at wb;exact acw w (by have:=wb.c;unfold v8;omega) (by have:=wb.l;unfold v8;omega) (by have:=wb.f;unfold v8;omega) (by have:=wb.t;unfold v8;omega)
theorem ae0 {w:WT} {l:List ET} (I:TR (w,l)) {i:Nat} (hi:i<l.length):sA (w,(Ec w (l.take i)).t,eN l i)=af ((Ec w (l.take (i+1))).t,oe w l i):=by
 have hl:=I.len;dsimp only at hl;have:=ag8 (zl I i (by omega)).1 (by omega) (uC I hi) (oN I hi);rw[zk w hi];exact this
def tA {α:Type} (n:Nat) (f:Nat->α) (z:α) (i:Nat):List α:=(cS n).map λk=>if k<i then f k else z
theorem NT {α:Type} (n:Nat) (f:Nat->α) (z:α) (i:Nat):(tA n f z i).length=n:=by simp[tA]
theorem Z' {α:Type} {n:Nat} {f:Nat->α} {z:α} {i:Nat} (h:i<n):(tA n f z i).set i (f i)=tA n f z (i+1):=by
 unfold tA;apply dE
 .simp
 intro k h1 h2;simp only[sO,bR,fK] at h1;rw[uZ];simp only[qU,nA];by_cases e:i=k
 .subst e;rw[aF rfl,aF (by omega)]
 .rw[ay e];by_cases g:k<i
  .rw[aF g,aF (by omega)]
  .rw[ay g,ay (by omega)]
theorem Ws {α:Type} (n:Nat) (f:Nat->α) (z:α):tA n f z 0=aG n z:=by unfold tA;simp[List.map_const']
theorem aa0 {α:Type} (n:Nat) (f:Nat->α) (z:α):tA n f z n=(cS n).map f:=p_ λk hk=>by rw[aF (ll.1 hk)]
abbrev csN (w:WT) (l:List ET):List (List Int):=(cS l.length).map (oe w l)
theorem aff {w:WT} {l:List ET} {i:Nat} (h:i<l.length):(csN w l).getD i []=oe w l i:=by
 rw[aA,ba,vX h];rfl
theorem RQ {w:WT} {l:List ET} {i:Nat} (h:i<l.length):aJ (T:=.sl (.int .i64)) (csN w l) (i:Int)=oe w l i:=by rw[qG];exact aff h
theorem ZQ {w:WT} {l:List ET} (I:TR (w,l)):m_ (w,l)=af (csN w l,0):=by
 have hl:=I.len;dsimp only at hl;refine cB ?_;unfold m_ xG aZ bL ck bx je bB bA aY cK aE cE;refine aT (al8 I) (gd (aT (aa2 I) (dx (dx (eP (by dsimp only[au];omega) (eP (by omega) (bh (by simp;omega) (by omega) ?_)))))));refine jm l.length (by omega) (λi x=>x=((i:Int),(w,l),(Ec w (l.take i)).t,tA l.length (oe w l) [] i)) ?_ ?_ ?_
 .rintro i x hi rfl;refine dk ?_;refine b8 (aR ?_);refine aT (ae0 I hi) ?_;refine aS (by dsimp only;omega) (by dsimp only;rw[NT];omega) (aS (by dsimp only;omega) (by dsimp only;rw[NT];omega) (ar ?_));dsimp only;rw[gI (by omega),fR,Z' hi]
 .rintro x rfl;refine dg (ar ?_);dsimp only;rw[aa0]
 .show _=_;rw[Ws];rfl
abbrev Ke0:Ty:=(.st (.pr D7 (.pr D7 D7)))
def kr (x:(dz×List gj)×Int×Int):Option (Bool):=
 (jn (α:=Bool×dz×List gj) (bx x.2.1 0 (aE (ai,x.1)) (iH x.2.2 x.2.1 (aE (ai,x.1)) (aE ((c7 (aY x.1.2) x.2.2),x.1)))) λx1=>(bcase x1.1 (af aj) (obind (m_ x1.2) λI=>(je I.2 0 (af aj) (bA (.sl aM) I.1 x.2.2 λM=>(obind (m8 x1.2.2) λY=>(bA iv Y x.2.1 λJ=>(obind (ku (M,J)) λU=>(af U)))))))))
def pH (x:Int×Int×Int×Int×Int×(List Int)×List Int):Option (Bool):=
 (jn (α:=Bool) (bf x.2.1 3 (aE ai) (aE (decide ((x.2.1:Int)=4)))) λx1=>(af x1))
def oG (x:dz×Int×Int×Int×Int×Int×(List Int)×List Int):Option (Bool):=
 (jn (α:=Bool) (obind (pH x.2) λJ=>(bcase J (iH 0 x.p3 (bx x.p3 (aY x.1.1) (bA ky x.1.1 x.p3 λI=>(aE I.2.2.2.1)) (aE aj)) (aE aj)) (aE aj))) λx1=>(af x1))
def mf (x:(List gj)×Int):Option (Int):=
 (iter (σ:=Int) (λx1=>(iH 0 x1 (bA fX x.1 x1 λJ=>(bA fX x.1 x.2 λI=>(bf J.1 I.1 (aE x1) (cK (bc .i64 (x1-1)))))) (aE (-1)))) (bc .i64 (x.2-1)))
def sk (x:(List gj)×Int):Option (Int):=
 (iter (σ:=Int×Int) (λx1=>(bx x1.2 x.2 (jn (α:=Int) (bA fX x.1 x1.2 λJ=>(bA fX x.1 x.2 λI=>(bf J.1 I.1 (aE (cE x1.1)) (aE x1.1)))) λx2=>(cK (x2,(cE x1.2)))) (aE x1.1))) (0,0))
def ud (x:(List gj)×Int):Option (Int):=
 (obind (mf x) λJ=>(jn (α:=Bool) (bx J 0 (aE ai) (bA fX x.1 J λz3=>(aE (!decide ((z3.2.1:Int)=16))))) λx2=>(bcase x2 (af (-1)) (iter (σ:=Int) (λI=>(bx I x.2 (jn (α:=Bool) (bA fX x.1 I λz6=>(bf z6.2.1 18 (bA fX x.1 I λz7=>(bA fX x.1 x.2 λz8=>(bf z7.2.2.2.1 z8.1 (aE ai) (bA fX x.1 I λz9=>(bf z9.2.1 19 (bA fX x.1 I λz10=>(bA fX x.1 J λZ=>(aE (decide ((z10.2.2.1:Int)=Z.2.2.1))))) (aE aj)))))) (bA fX x.1 I λY=>(bf Y.2.1 19 (bA fX x.1 I λU=>(bA fX x.1 J λM=>(aE (decide ((U.2.2.1:Int)=M.2.2.1))))) (aE aj))))) λx5=>(bcase x5 (aE I) (cK (cE I)))) (aE (-1)))) (cE J)))))
def wq (x:dz×(List gj)×Int):Option (List Int):=
 (bA fX x.2.1 x.2.2 λz1=>(iter (σ:=Int×dz×(List Int)×Int×Int×Int×Int×Int×(List Int)×List Int) (λx2=>(bx x2.1 x.2.2 (bA fX x.2.1 x2.1 λZ=>(jn (α:=dz×(List Int)×Int×Int×Int×Int×Int×(List Int)×List Int) (jn (α:=Bool×dz×(List Int)×gj×Int×Int×Int×Int×Int×(List Int)×List Int) (bf x2.p4 1 (bf Z.2.1 20 (aE ((decide ((Z.p2:Int)=x2.p3)),x2.2.1,x2.p2,x2.q3,Z)) (aE (aj,x2.2.1,x2.p2,x2.q3,Z))) (aE (aj,x2.2.1,x2.p2,x2.q3,Z))) λM=>(bcase M.1 (bB (a_ (al M.p2+al ([x2.1])) 8) (aE (M.2.1,(M.p2++([x2.1])),M.p3))) (jn (α:=Bool×dz×(List Int)×gj×Int×Int×Int×Int×Int×(List Int)×List Int) (bf M.p3.2.1 21 (aE ((decide ((M.p4:Int)=M.p3.p2)),M.2)) (aE (aj,M.2))) λJ=>(bcase J.1 (bB (a_ (al J.p2+al ([x2.1])) 8) (aE (J.2.1,(J.p2++([x2.1])),J.p3))) (jn (α:=Bool×dz×(List Int)×gj×Int×Int×Int×Int×Int×(List Int)×List Int) (bf J.p3.2.1 3 (obind (oG (J.2.1,J.p3)) λy8=>(bcase y8 (bf J.p5 4 (aE ((decide ((J.p6:Int)=J.p3.p2)),J.2)) (aE (aj,J.2))) (aE (aj,J.2)))) (aE (aj,J.2))) λI=>(bcase I.1 (bB (a_ (al I.p2+al ([x2.1])) 8) (aE (I.2.1,(I.p2++([x2.1])),I.p3))) (jn (α:=Bool×dz×(List Int)×Int×Int×Int×Int×Int×(List Int)×List Int) (bf I.p3.2.1 23 (bf I.p5 22 (aE ((decide ((I.p6:Int)=I.p3.p2)),I.2.1,I.p2,I.p3)) (aE (aj,I.2.1,I.p2,I.p3))) (aE (aj,I.2.1,I.p2,I.p3))) λY=>(bcase Y.1 (bB (a_ (al Y.p2+al ([x2.1])) 8) (aE (Y.2.1,(Y.p2++([x2.1])),Y.q3))) (aE Y.2))))))))) λx4=>(cK ((cE x2.1),x4)))) (obind (jn (α:=List Int) (bf x2.p4 17 (obind (ud x.2) λU=>(iH 0 U (bB (a_ (al x2.p2+al ([U])) 8) (aE (x2.p2++([U])))) (aE x2.p2))) (aE x2.p2)) λx10=>(af x10)) λr=>af (bP r)))) (0,x.1,([]:List Int),z1)))
def wn (x:dz×(List gj)×Int):Option (List Int):=
 (bA fX x.2.1 x.2.2 λz1=>(obind (oI (x.1,z1)) λy2=>(iter (σ:=Int×dz×List Int) (λI=>(bx I.1 x.2.2 (jn (α:=dz×List Int) (bA fX x.2.1 I.1 λz5=>(obind (oH (I.2.1,z5)) λy6=>(jn (α:=Bool×dz×List Int) (iH 0 y2.1 (bf y6.1 y2.1 (bcase y2.2 (bcase (!y6.2) (aE (ai,I.2)) (bA fX x.2.1 x.2.2 λz8=>(bf z8.2.1 12 (bA fX x.2.1 I.1 λz9=>(aE ((decide ((z9.2.1:Int)=13)),I.2))) (aE (aj,I.2))))) (aE (ai,I.2))) (bA fX x.2.1 x.2.2 λZ=>(bf Z.2.1 12 (bA fX x.2.1 I.1 λY=>(aE ((decide ((Y.2.1:Int)=13)),I.2))) (aE (aj,I.2))))) (bA fX x.2.1 x.2.2 λU=>(bf U.2.1 12 (bA fX x.2.1 I.1 λM=>(aE ((decide ((M.2.1:Int)=13)),I.2))) (aE (aj,I.2))))) λJ=>(bcase J.1 (bB (a_ (al J.2.2+al ([I.1])) 8) (aE (J.2.1,(J.2.2++([I.1]))))) (aE J.2))))) λx4=>(cK ((cE I.1),x4))) (aE I.2.2))) (0,x.1,([]:List Int)))))
def sq (x:dz×List gj):Option (List (List Int)):=
 (iter (σ:=Int×(dz×List gj)×List (List Int)) (λx1=>(bx x1.1 (aY x.2) (jn (α:=(List Int)×(dz×List gj)×List (List Int)) (obind (mf (x1.2.1.2,x1.1)) λy3=>(iH 0 y3 (kB (.sl aM) x1.2.2 y3 λz4=>(aE (z4,x1.2))) (aE (([]:List Int),x1.2)))) λx2=>(obind (wq (x2.2.1.1,x2.2.1.2,x1.1)) λy5=>(iter (σ:=fG×(dz×List gj)×List (List Int)) (λJ=>(bx J.1.2 (aY y5) (bA aM y5 J.1.2 λz7=>(kB (.sl aM) J.2.2 z7 λz8=>(obind (pG (J.1.1,z8)) λy9=>(cK ((y9,(cE J.1.2)),J.2))))) (obind (obind (wn (J.2.1.1,J.2.1.2,x1.1)) λU=>(iter (σ:=fG×(dz×List gj)×List (List Int)) (λI=>(bx I.1.2 (aY U) (bA aM U I.1.2 λz12=>(kB (.sl aM) I.2.2 z12 λZ=>(obind (pG (I.1.1,Z)) λy14=>(cK ((y14,(cE I.1.2)),I.2))))) (obind (bA fX I.2.1.2 x1.1 λY=>(obind (pE (I.1.1,Y.1)) λM=>(bB (a_ (al I.2.2+al ([M])) 24) (cK ((cE x1.1),I.2.1,(I.2.2++([M]))))))) λr=>af (bP r)))) ((J.1.1,0),J.2))) λr=>af (bP r)))) ((x2.1,0),x2.2)))) (aE x1.2.2))) (0,x,([]:List (List Int))))
def vh (x:(List Int)×Int×Int):Option (Bool):=
 (obind (CR (x.1,x.2.2)) λI=>(af (c7 x.2.1 I)))
def ql (x:(List gj)×Int):Option (Int×Int):=
 (obind (sk x) λJ=>(bA fX x.1 x.2 λI=>(af ((bc .i64 (1+J)),I.1))))
def l7 (x:((List Int)×(List Int)×List Int)×Int×Int):Option (Bool):=
 (obind (kX (x.1,24)) λM=>(obind (sq M) λy2=>(jn (α:=Bool×dz×List gj) (obind (kr (M,x.2)) λy4=>(bcase y4 (bx x.2.1 0 (aE (ai,M)) (bx x.2.2 0 (aE (ai,M)) (iH (aY M.2) x.2.1 (aE (ai,M)) (aE ((c7 (aY M.2) x.2.2),M))))) (aE (aj,M)))) λI=>(bcase I.1 (af aj) (bf (aY I.2.2) 0 (jn (α:=Bool) (obind (kr (I.2,0,0)) λy6=>(bcase (!y6) (obind (qw ()) λy7=>(aE y7)) (aE aj))) λx5=>(af x5)) (bB (!decide (((bc .u64 (aY I.2.2)):Int)=0)) (iter (σ:=Int×dz×List gj) (λJ=>(bx J.1 (aY I.2.2) (jn (α:=Bool×dz×List gj) (bx J.1 (bc .i64 (me (bc .u64 x.2.2) (bc .u64 (aY I.2.2)))) (bA (.sl aM) y2 (bc .i64 (me (bc .u64 x.2.2) (bc .u64 (aY I.2.2)))) λU=>(obind (ql (J.2.2,J.1)) λy11=>(obind (vh (U,y11)) λy12=>(aE (y12,J.2))))) (aE (aj,J.2))) λx9=>(obind (kr (x9.2,J.1,(bc .i64 (me (bc .u64 x.2.2) (bc .u64 (aY I.2.2)))))) λy13=>(bcase ((y13==x9.1) !=ai) (aE aj) (cK ((cE J.1),x9.2))))) (obind (jn (α:=Bool) (obind (kr (J.2,(-1),(bc .i64 (me (bc .u64 x.2.2) (bc .u64 (aY I.2.2)))))) λy15=>(bcase (!y15) (obind (kr (J.2,(bc .i64 (me (bc .u64 x.2.2) (bc .u64 (aY I.2.2)))),(aY I.2.2))) λy16=>(bcase (!y16) (obind (kr (J.2,(bc .i64 (me (bc .u64 x.2.2) (bc .u64 (aY I.2.2)))),(-1))) λZ=>(bcase (!Z) (obind (qw ()) λY=>(aE Y)) (aE aj))) (aE aj))) (aE aj))) λx14=>(af x14)) λr=>af (bP r)))) (0,I.2))))))))
theorem MN (k j v:Int):∀ m:List (Int×Int),wD (K:=.int .i64) (V:=.int .i64) j (Ez (K:=.int .i64) (V:=.int .i64) k v m)=if j=k then af v else wD (K:=.int .i64) (V:=.int .i64) j m
 |[]=>by
  show (if decide (j=k)=ai then af v else ah)=_;by_cases h:j=k<;>simp[h,wD]
 |(a,b)::r=>by
  have I:=MN k j v r;show wD (K:=.int .i64) (V:=.int .i64) j (if decide (k=a)=ai then (k,v)::r else (a,b)::Ez (K:=.int .i64) (V:=.int .i64) k v r)=if j=k then af v else if decide (j=a)=ai then af b else wD (K:=.int .i64) (V:=.int .i64) j r
  by_cases h:k=a
  .subst h;rw[aF (aQ rfl)];show (if decide (j=k)=ai then af v else wD (K:=.int .i64) (V:=.int .i64) j r)=_;by_cases g:j=k<;>simp[g]
  .rw[ay (by simpa using h)];show (if decide (j=a)=ai then af b else wD (K:=.int .i64) (V:=.int .i64) j (Ez (K:=.int .i64) (V:=.int .i64) k v r))=_;rw[I];by_cases g:j=a
   .subst g;rw[aF (aQ rfl),ay λq=>h q.symm,aF (aQ rfl)]
   .simp only[g,cu,cz,ef]
theorem MM (k j v d:Int) (m:List (Int×Int)):wC (K:=.int .i64) (V:=.int .i64) j (Ez (K:=.int .i64) (V:=.int .i64) k v m) d=if j=k then v else wC (K:=.int .i64) (V:=.int .i64) j m d:=by
 unfold wC;rw[MN];by_cases h:j=k<;>simp[h]
def epN (l:List ET) (i:Nat):Int×Int:=((Ar l (cG l i).th i:Int)+1,((cG l i).th:Int))
theorem DR (l:List ET) (u:Nat):∀ i,Ar l u i<=i
 |0=>bW _
 |i+1=>by have:=DR l u i;rw[Ar];split<;>omega
theorem YF {w:WT} {l:List ET} (I:TR (w,l)):m8 l=af ((cS l.length).map (epN l)):=by
 have hl:=I.len;dsimp only at hl;refine cB ?_;unfold m8 xE ck bx bB bA aY cK aE cE;refine dx (dx (eP (by dsimp only[au];omega) (eP (by omega) (bh (by simp;omega) (by omega) ?_))));refine jm l.length (by omega) (λi x=>x.1=(i:Int)/\(∀ u:Nat,wC (K:=.int .i64) (V:=.int .i64) (u:Int) x.2.1 0=(Ar l u i:Int))/\x.2.2=tA l.length (epN l) (0,0) i) ?_ ?_ ⟨rfl,λu=>rfl,by rw[Ws];rfl⟩
 .rintro i ⟨x,m,r⟩ hi ⟨e1,hm,e2⟩;dsimp only at e1 hm e2;subst e1;subst e2;refine dk ?_;refine b8 (aR ?_);have et:=oN I hi;refine aS (by dsimp only;omega) (by dsimp only;rw[NT];omega) (aS (by dsimp only;omega) (by dsimp only;rw[NT];omega) (ar ?_));have hc:=DR l (cG l i).th i;have J:(aJ (T:=tE) l (i:Int)).1=((cG l i).th:Int):=et.th;have M:bc .i64 (wC (K:=.int .i64) (V:=.int .i64) ((cG l i).th:Int) m 0+1)=(Ar l (cG l i).th i:Int)+1:=by rw[hm];exact hX (by omega) (by omega)
  dsimp only;refine ⟨gI (by omega),λu=>?_,?_⟩
  .rw[J,M,MM,Ar];by_cases q:(cG l i).th=u
   .subst q;rw[aF rfl,aF rfl];rfl
   .rw[ay (by omega),ay q];exact hm u
  .rw[J,M,MM,aF rfl,fR];exact Z' (f:=epN l) hi
 .rintro⟨x,m,r⟩ ⟨e1,hm,e2⟩;dsimp only at e1 hm e2;subst e1;subst e2;refine dg (ar ?_);dsimp only;rw[aa0]
theorem abs {l:List ET} {i:Nat} (h:i<l.length):aJ (T:=.st (.pr (.int .i64) (.int .i64))) ((cS l.length).map (epN l)) (i:Int)=epN l i:=by
 rw[yK,aA,ba,vX h];rfl
theorem K_ (c:List Int) (a:Int) (u:Nat):ku (c,a,(u:Int))=af (decide (a<=c.getD u 0)):=by
 unfold ku;dsimp only;rw[Lb];rfl
def bfN (w:WT) (l:List ET) (i j:Int):Bool:=decide (0<=i/\i<j/\j<l.length/\(Ar l (cG l i.toNat).th i.toNat:Int)+1<=(oe w l j.toNat).getD (cG l i.toNat).th 0)
theorem afx {w:WT} {l:List ET} {i j:Nat}:bfN w l (i:Int) (j:Int)=ai↔i<j/\j<l.length/\XQ w l i j:=by
 unfold bfN XQ;rw[be,c6,c6];exact⟨λh=>⟨by omega,by omega,h.2.2.2⟩,λh=>⟨by omega,by omega,by omega,h.2.2⟩⟩
theorem tZ {w:WT} {l:List ET} (I:TR (w,l)) (i j:Int):kr ((w,l),i,j)=af (bfN w l i j):=by
 refine cB ?_;unfold kr bx iH je bA aY aE;by_cases h:0<=i/\i<j/\j<l.length
 .obtain⟨h0,h1,h2⟩:=h;obtain⟨i,rfl⟩:∃ k:Nat,i=k:=⟨i.toNat,by omega⟩
  obtain⟨j,rfl⟩:∃ k:Nat,j=k:=⟨j.toNat,by omega⟩
  refine aX (λx=>x=(aj,w,l)) ?_ ?_
  .refine bF (λg=>by dsimp only at g;omega) λ_=>eE (λg=>by dsimp only at g;omega) λ_=>ar ?_
   show (c7 (aO l.length) (j:Int),w,l)=_;rw[kf.2 (by dsimp only[au];omega)]
  rintro x rfl;refine gd (aT (ZQ I) (gd (aS (by dsimp only;omega) (by dsimp only;rw[bR,fK];omega) (aR (aT (YF I) (aS (by dsimp only;omega) (by dsimp only;rw[bR,fK];omega) (aR ?_)))))));dsimp only;rw[RQ (by omega),abs (by omega)];refine aT (K_ _ _ _) (ar ?_);rw[Bool.eq_iff_iff,afx,be];exact⟨λh=>⟨by omega,by omega,h⟩,λh=>h.2.2⟩
 .refine aX (λx=>x=(ai,w,l)) ?_ ?_
  .refine bF (λg=>ar rfl) λ_=>eE (λg=>ar rfl) λ_=>ar ?_
   rename_i M J;dsimp only at M J;show (c7 (aO l.length) j,w,l)=_;rw[HO.2 (by dsimp only[au];omega)]
  rintro x rfl;refine FH (ar ?_)
  symm;unfold bfN;exact bG λq=>h ⟨q.1,q.2.1,q.2.2.1⟩
theorem Tb (w:uS) (o:Nat) (h:o<w.2.2.1.length) (h0:0<=(w.2.2.1.getD o ([],0)).2):rn (w,(o:Int))=af ((Oc w.2.2.1 o:Nat):Int):=by
 have e1:(w.2.2.1.getD o ([],0)).2=((Oc w.2.2.1 o:Nat):Int):=by unfold Oc;omega
 unfold rn aZ bk bw cX bx v7 aY aE;simp only[];rw[wL (by omega)];simp only[c4,jh];rw[MU (by simp;omega)];simp only[c4];rw[ct (cW h),OH,e1]
def Ce (w:uS) (e:EV):Int×Bool:=if e.k=6\/e.k=10 then ((e.ob:Int),aj) else if e.k=8 then ((e.ob:Int),ai) else if e.k=17 then ((Oc w.2.2.1 e.ob:Nat),aj) else (-1,aj)
def Av (w:uS) (e:EV):Int×Bool:=if e.k=7\/e.k=11 then ((e.ob:Int),aj) else if e.k=9 then ((e.ob:Int),ai) else if e.k=16 then ((Oc w.2.2.1 e.ob:Nat),aj) else (-1,aj)
theorem ala {w:uS} {h:HS} {e:EV} (ok:EOK w h e) {x:ETp} (Y:EvT e x):oI (w,x)=af (Ce w e):=by
 obtain⟨x1,x2,x3,x4,x5,x6,Z⟩:=x;obtain⟨w1,w2,U,M,J,I⟩:=w;obtain⟨th,k,ob,va⟩:=e;obtain⟨q1,q2,q3,q4⟩:=Y;simp only at q1 q2 q3 q4;subst q1 q4;unfold oI aZ bk bw cA dV cX kD bf aE;rcases HM q2 ok.k1 ok.k2 with ⟨e,e'⟩|⟨e,e'⟩|⟨e,e'⟩|⟨e,e'⟩|⟨e,e'⟩|⟨e,e'⟩|⟨e,e'⟩|⟨e,e'⟩|⟨e,e'⟩|⟨e,e'⟩|⟨e,e'⟩|⟨e,e'⟩|⟨e,e'⟩|⟨e,e'⟩|⟨e,e'⟩|⟨e,e'⟩|⟨e,e'⟩|⟨e,e'⟩|⟨e,e'⟩|⟨e,e'⟩|⟨e,e'⟩|⟨e,e'⟩|⟨e,e'⟩<;>clear q2<;>subst e<;>subst e'
 case inr.inr.inr.inr.inr.inl=>
  obtain rfl:=q3 (by decide);simp only[aV,cu,cM,cZ,c4,jh,cV];rfl
 case inr.inr.inr.inr.inr.inr.inr.inr.inr.inl=>
  obtain rfl:=q3 (by decide);simp only[aV,cu,cM,cZ,c4,jh,cV];rfl
 case inr.inr.inr.inr.inr.inr.inr.inl=>
  obtain rfl:=q3 (by decide);simp only[aV,cu,cM,cZ,c4,jh,cV];rfl
 case inr.inr.inr.inr.inr.inr.inr.inr.inr.inr.inr.inr.inr.inr.inr.inr.inl=>
  obtain rfl:=q3 (by decide);obtain⟨d1,d2,d3⟩:=ok.cd (.inr rfl);have mu:=Tb (w1,w2,U,M,J,I) ob d1 d2;simp only[aV,cu,cM,cZ,c4,jh,cV,mu];rfl
 all_goals
  simp only[aV,cu,cM,cZ,c4,jh,cV];rfl
theorem ajy {w:uS} {h:HS} {e:EV} (ok:EOK w h e) {x:ETp} (Y:EvT e x):oH (w,x)=af (Av w e):=by
 obtain⟨x1,x2,x3,x4,x5,x6,Z⟩:=x;obtain⟨w1,w2,U,M,J,I⟩:=w;obtain⟨th,k,ob,va⟩:=e;obtain⟨q1,q2,q3,q4⟩:=Y;simp only at q1 q2 q3 q4;subst q1 q4;unfold oH aZ bk bw cA dV cX kD bf aE;rcases HM q2 ok.k1 ok.k2 with ⟨e,e'⟩|⟨e,e'⟩|⟨e,e'⟩|⟨e,e'⟩|⟨e,e'⟩|⟨e,e'⟩|⟨e,e'⟩|⟨e,e'⟩|⟨e,e'⟩|⟨e,e'⟩|⟨e,e'⟩|⟨e,e'⟩|⟨e,e'⟩|⟨e,e'⟩|⟨e,e'⟩|⟨e,e'⟩|⟨e,e'⟩|⟨e,e'⟩|⟨e,e'⟩|⟨e,e'⟩|⟨e,e'⟩|⟨e,e'⟩|⟨e,e'⟩<;>clear q2<;>subst e<;>subst e'
 case inr.inr.inr.inr.inr.inr.inl=>
  obtain rfl:=q3 (by decide);simp only[aV,cu,cM,cZ,c4,jh,cV];rfl
 case inr.inr.inr.inr.inr.inr.inr.inr.inr.inr.inl=>
  obtain rfl:=q3 (by decide);simp only[aV,cu,cM,cZ,c4,jh,cV];rfl
 case inr.inr.inr.inr.inr.inr.inr.inr.inl=>
  obtain rfl:=q3 (by decide);simp only[aV,cu,cM,cZ,c4,jh,cV];rfl
 case inr.inr.inr.inr.inr.inr.inr.inr.inr.inr.inr.inr.inr.inr.inr.inl=>
  obtain rfl:=q3 (by decide);obtain⟨d1,d2,d3⟩:=ok.cd (.inl rfl);have mu:=Tb (w1,w2,U,M,J,I) ob d1 d2;simp only[aV,cu,cM,cZ,c4,jh,cV,mu];rfl
 all_goals
  simp only[aV,cu,cM,cZ,c4,jh,cV];rfl
theorem W5 (a b:List Int):jl a b=jl b a:=wI (by simp only[pO];omega) λi=>by simp only[vM,qz];omega
def JC (c:Nat->List Int) (p:Nat->Bool):Nat->List Int
 |0=>[]
 |i+1=>if p i=ai then jl (JC c p i) (c i) else JC c p i
theorem Wh (c:Nat->List Int) (p:Nat->Bool):∀ i,(∀ k,k<i->p k=aj)->JC c p i=[]
 |0,_=>rfl
 |i+1,h=>by rw[JC,h i (by omega),ay (by simp)];exact Wh c p i λk hk=>h k (by omega)
theorem PH {c:Nat->List Int} {p:Nat->Bool} {i:Nat} (h:p i=ai):JC c p (i+1)=jl (JC c p i) (c i):=by rw[JC,aF h]
theorem D8 {c:Nat->List Int} {p:Nat->Bool} {i:Nat} (h:p i=aj):JC c p (i+1)=JC c p i:=by rw[JC,ay (by rw[h];simp)]
theorem amh (w:uS) (h:HS) (e:EV) (c:List Int):(jN w h e c).S=if e.k=20 then h.S.set e.ob c else h.S:=by
 unfold jN;simp only[];repeat' split
 all_goals first|rfl|omega
theorem amk (w:uS) (h:HS) (e:EV) (c:List Int):(jN w h e c).L=if (e.k=7\/e.k=11) then jat h.L e.ob c else if e.k=16 then jat h.L (Oc w.2.2.1 e.ob) c else h.L:=by
 unfold jN;simp only[];repeat' split
 all_goals first|rfl|omega
theorem ami (w:uS) (h:HS) (e:EV) (c:List Int):(jN w h e c).R=if e.k=9 then jat h.R e.ob c else h.R:=by
 unfold jN;simp only[];repeat' split
 all_goals first|rfl|omega
theorem amm (w:uS) (h:HS) (e:EV) (c:List Int):(jN w h e c).C=if e.k=4/\Ib w.1 e.ob=ai then jat h.C e.ob c else h.C:=by
 unfold jN;simp only[];repeat' split
 all_goals first|rfl|omega|(rename_i h1 h2;exact cR ⟨by assumption,by assumption⟩ h2)|(rename_i h1 h2;exact cR h2.2 h1)|(rename_i h1;exact cR h1.1 (by assumption))
theorem aml (w:uS) (h:HS) (e:EV) (c:List Int):(jN w h e c).F=if e.k=22 then jat h.F e.ob c else h.F:=by
 unfold jN;simp only[];repeat' split
 all_goals first|rfl|omega
theorem amf (w:uS) (h:HS) (e:EV) (c:List Int):(jN w h e c).X=if e.k=13 then jl h.X c else h.X:=by
 unfold jN;simp only[];repeat' split
 all_goals first|rfl|omega
theorem C3 (l:List (List Int)) (i:Nat) (c:List Int) (o:Nat) (h:i<l.length):(jat l i c).getD o []=if i=o then jl (l.getD o []) c else l.getD o []:=by
 unfold jat;rw[qH];by_cases e:i=o
 .subst e;rw[aF ⟨rfl,h⟩,aF rfl]
 .rw[ay λq=>e q.1,ay e]
abbrev pT (l:List ET) (u k:Nat):Bool:=decide ((cG l k).th=u)
abbrev pS (l:List ET) (u k:Nat):Bool:=decide ((cG l k).k=20/\(cG l k).ob=u)
abbrev pL (w:WT) (l:List ET) (x:Int×Bool) (k:Nat):Bool:=decide (Av w (cG l k)=x)
abbrev pC (w:WT) (l:List ET) (o k:Nat):Bool:=decide ((cG l k).k=4/\(cG l k).ob=o/\Ib w.1 o=ai)
abbrev pF (l:List ET) (o k:Nat):Bool:=decide ((cG l k).k=22/\(cG l k).ob=o)
abbrev pX (l:List ET) (k:Nat):Bool:=decide ((cG l k).k=13)
structure IN (w:WT) (l:List ET) (i:Nat) (h:HS):Prop where
 T:∀ u,h.T.getD u []=JC (oe w l) (pT l u) i
 S:∀ u,h.S.getD u []=JC (oe w l) (pS l u) i
 L:∀ o:Nat,h.L.getD o []=JC (oe w l) (pL w l ((o:Int),aj)) i
 R:∀ o:Nat,h.R.getD o []=JC (oe w l) (pL w l ((o:Int),ai)) i
 C:∀ o,h.C.getD o []=JC (oe w l) (pC w l o) i
 F:∀ o,h.F.getD o []=JC (oe w l) (pF l o) i
 X:h.X=JC (oe w l) (pX l) i
theorem aa9 {w:uS} {e:EV} (h:e.k=7\/e.k=11):Av w e=((e.ob:Int),aj):=by unfold Av;rw[aF h]
theorem Ua {w:uS} {e:EV} (h:e.k=9):Av w e=((e.ob:Int),ai):=by unfold Av;rw[ay (by omega),aF h]
theorem WE {w:uS} {e:EV} (h:e.k=16):Av w e=((Oc w.2.2.1 e.ob:Int),aj):=by unfold Av;rw[ay (by omega),ay (by omega),aF h]
theorem aij {w:uS} {e:EV} (h:¬(e.k=7\/e.k=11)) (h1:¬e.k=9) (h2:¬e.k=16):Av w e=(-1,aj):=by unfold Av;rw[ay h,ay h1,ay h2]
theorem IN.zero (w:WT) (l:List ET):IN w l 0 (HS.zero w):=
 have r:∀ n:Nat,∀ u,(aG n ([]:List Int)).getD u []=[]:=λn=>oa.repl (P:=λx=>x=[]) rfl n
 ⟨r _,r _,λ_=>r _ _,λ_=>r _ _,r _,r _,rfl⟩
theorem IN.step {w:WT} {l:List ET} {i:Nat} {h:HS} (a:IN w l i h) (n:Int) (o:TJ n h) (hh:h=Ec w (l.take i)) (hi:i<l.length) (ok:EOK w h (cG l i)) (J:(cG l i).k=20->∀ k,k<i->pS l (cG l i).ob k=aj):IN w l (i+1) (jN w h (cG l i) (oe w l i)):=by
 have hcT:LE (h.T.getD (cG l i).th []) (oe w l i):=by rw[hh];exact ahi w _ _
 have hc:En (n+1) (oe w l i):=by unfold oe;rw[<- hh];exact Pf o ok.th4
 refine ⟨λu=>?_,λu=>?_,λx=>?_,λx=>?_,λx=>?_,λx=>?_,?_⟩
 .rw[abu,qH];by_cases e:(cG l i).th=u
  .rw[aF ⟨e,ok.th⟩,PH (by simpa using e),<-a.T u,LE.jl (by rw[<- e];exact hcT)]
  .rw[ay λq=>e q.1,D8 (by simpa using e)];exact a.T u
 .rw[amh];by_cases k:(cG l i).k=20
  .rw[aF k,qH];by_cases e:(cG l i).ob=u
   .rw[aF ⟨e,by rw[o.lS];exact ok.sp (.inl k)⟩,PH (by simp[k,e]),Wh _ _ i (by rw[<- e];exact J k),aio hc]
   .rw[ay λq=>e q.1,D8 (by simp[e])];exact a.S u
  .rw[ay k,D8 (by simp[k])];exact a.S u
 .rw[amk];by_cases k:(cG l i).k=7\/(cG l i).k=11
  .rw[aF k,C3 _ _ _ _ (ok.lk (by omega))];by_cases e:(cG l i).ob=x
   .rw[aF e,PH (by simp[aa9 k,e]),<-a.L x]
   .rw[ay e,D8 (by simp[aa9 k];omega)];exact a.L x
  rw[ay k];by_cases k2:(cG l i).k=16
  .rw[aF k2,C3 _ _ _ _ (ok.cd (.inl k2)).2.2];by_cases e:Oc w.2.2.1 (cG l i).ob=x
   .rw[aF e,PH (by simp[WE k2,e]),<-a.L x]
   .rw[ay e,D8 (by simp[WE k2];omega)];exact a.L x
  rw[ay k2,D8]
  .exact a.L x
  .by_cases I:(cG l i).k=9
   .simp[Ua I]
   .simp[aij k I k2]
 .rw[ami];by_cases k:(cG l i).k=9
  .rw[aF k,C3 _ _ _ _ (by rw[o.lR];exact ok.lk (by omega))];by_cases e:(cG l i).ob=x
   .rw[aF e,PH (by simp[Ua k,e]),<-a.R x]
   .rw[ay e,D8 (by simp[Ua k];omega)];exact a.R x
  rw[ay k,D8]
  .exact a.R x
  .unfold pL Av;repeat' split
   all_goals first|omega|simp
 .rw[amm];by_cases k:(cG l i).k=4/\Ib w.1 (cG l i).ob=ai
  .rw[aF k,C3 _ _ _ _ (ok.ce (.inr k.1)).1];by_cases e:(cG l i).ob=x
   .rw[aF e,PH (by simp[k.1,e];rw[<- e];exact k.2),<-a.C x]
   .rw[ay e,D8 (by simp[e])];exact a.C x
  .rw[ay k,D8]
   .exact a.C x
   .refine bG λq=>k ⟨q.1,by rw[q.2.1];exact q.2.2⟩
 .rw[aml];by_cases k:(cG l i).k=22
  .rw[aF k,C3 _ _ _ _ (ok.fu (.inl k))];by_cases e:(cG l i).ob=x
   .rw[aF e,PH (by simp[k,e]),<-a.F x]
   .rw[ay e,D8 (by simp[e])];exact a.F x
  .rw[ay k,D8 (by simp[k])];exact a.F x
 .rw[amf];by_cases k:(cG l i).k=13
  .rw[aF k,PH (by simp[k]),<-a.X]
  .rw[ay k,D8 (by simp[k])];exact a.X
abbrev gT (th:List (Int×Int×Bool)) (u:Int):Int×Int×Bool:=aJ (T:=jA) th u
theorem E0 {T:Ty} (xs:List T.den) (j k:Int) (x:T.den) (hj:0<=j) (hk:0<=k) (h2:k<xs.length):aJ (cQ xs j x) k=if k=j then x else aJ xs k:=by
 by_cases h:j<xs.length
 .exact rL xs j k x hj h hk
 .rw[ay (by omega)];unfold aJ cQ;rw[aA,aA,oU,ay (by omega)]
theorem xn {th:List (Int×Int×Bool)} {t u:Int} (s:Int) (t0:0<=t) (J:0<=u) (I:u<th.length):gT (ya th t s) u=if u=t then (s,(gT th u).2) else gT th u:=by
 unfold ya gT;rw[E0 _ _ _ _ t0 J I];split
 .rename_i h;subst h;rfl
 .rfl
theorem Xz {th:List (Int×Int×Bool)} {t u:Int} (s:Int) (t0:0<=t) (J:0<=u) (I:u<th.length):gT (cdP th t s) u=if u=t then ((gT th u).1,s,(gT th u).2.2) else gT th u:=by
 unfold cdP gT;rw[E0 _ _ _ _ t0 J I];split
 .rename_i h;subst h;rfl
 .rfl
theorem XD {th:List (Int×Int×Bool)} {t u:Int} (s:Bool) (t0:0<=t) (J:0<=u) (I:u<th.length):gT (atP th t s) u=if u=t then ((gT th u).1,(gT th u).2.1,s) else gT th u:=by
 unfold atP gT;rw[E0 _ _ _ _ t0 J I];split
 .rename_i h;subst h;rfl
 .rfl
theorem am1 {u:Int} (I:0<=u):∀ (l:List Int) (th:List (Int×Int×Bool)),(∀ x∈l,0<=x)->u<th.length->gT (CQ th l) u=if u∈l then (4,(gT th u).2) else gT th u
 |[],th,_,_=>by simp[CQ]
 |x::r,th,h,h2=>by
  have e:CQ th (x::r)=CQ (ya th x 4) r:=rfl;rw[e,am1 I r _ (λy J=>h y (cI _ J)) (by unfold ya;rw[bV];exact h2),xn 4 (h x (dj ..)) I h2];by_cases a:u=x
  .subst a;simp
  .simp[a]
structure TH1 (k o v t u:Int) (g g':Int×Int×Bool):Prop where
 a:u=t->g.1≠0/\g.1≠3/\(k=16->g'.1=3/\g'.2.1=o)/\(k≠16->g'.1≠0/\g'.1≠3/\g'.1≠4)/\(k≠1->k≠17->g.1=2)
 b:u≠t->k=18->v=u->g.1=3/\g.2.1=o/\g'.1=4/\g'.2.1=o
 c:u≠t->k=19->g.1=3->g.2.1=o->g'.1=4/\g'.2.1=o
 d:u≠t->¬(k=18/\v=u)->¬(k=19/\g.1=3/\g.2.1=o)->g'.2.1=g.2.1/\(g'.1=g.1\/k=20/\o=u/\g.1=0/\g'.1=1)
 e:k=20->o=u->g'.1≠0
theorem TH1.same {k o v t u:Int} {g g':Int×Int×Bool} (h2:k≠1->k≠17->u=t->g.1=2) (e1:g'.1=g.1) (e2:g'.2.1=g.2.1) (n1:k≠1) (Y:k≠17) (n3:k≠16) (J:k≠20) (U:k=18->v=u->u=t) (M:k=19->g.1=3->g.2.1=o->u=t):TH1 k o v t u g g':=
 ⟨λh=>(by have:=h2 n1 Y h;rw[e1];omega),λh h1 I=>(h (U h1 I)).elim,λh h1 I Z=>(h (M h1 I Z)).elim,λ_ _ _=>⟨e2,.inl e1⟩,λh=>(J h).elim⟩
theorem ajc (w:WT) (s:SY) (t k o v:Int) (en:EN w s t k o) (rd:Wd w s t k o) (va:k=18->v=(re w s t k o v).2) (u:Int) (J:0<=u) (I:u<s.2.2.2.length):TH1 k o v t u (gT s.2.2.2 u) (gT (re w s t k o v).1.2.2.2 u):=by
 have t0:=en.t0;have r2:k≠1->k≠17->u=t->(gT s.2.2.2 u).1=2:=λh1 h2 U=>by subst U;exact rd.r h1 h2
 have nm:=en.nm;have k1:=nm.k1;have k2:=nm.k2;obtain⟨s1,s2,M,th⟩:=s;dsimp only at I r2;change TH1 k o v t u (gT th u) (gT (re w (s1,s2,M,th) t k o v).1.2.2.2 u);by_cases a1:k=1
 .subst a1;have e:gT (re w (s1,s2,M,th) t 1 o v).1.2.2.2 u=if u=t then (2,(gT th u).2) else gT th u:=xn 2 t0 J I
  rw[e];refine ⟨λh=>?_,λ_ h=>by omega,λ_ h=>by omega,λh _ _=>by rw[ay h];exact⟨rfl,.inl rfl⟩,λh=>by omega⟩;have b:=rd.b rfl;rw[aF h];subst h;have b:(gT th u).1=1:=b;dsimp only;omega
 by_cases a2:k=2
 .subst a2;have e:gT (re w (s1,s2,M,th) t 2 o v).1.2.2.2 u=if u=t then (5,(gT th u).2) else gT th u:=xn 5 t0 J I
  rw[e];refine ⟨λh=>?_,λ_ h=>by omega,λ_ h=>by omega,λh _ _=>by rw[ay h];exact⟨rfl,.inl rfl⟩,λh=>by omega⟩;have:=r2 (by omega) (by omega) h;rw[aF h];dsimp only;omega
 by_cases a14:k=14\/k=15
 .have e:∃ b,gT (re w (s1,s2,M,th) t k o v).1.2.2.2 u=if u=t then ((gT th u).1,(gT th u).2.1,b) else gT th u:=by
   rcases a14 with rfl|rfl
   .exact⟨ai,XD ai t0 J I⟩
   .exact⟨aj,XD aj t0 J I⟩
  obtain⟨b,e⟩:=e;rw[e];refine TH1.same r2 (by split<;>rfl) (by split<;>rfl) a1 (by omega) (by omega) (by omega) (λh=>by omega) λh=>by omega
 by_cases a16:k=16
 .subst a16;have e:gT (re w (s1,s2,M,th) t 16 o v).1.2.2.2 u=if u=t then (3,o,(gT th u).2.2) else gT th u:=by
   have:gT (cdP (ya th t 3) t o) u=_:=Xz o t0 J (by unfold ya;rw[bV];exact I);refine Eq.trans this ?_;rw[xn 3 t0 J I];split<;>rfl
  rw[e];refine ⟨λh=>?_,λ_ h=>by omega,λ_ h=>by omega,λh _ _=>by rw[ay h];exact⟨rfl,.inl rfl⟩,λh=>by omega⟩;have:=r2 (by omega) (by omega) h;rw[aF h];exact⟨by omega,by omega,λ_=>⟨rfl,rfl⟩,λh=>(h rfl).elim,λ_ _=>this⟩
 by_cases a17:k=17
 .subst a17;have e:gT (re w (s1,s2,M,th) t 17 o v).1.2.2.2 u=if u=t then (2,0,(gT th u).2.2) else gT th u:=by
   have:gT (cdP (ya th t 2) t 0) u=_:=Xz 0 t0 J (by unfold ya;rw[bV];exact I);refine Eq.trans this ?_;rw[xn 2 t0 J I];split<;>rfl
  rw[e];refine ⟨λh=>?_,λ_ h=>by omega,λ_ h=>by omega,λh _ _=>by rw[ay h];exact⟨rfl,.inl rfl⟩,λh=>by omega⟩;have b:=(rd.wk rfl).1;rw[aF h];subst h;have b:(gT th u).1=4:=b;dsimp only;omega
 by_cases a18:k=18
 .subst a18;have va:=va rfl;rw[Fr] at va ⊢;dsimp only at va ⊢;by_cases hl:(wl th o th.length).length=0
  .rw[aF hl] at va ⊢;dsimp only at va ⊢;exact TH1.same r2 rfl rfl a1 (by omega) (by omega) (by omega) (λ_ h=>by omega) λh=>by omega
  .rw[ay hl] at va ⊢;dsimp only at va ⊢;have hv:v∈wl th o th.length:=by
    unfold Bs at va;rw[ay hl] at va;split at va
    .rename_i h;simpa using h
    .rw[va];exact bJ (T:=.int .i64) (by omega) (by omega)
   rw[<- va];obtain⟨v0,v1,v2⟩:=rj.1 hv;unfold H8 at v2;simp only[av,be] at v2;rw[xn 4 v0 J I];refine ⟨λh=>?_,λh _ h2=>?_,λ_ h=>by omega,λh h2 _=>?_,λh=>by omega⟩
   .have:=r2 (by omega) (by omega) h;rw[ay (λq=>by rw[q] at this;exact cR (this.symm.trans v2.1) (by decide))];omega
   .subst h2;rw[aF rfl];exact⟨v2.1,v2.2,rfl,v2.2⟩
   .rw[ay λq=>h2 ⟨rfl,q.symm⟩];exact⟨rfl,.inl rfl⟩
 by_cases Z:k=19
 .subst Z;have e:gT (re w (s1,s2,M,th) t 19 o v).1.2.2.2 u=if u∈wl th o th.length then (4,(gT th u).2) else gT th u:=am1 J _ th (λx hx=>(rj.1 hx).1) I
  rw[e];have hm:u∈wl th o th.length↔(gT th u).1=3/\(gT th u).2.1=o:=by
   rw[rj];unfold H8;simp only[av,be];exact⟨λh=>h.2.2,λh=>⟨J,I,h⟩⟩
  refine ⟨λh=>?_,λ_ h=>by omega,λh _ U h4=>?_,λh _ U=>?_,λh=>by omega⟩
  .have:=r2 (by omega) (by omega) h;rw[ay (λq=>by have:=(hm.1 q).1;omega)];omega
  .rw[aF (hm.2 ⟨U,h4⟩)];exact⟨rfl,h4⟩
  .rw[ay λq=>U ⟨rfl,hm.1 q⟩];exact⟨rfl,.inl rfl⟩
 by_cases Y:k=20
 .subst Y;have sp:=rd.sp rfl;have o0:=(nm.th (.inl rfl)).1;have e:gT (re w (s1,s2,M,th) t 20 o v).1.2.2.2 u=if u=o then (1,(gT th u).2) else gT th u:=xn 1 o0 J I
  rw[e];refine ⟨λh=>?_,λ_ h=>by omega,λ_ h=>by omega,λh _ _=>?_,λ_ h=>?_⟩
  .have:=r2 (by omega) (by omega) h;rw[ay (λq=>sp.1 (by omega))];omega
  .by_cases q:u=o
   .subst q;rw[aF rfl];exact⟨rfl,.inr ⟨rfl,rfl,sp.2,rfl⟩⟩
   .rw[ay q];exact⟨rfl,.inl rfl⟩
  .rw[aF h.symm];show (1:Int)≠0;omega
 have e:(re w (s1,s2,M,th) t k o v).1.2.2.2=th:=by
  unfold re;rw[ay a1,ay a2];repeat' split
  all_goals first|rfl|omega
 rw[e];exact TH1.same r2 rfl rfl a1 a17 a16 Y (λh=>(a18 h).elim) λh=>(Z h).elim
def t_ (l:List ET) (u:Nat):Nat->Int
 |0=> -1
 |i+1=>if (cG l i).th=u then (i:Int) else t_ l u i
def mtN (l:List ET) (u i:Nat) (p:Int):Prop:=0<=p/\(cG l p.toNat).k=16/\((cG l i).k=18/\(cG l i).va=u\/(cG l i).k=19/\(cG l i).ob=(cG l p.toNat).ob)
def Ct (l:List ET) (u:Nat):Nat->Int
 |0=> -1
 |i+1=>if (cG l i).th=u then -1 else if 0<=Ct l u i then Ct l u i else @ite _ (mtN l u i (t_ l u i)) (yH _) (i:Int) (-1)
theorem Wm {l:List ET} {u i:Nat} (h:(cG l i).th=u):Ct l u (i+1)= -1:=by rw[Ct,aF h]
theorem Wn {l:List ET} {u i:Nat} (h:¬(cG l i).th=u) (g:0<=Ct l u i):Ct l u (i+1)=Ct l u i:=by rw[Ct,ay h,aF g]
theorem Wp {l:List ET} {u i:Nat} (h:¬(cG l i).th=u) (g:Ct l u i= -1) (m:mtN l u i (t_ l u i)):Ct l u (i+1)=i:=by rw[Ct,ay h,ay (by omega),aF m]
theorem Wo {l:List ET} {u i:Nat} (h:¬(cG l i).th=u) (g:Ct l u i= -1) (m:¬mtN l u i (t_ l u i)):Ct l u (i+1)= -1:=by rw[Ct,ay h,ay (by omega),ay m]
theorem FX {α:Type} (l:List α) (f:Nat->α->α) (u:Nat) (d:α) (h:u<l.length):(l.mapIdx f).getD u d=f u (l.getD u d):=by
 rw[aA,Ea,aB h,aA,aB h];rfl
theorem amg (w:uS) (h:HS) (e:EV) (c:List Int) (u:Nat) (hu:u<h.W.length) (U:h.N.length=h.W.length):(jN w h e c).W.getD u 0=if e.k=16/\e.th=u then (e.ob:Int) else if e.k=18/\e.va=u\/e.k=19/\h.W.getD u 0=e.ob then -1 else h.W.getD u 0:=by
 obtain⟨th,k,ob,va⟩:=e;dsimp only;by_cases I:k=16
 .subst I;have e:(jN w h ⟨th,16,ob,va⟩ c).W=h.W.set th ob:=rfl;rw[e,qH];by_cases q:th=u
  .rw[aF ⟨q,by omega⟩,aF ⟨rfl,q⟩]
  .rw[ay λx=>q x.1,ay λx=>q x.2,ay (by omega)]
 rw[ay λx=>I x.1];by_cases M:k=18
 .subst M;have e:jN w h ⟨th,18,ob,va⟩ c=if 0<=va/\va<h.N.length then {h with T:=h.T.set th c,N:=h.N.set va.toNat c,W:=h.W.set va.toNat (-1)} else {h with T:=h.T.set th c}:=rfl
  rw[e];split
  .show (h.W.set va.toNat (-1)).getD u 0=_;rw[qH];by_cases q:va=u
   .rw[aF ⟨by omega,by omega⟩,aF (.inl ⟨rfl,q⟩)]
   .rw[ay (by omega),ay (by omega)]
  .rw[ay (by omega)]
 by_cases J:k=19
 .subst J;have e:(jN w h ⟨th,19,ob,va⟩ c).W=h.W.mapIdx λu x=>if decide (h.W.getD u 0=(ob:Int))=ai then -1 else x:=rfl
  rw[e,FX _ _ _ _ hu];by_cases q:h.W.getD u 0=ob
  .rw[aF (aQ q),aF (.inr ⟨rfl,q⟩)]
  .rw[ay (by simpa using q),ay (by omega)]
 rw[ay (by omega)];have e:(jN w h ⟨th,k,ob,va⟩ c).W=h.W:=by
  unfold jN;simp only[];repeat' split
  all_goals first|rfl|omega
 rw[e]
theorem amj (w:uS) (h:HS) (e:EV) (c:List Int) (u:Nat) (hu:u<h.N.length):(jN w h e c).N.getD u []=if e.k=18/\e.va=u\/e.k=19/\h.W.getD u 0=e.ob then c else h.N.getD u []:=by
 obtain⟨th,k,ob,va⟩:=e;dsimp only;by_cases J:k=18
 .subst J;have e:jN w h ⟨th,18,ob,va⟩ c=if 0<=va/\va<h.N.length then {h with T:=h.T.set th c,N:=h.N.set va.toNat c,W:=h.W.set va.toNat (-1)} else {h with T:=h.T.set th c}:=rfl
  rw[e];split
  .show (h.N.set va.toNat c).getD u []=_;rw[qH];by_cases q:va=u
   .rw[aF ⟨by omega,by omega⟩,aF (.inl ⟨rfl,q⟩)]
   .rw[ay (by omega),ay (by omega)]
  .rw[ay (by omega)]
 by_cases I:k=19
 .subst I;have e:(jN w h ⟨th,19,ob,va⟩ c).N=h.N.mapIdx λu x=>if decide (h.W.getD u 0=(ob:Int))=ai then c else x:=rfl
  rw[e,FX _ _ _ _ hu];by_cases q:h.W.getD u 0=ob
  .rw[aF (aQ q),aF (.inr ⟨rfl,q⟩)]
  .rw[ay (by simpa using q),ay (by omega)]
 rw[ay (by omega)];have e:(jN w h ⟨th,k,ob,va⟩ c).N=h.N:=by
  unfold jN;simp only[];repeat' split
  all_goals first|rfl|omega
 rw[e]
abbrev ZV (w:WT) (l:List ET) (i u:Nat):Int×Int×Bool:=gT (Nx w (l.take i)).1.2.2.2 (u:Int)
structure WI (w:WT) (l:List ET) (i:Nat) (h:HS) (u:Nat) (g:Int×Int×Bool):Prop where
 W:h.W.getD u 0=if g.1=3 then g.2.1 else -1
 p:g.1=3\/g.1=4->0<=t_ l u i/\(cG l (t_ l u i).toNat).k=16/\((cG l (t_ l u i).toNat).ob:Int)=g.2.1
 a:g.1=3->Ct l u i= -1
 n:g.1=4->0<=Ct l u i/\h.N.getD u []=oe w l (Ct l u i).toNat
 s:g.1=0->∀ k,k<i->pS l u k=aj
theorem aih:∀ n,∀ x∈XU n,x.1=0\/x.1=1
 |0,x,h=>by cases h
 |n+1,x,h=>by
  rcases bm.1 h with rfl|h
  .exact .inr rfl
  .rw[py h];exact .inl rfl
theorem WI.zero (w:WT) (l:List ET) (u:Nat) (hu:u<w.2.2.2.2.1.length):WI w l 0 (HS.zero w) u (ZV w l 0 u):=by
 have h1:(ZV w l 0 u).1=0\/(ZV w l 0 u).1=1:=aih _ _ (bJ (T:=jA) (xs:=XU w.2.2.2.2.1.length) (j:=(u:Int)) (by omega) (by rw[HG];omega));have hW:(HS.zero w).W.getD u 0= -1:=by
  have:(aG w.2.2.2.2.1.length (-1:Int)).getD u 0= -1:=by rw[aA,lz,aF hu];rfl
  exact this
 exact⟨by rw[hW,ay (by omega)],λh=>by omega,λh=>by omega,λh=>by omega,λ_ k hk=>by omega⟩
theorem WI.step {w:WT} {l:List ET} {i:Nat} {h:HS} {u:Nat} (a:WI w l i h u (ZV w l i u)) (hi:i<l.length) (sc:SCx w (l.take i) (Nx w (l.take i)).1 (Nx w (l.take i)).2.1 (Nx w (l.take i)).2.2 (eN l i)) (et:EvT (cG l i) (eN l i)) (hu:u<w.2.2.2.2.1.length) (h1:h.W.length=w.2.2.2.2.1.length) (h2:h.N.length=w.2.2.2.2.1.length):WI w l (i+1) (jN w h (cG l i) (oe w l i)) u (ZV w l (i+1) u):=by
 have en:=sc.en;have eg:ZV w l (i+1) u=gT (re w (Nx w (l.take i)).1 (eN l i).1 (eN l i).2.1 (eN l i).2.2.1 (eN l i).2.2.2.1).1.2.2.2 (u:Int):=by unfold ZV;rw[S1 w hi]
 have T1:TH1 (eN l i).2.1 (eN l i).2.2.1 (eN l i).2.2.2.1 (eN l i).1 (u:Int) (ZV w l i u) (ZV w l (i+1) u):=by
  rw[eg];exact ajc w (Nx w (l.take i)).1 (eN l i).1 (eN l i).2.1 (eN l i).2.2.1 (eN l i).2.2.2.1 en sc.rd (λh=>sc.va.el (by omega) (by omega) (by omega) (by omega) (by omega)) (u:Int) (by omega) (by rw[en.e3];omega)
 clear eg;have eW:=amg w h (cG l i) (oe w l i) u (by omega) (by omega);have eN9:=amj w h (cG l i) (oe w l i) u (by omega);have qt:=et.th;have U:=et.k;have qv:=et.va;have M:(cG l i).k=16\/(cG l i).k=19\/(cG l i).k=20->(eN l i).2.2.1=((cG l i).ob:Int):=λh=>et.ob (by rcases h with h|h|h<;>rw[h]<;>decide)
 have pv':t_ l u (i+1)=if (cG l i).th=u then (i:Int) else t_ l u i:=rfl
 have ps:pS l u i=decide ((cG l i).k=20/\(cG l i).ob=u):=rfl;clear en sc;obtain⟨aW,ap,aa,an,as'⟩:=a;obtain⟨ta,tb,tc,td,te⟩:=T1;generalize ZV w l (i+1) u=g' at*
 generalize ZV w l i u=g at*
 by_cases I:(cG l i).th=u
 .obtain⟨b1,b2,b3,b4,_⟩:=ta (by rw[qt,I]);have w0:Ct l u (i+1)= -1:=Wm I;have hW':h.W.getD u 0= -1:=by rw[aW,ay b2]
  by_cases J:(cG l i).k=16
  .obtain⟨c1,Y⟩:=b3 (by rw[U,J];rfl);refine ⟨by rw[eW,aF ⟨J,I⟩,aF c1,Y,M (.inl J)],λ_=>?_,λ_=>w0,λh=>by omega,λh=>by omega⟩;rw[pv',aF I,c6];exact⟨by omega,J,by rw[Y,M (.inl J)]⟩
  .obtain⟨c1,Y,c3⟩:=b4 (by rw[U];omega);refine ⟨?_,λh=>by omega,λh=>by omega,λh=>by omega,λh=>by omega⟩;rw[eW,ay (λx=>J x.1),ay Y,hW'];split<;>rfl
 have hut:(u:Int)≠(eN l i).1:=by rw[qt];omega
 rw[ay I] at pv';rw[ay (λx=>I x.2)] at eW;by_cases A:(cG l i).k=18/\(cG l i).va=u\/(cG l i).k=19/\h.W.getD u 0=(cG l i).ob
 .have B:g.1=3/\g'.1=4/\g'.2.1=g.2.1/\((cG l i).k=19->g.2.1=(cG l i).ob):=by
   rcases A with ⟨k,v⟩|⟨k,v⟩
   .obtain⟨d1,d2,d3,d4⟩:=tb hut (by rw[U,k];rfl) (by rw[qv,v]);exact⟨d1,d3,by rw[d2,d4],λq=>by omega⟩
   .have Z:g.1=3:=by
     rw[aW] at v;split at v
     .assumption
     .omega
    rw[aW,aF Z] at v;obtain⟨d1,d2⟩:=tc hut (by rw[U,k];rfl) Z (by rw[v,M (.inr (.inl k))]);exact⟨Z,d1,by rw[d2,v,M (.inr (.inl k))],λ_=>v⟩
  obtain⟨d1,d2,d3,d4⟩:=B;obtain⟨p1,p2,p3⟩:=ap (.inl d1);have hw:=Wp I (aa d1) ⟨p1,p2,by
   rcases A with A|⟨k,_⟩
   .exact .inl A
   .exact .inr ⟨k,by have:=d4 k;omega⟩⟩
  rw[aF A] at eW eN9;refine ⟨by rw[eW,ay (by omega)],λ_=>by rw[pv',d3];exact⟨p1,p2,p3⟩,λh=>by omega,λ_=>by rw[hw,c6];exact⟨by omega,eN9⟩,λh=>by omega⟩
 rw[ay A] at eW eN9;have nv:¬((eN l i).2.1=18/\(eN l i).2.2.2.1=(u:Int)):=λq=>A (.inl ⟨by omega,by rw[<- qv];exact q.2⟩)
 have nw:¬((eN l i).2.1=19/\g.1=3/\g.2.1=(eN l i).2.2.1):=λq=>A (.inr ⟨by omega,by rw[aW,aF q.2.1,q.2.2,M (.inr (.inl (by omega)))]⟩)
 obtain⟨d1,d2⟩:=td hut nv nw;have nm:g.1=3->¬mtN l u i (t_ l u i):=λq ⟨_,_,m⟩=>by
  obtain⟨_,_,p3⟩:=ap (.inl q);rcases m with m|⟨k,m⟩
  .exact A (.inl m)
  .exact nw ⟨by omega,q,by rw[M (.inr (.inl k)),m,p3]⟩
 refine ⟨?_,λq=>?_,λq=>?_,λq=>?_,λq k hk=>?_⟩
 .rw[eW,aW,d1];rcases d2 with d2|d2
  .rw[d2]
  .rw[ay (by omega),ay (by omega)]
 .rw[pv',d1];exact ap (by omega)
 .have q:g.1=3:=by omega
  exact Wo I (aa q) (nm q)
 .have q:g.1=4:=by omega
  obtain⟨n1,n2⟩:=an q;rw[Wn I n1,eN9];exact⟨n1,n2⟩
 .have q0:g.1=0:=by omega
  by_cases e:k=i
  .subst e;rw[ps];exact bG λr=>te (by rw[U,r.1];rfl) (by rw[M (.inr (.inr r.1)),r.2]) q
  .exact as' q0 k (by omega)
theorem Uw {w:WT} {l:List ET} (I:TR (w,l)):∀ i:Nat,i<=l.length->IN w l i (Ec w (l.take i))/\∀ u,u<w.2.2.2.2.1.length->WI w l i (Ec w (l.take i)) u (ZV w l i u)
 |0,_=>⟨IN.zero w l,λu hu=>WI.zero w l u hu⟩
 |i+1,h=>by
  obtain⟨a,b⟩:=Uw I i (by omega);obtain⟨o,J⟩:=zl I i (by omega);have hi:i<l.length:=by omega
  have sc:=I.sc hi;have et:=oN I hi;have ok:=uC I hi;rw[zk w hi];refine ⟨a.step _ o rfl hi ok λk=>?_,λu hu=>(b u hu).step hi sc et hu (o.lW.trans J.T) (o.lN.trans J.T)⟩;have sp:=(sc.rd.sp (by rw[et.k,k];rfl)).2;rw[et.ob (by rw[k];decide)] at sp;exact (b _ (by rw[<- J.T];exact ok.sp (.inl k))).s sp
theorem amv {w:WT} {l:List ET} (I:TR (w,l)) (u:Nat):∀ i:Nat,i<=l.length->(Ec w (l.take i)).T.getD u []=if 0<=t_ l u i then oe w l (t_ l u i).toNat else []
 |0,_=>oa.repl (P:=λx=>x=[]) rfl _ _
 |i+1,h=>by
  have J:=amv I u i (by omega);rw[zk w (by omega),abu,qH,t_];by_cases e:(cG l i).th=u
  .rw[aF ⟨e,(uC I (by omega)).th⟩,aF e,aF (by omega),c6]
  .rw[ay λq=>e q.1,ay e];exact J
theorem uJ {c:Nat->List Int} {p q:Nat->Bool}:∀ i,(∀ k,k<i->p k=q k)->JC c p i=JC c q i
 |0,_=>rfl
 |i+1,h=>by rw[JC,JC,h i (by omega),uJ i λk hk=>h k (by omega)]
theorem ai8 {c:Nat->List Int} {p q r:Nat->Bool}:∀ i,(∀ k,k<i->(r k=ai↔p k=ai\/q k=ai)/\¬(p k=ai/\q k=ai))->JC c r i=jl (JC c p i) (JC c q i)
 |0,_=>rfl
 |i+1,h=>by
  have I:=ai8 (c:=c) i λk hk=>h k (by omega)
  obtain⟨h1,h2⟩:=h i (by omega);rw[JC,JC,JC];by_cases a:p i=ai
  .have b:¬q i=ai:=λb=>h2 ⟨a,b⟩
   rw[aF (h1.2 (.inl a)),aF a,ay b,I,qy,qy,W5 (JC c q i)]
  .by_cases b:q i=ai
   .rw[aF (h1.2 (.inr b)),ay a,aF b,I,qy]
   .rw[ay λq=>(h1.1 q).elim a b,ay a,ay b,I]
def HQ (w:WT) (l:List ET) (j i:Nat):Prop:=((cG l j).k=1/\(cG l i).k=20/\(cG l i).ob=(cG l j).th)\/((cG l j).k=21/\(cG l i).th=(cG l j).ob)\/((cG l j).k=3/\Ib w.1 (cG l j).ob=ai/\(cG l i).k=4/\(cG l i).ob=(cG l j).ob)\/((cG l j).k=23/\(cG l i).k=22/\(cG l i).ob=(cG l j).ob)
def PL (w:WT) (l:List ET) (j i:Nat):Prop:=(0<=(Ce w (cG l j)).1/\(Av w (cG l i)).1=(Ce w (cG l j)).1/\¬((Ce w (cG l j)).2=ai/\(Av w (cG l i)).2=ai))\/((cG l j).k=12/\(cG l i).k=13)
def dB (p:Nat->Prop) (k:Nat):Bool:= @decide (p k) (yH _)
theorem afc {p:Nat->Prop} {k:Nat}:dB p k=ai↔p k:=by unfold dB;exact @decide_eq_true_iff (p k) (yH _)
theorem afd {p:Nat->Prop} {k:Nat}:dB p k=aj↔¬p k:=by unfold dB;exact @decide_eq_false_iff_not (p k) (yH _)
theorem Ns {p:Nat->Prop} {q:Bool} {k:Nat} (h:p k↔q=ai):q=dB p k:=by
 cases q with
 |true=>exact (afc.2 (h.2 rfl)).symm
 |false=>exact (afd.2 λx=>by have:=h.1 x;cases this).symm
def wkC (w:WT) (l:List ET) (j:Nat):List Int:=if (cG l j).k=17 then oe w l (Ct l (cG l j).th j).toNat else []
theorem aj6 {w:WT} {l:List ET} (Y:TR (w,l)) {j:Nat} (hj:j<l.length):oe w l j=tk (jl (jl (jl (if 0<=t_ l (cG l j).th j then oe w l (t_ l (cG l j).th j).toNat else []) (JC (oe w l) (dB (HQ w l j)) j)) (wkC w l j)) (JC (oe w l) (dB (PL w l j)) j)) (cG l j).th:=by
 obtain⟨a,b⟩:=Uw Y j (by omega);have o:=(zl Y j (by omega)).1;have ft:=(zl Y j (by omega)).2;have ok:=uC Y hj;have sc:=Y.sc hj;have et:=oN Y hj;rw[<- amv Y _ j (by omega)];have nH:∀ {p:Nat->Prop},(∀ k,¬p k)->JC (oe w l) (dB p) j=[]:=λh=>Wh _ _ _ λk _=>afd.2 (h k)
 have oT:=o.T (cG l j).th;have z:=En.nil o.n0;have e0:jl (jl ((Ec w (l.take j)).T.getD (cG l j).th []) []) []=(Ec w (l.take j)).T.getD (cG l j).th []:=by rw[mq oT,mq oT]
 have sN:¬(cG l j).k=6->¬(cG l j).k=10->¬(cG l j).k=8->¬(cG l j).k=17->¬(cG l j).k=12->∀ k,¬PL w l j k:=λh1 h2 h3 h4 h5 k q=>by
  unfold PL Ce at q;rw[ay (by omega),ay h3,ay h4] at q;rcases q with ⟨q,_⟩|⟨q,_⟩
  .dsimp only at q;omega
  .exact h5 q
 unfold wkC;show Fl w (Ec w (l.take j)) (cG l j)=_;unfold Fl;congr 1;by_cases k1:(cG l j).k=1
 .rw[ay (by omega),nH (sN (by omega) (by omega) (by omega) (by omega) (by omega))];unfold tu;rw[aF k1,uJ (q:=pS l (cG l j).th) j λk _=>(Ns (by unfold HQ pS;rw[be];omega)).symm,<-a.S];rw[mq (oT.jl (o.S _)),mq (oT.jl (o.S _))];rfl
 by_cases I:(cG l j).k=21
 .rw[ay (by omega),nH (sN (by omega) (by omega) (by omega) (by omega) (by omega))];unfold tu;rw[ay k1,aF I,uJ (q:=pT l (cG l j).ob) j λk _=>(Ns (by unfold HQ pT;rw[be];omega)).symm,<-a.T];rw[mq (oT.jl (o.T _)),mq (oT.jl (o.T _))];rfl
 by_cases k3:(cG l j).k=3
 .rw[ay (by omega),nH (sN (by omega) (by omega) (by omega) (by omega) (by omega))];unfold tu;rw[ay k1,ay I,ay (by omega),ay (by omega),ay (by omega),aF k3,uJ (q:=pC w l (cG l j).ob) j λk _=>(Ns ?_).symm,<-a.C]
  .rw[mq (oT.jl (o.C _)),mq (oT.jl (o.C _))];rfl
  .unfold HQ pC;rw[be];constructor
   .rintro (h|h|h|h)
    .omega
    .omega
    .exact⟨h.2.2.1,h.2.2.2,h.2.1⟩
    .omega
   .intro h;exact .inr (.inr (.inl ⟨k3,h.2.2,h.1,h.2.1⟩))
 by_cases k23:(cG l j).k=23
 .rw[ay (by omega),nH (sN (by omega) (by omega) (by omega) (by omega) (by omega))];unfold tu;rw[ay k1,ay I,ay (by omega),ay (by omega),ay (by omega),ay k3,aF k23,uJ (q:=pF l (cG l j).ob) j λk _=>(Ns (by unfold HQ pF;rw[be];omega)).symm,<-a.F];rw[mq (oT.jl (o.F _)),mq (oT.jl (o.F _))];rfl
 have hN:∀ k,¬HQ w l j k:=λk q=>by unfold HQ at q;omega
 rw[nH hN,mq oT];by_cases U:(cG l j).k=12
 .rw[ay (by omega),mq oT];unfold tu;rw[ay k1,ay I,ay (by omega),ay (by omega),ay (by omega),ay k3,ay k23,aF U,uJ (q:=pX l) j λk _=>(Ns ?_).symm,<-a.X]
  .rfl
  .unfold PL pX Ce;rw[be,ay (by omega),ay (by omega),ay (by omega)];dsimp only;constructor
   .rintro (h|h)
    .omega
    .exact h.2
   .intro h;exact .inr ⟨U,h⟩
 have hor:∀ m:Nat,(Ce w (cG l j)).1=(m:Int)->(Ce w (cG l j)).2=aj->JC (oe w l) (dB (PL w l j)) j=jl ((Ec w (l.take j)).L.getD m []) ((Ec w (l.take j)).R.getD m []):=λm h1 h2=>by
  rw[a.L,a.R];refine ai8 j λk _=>?_
  rw[afc,be,be];unfold PL;rw[h1,h2];generalize Av w (cG l k)=x;obtain⟨x1,x2⟩:=x;simp only[aD];constructor
  .constructor
   .rintro (h|h)
    .cases x2 with
     |true=>exact .inr ⟨h.2.1,rfl⟩
     |false=>exact .inl ⟨h.2.1,rfl⟩
    .omega
   .rintro (h|h)<;>exact .inl ⟨by omega,h.1,λq=>by cases q.1⟩
  .rintro⟨⟨_,h⟩,⟨_,h'⟩⟩;rw[h] at h';cases h'
 by_cases M:(cG l j).k=6\/(cG l j).k=10
 .rw[ay (by omega),mq oT,hor (cG l j).ob (by unfold Ce;rw[aF M]) (by unfold Ce;rw[aF M])];unfold tu;rw[ay k1,ay I,aF M,<-qy];rfl
 by_cases Z:(cG l j).k=8
 .have ha:Ce w (cG l j)=(((cG l j).ob:Int),ai):=by unfold Ce;rw[ay M,aF Z]
  rw[ay (by omega),mq oT];unfold tu;rw[ay k1,ay I,ay M,aF Z,uJ (q:=pL w l (((cG l j).ob:Int),aj)) j λk _=>(Ns ?_).symm,<-a.L]
  .rfl
  .unfold PL pL;rw[ha,be];generalize Av w (cG l k)=x;obtain⟨x1,x2⟩:=x;simp only[aD];constructor
   .rintro (h|h)
    .exact⟨h.2.1,by simpa using h.2.2⟩
    .omega
   .intro h;exact .inl ⟨by omega,h.1,by simp[h.2]⟩
 by_cases J:(cG l j).k=17
 .have wk:=sc.rd.wk (by rw[et.k,J];rfl);have hth:(cG l j).th<w.2.2.2.2.1.length:=by rw[<- ft.T];exact ok.th
  have hn:=(b _ hth).n (by have:=wk.1;rw[et.th] at this;exact this);rw[aF J,hor (Oc w.2.2.1 (cG l j).ob) (by unfold Ce;rw[ay M,ay Z,aF J]) (by unfold Ce;rw[ay M,ay Z,aF J]),<-hn.2];unfold tu;rw[ay k1,ay I,ay M,ay Z,aF J];simp only[xk,List.foldl_nil];rw[qy,qy,qy,<-qy _ _ ((Ec w (l.take j)).N.getD _ []),W5 ((Ec w (l.take j)).N.getD _ [])]
 .rw[ay J,nH (sN (by omega) (by omega) Z J U),mq oT,mq oT];unfold tu;rw[ay k1,ay I,ay M,ay Z,ay J,ay k3,ay k23,ay U];rfl
theorem Xf {n:Int} {c:Nat->List Int} {p:Nat->Bool} {a:List Int} (I:En n a):∀ i,((cS i).filter p).foldl (λx k=>jl x (c k)) a=jl a (JC c p i)
 |0=>(mq I).symm
 |i+1=>by
  rw[FA,xZ,dQ,Xf I i];by_cases h:p i=ai
  .rw[PH h,List.filter_cons_of_pos h,<-qy];rfl
  .rw[D8 (by simpa using h),List.filter_cons_of_neg h];rfl
theorem NS {w:WT} {l:List ET} (I:TR (w,l)) {a b:Nat} (J:a<l.length) (hb:b<l.length):(eN l a).1=(eN l b).1↔(cG l a).th=(cG l b).th:=by
 have:=(oN I J).th;have:=(oN I hb).th;omega
theorem Uc (l:List ET) (u:Nat):∀ i:Nat,-1<=t_ l u i/\t_ l u i<i
 |0=>⟨eT _,by show (-1:Int)<0;omega⟩
 |i+1=>by have:=Uc l u i;rw[t_];split<;>omega
theorem N5 {l:List ET} {u:Nat}:∀ (j k:Nat),t_ l u j<k->k<j->¬(cG l k).th=u
 |j+1,k,h,hk=>by
  rw[t_] at h;by_cases q:(cG l j).th=u
  .rw[aF q] at h;omega
  .rw[ay q] at h;by_cases e:k=j
   .subst e;exact q
   .exact N5 j k h (by omega)
theorem WG {l:List ET} {u:Nat}:∀ j:Nat,0<=t_ l u j->(cG l (t_ l u j).toNat).th=u
 |0,h=>cR h (by show ¬(0:Int)<= -1;omega)
 |j+1,h=>by
  rw[t_] at h ⊢;by_cases q:(cG l j).th=u
  .rw[aF q];exact q
  .rw[ay q] at h ⊢;exact WG j h
theorem Qn {l:List ET} {u:Nat}:∀ (j k:Nat),t_ l u j<k->k<=j->t_ l u k=t_ l u j
 |0,k,_,hk=>by rw[show k=0 by omega]
 |j+1,k,h,hk=>by
  by_cases e:k=j+1
  .rw[e]
  .have q:¬(cG l j).th=u:=N5 (j+1) j (by omega) (by omega);rw[t_,ay q] at h ⊢;exact Qn j k h (by omega)
theorem GW {w:WT} {l:List ET} (I:TR (w,l)) {j:Nat} (hj:j<l.length):mf (l,(j:Int))=af (t_ l (cG l j).th j):=by
 have hl:=I.len;dsimp only at hl;refine cB ?_;unfold mf bf iH bA cK aE;refine bZ j (λi x=>x=((j:Int)-1-i)/\t_ l (cG l j).th (j-i)=t_ l (cG l j).th j) ?_ ?_ ⟨?_,by rw[Nat.sub_zero]⟩
 .rintro i x hi ⟨rfl,e⟩;refine eE (λ_=>?_) λg=>by omega
  rw[show (j:Int)-1-i=((j-i-1:Nat):Int) by omega];refine b8 (aR (b8 (aR (aK (λg=>ar ?_) λg=>ar ?_))))
  .have g:=(NS I (show j-i-1<l.length by omega) hj).1 g;dsimp only;rw[<- e,show j-i=j-i-1+1 by omega,t_,Nat.add_sub_cancel,aF g]
  .have g:¬_:=λq=>g ((NS I (show j-i-1<l.length by omega) hj).2 q)
   dsimp only;refine ⟨by rw[hX (by omega) (by omega)];omega,?_⟩;rw[<- e,show j-i=j-(i+1)+1 by omega,t_,show j-(i+1)=j-i-1 by omega,ay g]
 .rintro x ⟨rfl,e⟩;refine eE (λg=>by omega) λ_=>ar ?_
  rw[HB] at e;exact e
 .dsimp only;rw[hX (by omega) (by omega)];omega
theorem ZU (x:ET):pH x=af (decide (x.2.1=3\/x.2.1=4)):=by
 refine cB ?_;unfold pH bf aE;refine gB (aK (λh=>ar (ar ?_)) λh=>ar (ar ?_))
 .exact (aQ (.inl h)).symm
 .by_cases q:x.2.1=4<;>simp[h,q]
def acB (e:EV):Bool:=decide (e.k=3\/e.k=4)
theorem ado {w:WT} {l:List ET} (I:TR (w,l)) {j:Nat} (hj:j<l.length):pH (eN l j)=af (acB (cG l j)):=by
 rw[ZU,(oN I hj).k];unfold acB;congr 1;rw[decide_eq_decide];omega
theorem S8 {w:WT} {l:List ET} (I:TR (w,l)) {j:Nat} (hj:j<l.length):oG (w,eN l j)=af (acB (cG l j)&&Ib w.1 (cG l j).ob):=by
 refine cB ?_;unfold oG bk bx iH bA aY aE;refine gB (aT (ado I hj) (aP (λh=>?_) λh=>ar (ar ?_)))
 .have hk:=bn h;have ce:=((uC I hj).ce hk).2;have ob:(eN l j).2.2.1=((cG l j).ob:Int):=(oN I hj).ob (by rcases hk with h|h<;>rw[h]<;>decide);rw[ob];refine eE (λ_=>dk (b8 (aR (ar (ar ?_))))) λg=>(by omega)
  rw[h,Xc];rfl
 .rw[h];rfl
def fL (p:Nat->Bool) (i:Nat):List Int:=((cS i).filter p).map aO
theorem amc {p:Nat->Bool} {i:Nat} (h:p i=ai):fL p (i+1)=fL p i++[(i:Int)]:=by
 unfold fL;rw[FA,xZ,cC,List.filter_cons_of_pos h];rfl
theorem amd {p:Nat->Bool} {i:Nat} (h:p i=aj):fL p (i+1)=fL p i:=by
 unfold fL;rw[FA,xZ,cC,List.filter_cons_of_neg (by rw[h];decide)];simp
theorem Jv (p:Nat->Bool) (i:Nat):(fL p i).length<=i:=by
 unfold fL;rw[bR];exact dh (Bz p _) (Nat.le_of_eq fK)
theorem Ju {p:Nat->Bool} {i:Nat} {z:Int} (h:z∈fL p i):0<=z/\z<i:=by
 obtain⟨k,hk,rfl⟩:=di.1 h;have:=ll.1 (xj.1 hk).1;exact⟨dS k,Int.ofNat_lt.2 this⟩
theorem ag9 {w:WT} {l:List ET} (J:TR (w,l)) {j:Nat} (hj:j<l.length):wn (w,l,(j:Int))=af (fL (dB (PL w l j)) j):=by
 have hl:=J.len;dsimp only at hl;refine cB ?_;unfold wn bf bx iH bB bA cK aE cE;refine b8 (aR (aT (ala (uC J hj) (oN J hj)) ?_));have Y:=(oN J hj).k;refine bZ j (λi x=>x=((i:Int),w,fL (dB (PL w l j)) i)) ?_ ?_ rfl
 .rintro i x hi rfl;have M:i<l.length:=by omega
  have Z:=(oN J M).k;refine dk ?_;refine aX (λx=>x=(w,fL (dB (PL w l j)) (i+1))) ?_ ?_
  .refine b8 (aR (aT (ajy (uC J M) (oN J M)) ?_));refine aX (λx=>x.2=(w,fL (dB (PL w l j)) i)/\(x.1=ai↔PL w l j i)) ?_ ?_
   .unfold PL;generalize Ce w (cG l j)=A;generalize Av w (cG l i)=R;obtain⟨A,a⟩:=A;obtain⟨R,r⟩:=R;refine eE (λU=>aK (λhr=>aP (λhb=>em (λhs=>ar ⟨rfl,λ_=>.inl ⟨U,hr,λq=>by dsimp only at q hs;rw[hs] at q;cases q.2⟩,λ_=>rfl⟩) λhs=>?_) λhb=>ar ⟨rfl,λ_=>.inl ⟨U,hr,λq=>by dsimp only at q hb;rw[hb] at q;cases q.1⟩,λ_=>rfl⟩) λhr=>?_) λU=>?_
    all_goals refine b8 (aR (aK (λI=>b8 (aR (ar ⟨rfl,?_⟩))) λI=>ar ⟨rfl,?_⟩))
    all_goals dsimp only at I U ⊢
    all_goals rw[Y] at I
    all_goals try rw[be,Z]
    all_goals try change ((cG l i).k:Int)=13↔_
    all_goals first|(have I:((cG l j).k:Int)=12:=I)|(have I:¬((cG l j).k:Int)=12:=I)
    all_goals
     have hn:¬(0<=A/\R=A/\¬(a=ai/\r=ai)):=λq=>by first|exact q.2.2 ⟨hb,hs⟩|exact hr q.2.1|exact cR q.1 (by omega)
     rw[or_iff_right hn];first|exact⟨λq=>(by cases q),λq=>by omega⟩|omega
   rintro⟨x,y⟩ ⟨e,h⟩;dsimp only at e h;subst e;refine aP (λhb=>?_) λhb=>ar ?_
   .have hn:=Jv (dB (PL w l j)) i;refine bh (by dsimp only[dR];omega) (by omega) (ar ?_);dsimp only;rw[amc (afc.2 (h.1 hb))]
   .dsimp only;rw[amd (afd.2 λq=>cR (h.2 q) (by rw[show x=aj from hb];decide))]
  rintro x rfl;refine ar ?_;dsimp only;rw[gI (by omega)]
 .rintro x rfl;exact dg (ar rfl)
theorem PZ {l:List ET} {u k:Nat} (h:0<=Ct l u k):∀ m:Nat,(∀ n,k<=n->n<k+m->¬(cG l n).th=u)->Ct l u (k+m)=Ct l u k
 |0,_=>rfl
 |m+1,hn=>by
  have I:=PZ h m λn h1 h2=>hn n h1 (by omega)
  rw[<- px,Wn (hn (k+m) (by omega) (by omega)) (by rw[I];exact h)];exact I
theorem acr {w:WT} {l:List ET} (J:TR (w,l)) {j:Nat} (hj:j<l.length) (h0:0<=t_ l (cG l j).th j) (I:(cG l (t_ l (cG l j).th j).toNat).k=16) (hw:0<=Ct l (cG l j).th j):ud (l,(j:Int))=af (Ct l (cG l j).th j):=by
 have hl:=J.len;dsimp only at hl;have hlt:=(Uc l (cG l j).th j).2;have hown:=WG j h0;have hnot:=λk=>N5 (l:=l) (u:=(cG l j).th) j k
 have hsame:=λk=>Qn (l:=l) (u:=(cG l j).th) j k
 refine cB ?_;unfold ud bf bx bA cK aE cE;refine aT (GW J hj) ?_;generalize t_ l (cG l j).th j=p at*
 obtain⟨p,rfl⟩:∃ k:Nat,p=k:=⟨p.toNat,by omega⟩
 rw[c6] at I hown;have hp:p<l.length:=by omega
 have Z:=oN J hp;have ej:=oN J hj;have op:(eN l p).2.2.1=((cG l p).ob:Int):=Z.ob (by rw[I];decide);refine aX (λx=>x=aj) (bF (λg=>by omega) λ_=>b8 (aR (ar ?_))) ?_
 .show (!decide ((eN l p).2.1=16))=aj;rw[Z.k,I];rfl
 rintro x rfl;refine gd ?_;rw[gI (show p<9223372036854775807 by omega)];refine bZ (j-(p+1)) (λi x=>x=((p+1+i:Nat):Int)/\Ct l (cG l j).th (p+1+i)= -1) ?_ ?_ ⟨rfl,Wm hown⟩
 .rintro i x hi ⟨rfl,e⟩;have hk:p+1+i<l.length:=by omega
  have hu:=hnot (p+1+i) (by omega) (by omega);have hs:=hsame (p+1+i) (by omega) (by omega);have U:=oN J hk;refine dk ?_;generalize hkk:p+1+i=k at*
  have ok':(cG l k).k=19->(eN l k).2.2.1=((cG l k).ob:Int):=λh=>U.ob (by rw[h];decide)
  have ekk:=U.k;have ekv:=U.va;have ejt:=ej.th;refine aX (λx=>x=ai↔(cG l k).k=18/\(cG l k).va=(cG l j).th\/(cG l k).k=19/\(cG l k).ob=(cG l p).ob) ?_ ?_
  .have M:∀ {R:Type} {Q:R⊕Bool->Prop},¬((cG l k).k=18/\(cG l k).va=(cG l j).th)->(∀ x,(x=ai↔(cG l k).k=18/\(cG l k).va=(cG l j).th\/(cG l k).k=19/\(cG l k).ob=(cG l p).ob)->Q (.inr x))->Ok (chk (fe (k:Int) (al l)) λ_=>lt (aJ (T:=tE) l (k:Int)) λz=>bcase (decide ((z.2.1:Int)=19)) (chk (fe (k:Int) (al l)) λ_=>lt (aJ (T:=tE) l (k:Int)) λz=>chk (fe (p:Int) (al l)) λ_=>lt (aJ (T:=tE) l (p:Int)) λy=>af (bP (decide ((z.2.2.1:Int)=y.2.2.1)))) (af (bP aj))) Q:=λhn Y=>by
    refine b8 (aR (aK (λh=>?_) λh=>ar (Y _ ?_)))
    .have h:(eN l k).2.1=19:=h;refine b8 (aR (b8 (aR (ar (Y _ ?_)))));have o2:=ok' (by omega);change decide ((eN l k).2.2.1=(eN l p).2.2.1)=ai↔_;rw[o2,op,be,or_iff_right hn];omega
    .have h:¬(eN l k).2.1=19:=h;rw[or_iff_right hn];exact⟨λq=>(by cases q),λq=>by omega⟩
   refine b8 (aR (aK (λh=>?_) λh=>?_))
   .have h:(eN l k).2.1=18:=h;refine b8 (aR (b8 (aR (aK (λg=>ar ?_) λg=>?_))))
    .have g:(eN l k).2.2.2.1=(eN l j).1:=g;exact⟨λ_=>.inl ⟨by omega,by omega⟩,λ_=>rfl⟩
    .have g:¬(eN l k).2.2.2.1=(eN l j).1:=g;exact M (λq=>g (by omega)) λx h=>h
   .have h:¬(eN l k).2.1=18:=h;exact M (λq=>h (by omega)) λx h=>h
  rintro x hx;have hm:mtN l (cG l j).th k (t_ l (cG l j).th k)↔x=ai:=by
   rw[hx,hs];unfold mtN;rw[c6];exact⟨λq=>q.2.2,λq=>⟨by omega,I,q⟩⟩
  refine aP (λhb=>ar ?_) λhb=>ar ?_
  .have e2:=Wp hu e (hm.2 hb);have e3:=PZ (k:=k+1) (by omega) (j-(k+1)) λn h1 h2=>hnot n (by omega) (by omega)
   rw[show k+1+(j-(k+1))=j by omega,e2] at e3;exact e3.symm
  .have e2:=Wo hu e λq=>by rw[hm.1 q] at hb;cases hb
   exact⟨by rw[gI (by omega)];omega,by rw[<- e2];congr 1;omega⟩
 .rintro x ⟨rfl,e⟩;rw[show p+1+(j-(p+1))=j by omega] at e;omega
def Ys (w:WT) (l:List ET) (j:Nat):List Int:=fL (dB (HQ w l j)) j++if (cG l j).k=17 then [Ct l (cG l j).th j] else []
theorem Z0 {w:WT} {l:List ET} (I:TR (w,l)) {j:Nat} (hj:j<l.length) (h:(cG l j).k=17):0<=t_ l (cG l j).th j/\(cG l (t_ l (cG l j).th j).toNat).k=16/\0<=Ct l (cG l j).th j:=by
 have b:=(Uw I j (by omega)).2 (cG l j).th (by rw[<- (zl I j (by omega)).2.T];exact (uC I hj).th);have wk:=((I.sc hj).rd.wk (by rw[(oN I hj).k,h];rfl)).1;rw[(oN I hj).th] at wk;have g:=b.p (.inr wk);exact⟨g.1,g.2.1,(b.n wk).1⟩
theorem ags {w:WT} {l:List ET} (J:TR (w,l)) {j:Nat} (hj:j<l.length):wq (w,l,(j:Int))=af (Ys w l j):=by
 have hl:=J.len;dsimp only at hl;refine cB ?_;unfold wq aZ bk bw cA dV bL bf bx iH bB bA cK aE cE;refine b8 (aR ?_);have Y:=oN J hj;have kj:(eN l j).2.1=(cG l j).k:=Y.k;refine bZ j (λi x=>x=((i:Int),w,fL (dB (HQ w l j)) i,eN l j)) ?_ ?_ rfl
 .rintro i x hi rfl;have hi':i<l.length:=by omega
  have Z:=oN J hi';have ki:(eN l i).2.1=(cG l i).k:=Z.k;have hn:=Jv (dB (HQ w l j)) i;have ad:∀ {R:Type} {Q:(R⊕(WT×List Int×ET))->Prop},HQ w l j i->Q (.inr (w,fL (dB (HQ w l j)) (i+1),eN l j))->Ok (chk (a_ ((fL (dB (HQ w l j)) i).length+[(i:Int)].length) 8) λ_=>af (bP (w,fL (dB (HQ w l j)) i++[(i:Int)],eN l j))) Q:=λh q=>by
   refine bh (by rw[dR];omega) (by omega) (ar ?_);rw[<- amc (afc.2 h)];exact q
  refine dk ?_;refine b8 (aR ?_);refine aX (λx=>x=(w,fL (dB (HQ w l j)) (i+1),eN l j)) ?_ ?_
  .refine aX (λx=>x.2=(w,fL (dB (HQ w l j)) i,eN l j,eN l i)/\(x.1=ai↔(cG l j).k=1/\(cG l i).k=20/\(cG l i).ob=(cG l j).th)) ?_ ?_
   .refine aK (λh=>aK (λg=>ar ⟨rfl,?_⟩) λg=>ar ⟨rfl,?_⟩) λh=>ar ⟨rfl,?_⟩
    .have h:(eN l j).2.1=1:=h;have g:(eN l i).2.1=20:=g;have o:(eN l i).2.2.1=(cG l i).ob:=Z.ob (by rw[show (cG l i).k=20 by omega];decide);have t:(eN l j).1=(cG l j).th:=Y.th;change decide ((eN l i).2.2.1=(eN l j).1)=ai↔_;rw[be];omega
    .have g:¬(eN l i).2.1=20:=g;exact⟨λq=>(by cases q),λq=>by omega⟩
    .have h:¬(eN l j).2.1=1:=h;exact⟨λq=>(by cases q),λq=>by omega⟩
   rintro⟨x,y⟩ ⟨e,h1⟩;dsimp only at e h1;subst e;refine aP (λhb=>ad (.inl (h1.1 hb)) rfl) λI=>?_
   have h1:¬_:=λq=>cR (h1.2 q) (by rw[show x=aj from I];decide)
   clear I;refine aX (λx=>x.2=(w,fL (dB (HQ w l j)) i,eN l j,eN l i)/\(x.1=ai↔(cG l j).k=21/\(cG l i).th=(cG l j).ob)) ?_ ?_
   .refine aK (λh=>ar ⟨rfl,?_⟩) λh=>ar ⟨rfl,?_⟩
    .have h:(eN l j).2.1=21:=h;have o:(eN l j).2.2.1=(cG l j).ob:=Y.ob (by rw[show (cG l j).k=21 by omega];decide);have t:(eN l i).1=(cG l i).th:=Z.th;change decide ((eN l i).1=(eN l j).2.2.1)=ai↔_;rw[be];omega
    .have h:¬(eN l j).2.1=21:=h;exact⟨λq=>(by cases q),λq=>by omega⟩
   rintro⟨x,y⟩ ⟨e,h2⟩;dsimp only at e h2;subst e;refine aP (λhb=>ad (.inr (.inl (h2.1 hb))) rfl) λI=>?_
   have h2:¬_:=λq=>cR (h2.2 q) (by rw[show x=aj from I];decide)
   clear I;refine aX (λx=>x.2=(w,fL (dB (HQ w l j)) i,eN l j,eN l i)/\(x.1=ai↔(cG l j).k=3/\Ib w.1 (cG l j).ob=ai/\(cG l i).k=4/\(cG l i).ob=(cG l j).ob)) ?_ ?_
   .refine aK (λh=>?_) λh=>ar ⟨rfl,?_⟩
    .have h:(eN l j).2.1=3:=h;have h:(cG l j).k=3:=by omega
     have o:(eN l j).2.2.1=(cG l j).ob:=Y.ob (by rw[h];decide);refine aT (S8 J hj) (aP (λhv=>aK (λg=>ar ⟨rfl,?_⟩) λg=>ar ⟨rfl,?_⟩) λhv=>ar ⟨rfl,?_⟩)
     .have hv:=(oV.1 hv).2;have g:(eN l i).2.1=4:=g;have o':(eN l i).2.2.1=(cG l i).ob:=Z.ob (by rw[show (cG l i).k=4 by omega];decide);change decide ((eN l i).2.2.1=(eN l j).2.2.1)=ai↔_;rw[be];exact⟨λq=>⟨h,hv,by omega,by omega⟩,λq=>by omega⟩
     .have g:¬(eN l i).2.1=4:=g;exact⟨λq=>(by cases q),λq=>by omega⟩
     .refine ⟨λq=>(by cases q),λq=>?_⟩;rw[q.2.1] at hv;unfold acB at hv;rw[aQ (.inl h)] at hv;cases hv
    .have h:¬(eN l j).2.1=3:=h;exact⟨λq=>(by cases q),λq=>by omega⟩
   rintro⟨x,y⟩ ⟨e,U⟩;dsimp only at e U;subst e;refine aP (λhb=>ad (.inr (.inr (.inl (U.1 hb)))) rfl) λI=>?_
   have U:¬_:=λq=>cR (U.2 q) (by rw[show x=aj from I];decide)
   clear I;refine aX (λx=>x.2=(w,fL (dB (HQ w l j)) i,eN l j)/\(x.1=ai↔(cG l j).k=23/\(cG l i).k=22/\(cG l i).ob=(cG l j).ob)) ?_ ?_
   .refine aK (λh=>aK (λg=>ar ⟨rfl,?_⟩) λg=>ar ⟨rfl,?_⟩) λh=>ar ⟨rfl,?_⟩
    .have h:(eN l j).2.1=23:=h;have g:(eN l i).2.1=22:=g;have o:(eN l i).2.2.1=(cG l i).ob:=Z.ob (by rw[show (cG l i).k=22 by omega];decide);have o':(eN l j).2.2.1=(cG l j).ob:=Y.ob (by rw[show (cG l j).k=23 by omega];decide);change decide ((eN l i).2.2.1=(eN l j).2.2.1)=ai↔_;rw[be];omega
    .have g:¬(eN l i).2.1=22:=g;exact⟨λq=>(by cases q),λq=>by omega⟩
    .have h:¬(eN l j).2.1=23:=h;exact⟨λq=>(by cases q),λq=>by omega⟩
   rintro⟨x,y⟩ ⟨e,M⟩;dsimp only at e M;subst e;refine aP (λhb=>ad (.inr (.inr (.inr (M.1 hb)))) rfl) λI=>?_
   have M:¬_:=λq=>cR (M.2 q) (by rw[show x=aj from I];decide)
   refine ar ?_;dsimp only;rw[amd (afd.2 λq=>q.elim h1 λq=>q.elim h2 λq=>q.elim U M)]
  rintro x rfl;refine ar ?_;dsimp only;rw[gI (by omega)]
 .rintro x rfl;refine dg ?_;have hn:=Jv (dB (HQ w l j)) j;refine ax (P:=λy=>y=Ys w l j) (aX (λx=>x=Ys w l j) ?_ λx hx=>ar hx) λx hx=>ar hx
  unfold Ys;refine aK (λh=>?_) λh=>ar ?_
  .have h:(eN l j).2.1=17:=h;have h:(cG l j).k=17:=by omega
   obtain⟨h0,h1,h2⟩:=Z0 J hj h;refine aT (acr J hj h0 h1 h2) (eE (λ_=>bh (by dsimp only[dR];omega) (by omega) (ar ?_)) λg=>(by omega));dsimp only;rw[aF h]
  .have h:¬(eN l j).2.1=17:=h;dsimp only;rw[ay (by omega),iU]
theorem KF:qw ()=af ai:=by kernel_rfl
theorem fB {φ:PM} {O:Nat->Prop} {w:World} {v u:Value} (h:cO φ O w (.f (.raw v)) u):u=v:=by
 cases h with
 |f h=>cases h;rfl
theorem t7 (h:HF) (nw:HF):eV h [] nw=h:=by funext t;simp[eV]
theorem GP:∀ {l:List Value},Ky l=ai->∀ v∈l,v.oneCell'=ai
 |[],_,v,hv=>by cases hv
 |x::r,h,v,hv=>by
  simp only[Ky,av] at h;rcases bm.1 hv with rfl|hv
  .exact h.1
  .exact GP h.2 v hv
theorem Vy {φ:PM} {O:Nat->Prop} {w:World} (v:Value):cO φ O w (Fi v) v:=by
 unfold Fi;split
 .rename_i vs;split
  .rename_i h1;refine cO.agg (vs:=vs.toList) (by simp) (λx I=>?_) (λj x v I hv=>?_)
   .obtain⟨u,hu,rfl⟩:=di.1 I;exact GP h1 u hu
   .rw[ba,hv] at I;simp only[ch,ak] at I;subst I;exact .f (.raw _)
  .exact .f (.raw _)
 .exact .f (.raw _)
theorem tL {φ:PM} {E:Nat->Prop} {h':HF} {w:World} {e:zY} {a:Act} {xs:Array Operand} (hrep:rf φ E h' w) (h:∀ t,.tmp t∈xs->∀ y,e.get t=af y->cO φ (tot E φ h') w y (a.tmps.getD t undef)) {x:Operand} {y:AV} (J:x∈xs) (I:mG e x=af y):cO φ (tot E φ h') w y (a.eval x):=by
 cases x with
 |tmp t=>exact h t J y I
 |const v=>simp only[mG,ak] at I;subst I;exact Vy v
 |func g=>
  simp only[mG,ak] at I;subst I;exact cO.clo (vs:=[]) (g:=g) (cells:=[]) rfl (by intro j x v J;simp at J)
 |global g=>
  simp only[mG] at I;cases hg:G g with
  |none=>rw[hg] at I;cases I
  |some cells=>rw[hg] at I;simp only[ak] at I;subst I;exact .f (hrep.gl g cells hg)
abbrev Wc (φ:PM) (E:Nat->Prop) (h':HF) (w:World) (a:Act) (e:zY) (o:Oper):Prop:=∀ x y,x∈o.op.operands->mG e x=af y->cO φ (tot E φ h') w y (a.eval x)
theorem gQ.reads {P:Program} {o:Oper} {e:zY} {h:HF} {val:AV} {rd:List Nat} {nw:HF}
 (hv:∀ (φ:PM) (E:Nat->Prop) (h':HF) (w:World) (a:Act),(∀ i∈rd,h' i=h i)->Wc φ E h' w a e o->rf φ E h' w->
   ∃ v,(execOp a.eval o).run P w= .ok (.value v) w/\cO φ (tot E φ h') w val v):gQ P o e.get h ⟨val,rd,[],nw,[]⟩:=by
 intro φ E h' w a h1 h2 U I Y;obtain⟨v,r,rel⟩:=hv φ E h' w a h1 (λx y M J=>tL I U M J) I;unfold HA;rw[r];refine ⟨v,φ,rfl,?_,λ_ _ h=>.inl h,?_,?_⟩<;>rw[t7]
 .exact i_.refl _ _ _
 .exact I
 .exact rel
theorem dC {x:AV} {R:Cg} (h:rv x=af R):R=⟨x,[],[],[],[]⟩:=by simp only[rv,ak] at h;exact h.symm
section pure
variable {P:Program} {o:Oper} {e:zY} {h:n_} {nx:Nat} {R:Cg}
theorem amz {x:Operand} (I:o.op= .move x\/o.op= .assign x) (J:eS (.mv x) e h nx=af R):gQ P o e.get h.get R.eff:=by
 simp only[eS] at J;split at J
 .rename_i v hv;rw[dC J];exact gQ.reads λφ E h' w a _ hop _=>⟨a.eval x,by unfold execOp;rcases I with I|I<;>rw[I]<;>rfl,hop x v (by rcases I with I|I<;>rw[I]<;>simp[Op.operands]) hv⟩
 .cases J
theorem ajl {c x y:Operand} (J:o.op= .pick c x y) (I:eS (.pick c x y) e h nx=af R):gQ P o e.get h.get R.eff:=by
 simp only[eS] at I;split at I
 .rename_i t hc;split at I
  .rename_i v hv;rw[dC I];refine gQ.reads λφ E h' w a _ hop _=>?_
   have hcv:=fB (hop c _ (by rw[J];simp[Op.operands]) hc);refine ⟨a.eval (if t then x else y),?_,hop _ v (by rw[J];cases t<;>simp[Op.operands]) hv⟩;unfold execOp;rw[J];simp only[hcv];cases t<;>rfl
  .cases I
 .cases I
theorem ajm {x:Operand} (I:o.op= .nilCheck x) (J:eS (.nilc x) e h nx=af R):gQ P o e.get h.get R.eff:=by
 simp only[eS] at J;split at J
 .rename_i id off U;rw[dC J];refine gQ.reads λφ E h' w a _ hop _=>?_
  have h1:=hop x _ (by rw[I];simp[Op.operands]) U;generalize M:a.eval x=z at h1;cases h1 with
  |ptr hφ=>exact⟨_,by unfold execOp;rw[I];simp only[M];rfl,.ptr hφ⟩
 .rename_i cells off U;rw[dC J];refine gQ.reads λφ E h' w a _ hop _=>?_
  have h1:=hop x _ (by rw[I];simp[Op.operands]) U;generalize M:a.eval x=z at h1;cases h1 with
  |f h1=>
   have h2:=h1;cases h2 with
   |ptr _ _ b base us hO hb hcl hu hr=>exact⟨_,by unfold execOp;rw[I];simp only[M];rfl,.f h1⟩
 .rename_i g cap U;rw[dC J];refine gQ.reads λφ E h' w a _ hop _=>?_
  have h1:=hop x _ (by rw[I];simp[Op.operands]) U;generalize M:a.eval x=z at h1;cases h1 with
  |clo hl hr=>exact⟨_,by unfold execOp;rw[I];simp only[M];rfl,.clo hl hr⟩
 .cases J
theorem amx {x:Operand} {t:TypeId} (J:o.op= .unOp .not t x) (I:eS (.not x) e h nx=af R):gQ P o e.get h.get R.eff:=by
 simp only[eS] at I;split at I
 .rename_i b M;rw[dC I];refine gQ.reads λφ E h' w a _ hop _=>?_
  have h1:=fB (hop x _ (by rw[J];simp[Op.operands]) M);exact⟨_,by unfold execOp;rw[J];simp only[h1];rfl,.f (.raw _)⟩
 .cases I
theorem yR (k:IntKind) (n:Int):bc k n=k.wrap n:=by
 rw[Cq];unfold Mt;split
 .split
  .rename_i h;simp only[c7,av,be] at h;have:kJ .i64 n=if n%18446744073709551616≥9223372036854775808 then n%18446744073709551616-18446744073709551616 else n%18446744073709551616:=by
    simp[kJ,IntKind.bits,IntKind.signed]
   rw[this];split<;>omega
  .rfl
 .split
  .rename_i h;simp only[c7,av,be] at h;have:kJ .u8 n=n%256:=by
    simp[kJ,IntKind.bits,IntKind.signed]
   rw[this];omega
  .rfl
 .rfl
theorem aju {x:Operand} {s d:TypeId} {k k':IntKind} (J:o.op= .convert s d x) (hs:P.underlying s=af (.int k')) (hd:P.underlying d=af (.int k)) (I:eS (.conv k x) e h nx=af R):gQ P o e.get h.get R.eff:=by
 simp only[eS] at I;split at I
 .rename_i U n M;rw[dC I];refine gQ.reads λφ E h' w a _ hop _=>?_
  have h1:=fB (hop x _ (by rw[J];simp[Op.operands]) M);refine ⟨_,?_,.f (.raw _)⟩;unfold execOp;rw[J];simp[h1,convert,run_underlying hs,run_underlying hd,Conv.intToInt,yR]
 .cases I
theorem Pq (a:ByteArray):a.toList=a.data.toList:=by
 first|exact ByteArray.toList_eq a|simp[ByteArray.toList]|rfl
theorem aa7 {op:BinOp} {t:TypeId} {u v r:Value} (hr:uR op u v=af r) (x y:Operand) (w:World):
 (do eqGuard op t x y u v;binOp op t u v:Sem Value).run P w= .ok r w:=by
 unfold uR at hr;split at hr
 .rename_i k a k' b;split at hr
  .rename_i hk;have I:k=k':=by simpa using hk
   subst I;split at hr<;>first|(simp only[ak] at hr;subst hr;simp[eqGuard,binOp,Op.intCmp,Op.intArith,yR,c7,fQ];done)|(split at hr<;>first|(cases hr;done)|(rename_i hb;simp only[ak] at hr;subst hr;simp[eqGuard,binOp,Op.intDiv,yR,show b≠0 from by simpa using hb];done))|(cases hr;done)
  .cases hr
 .rename_i a b;split at hr<;>first|(simp only[ak] at hr;subst hr;simp[eqGuard,binOp,Op.stringOp,r_,Pq];done)|(cases hr;done)
 .cases hr
theorem ah6 {s:Sem Value} {r:Value} {w w':World} (hs:s.run P w= .ok r w'):(do let x<-s;pure (Next.value x):Sem Next).run P w= .ok (.value r) w':=by
 simp[hs]
theorem ahw {op:BinOp} {x y:Operand} {t t':TypeId} (J:o.op= .binOp op t x y t') (I:eS (.bin op x y) e h nx=af R):gQ P o e.get h.get R.eff:=by
 simp only[eS] at I;split at I
 .rename_i u v U M;split at I
  .rename_i r hr;rw[dC I];refine gQ.reads λφ E h' w a _ hop _=>?_
   have h1:=fB (hop x _ (by rw[J];simp[Op.operands]) U);have h2:=fB (hop y _ (by rw[J];simp[Op.operands]) M);refine ⟨r,?_,.f (.raw _)⟩;unfold execOp;rw[J];simp only[h1,h2];exact ah6 (aa7 (P:=P) (t:=t) hr x y w)
  .cases I
 .cases I
theorem U4 {t:TypeId} (hu:P.underlying t=af .bool) (u v:Bool) (w:World):(Op.equal t (.bool u) (.bool v)).run P w= .ok (u==v) w:=by
 have key:∀ d,(Op.equalIn (d+1) t (.bool u) (.bool v)).run P w= .ok (u==v) w:=λd=>by simp[Op.equalIn,run_underlying hu]
 exact key 9999
theorem Rx {t el:TypeId} (hu:P.underlying t=af (.slice el)) (A:Option Addr) (n c:Nat) (w:World):(Op.equal t (.slice A n c) (.slice ah 0 0)).run P w= .ok A.isNone w:=by
 have key:∀ d,(Op.equalIn (d+1) t (.slice A n c) (.slice ah 0 0)).run P w= .ok A.isNone w:=λd=>by cases A<;>simp[Op.equalIn,run_underlying hu]
 exact key 9999
theorem ahv {neg:Bool} {op:BinOp} {x y:Operand} {t t':TypeId} (J:o.op= .binOp op t x y t') (hop:op=if neg then .neq else .eql) (hu:P.underlying t=af .bool) (I:eS (.eqb neg x y) e h nx=af R):gQ P o e.get h.get R.eff:=by
 simp only[eS] at I;split at I
 .rename_i u v U M;rw[dC I];refine gQ.reads λφ E h' w a _ hp _=>?_
  have h1:=fB (hp x _ (by rw[J];simp[Op.operands]) U);have h2:=fB (hp y _ (by rw[J];simp[Op.operands]) M);refine ⟨_,?_,.f (.raw _)⟩;unfold execOp;rw[J];simp only[h1,h2];subst hop;cases neg<;>simp[eqGuard,binOp,U4 hu]
 .cases I
theorem XL {neg:Bool} {op:BinOp} {x y:Operand} {t t' el:TypeId} (U:o.op= .binOp op t x y t') (hop:op=if neg then .neq else .eql) (Y:y= .const (.slice ah 0 0)) (hu:P.underlying t=af (.slice el)) (J:eS (.isnil neg x) e h nx=af R):gQ P o e.get h.get R.eff:=by
 have key:∀ (v:Value) (w:World) (ρ:Operand->Value) (A:Option Addr) (n c:Nat),ρ x= .slice A n c->ρ y= .slice ah 0 0->(execOp ρ o).run P w= .ok (.value (.bool (A.isNone !=neg))) w:=by
  intro v w ρ A n c h1 h2;unfold execOp;rw[U];simp only[h1,h2];subst hop;cases neg<;>simp[eqGuard,binOp,Rx hu]
 have hyv:∀ a:Act,a.eval y= .slice ah 0 0:=λa=>by rw[Y];rfl
 simp only[eS] at J;split at J
 .rename_i id sz n I;rw[dC J];refine gQ.reads λφ E h' w a _ hp _=>?_
  have h1:=hp x _ (by rw[U];simp[Op.operands]) I;generalize M:a.eval x=z at h1;cases h1 with
  |row hφ hn hc hs=>exact⟨_,key (.bool ai) w a.eval _ _ _ M (hyv a),by simpa[raw] using cO.f (.raw _)⟩
 .rename_i id off n I;rw[dC J];refine gQ.reads λφ E h' w a _ hp _=>?_
  have h1:=hp x _ (by rw[U];simp[Op.operands]) I;generalize M:a.eval x=z at h1;cases h1 with
  |sl hφ hn hc=>exact⟨_,key (.bool ai) w a.eval _ _ _ M (hyv a),by simpa[raw] using cO.f (.raw _)⟩
 .rename_i cells n I;rw[dC J];refine gQ.reads λφ E h' w a _ hp _=>?_
  have h1:=hp x _ (by rw[U];simp[Op.operands]) I;generalize M:a.eval x=z at h1;cases h1 with
  |f h1=>
   cases h1 with
   |sl=>exact⟨_,key (.bool ai) w a.eval _ _ _ M (hyv a),by simpa[raw] using cO.f (.raw _)⟩
 .rename_i cells I;rw[dC J];refine gQ.reads λφ E h' w a _ hp _=>?_
  have h1:=hp x _ (by rw[U];simp[Op.operands]) I;generalize M:a.eval x=z at h1;cases h1 with
  |f h1=>
   cases h1 with
   |nil=>exact⟨_,key (.bool ai) w a.eval _ _ _ M (hyv a),.anyb⟩
   |sl=>exact⟨_,key (.bool ai) w a.eval _ _ _ M (hyv a),.anyb⟩
 .rename_i I;rw[dC J];refine gQ.reads λφ E h' w a _ hp _=>?_
  have h1:=hp x _ (by rw[U];simp[Op.operands]) I;generalize M:a.eval x=z at h1;cases h1 with
  |emp=>exact⟨_,key (.bool ai) w a.eval _ _ _ M (hyv a),.anyb⟩
 .rename_i v I;split at J
  .rename_i hv;rw[dC J];refine gQ.reads λφ E h' w a _ hp _=>?_
   have h1:=fB (hp x _ (by rw[U];simp[Op.operands]) I);unfold Aj at hv;split at hv
   .exact⟨_,key (.bool ai) w a.eval _ _ _ h1 (hyv a),by simpa[raw] using cO.f (.raw _)⟩
   .cases hv
  .cases J
 .cases J
theorem gA {t:TypeId} {sz:Nat} (hs:fx P t=af sz) (w:World):(sizeOf t).run P w= .ok sz w:=by
 unfold fx at hs;cases hi:P.info? t with
 |none=>rw[hi] at hs;cases hs
 |some i=>rw[hi] at hs;simp at hs;simp[sizeOf,typeInfo,program,hi,nD,hs]
theorem Qh {t:TypeId} {ag:Bool} (hs:D2 P t=af ag) (w:World):(isAgg t).run P w= .ok ag w:=by
 unfold D2 at hs;cases hi:P.underlying t with
 |none=>rw[hi] at hs;cases hs
 |some d=>
  rw[hi] at hs;simp only[ch,ak] at hs;rw[<- hs];simp only[isAgg,eL,run_underlying hi,cL];cases d<;>rfl
theorem k_ (b off i:Nat):(⟨b,off,ah⟩:Addr).add i=⟨b,off+i,ah⟩:=by
 unfold Addr.add;split<;>simp_all
theorem Qg {s:TypeId} {fs:Array Field} {k:Nat} {f:Field} {sz:Nat} (hu:P.underlying s=af (.struct fs)) (hf:fs[k]? =af f) (hs:fx P f.type=af sz) (h0:sz≠0) (w:World) (b i:Nat):
 (Instr.fieldAt s (.pointer (af ⟨b,i,ah⟩)) k).run P w= .ok (.pointer (af ⟨b,i+f.offset,ah⟩)) w:=by
 have h1:=gA hs w;simp[Instr.fieldAt,run_underlying hu,hf,Instr.sureAddr,fieldPlace,h1,h0,k_]
theorem an7 {s:TypeId} {fs:Array Field} {k:Nat} {f:Field} {sz:Nat} {x:Operand} (U:o.op= .fieldAddr s x k) (hu:P.underlying s=af (.struct fs)) (hf:fs[k]? =af f) (hs:fx P f.type=af sz) (h0:sz≠0) (I:eS (.fad f.offset x) e h nx=af R):gQ P o e.get h.get R.eff:=by
 have key:∀ (w:World) (ρ:Operand->Value) (b i:Nat),ρ x= .pointer (af ⟨b,i,ah⟩)->(execOp ρ o).run P w= .ok (.value (.pointer (af ⟨b,i+f.offset,ah⟩))) w:=by
  intro w ρ b i h1;unfold execOp;rw[U];simp only[h1];exact ah6 (Qg hu hf hs h0 w b i)
 simp only[eS] at I;split at I
 .rename_i id off M;rw[dC I];refine gQ.reads λφ E h' w a _ hp _=>?_
  have h1:=hp x _ (by rw[U];simp[Op.operands]) M;generalize J:a.eval x=z at h1;cases h1 with
  |ptr hφ=>exact⟨_,key w a.eval _ _ J,.ptr hφ⟩
 .rename_i cells off M;rw[dC I];refine gQ.reads λφ E h' w a _ hp _=>?_
  have h1:=hp x _ (by rw[U];simp[Op.operands]) M;generalize J:a.eval x=z at h1;cases h1 with
  |f h1=>
   cases h1 with
   |ptr _ _ b base us hO hb hcl hu hr=>
    refine ⟨_,key w a.eval _ _ J,.f ?_⟩;rw[px];exact .ptr cells _ b base us hO hb hcl hu hr
 .cases I
theorem Jw {t el:TypeId} {x y:Operand} {sz b off n c:Nat} {k:IntKind} {i:Int} {ρ:Operand->Value} {w:World} (M:o.op= .indexAddr t x y) (hu:P.underlying t=af (.slice el)) (hs:fx P el=af sz) (J:ρ x= .slice (af ⟨b,off,ah⟩) n c) (I:ρ y= .int k i) (h0:0<=i) (h1:i<n):
 (execOp ρ o).run P w= .ok (.value (.pointer (af ⟨b,off+i.toNat*sz,ah⟩))) w:=by
 have h2:=gA hs w;unfold execOp;rw[M];simp[J,I,Instr.indexAt,asIntOf,run_underlying hu,h2,h0,h1,k_]
theorem an5 {t el:TypeId} {x y:Operand} {sz:Nat} (J:o.op= .indexAddr t x y) (hu:P.underlying t=af (.slice el)) (hs:fx P el=af sz) (I:eS (.iad sz x y) e h nx=af R):gQ P o e.get h.get R.eff:=by
 simp only[eS] at I;split at I
 .rename_i v k j Y hy;have hyv:∀ {φ:PM} {E:Nat->Prop} {h':HF} {w:World} {a:Act},Wc φ E h' w a e o->a.eval y= .int k j:=λhp=>fB (hp y _ (by rw[J];simp[Op.operands]) hy)
  split at I
  .split at I
   .rename_i id sz' n hc;simp only[c7,fQ,av,be,c5] at hc;obtain⟨⟨rfl,h0⟩,h1⟩:=hc;rw[dC I];refine gQ.reads λφ E h' w a _ hp _=>?_
    have hr:=hp x _ (by rw[J];simp[Op.operands]) Y;generalize M:a.eval x=z at hr;cases hr with
    |row hφ hn U hsh=>
     refine ⟨_,Jw J hu hs M (hyv hp) h0 h1,?_⟩;rw[bN];exact .ptr hφ
   .cases I
  .split at I
   .rename_i id off n hc;simp only[c7,fQ,av,be] at hc;obtain⟨h0,h1⟩:=hc;rw[dC I];refine gQ.reads λφ E h' w a _ hp _=>?_
    have hr:=hp x _ (by rw[J];simp[Op.operands]) Y;generalize M:a.eval x=z at hr;cases hr with
    |sl hφ hn U=>exact⟨_,Jw J hu hs M (hyv hp) h0 h1,.ptr hφ⟩
   .cases I
  .split at I
   .rename_i cells n hc;simp only[c7,fQ,av,be] at hc;obtain⟨h0,h1⟩:=hc;rw[dC I];refine gQ.reads λφ E h' w a _ hp _=>?_
    have hr:=hp x _ (by rw[J];simp[Op.operands]) Y;generalize M:a.eval x=z at hr;cases hr with
    |f hr=>
     cases hr with
     |nil=>omega
     |sl _ _ c b base us hn U hO hb hcl Z hr'=>exact⟨_,Jw J hu hs M (hyv hp) h0 h1,.f (.ptr cells _ b base us hO hb hcl Z hr')⟩
   .cases I
  .cases I
 .cases I
theorem ajs {t el:TypeId} {x y:Operand} {n sz:Nat} (J:o.op= .indexAddr t x y) (hu:P.underlying t=af (.array n el)) (hs:fx P el=af sz) (I:eS (.iada n sz x y) e h nx=af R):gQ P o e.get h.get R.eff:=by
 have key:∀ (w:World) (ρ:Operand->Value) (b off:Nat) (k:IntKind) (i:Int),ρ x= .pointer (af ⟨b,off,ah⟩)->ρ y= .int k i->0<=i->i<n->(execOp ρ o).run P w= .ok (.value (.pointer (af ⟨b,off+i.toNat*sz,ah⟩))) w:=by
  intro w ρ b off k i h1 h2 h3 h4;have h5:=gA hs w;unfold execOp;rw[J];simp[h1,h2,Instr.indexAt,asIntOf,run_underlying hu,h5,h3,h4,k_,Instr.sureAddr]
 simp only[eS] at I;split at I
 .rename_i v k j hx Z;split at I
  .rename_i hc;simp only[c7,fQ,av,be] at hc;obtain⟨h0,h1⟩:=hc;split at I
   .rw[dC I];refine gQ.reads λφ E h' w a _ hp _=>?_
    have hr:=hp x _ (by rw[J];simp[Op.operands]) hx;have hyv:=fB (hp y _ (by rw[J];simp[Op.operands]) Z);generalize M:a.eval x=z at hr;cases hr with
    |ptr hφ=>exact⟨_,key w a.eval _ _ k j M hyv h0 h1,.ptr hφ⟩
   .rw[dC I];refine gQ.reads λφ E h' w a _ hp _=>?_
    have hr:=hp x _ (by rw[J];simp[Op.operands]) hx;have hyv:=fB (hp y _ (by rw[J];simp[Op.operands]) Z);generalize M:a.eval x=z at hr;cases hr with
    |f hr=>
     cases hr with
     |ptr _ _ b base us hO hb hcl U Y=>
      refine ⟨_,key w a.eval _ _ k j M hyv h0 h1,.f ?_⟩;rw[px];exact .ptr _ _ b base us hO hb hcl U Y
   .cases I
  .cases I
 .cases I
theorem an8 {x:Operand} {i:Nat} (J:o.op= .extract x i) (I:eS (.ext x i) e h nx=af R):gQ P o e.get h.get R.eff:=by
 simp only[eS] at I;split at I
 .rename_i l U;split at I
  .rename_i v hv;rw[dC I];refine gQ.reads λφ E h' w a _ hp _=>?_
   have hr:=hp x _ (by rw[J];simp[Op.operands]) U;generalize M:a.eval x=z at hr;cases hr with
   |@tup _ vs hl hrr=>
    have hlt:i<vs.length:=by
     rw[hl];exact (bl.1 hv).1
    refine ⟨vs[i],?_,hrr i v _ hv (aB hlt)⟩;unfold execOp;rw[J];simp[M,Instr.extract,hlt]
  .cases I
 .cases I
theorem an3 {x y:Operand} {M:Array TypeId} (J:o.op= .call {callee:=.builtin .max,args:=#[x,y],argTypes:=M}) (I:eS (.max x y) e h nx=af R):gQ P o e.get h.get R.eff:=by
 simp only[eS] at I;split at I
 .rename_i k a b k' Y U;rw[dC I];refine gQ.reads λφ E h' w a _ hp _=>?_
  have h1:=fB (hp x _ (by rw[J];simp[Op.operands,eU]) Y);have h2:=fB (hp y _ (by rw[J];simp[Op.operands,eU]) U);refine ⟨_,?_,.f (.raw _)⟩;unfold execOp;rw[J];simp[resolve,invoke,builtin,Builtin.max_,Builtin.max2,h1,h2,fQ]
 .cases I
theorem an2 {x y:Operand} {M:Array TypeId} (J:o.op= .call {callee:=.builtin .min,args:=#[x,y],argTypes:=M}) (I:eS (.min x y) e h nx=af R):gQ P o e.get h.get R.eff:=by
 simp only[eS] at I;split at I
 .rename_i k a b k' Y U;rw[dC I];refine gQ.reads λφ E h' w a _ hp _=>?_
  have h1:=fB (hp x _ (by rw[J];simp[Op.operands,eU]) Y);have h2:=fB (hp y _ (by rw[J];simp[Op.operands,eU]) U);refine ⟨_,?_,.f (.raw _)⟩;unfold execOp;rw[J];simp[resolve,invoke,builtin,Builtin.min_,Builtin.min2,h1,h2,fQ]
 .cases I
theorem amy {x:Operand} {t:TypeId} {k:IntKind} (J:o.op= .unOp .neg t x) (I:eS (.bin .sub (.const (.int k 0)) x) e h nx=af R):gQ P o e.get h.get R.eff:=by
 simp only[eS,mG,Fi] at I;split at I
 .rename_i u v hu M;cases hu;split at I
  .rename_i r hb;rw[dC I];refine gQ.reads λφ E h' w a _ hop _=>?_
   have h1:=fB (hop x _ (by rw[J];simp[Op.operands]) M);refine ⟨r,?_,.f (.raw _)⟩;unfold execOp;rw[J];cases v<;>simp only[uR] at hb<;>try (cases hb;done)
   split at hb
   .rename_i hk;have hk:=eq_of_beq hk;subst hk;simp only[ak] at hb;subst hb;simp[h1,Op.unary,Op.intArith,yR]
   .cases hb
  .cases I
 .cases I
theorem ajk {x i:Operand} {t:TypeId} (J:o.op= .index t x i) (hu:P.underlying t=af .string) (I:eS (.sidx x i) e h nx=af R):gQ P o e.get h.get R.eff:=by
 simp only[eS] at I;split at I
 .rename_i s k j M hi;split at I
  .rename_i h0;simp only[c7,be] at h0;split at I
   .rename_i b hb;rw[dC I];refine gQ.reads λφ E h' w a _ hop _=>?_
    have h1:=fB (hop x _ (by rw[J];simp[Op.operands]) M);have h2:=fB (hop i _ (by rw[J];simp[Op.operands]) hi);refine ⟨_,?_,.f (.raw _)⟩;have hs:s[j.toNat]? =af b:=by
     rw[cJ] at hb;obtain⟨hl,he⟩:=cF.1 hb;exact getElem?_pos s j.toNat hl▸gO af he
    unfold execOp;rw[J];simp[Instr.index,run_underlying hu,h1,h2,asIntOf,h0,hs]
   .cases I
  .cases I
 .cases I
theorem an1 {f:FuncId} {caps:Array Operand} (Y:o.op= .makeFunc (.func f) #[] caps) (M:eS (.mkf f caps.toList) e h nx=af R):gQ P o e.get h.get R.eff:=by
 simp only[eS] at M;split at M
 .rename_i l hl;rw[dC M];refine gQ.reads λφ E h' w a _ hp _=>?_
  refine ⟨_,by unfold execOp;rw[Y];rfl,?_⟩;have key:∀ (xs:List Operand) (I:List AV),(∀ x∈xs,x∈o.op.operands)->Xl e xs=af I->I.length=xs.length/\∀ (j:Nat) x v,I[j]? =af x->(xs.map a.eval)[j]? =af v->cO φ (tot E φ h') w x v:=by
   intro xs;induction xs with
   |nil=>intro I _ h;simp only[Xl,ak] at h;subst h;exact⟨rfl,λj x v J=>by simp at J⟩
   |cons x xs Z=>
    intro I hm h;simp only[Xl] at h;split at h
    .rename_i y hy;split at h
     .rename_i ys' hys;simp only[ak] at h;subst h;obtain⟨h1,h2⟩:=Z ys' (λx J=>hm x (cI _ J)) hys;refine ⟨by simp[h1],λj z v U hv=>?_⟩;cases j with
      |zero=>simp at U hv;subst U;subst hv;exact hp x _ (hm x (dj ..)) hy
      |succ j=>exact h2 j z v (by simpa using U) (by simpa using hv)
     .cases h
    .cases h
  obtain⟨h1,h2⟩:=key caps.toList l (λx J=>by rw[Y];simpa[Op.operands] using J) hl;have h3:(caps.map a.eval)=(caps.toList.map a.eval).toArray:=by
   apply Lf;simp
  have h4:(#[]:Array Operand).map a.eval=#[]:=by simp
  rw[h4,h3];exact .clo (by simp[h1]) h2
 .cases M
end pure
end
end Go.Proofs.YthehadcddfilhaaGreatDoor.AI
