/-
  Texts of the proof, part 3 of 6: what is used to prove the statement. No condition.
-/
import Derived.Test.YthehadcddfilhaaGreatDoorHBRacesQ1
import Derived.KernelRfl
import Derived.WalkSpells
import Derived.Laws.CopyRow
namespace Go.Proofs.YthehadcddfilhaaGreatDoor.AI
open Go.RowKit
set_option maxRecDepth 100000
set_option maxHeartbeats 4000000
set_option linter.unusedVariables false
set_option linter.unusedSimpArgs false
open _root_.Bool renaming true→ai,false→aj
open Call renaming operands→eS
open _root_.Classical renaming propDecidable→yJ
open _root_.Int renaming ofNat_eq_natCast→au,ofNat→aP,toNat→aU,reduceEq→aV,reduceNeg→bt,toNat_natCast→dS
open IntKind renaming wrap→oX
open _root_.List renaming length→al,replicate→aG,length_cons→b9,range→cS,length_singleton→c6,take→dQ,cons_append→gw,length_nil→jU,nil_append→lV,foldl_cons→xo
open _root_.Nat renaming beq→aC,add_zero→dv
open Oper renaming wp→HM
open _root_.Option renaming some→af,none→ah,map_some→ch,getD_some→ve
open _root_.Prod renaming p2→aY,p3→bh,p4→bx,q3→bL,p5→cC,q5→cX,q4→dA,p6→dW,q6→fh,q7→kD,p7→kE,q8→qa,p8→Ah
open Result renaming andThen_ok→cL
open Sem renaming run_bind→eJ,run→nF
open _root_.Sum renaming inr→bP,inl→lz
noncomputable section
theorem fg (e:Xp):ec (Xp.op e,Xp.n e,Xp.name e,Xp.l e)=e:=by cases e;rfl
theorem yW (s:Sx):nP (Sx.op s,Sx.line s,Sx.name s,Sx.arg s,Sx.index s,Sx.expr s,Sx.body s,Sx.els s)=s:=by cases s;rfl
abbrev NV:List (List UInt8):=[[97],[98],[120],[121],[118]]
def GE:Nat->Xp->Prop
 |0,_=>False
 |d+1,e=>(e.op=3->e.name=[113])/\(e.op≠1->e.op≠2->1<=e.l.length)/\e.l.length<=2/\(∀ x∈e.l,GE d x)/\(e.op=2->e.name∈NV)/\(e.op≠1->e.op≠2->e.op≠3->2<=e.l.length/\6<=e.op/\e.op<=18)
theorem GE.mono:∀ {d:Nat} {e:Xp},GE d e->GE (d+1) e
 |0,_,h=>h.elim
 |_+1,_,h=>⟨h.1,h.2.1,h.2.2.1,λx I=>(h.2.2.2.1 x I).mono,h.2.2.2.2⟩
theorem GE.le {d k:Nat} {e:Xp} (h:GE d e) (hk:d<=k):GE k e:=by
 induction hk with
 |refl=>exact h
 |step _ I=>exact I.mono
theorem Ot (n:Int):rG n=af (.mk 1 n [] []):=rfl
theorem HX (s:List UInt8):pt s=af (.mk 2 0 s []):=rfl
theorem Fy (o:Int) (a b:Xp):nO (o,a,b)=af (.mk o 0 [] [a,b]):=by
 cases a;cases b;rfl
theorem t_ (s:List UInt8) (e:Xp):jq (s,e)=af (.mk 1 0 s [] [] e [] []):=by
 cases e;rfl
abbrev MK:Type:=Int×Int×Bool×Bool×Bool×Bool
abbrev PY:Type:=List Int×Int
abbrev HD:Type:=Bool×List (List UInt8)
theorem GE.num (n:Int) (d:Nat):GE (d+1) (.mk 1 n [] []):=⟨λh=>(by cases h),λh=>(h rfl).elim,by simp[Xp.l],λx I=>(by cases I),λh=>(by cases h),λh=>(h rfl).elim⟩
theorem GE.nm {s:List UInt8} (hs:s∈NV) (d:Nat):GE (d+1) (.mk 2 0 s []):=⟨λh=>(by cases h),λ_ h=>(h rfl).elim,by simp[Xp.l],λx I=>(by cases I),λ_=>hs,λ_ h=>(h rfl).elim⟩
theorem GE.bin {o:Int} {a b:Xp} {d:Nat} (J:6<=o/\o<=18) (M:GE d a) (hb:GE d b):GE (d+1) (.mk o 0 [] [a,b]):=
 ⟨λh=>(by have h:o=3:=h;omega),λ_ _=>by simp[Xp.l],by simp[Xp.l],λx I=>by
   simp only[Xp.l,bp,cz,gi] at I;rcases I with rfl|rfl
   .exact M
   .exact hb,λh=>(by have h:o=2:=h;omega),λ_ _ _=>⟨by simp[Xp.l],J⟩⟩
theorem GE.ix {a:Xp} {d:Nat} (J:GE d a):GE (d+1) (.mk 3 0 [113] [a]):=
 ⟨λ_=>rfl,λ_ _=>by simp[Xp.l],by simp[Xp.l],λx I=>by
   simp only[Xp.l,bp,cz,gi] at I;rw[I];exact J,λh=>(by cases h),λ_ _ h=>(h rfl).elim⟩
theorem Dr:∀ (n d:Nat),d<n->d<=10->∀ (m:MK) (t:PY) (h:HD),TP t->Ok (iu n ((d:Int),m,t,h)) λy=>GE (d+1) y.1/\y.2.1=m/\uZ t y.2.2.1/\y.2.2.2=h
 |0,d,hd,_,_,_,_,_=>by omega
 |n+1,d,hd,h10,m,t,h,ht=>by
  rw[yO];unfold nX aY bh bL dA cX be bz bC kB aZ aF;refine ax (gr 10 t ht) λy I=>?_
  obtain⟨k,t1⟩:=y;obtain⟨s1,k0,k1,_⟩:=I;have k1:=k1 (by decide);dsimp only at s1 k0 k1;refine aX (λx=>x.2=(m,t1,h,(0,0,[]),[[97],[98],[120],[121],[118],[120],[121]])/\(x.1=aj->2<=k/\(d=0->k<7))) ?_ ?_
  .refine bI (λ_=>ar ⟨rfl,λh=>(by cases h)⟩) λg=>aJ (λg2=>ar ⟨rfl,λg3=>⟨g,λ_=>?_⟩⟩) λg2=>ar ⟨rfl,λ_=>⟨g,λh=>(g2 (by dsimp only;omega)).elim⟩⟩
   dsimp only at g3;rw[l9] at g3;exact g3
  rintro⟨b,x⟩ ⟨e,hb⟩;dsimp only at e hb;subst e;refine aO (λ_=>?_) λg=>?_
  .refine ax (gr 4 t1 s1.p) λy I=>?_
   refine aT (Ot _) (ar ?_);exact⟨GE.num _ _,rfl,s1.trans I.1,rfl⟩
  obtain⟨q0,q1⟩:=hb g;refine bI (λg=>?_) λg=>?_
  .refine ax (gr _ t1 s1.p) λy I=>?_
   obtain⟨u1,M,J,_⟩:=I;have J:=J (show (1:Int)<=7 by decide);refine aS M J (aS M J (aR ?_));refine aT (HX _) (ar ?_);have hnv:∀ z∈([[97],[98],[120],[121],[118],[120],[121]]:List (List UInt8)),z∈NV:=by decide
   exact⟨GE.nm (hnv _ (bJ (T:=.str) M J)) _,rfl,s1.trans u1,rfl⟩
  dsimp only at g;have hd0:d≠0:=λh=>by have:=q1 h;omega
  obtain⟨d,rfl⟩:∃ k,d=k+1:=⟨d-1,by omega⟩
  refine aJ (λg=>?_) λg=>?_
  .refine ax (Dr n 0 (by omega) (by omega) m t1 h s1.p) λy I=>?_
   obtain⟨e,m',t',h'⟩:=y;obtain⟨v1,Z,U,Y⟩:=I;dsimp only at v1 Z U Y;subst Z;subst Y;refine bf (by simp) (ar ?_);dsimp only;rw[fg];exact⟨(GE.ix (v1.le (by omega):GE (d+1) e)),rfl,s1.trans U,rfl⟩
  .refine ax (gr _ t1 s1.p) λy I=>?_
   obtain⟨k2,t2⟩:=y;obtain⟨u1,M,J,_⟩:=I;have J:=J (by decide);dsimp only at u1 M J;refine aS M J (aS M J (aR ?_));have ho:(6:Int)<=aK (T:=.int .i64) [6,7,8,11,13,17] k2/\aK (T:=.int .i64) [6,7,8,11,13,17] k2<=(18:Int):=by
    have h1:=bJ (T:=.int .i64) (xs:=([6,7,8,11,13,17]:List Int)) M J;have:∀ z:Int,z∈([6,7,8,11,13,17]:List Int)->6<=z/\z<=18:=by decide
    exact this _ h1
   have ew:bk .i64 (((d+1:Nat):Int)-1)=(d:Int):=by rw[ig (by omega) (by omega)];omega
   dsimp only;rw[ew];refine ax (Dr n d (by omega) (by omega) m t2 h u1.p) λy I=>?_
   obtain⟨e,m',t',h'⟩:=y;obtain⟨v1,Z,U,Y⟩:=I;dsimp only at v1 Z U Y;subst Z;subst Y;refine bf (by simp) ?_;refine ax (Dr n d (by omega) (by omega) m' t' h' U.p) λy I=>?_
   obtain⟨e2,m2,t2',h2⟩:=y;obtain⟨w1,w2,w3,w4⟩:=I;dsimp only at w1 w2 w3 w4;subst w2;subst w4;refine bf (by simp) ?_;refine aT (Fy _ _ _) (ar ?_);dsimp only;rw[fg];exact⟨GE.bin ho v1 w1,rfl,s1.trans (u1.trans (U.trans w3)),rfl⟩
theorem abf (d:Nat) (hd:d<=10) (m:MK) (t:PY) (h:HD) (ht:TP t):Ok (fd ((d:Int),m,t,h)) λy=>GE (d+1) y.1/\y.2.1=m/\uZ t y.2.2.1/\y.2.2.2=h:=Dr fuel d (by rw[jQ];omega) hd m t h ht
def NE (op:Int):Prop:=op=1\/op=2\/op=3\/op=14
def ZE (e:Xp):Prop:=GE 4 e\/e= .mk 0 0 [] []
structure NO (nT:Nat) (s:Sx):Prop where
 o0:1<=s.op
 o1:s.op<=15
 vr:s.op=1->s.index=[]->s.name∈NV
 lk:s.op=4->s.name=[109]\/s.name=[110]
 rw:s.op=5\/s.op=6->s.name=[114]
 cn:s.op=9\/s.op=10\/s.op=11->s.name=[99]
 sp:s.op=12\/s.op=13->s.name∈wh.take nT
 se:s.op=14->s.name=[102]
 ge:s.op=15->s.name=[97]/\s.arg=[102]
 el:¬s.op=2->s.els=[]
 bo:s.op=1\/9<=s.op->s.body=[]
variable {nT:Nat}
def GS (nT:Nat):Nat->Sx->Prop
 |0,_=>False
 |d+1,s=>(s.index≠[]->s.name=[113])/\s.index.length<=1/\(∀ e∈s.index,GE 4 e)/\(NE s.op->GE 4 s.expr)/\ZE s.expr/\s.body.length<=8/\s.els.length<=8/\(∀ x∈s.body,GS nT d x)/\(∀ x∈s.els,GS nT d x)/\NO nT s
theorem GS.mono:∀ {d:Nat} {s:Sx},GS nT d s->GS nT (d+1) s
 |0,_,h=>h.elim
 |_+1,_,⟨a,b,c,e,f,g,i,j,k,l⟩=>⟨a,b,c,e,f,g,i,λx I=>(j x I).mono,λx I=>(k x I).mono,l⟩
theorem GS.le {d k:Nat} {s:Sx} (h:GS nT d s) (hk:d<=k):GS nT k s:=by
 induction hk with
 |refl=>exact h
 |step _ I=>exact I.mono
theorem NO.asg {s a:List UInt8} {e:Xp} {i:List Xp} (hs:i=[]->s∈NV):NO nT (.mk 1 0 s a i e [] []):=by
 constructor<;>simp[Sx.op,Sx.name,Sx.index,Sx.els,Sx.body];exact λh=>by simpa using hs h
theorem GS.asg {d:Nat} {s:List UInt8} (hs:s∈NV) {e:Xp} (h:GE 4 e):GS nT (d+1) (.mk 1 0 s [] [] e [] []):=
 ⟨λh=>(h rfl).elim,by simp[Sx.index],λe he=>(by cases he),λ_=>h,.inl h,by simp[Sx.body],by simp[Sx.els],λx I=>(by cases I),λx I=>(by cases I),NO.asg λ_=>hs⟩
theorem GS.aix {d:Nat} {i e:Xp} (hi:GE 4 i) (h:GE 4 e):GS nT (d+1) (.mk 1 0 [113] [] [i] e [] []):=
 ⟨λ_=>rfl,by simp[Sx.index],λe he=>(by simp only[Sx.index,aL] at he;rw[he];exact hi),λ_=>h,.inl h,by simp[Sx.body],by simp[Sx.els],λx I=>(by cases I),λx I=>(by cases I),NO.asg λh=>(by cases h)⟩
theorem GS.we {d:Nat} {op:Int} {s a:List UInt8} {e:Xp} {b l:List Sx} (h:GE 4 e) (hb:b.length<=8) (hl:l.length<=8) (I:∀ x∈b,GS nT d x) (gl:∀ x∈l,GS nT d x) (hn:NO nT (.mk op 0 s a [] e b l)):GS nT (d+1) (.mk op 0 s a [] e b l):=
 ⟨λh=>(h rfl).elim,by simp[Sx.index],λe he=>(by cases he),λ_=>h,.inl h,hb,hl,I,gl,hn⟩
theorem GS.wo {d:Nat} {op ln:Int} {s a:List UInt8} {b:List Sx} (M:4<=op/\op≠14) (hb:b.length<=8) (J:∀ x∈b,GS nT d x) (hn:NO nT (.mk op ln s a [] (.mk 0 0 [] []) b [])):GS nT (d+1) (.mk op ln s a [] (.mk 0 0 [] []) b []):=
 ⟨λh=>(h rfl).elim,by simp[Sx.index],λe he=>(by cases he),λh=>(by have h:op=1\/op=2\/op=3\/op=14:=h;omega),.inr rfl,hb,by simp[Sx.els],J,λx I=>(by cases I),hn⟩
def QS (nT:Nat) (d:Nat) (n:Int) (t:PY) (h:HD) (y:MK×PY×HD×List Sx):Prop:=(y.2.2.2.length:Int)<=max 0 n/\(∀ s∈y.2.2.2,GS nT (d+1) s)/\uZ t y.2.1/\y.2.2.1.2=h.2
def QT (nT:Nat) (d:Nat) (t:PY) (h:HD) (y:Sx×MK×PY×HD):Prop:=GS nT (d+1) y.1/\uZ t y.2.2.1/\y.2.2.2.2=h.2
def QB (nT:Nat) (d:Nat) (t:PY) (h:HD) (y:List Sx×MK×PY×HD):Prop:=y.1.length<=2/\(∀ s∈y.1,GS nT (d+1) s)/\uZ t y.2.2.1/\y.2.2.2.2=h.2
abbrev RS:Type:=((Int×Int)×MK×PY×HD)->Option (MK×PY×HD×List Sx)
abbrev RT:Type:=(Int×MK×PY×HD)->Option (Sx×MK×PY×HD)
abbrev RBk:Type:=((List UInt8×Int)×MK×PY×HD)->Option (List Sx×MK×PY×HD)
def SpS (nT:Nat) (rs:RS) (d:Nat):Prop:=∀ (n:Int) (m:MK) (t:PY) (h:HD),n<=3->TP t->h.2.length+d<=100->Ok (rs (((d:Int),n),m,t,h)) (QS nT d n t h)
def SpT (nT:Nat) (I:RT) (d:Nat):Prop:=∀ (m:MK) (t:PY) (h:HD),TP t->h.2.length+d<=100->Ok (I ((d:Int),m,t,h)) (QT nT d t h)
def SpB (nT:Nat) (I:RBk) (d:Nat):Prop:=∀ (s:List UInt8) (m:MK) (t:PY) (h:HD),TP t->h.2.length+1+d<=100->Ok (I ((s,(d:Int)),m,t,h)) (QB nT d t h)
theorem YP (rs:RS) (M:RT) (rb:RBk) (d:Nat) (ht:SpT nT M d):SpS nT (mC rs M rb) d:=by
 intro n m t h hn hp hh;unfold mC aY bh bx bL dA cX be bz bC cK aF cD em;refine qe (λx=>(n-x.1).toNat) (λx=>0<=x.1/\(x.1<=n\/x.1=0)/\uZ t x.2.2.1/\(x.2.2.2.1.length:Int)<=x.1/\(∀ s∈x.2.2.2.1,GS nT (d+1) s)/\x.2.2.2.2.2=h.2) ?_ ⟨eR _,.inr rfl,uZ.refl hp,by simp,λs hs=>(by cases hs),rfl⟩;rintro⟨(i:Int),m',t',l,h'⟩ ⟨i0,i1,e1,e2,e3,J⟩;dsimp only at i0 i1 e1 e2 e3 J;refine aX (λx=>x.2=(m',t',l,h')/\(x.1=ai->i<n)) ?_ ?_
 .refine bI (λg=>aJ (λ_=>ar ⟨rfl,λ_=>g⟩) λ_=>ar ⟨rfl,λ_=>g⟩) λ_=>ar ⟨rfl,λh=>(by cases h)⟩
 rintro⟨b,x⟩ ⟨Z,Y⟩;dsimp only at Z Y;subst Z;refine aO (λhb=>?_) λ_=>ar ⟨by dsimp only;omega,e3,e1,J⟩
 have g:=Y hb;refine ax (ht m' t' h' e1.p (by rw[J];exact hh)) λy hy=>?_
 obtain⟨s,m2,t2,h2⟩:=y;obtain⟨k1,k2,U⟩:=hy;dsimp only at k1 k2 U;refine bf (by simp) (bg (by simp;omega) (by omega) (ar ?_));dsimp only;rw[fg,yW,ig (n:=i+1) (by omega) (by omega)];refine ⟨⟨by omega,by omega,e1.trans k2,by simp;omega,λx I=>?_,U.trans J⟩,by omega⟩;rcases bQ.1 I with I|I
 .exact e3 x I
 .rw[aL] at I;subst I;exact k1
theorem YS (rs:RS) (rt:RT) (rb:RBk) (d:Nat) (hs:SpS nT rs d):SpB nT (mD rs rt rb) d:=by
 intro s m t h hp hh;unfold mD aY bh bL dA bC aZ;refine bg (by simp;omega) (by omega) ?_;refine ax (gr 2 t hp) λy M=>?_
 obtain⟨k,t1⟩:=y;obtain⟨J,Z,I,_⟩:=M;have I:=I (by decide);dsimp only at J Z I;have ew:bk .i64 (1+k)=1+k:=ig (by omega) (by omega);dsimp only;rw[ew];refine ax (hs (1+k) m t1 (h.1,h.2++[s]) (by omega) J.p (by simp;omega)) λy M=>?_
 obtain⟨m2,t2,h2,l⟩:=y;obtain⟨k1,k2,Y,U⟩:=M;dsimp only at k1 k2 Y U;refine bf (by simp) ?_;dsimp only;rw[U];have el:bk .i64 ((aP (h.2++[s]).length)-1)=(h.2.length:Int):=by
  rw[bm,c6,ig (by simp<;>omega) (by simp<;>omega)];simp<;>omega
 rw[el];refine dx (eM (by omega) (Ao (by simp;omega) (ar ?_)));refine ⟨by dsimp only;omega,k2,J.trans Y,?_⟩;show dQ (aU (h.2.length:Int)) (h.2++[s])=h.2;simp
theorem Df (s:List UInt8) (m:MK) (t:PY) (h:HD) (hh:h.2.length<=100):Ok (eO (s,m,t,h)) λy=>y.2=(m,t,h):=by
 unfold eO dA;exact ax (yH h.2 s (by omega)) λy _=>ar rfl
theorem ac6 (rs:RS) (rt:RT) (rb:RBk) (d:Nat) (hd:d<=5) (h0:1<=d->SpS nT rs 0) (hS:1<=d->SpS nT rs (d-1)) (hB:1<=d->SpB nT rb (d-1)):SpT nT (nW rs rt rb) d:=by
 intro m t h hp hh;unfold nW aY bh bx bL dA cX be bz bC kB aF em;refine ax (gr 18 t hp) λy J=>?_
 obtain⟨k,t1⟩:=y;obtain⟨s1,k0,k1,_⟩:=J;have k1:=k1 (by decide);dsimp only at s1 k0 k1;have hE:∀ (j:Nat) (m':MK) (t':PY) (h':HD),j<=1->TP t'->Ok (fd ((j:Int),m',t',h')) λy=>GE 4 y.1/\y.2.1=m'/\uZ t' y.2.2.1/\y.2.2.2=h':=λj m' t' h' hj ht'=>(abf j (by omega) m' t' h' ht').mono λy J=>⟨J.1.le (by omega),J.2⟩
 have ed:bk .i64 ((d:Int)-1)=(d:Int)-1:=ig (by omega) (by omega);have ed1:1<=d->(d:Int)-1=((d-1:Nat):Int):=λ_=>by omega
 refine aX (λx=>x.2=((m.1,bk .i64 (m.2.1-1),m.2.2),t1,(0,0,[],[],0,0,[]),h)/\(x.1=ai->1<=d)) ?_ ?_
 .refine bI (λg=>aR (bI (λ_=>ar ⟨rfl,λ_=>?_⟩) λ_=>ar ⟨rfl,λh=>(by cases h)⟩)) λ_=>ar ⟨rfl,λh=>(by cases h)⟩
  dsimp only at g;omega
 generalize ((m.1,bk .i64 (m.2.1-1),m.2.2):MK)=m0;rintro⟨nest,x⟩ ⟨e,hn⟩;dsimp only at e hn;subst e;refine bI (λ_=>?_) λg4=>?_
 .refine aS k0 (by dsimp only[al];omega) (aS k0 (by dsimp only[al];omega) (aR ?_));refine ax (hE 1 m0 t1 h (by omega) s1.p) λy J=>?_
  obtain⟨e,m2,t2,h2⟩:=y;obtain⟨v1,v2,v3,v4⟩:=J;dsimp only at v1 v2 v3 v4;subst v2;subst v4;refine bf (by simp) (aT (t_ _ _) (ar ?_));dsimp only;rw[fg,yW];have hnv:∀ z∈([[120],[121],[120],[118]]:List (List UInt8)),z∈NV:=by decide
  exact⟨GS.asg (hnv _ (bJ (T:=.str) k0 (by dsimp only[al];omega))) v1,s1.trans v3,rfl⟩
 dsimp only at g4;refine aJ (λ_=>?_) λg5=>?_
 .refine ax (gr 2 t1 s1.p) λy J=>?_
  obtain⟨u1,u2,u3,_⟩:=J;have u3:=u3 (by decide);refine aS u2 u3 (aS u2 u3 (aR ?_));refine ax (hE 1 m0 y.2 h (by omega) u1.p) λz U=>?_
  obtain⟨e,m2,t2,h2⟩:=z;obtain⟨v1,v2,v3,v4⟩:=U;dsimp only at v1 v2 v3 v4;subst v2;subst v4;refine bf (by simp) (aT (t_ _ _) (ar ?_));dsimp only;rw[fg,yW];have hnv:∀ z∈([[97],[98]]:List (List UInt8)),z∈NV:=by decide
  exact⟨GS.asg (hnv _ (bJ (T:=.str) u2 u3)) v1,s1.trans (u1.trans v3),rfl⟩
 dsimp only at g5;refine aJ (λ_=>?_) λg6=>?_
 .refine ax (hE 0 m0 t1 h (by omega) s1.p) λz U=>?_
  obtain⟨e,m2,t2,h2⟩:=z;obtain⟨v1,v2,v3,v4⟩:=U;dsimp only at v1 v2 v3 v4;subst v2;subst v4;refine bf (by simp) ?_;refine ax (hE 1 m2 t2 h2 (by omega) v3.p) λz U=>?_
  obtain⟨e',m3,t3,h3⟩:=z;obtain⟨w1,Z,w3,w4⟩:=U;dsimp only at w1 Z w3 w4;subst Z;subst w4;refine bf (by simp) (ar ?_);dsimp only;rw[fg,fg];exact⟨GS.aix v1 w1,s1.trans (v3.trans w3),rfl⟩
 dsimp only at g6;have U:∀ (c:Prop),c->c:=λ_ h=>h
 have dd:1<=d->d-1+1=d:=λ_=>by omega
 have w8:8<=k->bk .i64 (k-8)=k-8:=λ_=>ig (by omega) (by omega)
 refine aX (λx=>x.2=(m0,t1,(0,0,[],[],0,0,[]),h)/\(x.1=ai->1<=d)) ?_ ?_
 .refine aJ (λ_=>ar ⟨rfl,λg=>?_⟩) λ_=>ar ⟨rfl,λh=>(by cases h)⟩
  dsimp only at g;rw[tO] at g;omega
 rintro⟨b,x⟩ ⟨e,hb⟩;dsimp only at e hb;subst e;refine aO (λI=>?_) λ_=>?_
 .have M:=hb I;refine ax (hE 1 m0 t1 h (by omega) s1.p) λz U=>?_
  obtain⟨e,m2,t2,h2⟩:=z;obtain⟨v1,v2,v3,v4⟩:=U;dsimp only at v1 v2 v3 v4;subst v2;subst v4;refine bf (by simp) ?_;dsimp only;rw[ed,ed1 M];refine ax (hS M 1 m2 t2 h2 (by omega) v3.p (by omega)) λz U=>?_
  obtain⟨m3,t3,h3,l⟩:=z;obtain⟨w1,Z,w3,w4⟩:=U;dsimp only at w1 Z w3 w4;rw[dd M] at Z;refine bf (by simp) ?_;refine aX (λx=>x.2.2.2.1=(2,0,[],[],e.op,e.n,e.name,e.l)/\uZ t1 x.2.1/\x.2.2.2.2.1.2=h2.2/\x.2.2.2.2.2.1=l/\x.2.2.2.2.2.2.length<=8/\∀ s∈x.2.2.2.2.2.2,GS nT d s) ?_ ?_
  .refine ax (gr 2 t3 w3.p) λy J=>?_
   refine aJ (λ_=>?_) λ_=>ar ⟨rfl,v3.trans (w3.trans J.1),w4,rfl,by simp,λs hs=>(by cases hs)⟩
   dsimp only;refine ax (hS M 1 m3 y.2 h3 (by omega) J.1.p (by rw[w4];omega)) λz U=>?_
   obtain⟨m4,t4,h4,l2⟩:=z;obtain⟨x1,x2,x3,x4⟩:=U;dsimp only at x1 x2 x3 x4;rw[dd M] at x2;exact bf (by simp) (ar ⟨rfl,v3.trans (w3.trans (J.1.trans x3)),x4.trans w4,rfl,by dsimp only;omega,x2⟩)
  rintro⟨m5,t5,z5,e5,h5,l5,l6⟩ ⟨x1,x2,x3,x4,x5,x6⟩;dsimp only at x1 x2 x3 x4 x5 x6;subst x1;subst x4;refine ar ?_;dsimp only;rw[fg];exact⟨GS.we v1 (by first|omega|(dsimp only;omega)) x5 Z x6 (by constructor<;>simp[Sx.op,Sx.name,Sx.index,Sx.arg,Sx.els,Sx.body]),s1.trans x2,x3⟩
 refine aX (λx=>x.2=(m0,t1,(0,0,[],[],0,0,[]),h)/\(x.1=ai->1<=d)) ?_ ?_
 .refine aJ (λ_=>ar ⟨rfl,λg=>?_⟩) λ_=>ar ⟨rfl,λh=>(by cases h)⟩
  dsimp only at g;rw[tO] at g;omega
 rintro⟨b,x⟩ ⟨e,hb⟩;dsimp only at e hb;subst e;refine aO (λI=>?_) λ_=>?_
 .have M:=hb I;refine aT (HX _) (aT (Ot _) (aT (Fy _ _ _) ?_));dsimp only;rw[ed,ed1 M];refine ax (hS M 1 _ t1 h (by omega) s1.p (by omega)) λz U=>?_
  obtain⟨m3,t3,h3,l⟩:=z;obtain⟨w1,Z,w3,w4⟩:=U;dsimp only at w1 Z w3 w4;rw[dd M] at Z;refine bf (by simp) ?_;refine aT (HX _) (aT (Ot _) (aT (Fy _ _ _) (aT (t_ _ _) ?_)));refine bg (by simp;omega) (by omega) (ar ?_);dsimp only;rw[fg,fg,yW];refine ⟨GS.we (GE.bin (by omega) (GE.nm (by decide) 2) (GE.num _ 2)) (by simp;omega) (by simp) (λx Y=>?_) (λx Y=>(by cases Y)) (by constructor<;>simp[Sx.op,Sx.name,Sx.index,Sx.arg,Sx.els,Sx.body]),s1.trans w3,w4⟩;rcases bQ.1 Y with Y|Y
  .exact Z x Y
  .rw[aL] at Y;subst Y;rw[<- dd M];exact GS.asg (by decide) (GE.bin (by omega) (GE.nm (by decide) 2) (GE.num _ 2))
 refine aX (λx=>x.2=(m0,t1,(0,0,[],[],0,0,[]),h)/\(x.1=ai->nest=ai/\(k=8\/k=9))) ?_ ?_
 .refine aJ (λg=>aO (λgn=>?_) λ_=>ar ⟨rfl,λh=>(by cases h)⟩) λ_=>aJ (λg=>aO (λgn=>?_) λ_=>ar ⟨rfl,λh=>(by cases h)⟩) λ_=>ar ⟨rfl,λh=>(by cases h)⟩
  all_goals
   dsimp only at g ⊢;rw[w8 (by omega)];refine aS (by omega) (by simp;omega) (aS (by omega) (by simp;omega) (aR ?_));refine ax (Df _ m0 t1 h (by omega)) λy J=>?_
   obtain⟨yb,y2⟩:=y;dsimp only at J;subst J;exact bf (by simp) (ar ⟨rfl,λ_=>⟨gn,by omega⟩⟩)
 rintro⟨b,x⟩ ⟨e,hb⟩;dsimp only at e hb;subst e;refine aO (λI=>?_) λ_=>?_
 .obtain⟨q1,q2⟩:=hb I;have M:=hn q1;have hnm:aK (T:=.str) [[109],[110]] (k-8)=[109]\/aK (T:=.str) [[109],[110]] (k-8)=[110]:=by rcases q2 with rfl|rfl<;>simp[aK]
  dsimp only;rw[w8 (by omega),ed,ed1 M];refine aS (by omega) (by simp;omega) (aS (by omega) (by simp;omega) (aR ?_));refine ax (hB M _ m0 t1 h s1.p (by omega)) λz U=>?_
  obtain⟨l,m3,t3,h3⟩:=z;obtain⟨w1,Z,w3,w4⟩:=U;dsimp only at w1 Z w3 w4;rw[dd M] at Z;exact bf (by simp) (ar ⟨GS.wo (by omega) (by first|omega|(dsimp only;omega)) Z (by constructor<;>simp[Sx.op,Sx.name,Sx.index,Sx.arg,Sx.els,Sx.body];exact hnm),s1.trans w3,w4⟩)
 refine aX (λx=>x.2=(m0,t1,(0,0,[],[],0,0,[]),h)/\(x.1=ai->nest=ai/\(k=10\/k=11))) ?_ ?_
 .refine aJ (λg=>aO (λgn=>?_) λ_=>ar ⟨rfl,λh=>(by cases h)⟩) λ_=>aJ (λg=>aO (λgn=>?_) λ_=>ar ⟨rfl,λh=>(by cases h)⟩) λ_=>ar ⟨rfl,λh=>(by cases h)⟩
  all_goals
   dsimp only at g ⊢;refine ax (Df _ m0 t1 h (by omega)) λy J=>?_
   obtain⟨yb,y2⟩:=y;dsimp only at J;subst J;exact bf (by simp) (ar ⟨rfl,λ_=>⟨gn,by omega⟩⟩)
 rintro⟨b,x⟩ ⟨e,hb⟩;dsimp only at e hb;subst e;refine aO (λI=>?_) λ_=>?_
 .obtain⟨q1,q2⟩:=hb I;have M:=hn q1;dsimp only;rw[ed,ed1 M,ig (n:=k-10) (by omega) (by omega),ig (n:=k-10+5) (by omega) (by omega)];refine ax (hB M _ m0 t1 h s1.p (by omega)) λz U=>?_
  obtain⟨l,m3,t3,h3⟩:=z;obtain⟨w1,Z,w3,w4⟩:=U;dsimp only at w1 Z w3 w4;rw[dd M] at Z;exact bf (by simp) (ar ⟨GS.wo (by omega) (by first|omega|(dsimp only;omega)) Z (by constructor<;>simp[Sx.op,Sx.name,Sx.index,Sx.arg,Sx.els,Sx.body]<;>omega),s1.trans w3,w4⟩)
 refine aX (λx=>x.2=(m0,t1,(0,0,[],[],0,0,[]),h)/\(x.1=ai->nest=ai)) ?_ ?_
 .exact aJ (λ_=>ar ⟨rfl,λg=>g⟩) λ_=>ar ⟨rfl,λh=>(by cases h)⟩
 rintro⟨b,x⟩ ⟨e,hb⟩;dsimp only at e hb;subst e;refine aO (λI=>?_) λ_=>?_
 .have M:=hn (hb I);refine ax (gr 2 t1 s1.p) λy J=>?_
  obtain⟨u1,u2,u3,_⟩:=J;have u3:=u3 (by decide);dsimp only;rw[ig (n:=1+y.1) (by omega) (by omega)];refine ax (h0 M (1+y.1) _ y.2 h (by omega) u1.p (by omega)) λz U=>?_
  obtain⟨m3,t3,h3,l⟩:=z;obtain⟨w1,Z,w3,w4⟩:=U;dsimp only at w1 Z w3 w4;exact bf (by simp) (ar ⟨GS.wo (by omega) (by first|omega|(dsimp only;omega)) (λx Y=>(Z x Y).le (by omega)) (by constructor<;>simp[Sx.op,Sx.name,Sx.index,Sx.arg,Sx.els,Sx.body]),s1.trans (u1.trans w3),w4⟩)
 refine aX (λx=>x.2=(m0,t1,(0,0,[],[],0,0,[]),h)/\(x.1=ai->nest=ai)) ?_ ?_
 .exact aJ (λ_=>aO (λgn=>ar ⟨rfl,λ_=>gn⟩) λ_=>ar ⟨rfl,λh=>(by cases h)⟩) λ_=>ar ⟨rfl,λh=>(by cases h)⟩
 rintro⟨b,x⟩ ⟨e,hb⟩;dsimp only at e hb;subst e;refine aO (λI=>?_) λ_=>?_
 .have M:=hn (hb I);dsimp only;rw[ed,ed1 M];refine ax (hS M 2 _ t1 h (by omega) s1.p (by omega)) λz U=>?_
  obtain⟨m3,t3,h3,l⟩:=z;obtain⟨w1,Z,w3,w4⟩:=U;dsimp only at w1 Z w3 w4;rw[dd M] at Z;exact bf (by simp) (ar ⟨GS.wo (by omega) (by first|omega|(dsimp only;omega)) Z (by constructor<;>simp[Sx.op,Sx.name,Sx.index,Sx.arg,Sx.els,Sx.body]),s1.trans w3,w4⟩)
 refine aX (λx=>x.2=(m0,t1,(0,0,[],[],0,0,[]),h)/\(x.1=ai->nest=ai)) ?_ ?_
 .refine aJ (λ_=>aO (λgn=>aO (λ_=>?_) λ_=>ar ⟨rfl,λh=>(by cases h)⟩) λ_=>ar ⟨rfl,λh=>(by cases h)⟩) λ_=>ar ⟨rfl,λh=>(by cases h)⟩
  refine ax (Df _ m0 t1 h (by omega)) λy J=>?_
  obtain⟨yb,y2⟩:=y;dsimp only at J;subst J;exact bf (by simp) (ar ⟨rfl,λ_=>gn⟩)
 rintro⟨b,x⟩ ⟨e,hb⟩;dsimp only at e hb;subst e;refine aO (λI=>?_) λ_=>?_
 .have M:=hn (hb I);refine aT (HX _) (aT (t_ _ _) (ar ?_));dsimp only;rw[fg,yW];refine ⟨GS.wo (by omega) (by simp) (λx Y=>?_) (by constructor<;>simp[Sx.op,Sx.name,Sx.index,Sx.arg,Sx.els,Sx.body]),s1,rfl⟩;simp only[bp,cz,gi] at Y;rw[<- dd M];rcases Y with rfl|rfl
  .exact GS.wo (by omega) (by simp) (λx Y=>(by cases Y)) (by constructor<;>simp[Sx.op,Sx.name,Sx.index,Sx.arg,Sx.els,Sx.body])
  .exact GS.asg (by decide) (GE.nm (by decide) 3)
 refine aX (λx=>x.2=(m0,t1,(0,0,[],[],0,0,[]),h)/\(x.1=ai->nest=ai)) ?_ ?_
 .refine aJ (λ_=>aO (λgn=>?_) λ_=>ar ⟨rfl,λh=>(by cases h)⟩) λ_=>ar ⟨rfl,λh=>(by cases h)⟩
  refine ax (Df _ m0 t1 h (by omega)) λy J=>?_
  obtain⟨yb,y2⟩:=y;dsimp only at J;subst J;exact bf (by simp) (ar ⟨rfl,λ_=>gn⟩)
 rintro⟨b,x⟩ ⟨e,hb⟩;dsimp only at e hb;subst e;refine aO (λI=>?_) λ_=>?_
 .have M:=hn (hb I);refine ax (gr 2 t1 s1.p) λy J=>ar ?_
  obtain⟨u1,u2,u3,_⟩:=J;have u3:=u3 (by decide);dsimp only;rw[ig (n:=10+y.1) (by omega) (by omega)];refine ⟨GS.wo (by omega) (by simp) (λx Y=>?_) (by constructor<;>simp[Sx.op,Sx.name,Sx.index,Sx.arg,Sx.els,Sx.body]),s1.trans u1,rfl⟩;simp only[bp,cz,gi] at Y;rw[Y,<-dd M];exact GS.wo (by omega) (by simp) (λx Y=>(by cases Y)) (by constructor<;>simp[Sx.op,Sx.name,Sx.index,Sx.arg,Sx.els,Sx.body]<;>omega)
 refine aX (λx=>x.2=(m0,t1,(0,0,[],[],0,0,[]),h)) ?_ ?_
 .exact aJ (λ_=>aO (λ_=>aO (λ_=>ar rfl) λ_=>ar rfl) λ_=>ar rfl) λ_=>ar rfl
 rintro⟨b,x⟩ e;dsimp only at e;subst e;refine aO (λI=>?_) λ_=>?_
 .refine ax (hE 1 _ t1 h (by omega) s1.p) λz U=>?_
  obtain⟨e,m2,t2,h2⟩:=z;obtain⟨v1,v2,v3,v4⟩:=U;dsimp only at v1 v2 v3 v4;subst v2;subst v4;refine bf (by simp) (ar ?_);dsimp only;rw[fg];exact⟨GS.we v1 (by simp) (by simp) (λx Y=>(by cases Y)) (λx Y=>(by cases Y)) (by constructor<;>simp[Sx.op,Sx.name,Sx.index,Sx.arg,Sx.els,Sx.body]),s1.trans v3,rfl⟩
 refine aX (λx=>x.2.1=m0/\uZ t1 x.2.2.1/\x.2.2.2.2=h) ?_ ?_
 .refine aJ (λ_=>aO (λ_=>?_) λ_=>ar ⟨rfl,uZ.refl s1.p,rfl⟩) λ_=>ar ⟨rfl,uZ.refl s1.p,rfl⟩
  exact ax (gr 2 t1 s1.p) λy J=>ar ⟨rfl,J.1,rfl⟩
 rintro⟨b,m9,t9,z9,h9⟩ ⟨e1,e2,e3⟩;dsimp only at e1 e2 e3;subst e1;subst e3;refine aO (λI=>?_) λ_=>?_
 .exact ar ⟨GS.wo (by omega) (by simp) (λx Y=>(by cases Y)) (by constructor<;>simp[Sx.op,Sx.name,Sx.index,Sx.arg,Sx.els,Sx.body]),s1.trans e2,rfl⟩
 refine ax (hE 1 _ t9 h9 (by omega) e2.p) λz U=>?_
 obtain⟨e,m2,t2,h2⟩:=z;obtain⟨v1,v2,v3,v4⟩:=U;dsimp only at v1 v2 v3 v4;subst v2;subst v4;refine bf (by simp) (aT (t_ _ _) (ar ?_));dsimp only;rw[fg,yW];exact⟨GS.asg (by decide) v1,s1.trans (e2.trans v3),rfl⟩
theorem Nb:∀ (n:Nat),(∀ d:Nat,d<=5->3*d+1<=n->SpT nT (eE n) d)/\(∀ d:Nat,d<=5->3*d+2<=n->SpS nT (dJ n) d)/\(∀ d:Nat,d<=5->3*d+3<=n->SpB nT (dY n) d)
 |0=>⟨λd _ h=>by omega,λd _ h=>by omega,λd _ h=>by omega⟩
 |n+1=>by
  obtain⟨J,I,M⟩:=Nb n;refine ⟨λd h1 h2=>?_,λd h1 h2=>?_,λd h1 h2=>?_⟩
  .exact ac6 (dJ n) (eE n) (dY n) d h1 (λh=>I 0 (by omega) (by omega)) (λh=>I (d-1) (by omega) (by omega)) (λh=>M (d-1) (by omega) (by omega))
  .exact YP (dJ n) (eE n) (dY n) d (J d h1 (by omega))
  .exact YS (dJ n) (eE n) (dY n) d (I d h1 (by omega))
theorem Yq (d:Nat) (hd:d<=5):SpS nT qx d:=(Nb fuel).2.1 d hd (by rw[jQ];omega)
def GX:Nat->Xp->Prop
 |0,_=>False
 |d+1,e=>e.l.length<=2/\∀ x∈e.l,GX d x
theorem GE.x:∀ {d:Nat} {e:Xp},GE d e->GX d e
 |0,_,h=>h.elim
 |_+1,_,h=>⟨h.2.2.1,λx I=>(h.2.2.2.1 x I).x⟩
theorem ZE.x {e:Xp} (h:ZE e):GX 4 e:=by
 rcases h with h|rfl
 .exact h.x
 .exact⟨by simp[Xp.l],λx I=>(by cases I)⟩
def GT:Nat->Sx->Prop
 |0,_=>False
 |d+1,s=>s.index.length<=1/\(∀ e∈s.index,GX 4 e)/\GX 4 s.expr/\s.body.length<=8/\s.els.length<=8/\(∀ x∈s.body,GT d x)/\(∀ x∈s.els,GT d x)
theorem GS.t {nT:Nat}:∀ {d:Nat} {s:Sx},GS nT d s->GT d s
 |0,_,h=>h.elim
 |_+1,_,⟨_,b,c,_,f,g,i,j,k,_⟩=>⟨b,λe he=>(c e he).x,f.x,g,i,λx I=>(j x I).t,λx I=>(k x I).t⟩
theorem yf (s:Sx):nP (Sx.op s,Sx.line s,Sx.name s,Sx.arg s,Sx.index s,ec (Xp.op (Sx.expr s),Xp.n (Sx.expr s),Xp.name (Sx.expr s),Xp.l (Sx.expr s)),Sx.body s,Sx.els s)=s:=by
 rw[fg,yW]
theorem Tt (k:Int):Ok (mm k) λ_=>True:=by
 unfold mm be iW aF;with_reducible repeat' first|(refine OS.ok ?_;constructor)|refine IM.mk λ_=>?_
 all_goals trivial
theorem qR (e:Xp):Ok (po e) λ_=>True:=by
 unfold po be aF;with_reducible repeat' first|(refine OS.ok ?_;constructor)|refine IM.mk λ_=>?_
 all_goals trivial
theorem zE:∀ (n d:Nat) (e:Xp),d<n->GX d e->Ok (ib n e) λ_=>True
 |0,_,_,h,_=>by omega
 |n+1,0,_,_,h=>h.elim
 |n+1,d+1,e,hn,h=>by
  obtain⟨h1,h2⟩:=h;rw[sJ];unfold l_ be bz iV bB cK aF cD;refine aX (λx=>x.2=e) (aJ (λ_=>ar (fg e)) λ_=>ar (fg e)) ?_;rintro⟨b,x⟩ J;dsimp only at J;subst J;refine aX (λy=>y.2=x) ?_ ?_
  .refine ax (Tt _) λ_ _=>?_
   with_reducible repeat' first|refine b8 (λ_=>?_) λ_=>?_|refine bI (λ_=>?_) λ_=>?_|refine dN (λ_=>?_) λ_=>?_|refine aO (λ_=>?_) λ_=>?_|exact ar (fg x)|refine ax (iy _) λ_ _=>?_
  rintro⟨M,y⟩ I;dsimp only at I;subst I;refine aO (λ_=>ar trivial) λ_=>?_
  refine bZ y.l.length (λi x=>x.1=(i:Int)/\x.2=y) ?_ ?_ ⟨rfl,fg y⟩
  .rintro i ⟨a,z⟩ hi ⟨e1,e2⟩;dsimp only at e1 e2;subst e1;subst e2;refine db ?_;refine bX (aR ?_);refine ax (zE n d _ (by omega) (h2 _ (bJ (T:=.ex) (xs:=z.l) (j:=(i:Int)) (by omega) (by omega)))) λ_ _=>?_
   refine dN (λ_=>ar trivial) λ_=>ar ?_
   dsimp only;exact⟨gy (by omega),fg z⟩
  .rintro⟨a,z⟩ ⟨e1,e2⟩;dsimp only at e1 e2;subst e1;subst e2;exact dc (ar trivial)
theorem gm (e:Xp) (h:GX 4 e):Ok (jb e) λ_=>True:=zE fuel 4 e (by rw[jQ];omega) h
theorem Lv (d:Int×Int×List UInt8×Int×Int×List UInt8):Ok (jZ d) λ_=>True:=by
 unfold jZ aY bh cC fh be bz iV aF;refine aX (λ_=>True) ?_ λx _=>aO (λ_=>ar trivial) λ_=>?_
 .with_reducible repeat' first|refine b8 (λ_=>?_) λ_=>?_|refine bI (λ_=>?_) λ_=>?_|refine dN (λ_=>?_) λ_=>?_|exact ar trivial|refine ax (iy _) λ_ _=>?_
 refine aX (λ_=>True) ?_ λx _=>aO (λ_=>ar trivial) λ_=>?_
 .with_reducible repeat' first|refine b8 (λ_=>?_) λ_=>?_|refine aJ (λ_=>?_) λ_=>?_|refine dN (λ_=>?_) λ_=>?_|exact ar trivial|refine ax (iy _) λ_ _=>?_
 with_reducible repeat' first|(refine OS.ok ?_;constructor)|refine IM.mk λ_=>?_
 all_goals trivial
theorem Ho (I:Sx->Option Bool) (rs:List Sx->Option Bool) (l:List Sx) (hl:l.length<=1000) (h:∀ s∈l,Ok (I s) λ_=>True):Ok (jx I rs l) λ_=>True:=by
 unfold jx bz wa aZ cK aF cD;refine bZ l.length (λi x=>x=(i:Int)) ?_ ?_ rfl
 .rintro i x hi rfl;refine db ?_;refine bX ?_;refine ax (h _ (bJ (T:=.sm) (xs:=l) (j:=(i:Int)) (by omega) (by omega))) λ_ _=>?_
  exact dN (λ_=>ar trivial) λ_=>ar (gy (by omega))
 .rintro x rfl;exact dc (ar trivial)
theorem Jw (J:Sx->Option Bool) (rs:List Sx->Option Bool) (s:Sx) (h1:∀ e∈s.index,GX 4 e) (h2:GX 4 s.expr) (hb:Ok (rs s.body) λ_=>True) (he:Ok (rs s.els) λ_=>True):Ok (j7 J rs s) λ_=>True:=by
 unfold j7 be bz iW iV bB aF em;refine aX (λx=>x.2=s) ?_ ?_
 .with_reducible repeat' first|refine b8 (λ_=>?_) λ_=>?_|refine aJ (λ_=>?_) λ_=>?_|refine bI (λ_=>?_) λ_=>?_|refine eZ (λ_=>?_) λ_=>?_|refine dN (λ_=>?_) λ_=>?_|refine aO (λ_=>?_) λ_=>?_|exact ar (yf _)|refine ax (iy _) λ_ _=>?_|refine ax (qR _) λ_ _=>?_|refine ax (gm _ h2x) λ_ _=>?_
 rintro⟨b,x⟩ I;dsimp only at I;have I:=I.symm;subst I;refine aO (λ_=>ar trivial) λ_=>?_
 refine aX (λx=>x.2=s) ?_ ?_
 .with_reducible repeat' first|refine b8 (λ_=>?_) λ_=>?_|refine aJ (λ_=>?_) λ_=>?_|refine bI (λ_=>?_) λ_=>?_|refine eZ (λ_=>?_) λ_=>?_|refine dN (λ_=>?_) λ_=>?_|refine aO (λ_=>?_) λ_=>?_|exact ar (yf _)|refine ax (iy _) λ_ _=>?_|refine ax (qR _) λ_ _=>?_|refine ax (gm _ h2x) λ_ _=>?_
 rintro⟨b,x⟩ I;dsimp only at I;have I:=I.symm;subst I;refine aX (λx=>x.2=s) ?_ ?_
 .with_reducible repeat' first|refine b8 (λ_=>?_) λ_=>?_|refine aJ (λ_=>?_) λ_=>?_|refine bI (λ_=>?_) λ_=>?_|refine eZ (λ_=>?_) λ_=>?_|refine dN (λ_=>?_) λ_=>?_|refine aO (λ_=>?_) λ_=>?_|exact ar (yf _)|refine ax (iy _) λ_ _=>?_|refine ax (qR _) λ_ _=>?_|refine ax (gm _ h2x) λ_ _=>?_
 rintro⟨b,x⟩ I;dsimp only at I;have I:=I.symm;subst I;refine aO (λ_=>ar trivial) λ_=>?_
 refine aX (λx=>x.2=s) ?_ ?_
 .with_reducible repeat' first|refine b8 (λ_=>?_) λ_=>?_|refine aJ (λ_=>?_) λ_=>?_|refine bI (λ_=>?_) λ_=>?_|refine eZ (λ_=>?_) λ_=>?_|refine dN (λ_=>?_) λ_=>?_|refine aO (λ_=>?_) λ_=>?_|exact ar (yf _)|refine ax (iy _) λ_ _=>?_|refine ax (qR _) λ_ _=>?_|refine ax (gm _ h2x) λ_ _=>?_
 rintro⟨b,x⟩ I;dsimp only at I;have I:=I.symm;subst I;refine aO (λ_=>ar trivial) λ_=>?_
 refine aX (λx=>x.2=s) ?_ ?_
 .with_reducible repeat' first|refine b8 (λ_=>?_) λ_=>?_|refine aJ (λ_=>?_) λ_=>?_|refine bI (λ_=>?_) λ_=>?_|refine eZ (λ_=>?_) λ_=>?_|refine dN (λ_=>?_) λ_=>?_|refine aO (λ_=>?_) λ_=>?_|exact ar (yf _)|refine ax (iy _) λ_ _=>?_|refine ax (qR _) λ_ _=>?_|refine ax (gm _ h2x) λ_ _=>?_
  all_goals
   rename_i g;dsimp only[au] at g;refine bX (aR ?_);refine ax (gm _ (h1 _ (bJ (T:=.ex) (xs:=Sx.index _) (j:=0) (by omega) (by omega)))) λ_ _=>ar (yf _)
 rintro⟨b,x⟩ I;dsimp only at I;have I:=I.symm;subst I;refine aO (λ_=>ar trivial) λ_=>?_
 refine aX (λx=>x.2=s) ?_ ?_
 .with_reducible repeat' first|refine b8 (λ_=>?_) λ_=>?_|refine aJ (λ_=>?_) λ_=>?_|refine bI (λ_=>?_) λ_=>?_|refine eZ (λ_=>?_) λ_=>?_|refine dN (λ_=>?_) λ_=>?_|refine aO (λ_=>?_) λ_=>?_|exact ar (yf _)|refine ax (iy _) λ_ _=>?_|refine ax (qR _) λ_ _=>?_|refine ax (gm _ h2x) λ_ _=>?_
 rintro⟨b,x⟩ I;dsimp only at I;have I:=I.symm;subst I;refine aX (λx=>x.2=s) ?_ ?_
 .have h2x:GX 4 (ec (Xp.op (Sx.expr s),Xp.n (Sx.expr s),Xp.name (Sx.expr s),Xp.l (Sx.expr s))):=by rw[fg];exact h2
  with_reducible repeat' first|refine b8 (λ_=>?_) λ_=>?_|refine aJ (λ_=>?_) λ_=>?_|refine bI (λ_=>?_) λ_=>?_|refine eZ (λ_=>?_) λ_=>?_|refine dN (λ_=>?_) λ_=>?_|refine aO (λ_=>?_) λ_=>?_|exact ar (yf _)|refine ax (iy _) λ_ _=>?_|refine ax (qR _) λ_ _=>?_|refine ax (gm _ h2x) λ_ _=>?_
 rintro⟨b,x⟩ I;dsimp only at I;have I:=I.symm;subst I;refine aO (λ_=>ar trivial) λ_=>?_
 refine aX (λx=>x.2=s) ?_ ?_
 .with_reducible repeat' first|refine b8 (λ_=>?_) λ_=>?_|refine aJ (λ_=>?_) λ_=>?_|refine bI (λ_=>?_) λ_=>?_|refine eZ (λ_=>?_) λ_=>?_|refine dN (λ_=>?_) λ_=>?_|refine aO (λ_=>?_) λ_=>?_|exact ar (yf _)|refine ax (iy _) λ_ _=>?_|refine ax (qR _) λ_ _=>?_|refine ax (gm _ h2x) λ_ _=>?_
 rintro⟨b,x⟩ I;dsimp only at I;have I:=I.symm;subst I;refine aX (λx=>x.2=s) ?_ ?_
 .with_reducible repeat' first|refine b8 (λ_=>?_) λ_=>?_|refine aJ (λ_=>?_) λ_=>?_|refine bI (λ_=>?_) λ_=>?_|refine eZ (λ_=>?_) λ_=>?_|refine dN (λ_=>?_) λ_=>?_|refine aO (λ_=>?_) λ_=>?_|exact ar (yf _)|refine ax (iy _) λ_ _=>?_|refine ax (qR _) λ_ _=>?_|refine ax (gm _ h2x) λ_ _=>?_
 rintro⟨b,x⟩ I;dsimp only at I;have I:=I.symm;subst I;refine aO (λ_=>ar trivial) λ_=>?_
 refine aX (λ_=>True) ?_ λ_ _=>ar trivial
 refine ax hb λ_ _=>aO (λ_=>ax he λ_ _=>ar trivial) λ_=>ar trivial
theorem JD:∀ (n:Nat),(∀ (d:Nat) (s:Sx),2*d<n->GT d s->Ok (eB n s) λ_=>True)/\(∀ (d:Nat) (l:List Sx),2*d+1<n->l.length<=1000->(∀ s∈l,GT d s)->Ok (dH n l) λ_=>True)
 |0=>⟨λd _ h=>by omega,λd _ h=>by omega⟩
 |n+1=>by
  obtain⟨J,I⟩:=JD n;refine ⟨λd s hd h=>?_,λd l hd hl h=>?_⟩
  .cases d with
   |zero=>exact h.elim
   |succ d=>
    obtain⟨_,Z,Y,g4,g5,U,M⟩:=h;exact Jw (eB n) (dH n) s Z Y (I d _ (by omega) (by omega) U) (I d _ (by omega) (by omega) M)
  .exact Ho (eB n) (dH n) l hl λs hs=>J d s (by omega) (h s hs)
theorem K7 (d:Nat) (hd:d<=100) (l:List Sx) (hl:l.length<=1000) (h:∀ s∈l,GT d s):Ok (nN l) λ_=>True:=(JD fuel).2 d l (by rw[jQ];omega) hl h
abbrev DT:Type:=Int×Int×List UInt8×Int×Int×List UInt8
abbrev HT:Type:=List UInt8×Int×List (List UInt8)×List Sx
abbrev PG:Type:=List DT×List HT
structure PX (p:PG):Prop where
 d:p.1.length<=100
 t:p.2.length<=8
 l:∀ t∈p.2,t.2.2.1.length<=100
 b:∀ t∈p.2,t.2.2.2.length<=100
 s:∀ t∈p.2,∀ s∈t.2.2.2,GT 5 s
theorem ZH (p:PG) (h:PX p):Ok (pN p) λ_=>True:=by
 obtain⟨hd,ht,hl,hb,hs⟩:=h;unfold pN aY bx cX bz bB aZ cK aF cD;refine bZ p.1.length (λi x=>x.1=(i:Int)/\x.2=p) ?_ ?_ ⟨rfl,rfl⟩
 .rintro i ⟨a,x⟩ hi ⟨e1,e2⟩;dsimp only at e1 e2;subst e1;subst e2;refine db ?_;refine bX (aR ?_);refine ax (Lv _) λ_ _=>?_
  exact dN (λ_=>ar trivial) λ_=>ar ⟨gy (by omega),rfl⟩
 rintro⟨a,x⟩ ⟨e1,e2⟩;dsimp only at e1 e2;subst e1;subst e2;refine dc ?_;refine ax (P:=λ_=>True) ?_ λ_ _=>ar trivial
 refine bZ x.2.length (λi y=>y.1=(i:Int)/\y.2=x) ?_ ?_ ⟨rfl,rfl⟩
 .rintro i ⟨a,x⟩ hi ⟨e1,e2⟩;dsimp only at e1 e2;subst e1;have e2:=e2.symm;subst e2;refine db ?_;refine bX (aR ?_);have hm:=bJ (T:=yU) (xs:=x.2) (j:=(i:Int)) (by omega) (by omega);have h1:=hl _ hm;have h2:=hb _ hm;have M:=hs _ hm;revert h1 h2 M;generalize (aK (T:=yU) x.2 (i:Int))=t;intro h1 h2 M;refine bZ t.2.2.1.length (λk y=>y.1=(k:Int)/\y.2=(x,t)) ?_ ?_ ⟨rfl,rfl⟩
  .rintro k ⟨a,z⟩ hk ⟨J,I⟩;dsimp only at J I;subst J;subst I;refine db ?_;refine bX (aR ?_);refine ax (iy _) λ_ _=>?_
   exact dN (λ_=>ar trivial) λ_=>ar ⟨gy (by omega),rfl⟩
  .rintro⟨a,z⟩ ⟨J,I⟩;dsimp only at J I;subst J;subst I;refine dc ?_;refine ax (P:=λr=>match r with|.inl y=>y.1=((i+1:Nat):Int)/\y.2=x|.inr _=>True) ?_ ?_
   .refine aX (λy=>y.2=x) ?_ ?_
    .refine ax (iy _) λ_ _=>dN (λ_=>ar rfl) λ_=>?_
     exact ax (K7 5 (by omega) _ (by dsimp only;omega) M) λ_ _=>ar rfl
    rintro⟨b,y⟩ e;dsimp only at e;subst e;exact aO (λ_=>ar trivial) λ_=>ar ⟨gy (by omega),rfl⟩
   .rintro (y|y) U
    .exact ar U
    .exact ar trivial
 .rintro⟨a,y⟩ ⟨e1,e2⟩;dsimp only at e1 e2;subst e1;subst e2;exact dc (ar trivial)
theorem xk (l:List DT) (s:List UInt8) (hl:l.length<=1000):Ok (ia (l,s)) λr=> -1<=r/\r<(l.length:Int):=by
 unfold ia bz bB aZ cK aF cD;refine bZ l.length (λi x=>x=(i:Int)) ?_ ?_ rfl
 .rintro i x hi rfl;refine db ?_;refine bX (aR ?_);exact aJ (λ_=>ar ⟨by omega,by omega⟩) λ_=>ar (gy (by omega))
 .rintro x rfl;exact dc (ar ⟨by omega,by omega⟩)
theorem sP (l:List HT) (s:List UInt8) (hl:l.length<=1000):Ok (gU (l,s)) λr=> -1<=r/\r<(l.length:Int):=by
 unfold gU bz bB aZ cK aF cD;refine bZ l.length (λi x=>x=(i:Int)) ?_ ?_ rfl
 .rintro i x hi rfl;refine db ?_;refine bX (aR ?_);exact aJ (λ_=>ar ⟨by omega,by omega⟩) λ_=>ar (gy (by omega))
 .rintro x rfl;exact dc (ar ⟨by omega,by omega⟩)
def DD (p:PG) (s:List UInt8):Prop:=∃ v,ia (p.1,s)=af v/\0<=v/\v<(p.1.length:Int)
theorem ZU (p:PG) (h:PX p) (t:Int) (s:List UInt8):Ok (pM (p,t,s)) λk=>k≠0->k≠7->k≠8->DD p s:=by
 have hd:=h.d;have ht:=h.t;unfold pM be bz iW iV wa bB aZ aF;refine aX (λx=>x.2=p) ?_ ?_
 .refine eZ (λU=>bI (λM=>?_) λ_=>ar rfl) λ_=>ar rfl
  dsimp only[au] at U M;refine aS U M (aR ?_);have hm:=h.l _ (bJ (T:=yU) (xs:=p.2) (j:=t) U M);exact ax (yH _ s (di hm (by omega))) λ_ _=>ar rfl
 rintro⟨b,x⟩ e;dsimp only at e;have e:=e.symm;subst e;refine aO (λ_=>ar λ_ _ h=>(h rfl).elim) λ_=>?_
 obtain⟨v,hv,v0,J⟩:=xk p.1 s (by omega);refine aT hv ?_;refine bI (λ_=>?_) λg=>?_
 .exact ax (sP p.2 s (by omega)) λ_ _=>eZ (λ_=>ar λ_ h=>(h rfl).elim) λ_=>ar λh=>(h rfl).elim
 have I:DD p s:=⟨v,hv,g,J⟩
 refine aS g J (aR ?_);refine aJ (λ_=>?_) λ_=>?_
 .exact aS g J (aR (b8 (λ_=>ar λ_ _ _=>I) λ_=>ar λ_ _ _=>I))
 refine aJ (λ_=>ar λ_ _ _=>I) λ_=>?_
 refine aX (λx=>x.2=p) (aJ (λ_=>ar rfl) λ_=>aJ (λ_=>ar rfl) λ_=>aJ (λ_=>ar rfl) λ_=>ar rfl) ?_;rintro⟨b,x⟩ e;dsimp only at e;have e:=e.symm;subst e;exact aO (λ_=>aS g J (aR (ar λ_ _ _=>I))) λ_=>ar λ_ _ _=>I
theorem oY (p:PG) (h:PX p) (t:Int) (s:List UInt8) (a b:Int):Ok (gG (p,t,s,a,b)) λr=>r=0->(a≠7/\a≠8)->(b≠7/\b≠8)->DD p s:=by
 unfold gG aY bh dA be iV aF;refine ax (ZU p h t s) λk hk=>?_
 refine aJ (λ_=>ar λh=>(by cases h)) λg=>?_
 refine aX (λx=>x=aj->k=a\/k=b) ?_ ?_
 .refine b8 (λ_=>ar λh=>?_) λh=>ar λ_=>.inl h
  simp at h;exact .inr h
 rintro x I;refine aO (λ_=>ar λh=>(by cases h)) λh=>ar λ_ h1 h2=>hk g ?_ ?_
 .rcases I h with h|h<;>omega
 .rcases I h with h|h<;>omega
theorem Nc:∀ (n d:Nat) (e:Xp),d<n->GX d e->Ok (nk n e) λ_=>True
 |0,_,_,h,_=>by omega
 |n+1,0,_,_,h=>h.elim
 |n+1,d+1,e,hn,h=>by
  obtain⟨h1,h2⟩:=h;rw[yn];unfold uC bz bB cK aF cD;refine bZ e.l.length (λi x=>x.1.2.2=(i:Int)/\x.2=e) ?_ ?_ ⟨rfl,fg e⟩
  .rintro i ⟨⟨a,b,c⟩,z⟩ hi ⟨e1,e2⟩;dsimp only at e1 e2;subst e1;subst e2;refine db ?_;refine bX (aR ?_);refine ax (Nc n d _ (by omega) (h2 _ (bJ (T:=.ex) (xs:=z.l) (j:=(i:Int)) (by omega) (by omega)))) λ_ _=>ar ?_
   exact⟨gy (by omega),fg z⟩
  .rintro⟨⟨a,b,c⟩,z⟩ ⟨e1,e2⟩;dsimp only at e1 e2;subst e1;subst e2;exact dc (ar trivial)
theorem F9 (p:PG) (hp:PX p) (t:Int):∀ (n d:Nat) (e:Xp),d<n->GX d e->Ok (nj n (p,t,e)) λ_=>True
 |0,_,_,h,_=>by omega
 |n+1,0,_,_,h=>h.elim
 |n+1,d+1,e,hn,h=>by
  obtain⟨h1,h2⟩:=h;rw[ym];unfold uB be bz bB cK aF cD;refine aX (λx=>x.2.1=p/\x.2.2=e) ?_ ?_
  .refine aJ (λ_=>ax (oY p hp t _ _ _) λ_ _=>ar ⟨rfl,fg e⟩) λ_=>aJ (λ_=>ax (oY p hp t _ _ _) λ_ _=>ar ⟨rfl,fg e⟩) λ_=>ar ⟨rfl,fg e⟩
  rintro⟨r,M,e'⟩ ⟨J,I⟩;dsimp only at J I;have J:=J.symm;subst J;have I:=I.symm;subst I;refine qe (λx=>((e.l.length:Int)-x.1.2).toNat) (λx=>0<=x.1.2/\x.2.1=p/\x.2.2=e) ?_ ⟨eR _,rfl,fg e⟩;rintro⟨⟨a,(b:Int)⟩,M,e'⟩ ⟨b0,J,I⟩;dsimp only at b0 J I;have J:=J.symm;subst J;have I:=I.symm;subst I;refine aX (λx=>x.2.1=p/\x.2.2=e/\(x.1=ai->b<(e.l.length:Int))) ?_ ?_
  .exact bI (λg=>ar ⟨rfl,fg e,λ_=>g⟩) λ_=>ar ⟨rfl,fg e,λh=>(by cases h)⟩
  rintro⟨c,M,e'⟩ ⟨J,I,f3⟩;dsimp only at J I f3;have J:=J.symm;subst J;have I:=I.symm;subst I;refine aO (λhc=>?_) λ_=>ar trivial
  have g:=f3 hc;refine aS b0 g (aR ?_);refine ax (F9 p hp t n d _ (by omega) (h2 _ (bJ (T:=.ex) (xs:=e.l) (j:=b) b0 g))) λ_ _=>ar ?_
  dsimp only;rw[ig (n:=b+1) (by omega) (by omega)];exact⟨⟨by omega,rfl,fg e⟩,by omega⟩
theorem xj (p:PG) (hp:PX p) (t:Int) (e:Xp) (h:GX 4 e):Ok (ml (p,t,e)) λ_=>True:=by
 unfold ml bz aF;have M:GX 4 (ec (Xp.op e,Xp.n e,Xp.name e,Xp.l e)):=by rw[fg];exact h
 refine ax (gm _ M) λ_ _=>dN (λ_=>ar trivial) λ_=>?_
 refine ax (Nc fuel 4 _ (by rw[jQ];omega) M) λ_ _=>?_
 refine aX (λx=>x.2.1=p/\x.2.2=e) (bI (λ_=>ar ⟨rfl,fg e⟩) λ_=>ar ⟨rfl,fg e⟩) ?_;rintro⟨r,U,e'⟩ ⟨J,I⟩;dsimp only at J I;have J:=J.symm;subst J;have I:=I.symm;subst I;exact aO (λ_=>ar trivial) λ_=>ax (F9 p hp t fuel 4 _ (by rw[jQ];omega) M) λ_ _=>ar trivial
theorem fB (b:Bool):Ok (c9 b) λ_=>True:=by
 unfold c9;exact aO (λ_=>ar trivial) λ_=>ar trivial
theorem ue (x:Int×Int):Ok (iY x) λr=>r=0->x.1=0/\x.2=0:=by
 unfold iY iV;exact b8 (λh=>ar λh2=>(h h2).elim) λh=>ar λh2=>⟨h,h2⟩
abbrev WK:Type:=(List DT×List HT×Int)×(Bool×List Sx)×List (List UInt8)×List (List UInt8)
theorem Yv (a b:Int) (s:List UInt8) (w:WK) (h:w.2.1.2.length<=100):Ok (dV ((a,b,s),w)) λy=>y.2=w:=by
 unfold dV aY be bz kB aZ cK aF cD;refine bZ w.2.1.2.length (λi x=>x.1=(i:Int)/\x.2=w) ?_ ?_ ⟨rfl,rfl⟩
 .rintro i ⟨c,x⟩ hi ⟨e1,e2⟩;dsimp only at e1 e2;subst e1;have e2:=e2.symm;subst e2;refine db ?_;refine bX (bX (aR ?_));refine aX (λx=>x.2=w) ?_ ?_
  .refine aJ (λ_=>aJ (λ_=>ar rfl) λ_=>ar rfl) λ_=>aJ (λ_=>aJ (λ_=>ar rfl) λ_=>ar rfl) λ_=>ar rfl
  rintro⟨c,x⟩ e;dsimp only at e;have e:=e.symm;subst e;exact aO (λ_=>ar rfl) λ_=>ar ⟨gy (by omega),rfl⟩
 .rintro⟨c,x⟩ ⟨e1,e2⟩;dsimp only at e1 e2;subst e1;have e2:=e2.symm;subst e2;exact dc (ar rfl)
def Qf:Nat->Sx->Nat
 |0,_=>0
 |d+1,s=>1+(s.body.map (Qf d)).sum+(s.els.map (Qf d)).sum
def nE (d:Nat) (l:List Sx):Nat:=(l.map (Qf d)).sum
def KS:Nat->Nat
 |0=>0
 |d+1=>1+16*KS d
theorem Oa {α:Type} {f:α->Nat} {k:Nat}:∀ {l:List α},(∀ x∈l,f x<=k)->(l.map f).sum<=l.length*k
 |[],_=>by simp
 |x::r,h=>by
  have:=Oa (l:=r) λy I=>h y (cI _ I)
  have:=h x (dk ..);rw[gu,List.sum_cons,b9,iR];omega
theorem V4:∀ {d:Nat} {s:Sx},GT d s->Qf d s<=KS d
 |0,_,h=>h.elim
 |d+1,s,⟨_,_,_,Y,U,M,J⟩=>by
  have a:=Oa (f:=Qf d) (l:=s.body) λx I=>V4 (M x I)
  have b:=Oa (f:=Qf d) (l:=s.els) λx I=>V4 (J x I)
  have c:=cH (KS d) Y;have e:=cH (KS d) U;show 1+_+_<=1+16*KS d;omega
theorem Pw:∀ {d:Nat} {s:Sx},GT d s->Qf (d+1) s=Qf d s
 |0,_,h=>h.elim
 |d+1,s,⟨_,_,_,_,_,M,J⟩=>by
  show 1+(s.body.map (Qf (d+1))).sum+(s.els.map (Qf (d+1))).sum=1+(s.body.map (Qf d)).sum+(s.els.map (Qf d)).sum;rw[qb λx I=>Pw (M x I),qb λx I=>Pw (J x I)]
theorem acn {d:Nat} {l:List Sx} (h:∀ s∈l,GT d s):nE d l<=l.length*KS d:=Oa λx I=>V4 (h x I)
theorem w_ {d:Nat} {l:List Sx} {i:Nat} (hi:i<l.length):nE d (l.take (i+1))=nE d (l.take i)+Qf d (aK (T:=.sm) l (i:Int)):=by
 unfold nE;rw[mI (T:=.sm) hi,cE,FJ];simp
theorem Px {d:Nat} (l:List Sx) (i:Nat):nE d (l.take i)<=nE d l:=by
 conv=>rhs;rw[<- BJ i l]
 unfold nE;rw[cE,FJ];omega
theorem Ff:∀ (n d:Nat) (l:List Sx),d<n->l.length<=1000->(∀ s∈l,GT d s)->KS d<=100000->nl n l=af ((nE d l:Nat):Int)
 |0,_,_,h,_,_,_=>by omega
 |n+1,d,l,hn,hl,h,J=>by
  refine ci ?_;rw[yo];unfold uD bz wa aZ cK aF cD;have hb:=acn h;have I:=Nat.mul_le_mul hl J;refine bZ l.length (λi x=>x.2=(i:Int)/\x.1=(l.length:Int)-i+(nE d (l.take i):Nat)) ?_ ?_ ⟨rfl,by simp[nE]⟩
  .rintro i ⟨a,b⟩ hi ⟨e1,e2⟩;dsimp only at e1 e2;subst e1;subst e2;have hp:=Px (d:=d) l (i+1);rw[w_ hi] at hp;refine db ?_;refine bX (aR ?_);rw[w_ hi];have hm:=h _ (bJ (T:=.sm) (xs:=l) (j:=(i:Int)) (by omega) (by omega));revert hm hp;generalize (aK (T:=.sm) l (i:Int))=s;intro hp hm;cases d with
   |zero=>exact hm.elim
   |succ d=>
    obtain⟨_,_,_,Z,Y,U,M⟩:=hm;have hk:KS (d+1)=1+16*KS d:=rfl;have hc:Qf (d+1) s=1+nE d s.body+nE d s.els:=rfl;rw[hc] at hp ⊢;refine aT (Ff n d _ (by omega) (by omega) U (by omega)) ?_;refine bX (aR ?_);refine aT (Ff n d _ (by omega) (by omega) M (by omega)) (ar ⟨gy (by omega),?_⟩);dsimp only;rw[ig (n:=(l.length:Int)-i+(nE (d+1) (l.take i):Nat)+(nE d s.body:Nat)) (by omega) (by omega),ig (by omega) (by omega)];omega
  .rintro⟨a,b⟩ ⟨e1,e2⟩;dsimp only at e1 e2;subst e1;subst e2;rw[cP];exact dc (ar (by dsimp only;omega))
theorem Vp (l:List DT) (hl:l.length<=100):Ok (rD l) λ_=>True:=by
 unfold rD aY bh bx bL dA fh be bz iW iV bC bB aZ cK aF cD;refine bZ l.length (λi x=>x.2.2.2.2=(i:Int)) ?_ ?_ rfl
 .rintro i ⟨a,b,c,d,e⟩ hi e1;dsimp only at e1;subst e1;refine db ?_;refine aX (λ_=>True) ?_ λx _=>ar (gy (by omega))
  refine bX (aR ?_);have htk:(dQ (aU (i:Int)) l).length<=100:=by rw[bH];omega
  refine dx (eM (by dsimp only;omega) (eM (by dsimp only;omega) ?_));refine ax (xk _ _ (di htk (by omega))) λv hv=>?_
  refine eZ (λ_=>ar trivial) λ_=>bI (λ_=>ar trivial) λ_=>?_
  refine aX (λ_=>True) ?_ λx _=>?_
  .refine aX (λ_=>True) (aJ (λ_=>ar trivial) λ_=>ar trivial) λx _=>aO (λ_=>ar trivial) λ_=>?_
   refine aX (λ_=>True) (aJ (λ_=>ar trivial) λ_=>ar trivial) λx _=>aO (λ_=>ar trivial) λ_=>?_
   exact aJ (λ_=>ar trivial) λ_=>ar trivial
  refine aX (λ_=>True) (bI (λ_=>ar trivial) λ_=>bI (λ_=>ar trivial) λ_=>bI (λ_=>ar trivial) λ_=>ar trivial) λx _=>aO (λ_=>ar trivial) λ_=>?_
  refine aJ (λ_=>?_) λ_=>ar trivial
  refine dx (eM (by dsimp only;omega) (eM (by dsimp only;omega) ?_));refine ax (xk _ _ (di htk (by omega))) λv hv=>?_
  refine bI (λ_=>ar trivial) λg=>?_
  have h2:=hv.2;rw[bH] at h2;exact aS g (by dsimp only at h2 ⊢;omega) (aR (b8 (λ_=>ar trivial) λ_=>ar trivial))
 .rintro⟨a,b,c,d,e⟩ e1;dsimp only at e1;subst e1;exact dc (ar trivial)
theorem N_ (p:PG) (h:PX p):Ok (nM p) λ_=>True:=by
 have hd:=h.d;have ht:=h.t;unfold nM aY bh bx bz iW bC bB aZ cK aF cD;refine bZ p.2.length (λi x=>x.1=(i:Int)/\x.2=p) ?_ ?_ ⟨rfl,rfl⟩
 .rintro i ⟨a,x⟩ hi ⟨e1,e2⟩;dsimp only at e1 e2;subst e1;have e2:=e2.symm;subst e2;refine db ?_;refine bX (aR ?_);refine aX (λx=>x.2.1=p) ?_ ?_
  .refine ax (xk _ _ (by dsimp only;omega)) λv hv=>eZ (λ_=>ar rfl) λ_=>?_
   refine dx (eM (by dsimp only;omega) (eM (by dsimp only;omega) ?_));exact ax (sP _ _ (by rw[bH];dsimp only;omega)) λ_ _=>ar rfl
  rintro⟨b,x,z⟩ e;dsimp only at e;have e:=e.symm;subst e;exact aO (λ_=>ar trivial) λ_=>ar ⟨gy (by omega),rfl⟩
 rintro⟨a,x⟩ ⟨e1,e2⟩;dsimp only at e1 e2;subst e1;have e2:=e2.symm;subst e2;refine dc ?_;refine ax (P:=λ_=>True) ?_ λ_ _=>ar trivial
 refine bZ p.2.length (λi x=>x.1=(i:Int)/\x.2=p) ?_ ?_ ⟨rfl,rfl⟩
 .rintro i ⟨a,x⟩ hi ⟨e1,e2⟩;dsimp only at e1 e2;subst e1;have e2:=e2.symm;subst e2;refine db ?_;refine bX (aR ?_);have hm:=h.l _ (bJ (T:=yU) (xs:=p.2) (j:=(i:Int)) (by omega) (by omega));revert hm;generalize (aK (T:=yU) p.2 (i:Int))=t;intro hm;refine bI (λ_=>ar trivial) λ_=>?_
  refine bZ t.2.2.1.length (λk y=>y.1=(k:Int)/\y.2=(p,t)) ?_ ?_ ⟨rfl,rfl⟩
  .rintro k ⟨a,z⟩ hk ⟨J,I⟩;dsimp only at J I;subst J;subst I;refine db ?_;refine bX (aR ?_);refine aX (λx=>x.2=(p,t)) ?_ ?_
   .refine ax (xk _ _ (by dsimp only;omega)) λv hv=>eZ (λ_=>ar rfl) λ_=>?_
    refine ax (sP _ _ (by dsimp only;omega)) λv hv=>eZ (λ_=>ar rfl) λ_=>?_
    refine dx (eM (by dsimp only;omega) (eM (by dsimp only;omega) ?_));exact ax (yH _ _ (by rw[bH];dsimp only;omega)) λ_ _=>ar rfl
   rintro⟨b,x⟩ e;dsimp only at e;subst e;exact aO (λ_=>ar trivial) λ_=>ar ⟨gy (by omega),rfl⟩
  .rintro⟨a,z⟩ ⟨J,I⟩;dsimp only at J I;subst J;subst I;exact dc (ar ⟨gy (by omega),rfl⟩)
 .rintro⟨a,x⟩ ⟨e1,e2⟩;dsimp only at e1 e2;subst e1;have e2:=e2.symm;subst e2;exact dc (ar trivial)
structure WQ (w:WK) (y:Int×WK):Prop where
 p:y.2.1=w.1
 a:y.2.2.1=w.2.1
 s:y.2.2.2.1.length<=w.2.2.1.length+1
 t:y.2.2.2.2.length<=w.2.2.2.length+1
theorem WQ.same (w:WK) (e:Int):WQ w (e,w):=⟨rfl,rfl,Nat.le_succ _,Nat.le_succ _⟩
theorem aj9 (s:Sx) (D:List DT) (T:List HT) (t:Int) (A:Bool×List Sx) (sp se:List (List UInt8)) (hp:PX (D,T)) (hA:A.2.length<=100) (h1:sp.length<=100000000) (h2:se.length<=100000000) (J:∀ e∈s.index,GX 4 e) (he:GX 4 s.expr):Ok (mj (s,((D,T,t),A,sp,se))) (WQ ((D,T,t),A,sp,se)):=by
 have hex:GX 4 (ec (Xp.op s.expr,Xp.n s.expr,Xp.name s.expr,Xp.l s.expr)):=by rw[fg];exact he
 have hin:∀ (a b:Int) (n:List UInt8),Ok (dV ((a,b,n),((D,T,t),A,sp,se))) λy=>y.2=((D,T,t),A,sp,se):=λa b n=>Yv a b n _ hA
 have hth:T.length<=1000:=by have:=hp.t;dsimp only at this;omega
 have hdl:D.length<=1000:=by have:=hp.d;dsimp only at this;omega
 have sm:∀ e,WQ ((D,T,t),A,sp,se) (e,((D,T,t),A,sp,se)):=WQ.same _;unfold mj aY bh bx cC bL dA cX fh be iW iV bC bB aF em;refine ax (hin _ _ _) λy I=>?_
 obtain⟨b1,M⟩:=y;dsimp only at I;subst I;refine bf (by simp) ?_;refine ax (hin _ _ _) λy I=>?_
 obtain⟨b2,M⟩:=y;dsimp only at I;subst I;refine bf (by simp) ?_;refine ax (hin _ _ _) λy I=>?_
 obtain⟨Z,M⟩:=y;dsimp only at I;subst I;refine bf (by simp) ?_;refine aJ (λ_=>?_) λ_=>?_
 .refine aJ (λ_=>?_) λg=>?_
  .exact ax (oY _ hp _ _ _ _) λ_ _=>ax (xj _ hp _ _ hex) λ_ _=>ax (ue _) λ_ _=>ar (sm _)
  .refine ax (oY _ hp _ _ _ _) λ_ _=>?_
   dsimp only[au] at g;refine bX (aR ?_);refine ax (xj _ hp _ _ (J _ (bJ (T:=.ex) (xs:=s.index) (j:=0) (by omega) (by omega)))) λ_ _=>?_
   exact ax (xj _ hp _ _ hex) λ_ _=>ax (ue _) λ_ _=>ax (ue _) λ_ _=>ar (sm _)
 refine aX (λx=>x.2=((D,T,t),A,s,(D,T),sp,se)) (aJ (λ_=>ar (by dsimp only;rw[yf])) λ_=>ar (by dsimp only;rw[yf])) ?_;rintro⟨b,x⟩ e;dsimp only at e;subst e;refine aO (λ_=>ax (xj _ hp _ _ hex) λ_ _=>ar (sm _)) λ_=>?_
 refine aJ (λ_=>?_) λ_=>?_
 .refine aX (λx=>WQ ((D,T,t),A,sp,se) x) ?_ λx J=>ar J
  refine ax (oY _ hp _ _ _ _) λ_ _=>aO (λ_=>?_) λ_=>?_
  .exact ax (fB _) λ_ _=>ax (ue _) λ_ _=>ar (sm _)
  .refine ax (hin _ _ _) λy I=>?_
   obtain⟨U,M⟩:=y;dsimp only at I;subst I;exact bf (by simp) (ax (fB _) λ_ _=>ax (ue _) λ_ _=>ar (sm _))
 refine aX (λx=>x.2=((D,T,t),A,s,(D,T),sp,se)) (aJ (λ_=>ar (by dsimp only;rw[yf])) λ_=>ar (by dsimp only;rw[yf])) ?_;rintro⟨b,x⟩ e;dsimp only at e;subst e;refine aO (λ_=>?_) λ_=>?_
 .refine aX (λx=>WQ ((D,T,t),A,sp,se) x) ?_ λx J=>ar J
  refine ax (oY _ hp _ _ _ _) λ_ _=>aO (λ_=>?_) λ_=>?_
  .exact ax (fB _) λ_ _=>ax (ue _) λ_ _=>ar (sm _)
  .refine ax (hin _ _ _) λy I=>?_
   obtain⟨U,M⟩:=y;dsimp only at I;subst I;exact bf (by simp) (ax (fB _) λ_ _=>ax (ue _) λ_ _=>ar (sm _))
 refine aJ (λ_=>ax (fB _) λ_ _=>ar (sm _)) λ_=>?_
 refine aJ (λ_=>?_) λ_=>?_
 .refine aX (λx=>WQ ((D,T,t),A,sp,se) x) ?_ λx J=>ar J
  exact aO (λ_=>ax (fB _) λ_ _=>ar (sm _)) λ_=>ax (fB _) λ_ _=>ar (sm _)
 refine aX (λx=>x.2=((D,T,t),A,s,(D,T),sp,se)) (aJ (λ_=>ar (by dsimp only;rw[yf])) λ_=>aJ (λ_=>ar (by dsimp only;rw[yf])) λ_=>ar (by dsimp only;rw[yf])) ?_;rintro⟨b,x⟩ e;dsimp only at e;subst e;refine aO (λ_=>?_) λ_=>?_
 .refine ax (oY _ hp _ _ _ _) λr hr=>b8 (λ_=>ar (sm _)) λg=>?_
  obtain⟨v,hv,v0,Y⟩:=hr g (by omega) (by omega);refine aT hv (aS v0 Y (aR ?_));refine ax (hin _ _ _) λy I=>?_
  obtain⟨U,M⟩:=y;dsimp only at I;subst I;refine bf (by simp) ?_;refine aX (λx=>WQ ((D,T,t),A,sp,se) x) ?_ λx J=>ar J
  refine aO (λ_=>ax (fB _) λ_ _=>ar (sm _)) λ_=>dN (λ_=>ax (fB _) λ_ _=>ar (sm _)) λ_=>?_
  exact aJ (λ_=>ax (fB _) λ_ _=>ar (sm _)) λ_=>ax (fB _) λ_ _=>ar (sm _)
 refine aJ (λ_=>?_) λ_=>?_
 .refine ax (oY _ hp _ _ _ _) λr hr=>b8 (λ_=>ar (sm _)) λg=>?_
  refine ax (sP T _ hth) λv hv=>?_
  refine aX (λx=>x.2=((D,T,t),A,s,sp,se)) ?_ ?_
  .refine aO (λ_=>ar (by dsimp only;rw[yf])) λ_=>aO (λ_=>ar (by dsimp only;rw[yf])) λ_=>aO (λ_=>ar (by dsimp only;rw[yf])) λ_=>aJ (λ_=>ar (by dsimp only;rw[yf])) λ_=>ar (by dsimp only;rw[yf])
  rintro⟨b,x⟩ e;dsimp only at e;subst e;refine aO (λ_=>ar (sm _)) λ_=>?_
  refine ax (yH sp _ (by omega)) λ_ _=>eZ (λ_=>ar (sm _)) λ_=>?_
  exact bg (by simp;omega) (by omega) (ar ⟨rfl,rfl,by simp,Nat.le_succ _⟩)
 refine aJ (λ_=>?_) λ_=>?_
 .refine aX (λx=>WQ ((D,T,t),A,sp,se) x) ?_ λx J=>ar J
  refine ax (oY _ hp _ _ _ _) λr hr=>?_
  refine aO (λ_=>ax (fB _) λ_ _=>ax (ue _) λ_ _=>ar (sm _)) λ_=>?_
  refine aO (λ_=>ax (fB _) λ_ _=>ax (ue _) λ_ _=>ar (sm _)) λ_=>?_
  exact ax (sP T _ hth) λv hv=>ax (fB _) λ_ _=>ax (ue _) λ_ _=>ar (sm _)
 refine aJ (λ_=>?_) λ_=>?_
 .refine aX (λx=>x.2=((D,T,t),A,s,(D,T),sp,se)) ?_ ?_
  .refine ax (oY _ hp _ _ _ _) λr hr=>?_
   exact aO (λ_=>ax (fB _) λ_ _=>ax (ue _) λ_ _=>ar (by dsimp only;rw[yf])) λ_=>ax (fB _) λ_ _=>ax (ue _) λ_ _=>ar (by dsimp only;rw[yf])
  rintro⟨b,x⟩ e;dsimp only at e;subst e;refine aX (λx=>x.2=((D,T,t),A,s,(D,T),sp,se)) ?_ ?_
  .refine aX (λx=>x.2=((D,T,t),A,s,(D,T),sp,se)) ?_ ?_
   .exact aJ (λ_=>ax (yH se _ (by omega)) λ_ _=>ar (by dsimp only;rw[yf])) λ_=>ar (by dsimp only;rw[yf])
   rintro⟨b,x⟩ e;dsimp only at e;subst e;exact aO (λ_=>ar (by dsimp only;rw[yf])) λ_=>ar (by dsimp only;rw[yf])
  rintro⟨b,x⟩ e;dsimp only at e;subst e;refine bg (by simp;omega) (by omega) ?_;exact ax (xj _ hp _ _ hex) λ_ _=>ax (ue _) λ_ _=>ar ⟨rfl,rfl,Nat.le_succ _,by simp⟩
 exact ax (oY _ hp _ _ _ _) λ_ _=>ax (oY _ hp _ _ _ _) λ_ _=>ax (fB _) λ_ _=>ax (ue _) λ_ _=>ax (ue _) λ_ _=>ar (sm _)
abbrev RA4:Type:=(List Sx×WK)->Option ((Int×Int)×WK)
structure QA (l:List Sx) (d:Nat) (w:WK) (y:(Int×Int)×WK):Prop where
 p:y.2.1=w.1
 a:y.2.2.1.2.length=w.2.1.2.length
 s:y.2.2.2.1.length<=w.2.2.1.length+l.length*KS d
 t:y.2.2.2.2.length<=w.2.2.2.length+l.length*KS d
def SpA (rr:RA4) (d:Nat):Prop:=∀ (l:List Sx) (w:WK),l.length<=100->(∀ s∈l,GT d s)->PX (w.1.1,w.1.2.1)->w.2.1.2.length+d<=50->w.2.2.1.length+l.length*KS d<=100000000->w.2.2.2.length+l.length*KS d<=100000000->Ok (rr (l,w)) (QA l d w)
theorem afo (rr:RA4) (d:Nat) (hr:∀ d',d=d'+1->SpA rr d'):SpA (mq rr) d:=by
 rintro l ⟨⟨D,T,t⟩,A,sp,se⟩ hl hg hp hA h1 h2;dsimp only at hp hA h1 h2;have hK:∀ i:Nat,i<=l.length->i*KS d<=l.length*KS d:=λi hi=>cH _ hi
 unfold mq aY bh bx bL dA cX ck be bz iV bC bB aZ cK aF cD em;refine bZ l.length (λi x=>x.1=(i:Int)/\x.2.1=(D,T,t)/\x.2.2.1.2.length=A.2.length/\x.2.2.2.1.length<=sp.length+i*KS d/\x.2.2.2.2.length<=se.length+i*KS d) ?_ ?_ ⟨rfl,rfl,rfl,by simp,by simp⟩
 .rintro i ⟨a,P,A',sp',se'⟩ hi ⟨e1,e2,e3,Y,U⟩;dsimp only at e1 e2 e3 Y U;subst e1;subst e2;have hKi:=hK (i+1) (by omega);have hKs:=iR i (KS d);rw[Nat.succ_eq_add_one] at hKs;refine db ?_;refine bX (aR ?_);have hm:=hg _ (bJ (T:=.sm) (xs:=l) (j:=(i:Int)) (by omega) (by omega));revert hm;generalize (aK (T:=.sm) l (i:Int))=s;intro hm;cases d with
  |zero=>exact hm.elim
  |succ d=>
   have hR:=hr d rfl;obtain⟨_,g2,g3,g4,g5,g6,g7⟩:=hm;have hk:KS (d+1)=1+16*KS d:=rfl;have kb:s.body.length*KS d<=8*KS d:=cH _ g4;have ke:s.els.length*KS d<=8*KS d:=cH _ g5;dsimp only;rw[yf];refine ax (aj9 s D T t A' sp' se' hp (by omega) (by omega) (by omega) g2 g3) λy M=>?_
   obtain⟨e,P2,A2,sp2,se2⟩:=y;obtain⟨J,I,q3,q4⟩:=M;dsimp only at J I q3 q4;subst J;subst I;refine bf (by simp) ?_;refine aX (λx=>x.2=((D,T,t),s,A2,sp2,se2)) (bI (λ_=>ar rfl) λ_=>ar rfl) ?_;rintro⟨e,x⟩ ex;dsimp only at ex;subst ex;refine b8 (λ_=>ar ⟨rfl,e3,by dsimp only;omega,by dsimp only;omega⟩) λ_=>?_
   refine bg (by simp;omega) (by omega) (aS (by simp) (by simp;omega) (aS (by simp) (by simp;omega) ?_));dsimp only;rw[yf];refine ax (hR s.body ((D,T,t),(A2.1,cQ (A2.2++[_]) _ s),sp2,se2) (by omega) g6 hp ?_ ?_ ?_) λy M=>?_
   .dsimp only;rw[bW];simp;omega
   .dsimp only;omega
   .dsimp only;omega
   obtain⟨e6,P6,A6,sp6,se6⟩:=y;obtain⟨J,I,q5,q6⟩:=M;dsimp only at J I q5 q6;subst J;rw[bW,bm,c6] at I;refine bf (by simp) ?_;refine aX (λx=>x.2.1=(D,T,t)/\x.2.2.1.2.length=A2.2.length+1/\x.2.2.2.1.length<=sp2.length+16*KS d/\x.2.2.2.2.length<=se2.length+16*KS d) ?_ ?_
   .refine aJ (λ_=>?_) λ_=>ar ⟨rfl,I,by dsimp only;omega,by dsimp only;omega⟩
    refine ax (hR s.els ((D,T,t),A6,sp6,se6) (by omega) g7 hp (by dsimp only;omega) (by dsimp only;omega) (by dsimp only;omega)) λy M=>?_
    obtain⟨e7,P7,A7,sp7,se7⟩:=y;obtain⟨r1,r2,r5,Z⟩:=M;dsimp only at r1 r2 r5 Z;subst r1;exact bf (by simp) (ar ⟨rfl,r2.trans I,by dsimp only;omega,by dsimp only;omega⟩)
   rintro⟨e8,P8,A8,sp8,se8⟩ ⟨r1,r2,r5,Z⟩;dsimp only at r1 r2 r5 Z;subst r1;have el:bk .i64 ((aP A8.2.length)-1)=(A2.2.length:Int):=by
    rw[r2,ig (by simp<;>omega) (by simp<;>omega)];simp<;>omega
   dsimp only;rw[el];have tk:(dQ (aU (A2.2.length:Int)) A8.2).length=A2.2.length:=by rw[bH];omega
   refine dx (eM (by omega) (Ao (by rw[r2];omega) ?_));refine b8 (λ_=>ar ⟨rfl,by dsimp only;omega,by dsimp only;omega,by dsimp only;omega⟩) λ_=>ar ?_
   exact⟨gy (by omega),rfl,by dsimp only;omega,by dsimp only;omega,by dsimp only;omega⟩
 .rintro⟨a,P,A',sp',se'⟩ ⟨e1,e2,e3,Y,U⟩;dsimp only at e1 e2 e3 Y U;subst e1;subst e2;exact dc (ar ⟨rfl,e3,Y,U⟩)
theorem XF:∀ (n d:Nat),d<n->SpA (iG n) d
 |0,_,h=>by omega
 |n+1,d,h=>afo (iG n) d λI hd=>XF n I (by omega)
theorem Ed (p:PG) (h:PX p):Ok (fk p) λr=>r.1=0->(p.2.map λt=>nE 5 t.2.2.2).sum<=60:=by
 have hd:=h.d;have ht:=h.t;unfold fk aY bh bx bL cX bz iV bC bB aZ cK aF cD;refine ax (ZH p h) λ_ _=>dN (λ_=>ar λh=>(by cases h)) λ_=>?_
 refine ax (Vp p.1 hd) λ_ _=>b8 (λhn=>ar λh=>(hn h).elim) λ_=>bI (λ_=>ar λh=>(by cases h)) λ_=>?_
 refine ax (N_ p h) λ_ _=>b8 (λhn=>ar λh=>(hn h).elim) λ_=>?_
 have J:KS 5=69905:=rfl;refine bZ p.2.length (λi x=>x.1.2=(i:Int)/\x.2=p/\x.1.1=((((p.2.take i).map λt=>nE 5 t.2.2.2).sum:Nat):Int)/\(x.1.1:Int)<=((i*6990500:Nat):Int)) ?_ ?_ ⟨rfl,rfl,by simp,by simp⟩
 .rintro i ⟨⟨(c:Int),a⟩,x⟩ hi ⟨e1,e2,e3,I⟩;dsimp only at e1 e2 e3 I;subst e1;have e2:=e2.symm;subst e2;refine db ?_;refine bX (aR ?_);have hm:=bJ (T:=yU) (xs:=p.2) (j:=(i:Int)) (by omega) (by omega);have hb:=h.b _ hm;have hcb:=acn (h.s _ hm);have hcb2:=cH (KS 5) hb;rw[J] at hcb hcb2;refine aT (Ff fuel 5 _ (by rw[jQ];omega) (di hb (by omega)) (h.s _ hm) (by rw[J];omega)) (ar ⟨gy (by omega),rfl,?_,?_⟩)
  .dsimp only;rw[mI (T:=yU) hi,cE,FJ,ig (by omega) (by omega),e3];simp
  .dsimp only;rw[ig (by omega) (by omega)];omega
 rintro⟨⟨(c:Int),a⟩,x⟩ ⟨e1,e2,e3,I⟩;dsimp only at e1 e2 e3 I;subst e1;have e2:=e2.symm;subst e2;rw[cP] at e3;refine dc ?_;refine ax (P:=λr=>r.1=0->(p.2.map λt=>nE 5 t.2.2.2).sum<=60) ?_ λ_ h=>ar h
 refine bI (λ_=>ar λh=>(by cases h)) λM=>?_
 have M:c<=60:=M;refine bZ p.2.length (λi x=>x.1=(i:Int)/\x.2.1=p/\x.2.2.1.1=p.1/\x.2.2.1.2.1=p.2/\x.2.2.2.1.2.length=0/\x.2.2.2.2.1.length<=i*6990500/\x.2.2.2.2.2.length<=i*6990500) ?_ ?_ ⟨rfl,rfl,rfl,rfl,rfl,by simp,by simp⟩
 .rintro i ⟨a,x,⟨D,T,t⟩,A,sp,se⟩ hi ⟨e1,e2,e3,I,e5,e6,e7⟩;dsimp only at e1 e2 e3 I e5 e6 e7;subst e1;have e2:=e2.symm;subst e2;subst e3;subst I;refine db ?_;refine bX (aR ?_);have hm:=bJ (T:=yU) (xs:=p.2) (j:=(i:Int)) (by omega) (by omega);have hb:=h.b _ hm;have hs:=h.s _ hm;revert hb hs;dsimp only;generalize (aK (T:=yU) p.2 (i:Int))=th;intro hb hs;have hk:KS 5=69905:=rfl;have hle:th.2.2.2.length*KS 5<=100*KS 5:=cH _ hb;rw[hk] at hle;refine ax (XF fuel 5 (by rw[jQ];omega) th.2.2.2 ((p.1,p.2,(i:Int)),A,sp,se) hb hs h (by dsimp only;omega) (by dsimp only;rw[hk];omega) (by dsimp only;rw[hk];omega)) λy Z=>?_
  obtain⟨e,P2,A2,sp2,se2⟩:=y;obtain⟨U,Y,q3,q4⟩:=Z;dsimp only at U Y q3 q4;subst U;rw[hk] at q3 q4;refine bf (by simp) (b8 (λhn=>ar λh=>(hn h).elim) λ_=>ar ?_);exact⟨gy (by omega),rfl,rfl,rfl,by dsimp only;omega,by dsimp only;omega,by dsimp only;omega⟩
 .rintro⟨a,x,P,w⟩ ⟨e1,e2,_⟩;dsimp only at e1 e2;subst e1;have e2:=e2.symm;subst e2;exact dc (ar λ_=>by omega)
theorem c_ {R:Type} {o o':Option R} {Q:R->Prop} (h:o=o') (hk:Ok o' Q):Ok o Q:=h▸hk
def D0:List DT:=[(1,0,[120],0,0,[]),(1,0,[121],0,1,[]),(2,0,[118],0,0,[]),(1,0,[113],2,0,[]),(3,0,[109],0,0,[]),(3,0,[110],0,0,[]),(4,0,[114],0,0,[]),(5,0,[99],0,0,[109]),(6,0,[102],0,0,[])]
def L0:List (List UInt8):=[[97],[98]]
set_option maxHeartbeats 20000000 in
theorem amv:∃ r,fk (D0,[([109,97,105,110],0,L0,[nP (1,0,[120],[],[],ec (1,1,[],[]),[],[])])])=af r/\r.1=0:=by
 suffices h:Ok (fk (D0,[([109,97,105,110],0,L0,[nP (1,0,[120],[],[],ec (1,1,[],[]),[],[])])])) λr=>r.1=0 by
  obtain⟨y,h1,h2⟩:=h;exact⟨y,h1,h2⟩
 unfold fk aY bh bx bL cX bz iV bC bB aZ cK aF cD;with_reducible repeat' first|exact ar rfl|refine Xj ?_|refine Xi ?_|refine Xh ?_|refine Xf ?_|refine QP ?_|refine aey ?_|refine aR ?_|refine fI rfl ?_|refine fJ rfl ?_|refine bf rfl ?_|refine Xg ?_|refine QQ ?_|refine c_ (pN.eq_1 ..) ?_|refine c_ (jZ.eq_1 ..) ?_|refine c_ (fe.eq_1 ..) ?_|refine c_ (jF.eq_1 ..) ?_|refine c_ (kr.eq_1 ..) ?_|refine c_ (lx.eq_1 ..) ?_|refine c_ (pq.eq_1 ..) ?_|refine c_ (rE.eq_1 ..) ?_|refine c_ (nN.eq_1 ..) ?_|refine c_ (jx.eq_1 ..) ?_|refine c_ (j7.eq_1 ..) ?_|refine c_ (l_.eq_1 ..) ?_|refine c_ (jb.eq_1 ..) ?_|refine c_ (mm.eq_1 ..) ?_|refine c_ (po.eq_1 ..) ?_|refine c_ (rD.eq_1 ..) ?_|refine c_ (ia.eq_1 ..) ?_|refine c_ (nM.eq_1 ..) ?_|refine c_ (gU.eq_1 ..) ?_|refine c_ (iZ.eq_1 ..) ?_|refine c_ (B6.eq_1 ..) ?_|refine c_ (uD.eq_1 ..) ?_|refine c_ (vP.eq_1 ..) ?_|refine c_ (mq.eq_1 ..) ?_|refine c_ (mj.eq_1 ..) ?_|refine c_ (dV.eq_1 ..) ?_|refine c_ (gG.eq_1 ..) ?_|refine c_ (pM.eq_1 ..) ?_|refine c_ (ml.eq_1 ..) ?_|refine c_ (B5.eq_1 ..) ?_|refine c_ (uC.eq_1 ..) ?_|refine c_ (B4.eq_1 ..) ?_|refine c_ (uB.eq_1 ..) ?_|refine c_ (iY.eq_1 ..) ?_|refine c_ (c9.eq_1 ..) ?_|refine c_ (ck.eq_1 ..) ?_|refine c_ (congrFun (gO dH jQ) _) ?_|refine c_ (yN _ _) ?_|refine c_ (congrFun (gO eB jQ) _) ?_|refine c_ (zB _ _) ?_|refine c_ (congrFun (gO ib jQ) _) ?_|refine c_ (sJ _ _) ?_|refine c_ (congrFun (gO nl jQ) _) ?_|refine c_ (yo _ _) ?_|refine c_ (congrFun (gO iG jQ) _) ?_|refine c_ (Cf _ _) ?_|refine c_ (congrFun (gO nk jQ) _) ?_|refine c_ (yn _ _) ?_|refine c_ (congrFun (gO nj jQ) _) ?_|refine c_ (ym _ _) ?_
 all_goals trace_state
structure TM (nT:Nat) (t:HT):Prop where
 l:t.2.2.1=L0
 b:t.2.2.2.length<=8
 s:∀ s∈t.2.2.2,GS nT 3 s
structure PJ (p:PG):Prop where
 d:p.1=D0
 t0:1<=p.2.length
 t:p.2.length<=4
 m:∀ t∈p.2,TM p.2.length t
 n:p.2.map Prod.fst=wh.take p.2.length
theorem PJ.x {p:PG} (h:PJ p):PX p:=⟨by rw[h.d];decide,by have:=h.t;omega,λt ht=>by rw[(h.m t ht).l];decide,λt ht=>by have:=(h.m t ht).b;omega,λt ht s hs=>((h.m t ht).s s hs).le (by omega:3<=5) |>.t⟩
theorem R6:sC ()=af D0:=rfl
theorem adf:∀ m:Nat,m<5->∀ j:Nat,j<m->aK (T:=.str) wh (j:Int)∈wh.take m:=by decide
theorem Qu {nT:Nat} (op:Int) {n:List UInt8} (J:op=12\/op=13) (hn:n∈wh.take nT):GS nT 3 (nP (op,0,n,[],[],ec (0,0,[],[]),[],[])):=GS.wo (by omega) (by simp) (λx I=>(by cases I)) (by rcases J with rfl|rfl<;>(constructor<;>simp[Sx.op,Sx.name,Sx.index,Sx.arg,Sx.els,Sx.body]<;>exact hn))
theorem Hd (x:List Int) (hl:x.length<=9223372036854775807) (hx:∀ z∈x,0<=z/\z<=255):Ok (oO x) λp=>PJ p/\∃ r,fk p=af r/\r.1=0:=by
 unfold oO aY bh bx cC dW kE Ah bL fh kD qa Prod.q9 be bz iV bC kB cK aF cD em;refine aT R6 ?_;refine ax (gr 3 (x,0) ⟨hl,hx,by dsimp only;omega,by dsimp only;omega⟩) λy I=>?_
 obtain⟨n,t0⟩:=y;obtain⟨s0,n0,n1,_⟩:=I;have n1:=n1 (by decide);dsimp only at s0 n0 n1;have ew:bk .i64 (2+n)=2+n:=ig (by omega) (by omega);obtain⟨nT,hnT⟩:∃ m:Nat,2+n=(m:Int):=⟨(2+n).toNat,by omega⟩
 refine bZ nT (λi x=>x.1=(i:Int)/\x.2.2.1=D0/\x.2.2.2.1=wh/\TP x.2.2.2.2.1/\x.2.2.2.2.2.1.2=[]/\x.2.2.2.2.2.2.map Prod.fst=wh.take i/\∀ t∈x.2.2.2.2.2.2,TM nT t) ?_ ?_ ⟨rfl,rfl,rfl,s0.p,rfl,rfl,λt ht=>(by cases ht)⟩
 .rintro i ⟨a,m,D,N,t,h,th⟩ hi ⟨e1,e2,e3,e4,e5,e6,e7⟩;dsimp only at e1 e2 e3 e4 e5 e6 e7;subst e1;subst e2;refine bI (λg=>?_) λg=>(by dsimp only at g;rw[ew] at g;omega)
  have l4:N.length=4:=by rw[e3];rfl
  refine bX (bX (aR ?_));have hthl:th.length=i:=by have:=gO al e6;rw[bR,bH] at this;have q4:wh.length=4:=rfl;omega
  refine aX (λx=>x.2.2.2.1.1=aK (T:=.str) N (i:Int)/\x.2.1=D0/\x.2.2.1=wh/\TP x.2.2.2.2.1/\x.2.2.2.2.2.1.2=[]/\x.2.2.2.2.2.2.1=th/\x.2.2.2.2.2.2.2.1=L0/\x.2.2.2.2.2.2.2.2.length<=3/\∀ s∈x.2.2.2.2.2.2.2.2,GS nT 3 s) ?_ ?_
  .refine aJ (λ_=>?_) λ_=>ar ⟨rfl,rfl,e3,e4,e5,rfl,rfl,by simp,λs hs=>(by cases hs)⟩
   refine bZ (1+n).toNat (λk x=>x.2.2.2.2.1.1=aK (T:=.str) N (i:Int)/\x.1=1+(k:Int)/\x.2.2.1=D0/\x.2.2.2.1=wh/\TP x.2.2.2.2.2.1/\x.2.2.2.2.2.2.1.2=[]/\x.2.2.2.2.2.2.2.1=th/\x.2.2.2.2.2.2.2.2.1=L0/\x.2.2.2.2.2.2.2.2.2.length<=k/\∀ s∈x.2.2.2.2.2.2.2.2.2,GS nT 3 s) ?_ ?_ ⟨rfl,rfl,rfl,e3,e4,e5,rfl,rfl,by simp,λs hs=>(by cases hs)⟩
   .rintro k ⟨c,m1,D1,N1,z1,t1,h1,th1,l1,b1⟩ hk ⟨fz,f1,f2,f3,Z,J,Y,U,f8,M⟩;dsimp only at fz f1 f2 f3 Z J Y U f8 M;subst f1;refine bI (λ_=>?_) λg=>(by dsimp only at g;rw[ew] at g;omega)
    have l41:N1.length=4:=by rw[f3];rfl
    refine bX (bX (aR ?_));refine bg (by simp;omega) (by omega) (ar ?_);dsimp only;rw[ig (n:=1+(k:Int)+1) (by omega) (by omega)];refine ⟨fz,by omega,f2,f3,Z,J,Y,U,by simp;omega,λs hs=>?_⟩;rcases bQ.1 hs with hs|hs
    .exact M s hs
    .rw[aL] at hs;rw[hs];refine Qu 12 (.inl rfl) ?_;rw[f3,show 1+(k:Int)=((1+k:Nat):Int) by omega];exact adf nT (by omega) (1+k) (by omega)
   .rintro⟨c,m1,D1,N1,z1,t1,h1,th1,l1,b1⟩ ⟨fz,f1,f2,f3,Z,J,Y,U,f8,M⟩;dsimp only at fz f1 f2 f3 Z J Y U f8 M;subst f1;refine bI (λg=>(by dsimp only at g;rw[ew] at g;omega)) λ_=>ar ?_
    exact⟨fz,f2,f3,Z,J,Y,U,by dsimp only;omega,M⟩
  rintro⟨m1,D1,N1,z1,t1,h1,th1,l1,b1⟩ ⟨fz,f2,f3,Z,J,Y,U,f8,M⟩;dsimp only at fz f2 f3 Z J Y U f8 M;subst f2;subst Y;subst U;refine ax (gr 3 t1 Z) λy I=>?_
  obtain⟨k2,t2⟩:=y;obtain⟨u1,u2,u3,_⟩:=I;have u3:=u3 (by decide);dsimp only at u1 u2 u3;dsimp only;rw[ig (n:=1+k2) (by omega) (by omega)];refine ax (Yq (nT:=nT) 2 (by omega) (1+k2) m1 t2 h1 (by omega) u1.p (by rw[J];simp)) λy I=>?_
  obtain⟨m3,t3,h3,l3⟩:=y;obtain⟨w1,w2,w3,w4⟩:=I;dsimp only at w1 w2 w3 w4;refine bf (by simp) (bg (by simp;omega) (by omega) ?_);have hbody:∀ s∈b1++l3,GS nT 3 s:=λs hs=>by
   rcases bQ.1 hs with hs|hs
   .exact M s hs
   .exact w2 s hs
  have hlen:(b1++l3).length<=6:=by rw[bm];omega
  refine aX (λx=>x.2.2.2.1.1=aK (T:=.str) N (i:Int)/\x.2.1=D0/\x.2.2.1=wh/\TP x.2.2.2.2.1/\x.2.2.2.2.2.1.2=[]/\x.2.2.2.2.2.2.1=th1/\x.2.2.2.2.2.2.2.1=L0/\x.2.2.2.2.2.2.2.2.length<=8/\∀ s∈x.2.2.2.2.2.2.2.2,GS nT 3 s) ?_ ?_
  .refine aX (λx=>x.2.2.2.2.1.1=aK (T:=.str) N (i:Int)/\x.2.2.1=D0/\x.2.2.2.1=wh/\TP x.2.2.2.2.2.1/\x.2.2.2.2.2.2.1.2=[]/\x.2.2.2.2.2.2.2.1=th1/\x.2.2.2.2.2.2.2.2.1=L0/\x.2.2.2.2.2.2.2.2.2=b1++l3) ?_ ?_
   .refine aJ (λ_=>?_) λ_=>ar ⟨fz,rfl,f3,w3.p,w4.trans J,rfl,rfl,rfl⟩
    exact ax (gr 3 t3 w3.p) λy I=>ar ⟨fz,rfl,f3,I.1.p,w4.trans J,rfl,rfl,rfl⟩
   rintro⟨b,m4,D4,N4,z4,t4,h4,th4,l4,b4⟩ ⟨pz,p2,p3,p4,p5,p6,p7,p8⟩;dsimp only at pz p2 p3 p4 p5 p6 p7 p8;subst p2;subst p6;subst p7;subst p8;have l44:N4.length=4:=by rw[p3];rfl
   refine aO (λ_=>?_) λ_=>ar ⟨pz,rfl,p3,p4,p5,rfl,rfl,by dsimp only;omega,hbody⟩
   refine bX (bX (aR ?_));refine bg (by simp at hlen ⊢;omega) (by omega) (ar ⟨pz,rfl,p3,p4,p5,rfl,rfl,by dsimp only;rw[bm,c6];omega,λs hs=>?_⟩);rcases bQ.1 hs with hs|hs
   .exact hbody s hs
   .rw[aL] at hs;rw[hs];refine Qu 13 (.inr rfl) ?_;rw[p3];exact adf nT (by omega) 1 (by omega)
  rintro⟨m4,D4,N4,z4,t4,h4,th4,l4,b4⟩ ⟨pz,p2,p3,p4,p5,p6,p7,p8,p9⟩;dsimp only at pz p2 p3 p4 p5 p6 p7 p8 p9;subst p2;subst p6;subst p7;refine bg (by simp;omega) (by omega) (ar ?_);dsimp only;refine ⟨gy (by omega),rfl,p3,p4,p5,by rw[mI (T:=.str) (xs:=wh) (i:=i) (by have q4:wh.length=4:=rfl;omega),cE,e6,<-e3];show _++[z4.1]=_;rw[pz],λt ht=>?_⟩;rcases bQ.1 ht with ht|ht
  .exact e7 t ht
  .rw[aL] at ht;rw[ht];exact⟨rfl,p8,p9⟩
 .rintro⟨a,m,D,N,t,h,th⟩ ⟨e1,e2,e3,e4,e5,e6,e7⟩;dsimp only at e1 e2 e3 e4 e5 e6 e7;subst e1;subst e2;refine bI (λg=>(by dsimp only at g;rw[ew] at g;omega)) λ_=>?_
  have hthl:th.length=nT:=by have:=gO al e6;rw[bR,bH] at this;have q4:wh.length=4:=rfl;omega
  have hpm:PJ (D0,th):=⟨rfl,by dsimp only;omega,by dsimp only;omega,by dsimp only;rw[hthl];exact e7,by dsimp only;rw[hthl];exact e6⟩
  refine ax (P:=λp=>PJ p/\∃ r,fk p=af r/\r.1=0) ?_ λr hr=>ar hr
  obtain⟨y,I,_⟩:=Ed (D0,th) hpm.x;refine aT I (b8 (λ_=>?_) λh=>ar ⟨hpm,y,I,h⟩);refine aT R6 (aT (Ot _) (aT (t_ _ _) (ar ?_)));refine ⟨⟨rfl,by simp,by simp,λt ht=>?_,rfl⟩,amv⟩;simp only[aL] at ht;rw[ht];refine ⟨rfl,by simp,λs hs=>?_⟩;simp only[aL] at hs;rw[hs,fg,yW];exact GS.asg (by decide) (GE.num _ 3)
abbrev iA (l:List IT) (k:Nat):IT:=aK (T:=BO) l (k:Int)
def JT (l:List IT) (ρ:Nat->Nat) (a e k:Nat):Prop:=(iA l k).1=5->∃ k':Nat,(iA l k).2.1=(k':Int)/\(k'=e\/a<=k'/\k'<e/\ρ k'<ρ k)
def qV (l:List IT) (a e:Nat):Prop:=a<=e/\∃ ρ:Nat->Nat,∀ k,a<=k->k<e->1<=ρ k/\ρ k<=e-a/\JT l ρ a e k/\((iA l k).1<5->k+1=e\/ρ (k+1)<ρ k)
theorem qV.nil (l:List IT) (a:Nat):qV l a a:=⟨bV _,λ_=>0,λk h1 h2=>by omega⟩
theorem qV.one {l:List IT} {a:Nat} (h:¬(iA l a).1=5):qV l a (a+1):=⟨by omega,λ_=>1,λk h1 h2=>⟨bV 1,by show 1<=a+1-a;omega,λI=>by rw[show k=a by omega] at I;exact (h I).elim,λ_=>.inl (by omega)⟩⟩
theorem qV.congr {l I:List IT} {a e:Nat} (h:qV l a e) (hc:∀ k,a<=k->k<e->iA I k=iA l k):qV I a e:=by
 obtain⟨h1,ρ,h2⟩:=h;exact⟨h1,ρ,λk M J=>by unfold JT;rw[hc k M J];exact h2 k M J⟩
theorem qV.app {l:List IT} {a b c:Nat} (h:qV l a b) (k:qV l b c):qV l a c:=by
 obtain⟨h1,ρ,h2⟩:=h;obtain⟨k1,σ,k2⟩:=k;refine ⟨by omega,λk=>if k<b then ρ k+(c-b) else σ k,λk Y U=>?_⟩;by_cases hk:k<b
 .obtain⟨J,M,q3,q4⟩:=h2 k Y hk;simp only[aE hk];refine ⟨by omega,by omega,?_,λI=>?_⟩
  .intro I;simp only[aE hk];obtain⟨k',e,r⟩:=q3 I;refine ⟨k',e,?_⟩;rcases r with r|⟨r1,r2,r3⟩
   .subst r;by_cases hc:k'=c
    .exact .inl hc
    .have:=(k2 k' (bV _) (by omega)).2.1;rw[ay (Cz _)];exact .inr ⟨by omega,by omega,by omega⟩
   .rw[aE r2];exact .inr ⟨r1,by omega,by omega⟩
  .rcases q4 I with r|r
   .by_cases hc:k+1=c
    .exact .inl hc
    .have:=(k2 (k+1) (by omega) (by omega)).2.1;rw[ay (by omega)];exact .inr (by omega)
   .by_cases hb:k+1<b
    .rw[aE hb];exact .inr (by omega)
    .rw[ay hb];by_cases hc:k+1=c
     .exact .inl hc
     .have:=(k2 (k+1) (by omega) (by omega)).2.1;exact .inr (by omega)
 .obtain⟨J,M,q3,q4⟩:=k2 k (by omega) U;simp only[ay hk];refine ⟨J,by omega,?_,λI=>?_⟩
  .intro I;simp only[ay hk];obtain⟨k',e,r⟩:=q3 I;refine ⟨k',e,r.imp id λ⟨r1,r2,r3⟩=>⟨by omega,r2,?_⟩⟩;rw[ay (by omega)];exact r3
  .rw[ay (by omega)];exact q4 I
theorem qV.ite {l:List IT} {a j e:Nat} (h:qV l a j) (hj:(iA l j).1=5) (U:(iA l j).2.1=(e:Int)) (k:qV l (j+1) e):qV l a e:=by
 obtain⟨h1,ρ,h2⟩:=h;obtain⟨k1,σ,k2⟩:=k;refine ⟨by omega,λk=>if k<j then ρ k+(e-j) else if k=j then e-j else σ k,λk Z Y=>?_⟩;by_cases hk:k<j
 .obtain⟨J,M,q3,q4⟩:=h2 k Z hk;simp only[aE hk];refine ⟨by omega,by omega,?_,λI=>?_⟩
  .intro I;simp only[aE hk];obtain⟨k',e',r⟩:=q3 I;refine ⟨k',e',.inr ?_⟩;rcases r with r|⟨r1,r2,r3⟩
   .rw[r,ay (Cz _),aE rfl];exact⟨by omega,by omega,by omega⟩
   .rw[aE r2];exact⟨r1,by omega,by omega⟩
  .refine .inr ?_;by_cases hb:k+1<j
   .rw[aE hb];rcases q4 I with r|r<;>omega
   .rw[ay hb,aE (by omega)];omega
 .by_cases hkj:k=j
  .subst hkj;simp only[ay hk,aE];exact⟨by omega,by omega,λ_=>⟨e,U,.inl rfl⟩,λI=>by rw[hj] at I;omega⟩
  .obtain⟨J,M,q3,q4⟩:=k2 k (by omega) Y;simp only[ay hk,ay hkj];refine ⟨J,by omega,?_,λI=>?_⟩
   .intro I;simp only[ay hk,ay hkj];obtain⟨k',e',r⟩:=q3 I;refine ⟨k',e',r.imp id λ⟨r1,r2,r3⟩=>⟨by omega,r2,?_⟩⟩;rw[ay (by omega),ay (by omega)];exact r3
   .rw[ay (by omega),ay (by omega)];exact q4 I
theorem qV.whl {l:List IT} {a c j:Nat} (h:qV l a c) (hc:(iA l c).1=10) (k:qV l (c+1) j) (hj:(iA l j).1=5) (Y:(iA l j).2.1=(a:Int)):qV l a (j+1):=by
 obtain⟨h1,ρ,h2⟩:=h;obtain⟨k1,σ,k2⟩:=k;refine ⟨by omega,λk=>if k<c then ρ k+1 else if k=c then 1 else if k<j then σ k+(c-a)+2 else c-a+2,λk Z g2=>?_⟩;by_cases hk:k<c
 .obtain⟨U,M,q3,q4⟩:=h2 k Z hk;simp only[aE hk];refine ⟨by omega,by omega,?_,λI=>?_⟩
  .intro I;simp only[aE hk];obtain⟨k',e',r⟩:=q3 I;refine ⟨k',e',.inr ?_⟩;rcases r with r|⟨r1,r2,r3⟩
   .rw[r,ay (Cz _),aE rfl];exact⟨by omega,by omega,by omega⟩
   .rw[aE r2];exact⟨r1,by omega,by omega⟩
  .refine .inr ?_;by_cases hb:k+1<c
   .rw[aE hb];rcases q4 I with r|r<;>omega
   .rw[ay hb,aE (by omega)];omega
 .by_cases hkc:k=c
  .subst hkc;simp only[ay hk,aE];exact⟨by omega,by omega,λI=>by rw[hc] at I;omega,λI=>by rw[hc] at I;omega⟩
  .simp only[ay hk,ay hkc];by_cases hkj:k<j
   .obtain⟨U,M,q3,q4⟩:=k2 k (by omega) hkj;simp only[aE hkj];refine ⟨by omega,by omega,?_,λI=>?_⟩
    .intro I;simp only[ay hk,ay hkc,aE hkj];obtain⟨k',e',r⟩:=q3 I;refine ⟨k',e',.inr ?_⟩;rcases r with r|⟨r1,r2,r3⟩
     .rw[r,ay (by omega),ay (by omega),ay (Cz _)];exact⟨by omega,by omega,by omega⟩
     .rw[ay (by omega),ay (by omega),aE r2];exact⟨by omega,by omega,by omega⟩
    .refine .inr ?_;rw[ay (by omega),ay (by omega)];by_cases hb:k+1<j
     .rw[aE hb];rcases q4 I with r|r<;>omega
     .rw[ay hb];omega
   .have hkj:k=j:=by omega
    subst hkj;simp only[ay (Cz _)];refine ⟨by omega,by omega,λ_=>⟨a,Y,.inr ⟨bV _,by omega,?_⟩⟩,λI=>by rw[hj] at I;omega⟩;simp only[ay hk,ay hkc,ay (Cz _)];by_cases J:a<c
    .rw[aE J];have:=(h2 a (bV _) J).2.1;omega
    .rw[ay J,aE (by omega)];omega
def OB (nT:Nat) (i:IT):Prop:=
 if i.1=6 then 0<=i.2.2.1/\i.2.2.1<=2 else if i.1=8 then 0<=i.2.1/\i.2.1<=2 else if i.1=7 then i.2.2.1=3/\i.2.2.2.2.1=2 else if i.1=9 then i.2.1=3/\i.2.2.2.2.1=2 else if i.1=11\/i.1=12 then i.2.1=0\/i.2.1=1 else if 13<=i.1/\i.1<=16 then i.2.1=2 else if 21<=i.1/\i.1<=23 then i.2.1=0 else if i.1=24\/i.1=25 then 0<=i.2.1/\i.2.1<(nT:Int) else if i.1=26 then i.2.1=0 else if i.1=27 then i.2.2.1=0 else if i.1=4 then 6<=i.2.2.2.2.1/\i.2.2.2.2.1<=18 else ¬i.1=3
structure GO (nT:Nat) (i:IT):Prop where
 o1:1<=i.1
 o2:i.1<=27
 r:∀ j:Int,j∈iO i->0<=j/\j<32
 b:OB nT i
def SO (ss:List (Int×Int×Int)) (t s:Int):Prop:=0<=s/\s<ss.length/\(aK (T:=yd) ss s).1=t
structure GI (nT:Nat) (ss:List (Int×Int×Int)) (t:Int) (i:IT):Prop where
 o:GO nT i
 s:SO ss t i.2.2.2.2.2
theorem UI (l:List IT) (hl:l.length<=1000000) (h1:1<=l.length) (hb:qV l 0 (l.length-1)) (he:(iA l (l.length-1)).1=28) (k:Nat) (hk:k<l.length):pn (l,(k:Int))=af ai:=by
 obtain⟨_,ρ,hρ⟩:=hb;refine ci ?_;unfold pn be bz iW bB aZ cK aF cD;refine qe (λx=>((l.length:Int)+1-x.2).toNat) (λx=>0<=x.2/\∃ q:Nat,x.1=(q:Int)/\q<l.length/\((if q<l.length-1 then ρ q else 0:Nat):Int)+x.2<=(l.length:Int)) ?_ ⟨by dsimp only;omega,k,rfl,hk,?_⟩
 .rintro⟨a,(n:Int)⟩ ⟨n0,q,e,hq,hr⟩;dsimp only at n0 e hr;subst e;refine eZ (λ_=>?_) λg=>(by dsimp only[au] at g;omega)
  refine gj ?_;refine gj (bI (λg=>by dsimp only at g;omega) λ_=>ar ?_);refine fJ (by rw[l9];dsimp only[au];omega) ?_;refine bX (aR ?_);refine aT (FE _) ?_;refine dN (λ_=>ar rfl) λhs=>?_
  have hs:1<=(iA l q).1/\(iA l q).1<=5:=bi hs;have J:q<l.length-1:=vK λh=>by rw[show q=l.length-1 by omega] at hs;rw[he] at hs;omega
  obtain⟨r1,r2,r3,Z⟩:=hρ q (jT _) J;rw[aE J] at hr;refine bX (aR ?_);have fin:∀ I:Nat,I=l.length-1\/I<l.length-1/\ρ I<ρ q->0<=n+1/\∃ M:Nat,(I:Int)=(M:Int)/\M<l.length/\((if M<l.length-1 then ρ M else 0:Nat):Int)+(n+1)<=(l.length:Int):=λI h=>⟨by omega,I,rfl,by omega,by
   rcases h with h|⟨h,h'⟩
   .rw[ay (by omega)];omega
   .rw[aE h];omega⟩
  refine aJ (λU=>?_) λU=>ar (ar ?_)
  .obtain⟨I,e,Y⟩:=r3 U;refine aS (dT _) (by dsimp only;omega) (aR (ar (ar ?_)));dsimp only;rw[ig (n:=n+1) (by omega) (by omega)];have:=fin I (Y.imp id λh=>⟨h.2.1,h.2.2⟩);rw[<- e] at this;exact⟨this,by omega⟩
  .dsimp only;have U:¬(iA l q).1=5:=U;rw[ig (n:=n+1) (by omega) (by omega),gy (by omega)];refine ⟨fin (q+1) ?_,by omega⟩;rcases Z (by omega) with h|h
   .exact .inl h
   .by_cases hb:q+1=l.length-1
    .exact .inl hb
    .exact .inr ⟨by omega,h⟩
 .dsimp only;split
  .rename_i h;have:=(hρ k (jT _) h).2.1;omega
  .omega
theorem KX (w:WT) (I:w.1=C0):m_ (w,3,2)=af ai:=by
 refine ci ?_;have h0:(0:Int)<=3:=by decide
 have h1:(3:Int)<(w.1.length:Int):=by rw[I];decide
 have J:aK (T:=Qb) w.1 3=([113],0,2,aj,0):=by rw[I];rfl
 unfold m_ be iV bB aZ aF;refine gj (aT (r9 _ _) (aJ (λ_=>?_) λh=>(h ⟨h0,h1⟩).elim));dsimp only;rw[J];refine aS h0 h1 (aR (aJ (λ_=>?_) λh=>(h rfl).elim));refine aS h0 h1 (aR (b8 (λ_=>?_) λh=>cR h (by decide)));exact aS h0 h1 (aR (ar (ar rfl)))
theorem Oo {nT:Nat} (w:WT) (i:IT) (hw:WX w) (hT:w.2.2.2.2.1.length=nT) (hb:OB nT i):lH (w,i)=af ai:=by
 obtain⟨hc,hl,hd,hf,_,_,_⟩:=hw;refine ci ?_;unfold lH aY bh bx cC dW be iW bB aZ aF;unfold OB at hb;simp only[r9,Xl];refine aJ (λh=>?_) λn6=>?_
 .rw[aE h] at hb;have J:(aK (T:=Qb) w.1 i.2.2.1).2.2.1=(0:Int):=by
   rw[hc];rcases (by omega:i.2.2.1=0\/i.2.2.1=1\/i.2.2.1=2) with h|h|h<;>rw[h]<;>rfl
  have hi:0<=i.2.2.1/\i.2.2.1<(w.1.length:Int):=⟨hb.1,by rw[hc];have:=hb.2;show i.2.2.1<5;omega⟩
  exact gj (aJ (λ_=>aS hi.1 hi.2 (aR (ar (ar (aQ J))))) λh=>(h hi).elim)
 rw[ay n6] at hb;refine aJ (λh=>?_) λZ=>?_
 .rw[aE h] at hb;have J:(aK (T:=Qb) w.1 i.2.1).2.2.1=(0:Int):=by
   rw[hc];rcases (by omega:i.2.1=0\/i.2.1=1\/i.2.1=2) with h|h|h<;>rw[h]<;>rfl
  have hi:0<=i.2.1/\i.2.1<(w.1.length:Int):=⟨hb.1,by rw[hc];have:=hb.2;show i.2.1<5;omega⟩
  exact gj (aJ (λ_=>aS hi.1 hi.2 (aR (ar (ar (aQ J))))) λh=>(h hi).elim)
 rw[ay Z] at hb;refine aJ (λh=>?_) λn7=>?_
 .rw[aE h] at hb;rw[hb.1,hb.2];exact aT (KX w hc) (ar rfl)
 rw[ay n7] at hb;refine aJ (λh=>?_) λY=>?_
 .rw[aE h] at hb;rw[hb.1,hb.2];exact aT (KX w hc) (ar rfl)
 rw[ay Y] at hb;refine aX (λx=>x.2=(w,i)/\(x.1=ai↔i.1=11\/i.1=12)) (aJ (λh=>ar ⟨rfl,λ_=>.inl h,λ_=>aQ h⟩) λh=>ar ⟨rfl,λh2=>.inr (bi h2),λh2=>aQ (h2.resolve_left h)⟩) ?_;rintro⟨b,x⟩ ⟨e,M⟩;dsimp only at e M;subst e;refine aO (λh=>?_) λh=>?_
 .rw[aE (M.1 h)] at hb;have J:(aK (T:=Uk) w.2.1 i.2.1).2=aj:=by
   rw[hl];rcases hb with h|h<;>rw[h]<;>rfl
  have hi:0<=i.2.1/\i.2.1<(w.2.1.length:Int):=⟨by omega,by rw[hl];show i.2.1<3;omega⟩
  exact gj (aJ (λ_=>aS hi.1 hi.2 (aR (ar (ar (by dsimp only;rw[J];rfl))))) λh=>(h hi).elim)
 rw[ay λh2=>by rw[M.2 h2] at h;cases h] at hb;have hj:∀ {p:Prop} {b:Bool},(b=ai->p)->(p->b=ai)->b=aj->¬p:=λ_ h2 U I=>by rw[h2 I] at U;cases U
 refine aX (λx=>x.2=(w,i)/\(x.1=ai->13<=i.1/\i.1<=16)/\(13<=i.1/\i.1<=16->x.1=ai)) (aJ (λh=>ar ⟨rfl,λ_=>by first|omega|(dsimp only at h;omega),λ_=>aQ h⟩) λ_=>aJ (λh=>ar ⟨rfl,λ_=>by first|omega|(dsimp only at h;omega),λ_=>aQ h⟩) λ_=>aJ (λh=>ar ⟨rfl,λ_=>by first|omega|(dsimp only at h;omega),λ_=>aQ h⟩) λ_=>ar ⟨rfl,λh=>by have:=bi h;first|omega|(dsimp only at this;omega),λh=>aQ (by first|omega|(dsimp only at *;omega))⟩) ?_;rintro⟨b,x⟩ ⟨e,h1,h2⟩;dsimp only at e h1 h2;subst e;refine aO (λh=>?_) λh=>?_
 .rw[aE (h1 h)] at hb;have hi:0<=i.2.1/\i.2.1<(w.2.1.length:Int):=⟨by omega,by rw[hl];show i.2.1<3;omega⟩
  exact gj (aJ (λ_=>aS hi.1 hi.2 (aR (ar (ar (by dsimp only;rw[hb,hl];rfl))))) λh=>(h hi).elim)
 rw[ay (hj h1 h2 h)] at hb;refine aX (λx=>x.2=(w,i)/\(x.1=ai->21<=i.1/\i.1<=23)/\(21<=i.1/\i.1<=23->x.1=ai)) (aJ (λh=>ar ⟨rfl,λ_=>by first|omega|(dsimp only at h;omega),λ_=>aQ h⟩) λ_=>aJ (λh=>ar ⟨rfl,λ_=>by first|omega|(dsimp only at h;omega),λ_=>aQ h⟩) λ_=>ar ⟨rfl,λh=>by have:=bi h;first|omega|(dsimp only at this;omega),λh=>aQ (by first|omega|(dsimp only at *;omega))⟩) ?_;rintro⟨b,x⟩ ⟨e,h1,h2⟩;dsimp only at e h1 h2;subst e;refine aO (λh=>?_) λh=>?_
 .rw[aE (h1 h)] at hb;exact ar (aQ ⟨by dsimp only;omega,by dsimp only;rw[hd];show i.2.1<1;omega⟩)
 rw[ay (hj h1 h2 h)] at hb;refine aX (λx=>x.2=(w,i)/\(x.1=ai->i.1=24\/i.1=25)/\(i.1=24\/i.1=25->x.1=ai)) (aJ (λh=>ar ⟨rfl,λ_=>.inl h,λ_=>aQ h⟩) λh=>ar ⟨rfl,λh2=>.inr (bi h2),λh2=>aQ (h2.resolve_left h)⟩) ?_;rintro⟨b,x⟩ ⟨e,h1,h2⟩;dsimp only at e h1 h2;subst e;refine aO (λh=>?_) λh=>?_
 .rw[aE (h1 h)] at hb;exact ar (aQ ⟨hb.1,by dsimp only;rw[hT];exact hb.2⟩)
 rw[ay (hj h1 h2 h)] at hb;refine aJ (λh=>?_) λn=>?_
 .rw[aE h] at hb;exact ar (aQ ⟨by dsimp only;omega,by dsimp only;rw[hf];show i.2.1<1;omega⟩)
 rw[ay n] at hb;refine aJ (λh=>?_) λn=>?_
 .rw[aE h] at hb;exact ar (aQ ⟨by dsimp only;omega,by dsimp only;rw[hf];show i.2.2.1<1;omega⟩)
 rw[ay n] at hb;by_cases I:i.1=4
 .rw[aE I] at hb;refine aJ (λh=>by have h:i.1=3:=h;omega) λ_=>aJ (λ_=>?_) λh=>(h I).elim
  refine gj (eZ (λ_=>ar (ar (OF.2 hb.2))) λh=>by dsimp only at h;omega)
 .rw[ay I] at hb;exact aJ (λh=>(hb h).elim) λ_=>aJ (λh=>(I h).elim) λ_=>ar rfl
structure GC (nT:Nat) (ss:List (Int×Int×Int)) (k:Int) (c:Int×List IT):Prop where
 r0:1<=c.1
 r1:c.1<=32
 n:1<=c.2.length
 u:c.2.length<=1000000
 e:(iA c.2 (c.2.length-1)).1=28/\(iA c.2 (c.2.length-1)).2.2.2.2.2= -1
 b:qV c.2 0 (c.2.length-1)
 i:∀ q:Nat,q<c.2.length-1->GI nT ss k (iA c.2 q)
 r:∀ q:Nat,q<c.2.length-1->(iA c.2 q).1=10->0<=(iA c.2 q).2.2.1/\(iA c.2 q).2.2.1<(c.2.length:Int)
 g:∀ q:Nat,q<c.2.length-1->∀ j:Int,j∈iO (iA c.2 q)->j<c.1
theorem Ep {nT:Nat} {w:WT} {k:Int} {c:Int×List IT} (hw:WX w) (hT:w.2.2.2.2.1.length=nT) (hc:GC nT w.2.2.2.2.2 k c):ip (w,k,c)=af ai:=by
 obtain⟨r0,r1,n1,hu,he,hb,hi,hr,hg⟩:=hc;refine ci ?_;unfold ip aY bh bx cC bL cX qa be bz iV bB aZ cK aF cD;refine aX (λx=>x.2=(w,c)/\x.1=aj) ?_ ?_
 .refine bI (λh=>by have h:c.1<0:=h;omega) λ_=>bI (λh=>by have h:32<c.1:=h;omega) λ_=>ar ⟨rfl,bw λh=>by have h:aP c.2.length=0:=h;dsimp only[au] at h;omega⟩
 rintro⟨b,x⟩ ⟨e,Y⟩;dsimp only at e Y;subst e;subst Y;refine gz ?_;refine bZ c.2.length (λi x=>x.1=(i:Int)/\x.2=(w,c)) ?_ ?_ ⟨rfl,rfl⟩
 .rintro i ⟨a,x⟩ hi2 ⟨e1,e2⟩;dsimp only at e1 e2;subst e1;subst e2;have hla:=UI c.2 hu n1 hb he.1 i hi2;have Z:∀ z:IT,z=iA c.2 i->(i<c.2.length-1->GI nT w.2.2.2.2.2 k z/\(z.1=10->0<=z.2.2.1/\z.2.2.1<(c.2.length:Int))/\(z.1=5->0<=z.2.1/\z.2.1<(c.2.length:Int))/\∀ j:Int,j∈iO z->j<c.1)/\(i=c.2.length-1->z.1=28/\z.2.2.2.2.2= -1):=λz Z=>by
   subst Z;refine ⟨λh=>⟨hi i h,hr i h,λh5=>?_,hg i h⟩,λh=>by rw[h];exact he⟩;obtain⟨_,ρ,hρ⟩:=hb;obtain⟨q',e,hq'⟩:=(hρ i (jT _) h).2.2.1 h5;rw[e];omega
  refine db ?_;refine bX (aR ?_);generalize hzz:(aK (T:=BO) c.2 (i:Int))=z;obtain⟨I,J⟩:=Z z hzz.symm;have hcs:i<c.2.length-1\/i=c.2.length-1:=by omega
  have o1:1<=z.1:=by
   rcases hcs with h|h
   .exact (I h).1.o.o1
   .rw[(J h).1];decide
  have o2:z.1<=28:=by
   rcases hcs with h|h
   .exact Int.le_trans (I h).1.o.o2 (by decide)
   .rw[(J h).1];decide
  have M:z.1=28->i=c.2.length-1:=λh=>hcs.resolve_left λg=>by have:=(I g).1.o.o2;rw[h] at this;exact cR this (by decide)
  have hob:OB nT z:=by
   rcases hcs with h|h
   .exact (I h).1.o.b
   .unfold OB;rw[(J h).1];simp
  have hrg:∀ j:Int,j∈iO z->0<=j/\j<c.1:=λj hj=>by
   rcases hcs with h|h
   .exact⟨((I h).1.o.r j hj).1,(I h).2.2.2 j hj⟩
   .unfold iO at hj;rw[(J h).1] at hj;simp at hj
  have hwr:bk .i64 (aP c.2.length-1)=((c.2.length-1:Nat):Int):=by rw[ig (by dsimp only[au];omega) (by dsimp only[au];omega)];dsimp only[au];omega
  have hcd:((decide (z.1=28)==decide ((i:Int)=bk .i64 (aP c.2.length-1))) !=ai)=aj:=by
   rw[hwr];rcases hcs with h|h
   .rw[bw λh2=>by have:=M h2;omega,bw (by omega:¬(i:Int)=((c.2.length-1:Nat):Int))];rfl
   .rw[aQ (J h).1,aQ (by omega:(i:Int)=((c.2.length-1:Nat):Int))];rfl
  refine aX (λx=>x=(aj,w,c,z)) ?_ ?_
  .refine bI (λh=>cR h (Cv.2 o1)) λ_=>bI (λh=>cR h (Cv.2 o2)) λ_=>fJ hcd ?_
   refine aT (Oo w z hw hT hob) (fJ rfl (aT hla (ar rfl)))
  rintro x rfl;refine gz (aX (λx=>x=(aj,w,c,z)) ?_ ?_)
  .simp only[r9,Xl];refine aJ (λh=>?_) λh=>?_
   .have h5:=(J (M h)).2;exact b8 (λg=>(g h5).elim) λ_=>b8 (λg=>(g h).elim) λ_=>ar rfl
   .have hsi:=(I (hcs.resolve_right λg=>h (J g).1)).1.s;refine b8 (λ_=>b8 (λg=>(g ⟨hsi.1,hsi.2.1⟩).elim) λg=>aS g.1 g.2 (aR (ar ?_))) λg=>(h g).elim
    rw[aQ hsi.2.2];rfl
  rintro x rfl;refine gz (aX (λx=>x=(aj,w,c,z)) ?_ ?_)
  .simp only[r9,Xl];have U:z.1=5\/z.1=10->i<c.2.length-1:=λh=>hcs.resolve_right λg=>by rw[(J g).1] at h;exact cR h (by decide)
   refine aJ (λh=>?_) λh=>?_
   .have h2:=(I (U (.inl h))).2.2.1 h;refine b8 (λg=>(g h2).elim) λ_=>aJ (λg=>?_) λ_=>ar rfl
    rw[h] at g;exact cR g (by decide)
   .refine aJ (λg=>ar ?_) λ_=>ar rfl
    have h2:=(I (U (.inr g))).2.1 g;rw[aQ (show 0<=z.2.2.1/\z.2.2.1<aP c.2.length from h2)];rfl
  rintro x rfl;refine gz (aT (tS z) ?_);have hrl:=CU z;refine bZ (iO z).length (λj x=>x=((j:Int),w,c)) ?_ ?_ rfl
  .rintro j x hj rfl;refine db ?_;refine bX (aR ?_);refine aT (r9 _ _) (b8 (λg=>(g (hrg _ (bJ (T:=.int .i64) (xs:=iO z) (j:=(j:Int)) (by omega) (by omega)))).elim) λ_=>ar ?_);dsimp only;rw[gy (by omega)]
  .rintro x rfl;exact dc (ar ⟨gy (by omega),rfl⟩)
 .rintro⟨a,x⟩ ⟨e1,e2⟩;dsimp only at e1 e2;subst e1;subst e2;exact dc (ar rfl)
abbrev GN:Type:=List (List UInt8×Int×Int×Bool×Int)×List (List UInt8×Bool)×List (List UInt8×Int)×List (List UInt8)×List (List UInt8)×List (Int×Int×Int)×List (List UInt8)×Int×Int
theorem M2 (l:List (List UInt8×Bool)) (s:List UInt8) (hl:l.length<=1000):Ok (kf (l,s)) λr=> -1<=r/\r<l.length/\(0<=r->(aK (T:=Uk) l r).1=s)/\(r<0->∀ c∈l,c.1≠s):=by
 unfold kf bz bB aZ cK aF cD;refine bZ l.length (λi x=>x=(i:Int)/\∀ k:Nat,k<i->(aK (T:=Uk) l (k:Int)).1≠s) ?_ ?_ ⟨rfl,λk hk=>by omega⟩
 .rintro i x hi ⟨rfl,I⟩;refine db ?_;refine bX (aR ?_);refine aJ (λh=>ar ⟨by omega,by omega,λ_=>h,λh=>by omega⟩) λh=>ar ⟨gy (by omega),λk hk=>?_⟩
  rcases b_ k i with h1|h1
  .exact I k h1
  .rw[show k=i by omega];exact h
 .rintro x ⟨rfl,I⟩;exact dc (ar ⟨by omega,by omega,λh=>by omega,λ_=>iv (T:=Uk) (p:=λc=>c.1≠s) I⟩)
theorem ahy {r:Int} {s:List UInt8} (h: -1<=r/\r<G9.length/\(0<=r->(aK (T:=Uk) G9 r).1=s)/\(r<0->∀ c∈G9,c.1≠s)):(s=[109]->r=0)/\(s=[110]->r=1)/\(s=[114]->r=2):=by
 obtain⟨h0,h1,h2,I⟩:=h;have h1:r<3:=h1;rcases (by omega:r= -1\/r=0\/r=1\/r=2) with rfl|rfl|rfl|rfl
 .have I:=I (by decide);exact⟨λh=>(I ([109],aj) (by decide) h.symm).elim,λh=>(I ([110],aj) (by decide) h.symm).elim,λh=>(I ([114],ai) (by decide) h.symm).elim⟩
 .have h2:[109]=s:=h2 (by decide);subst h2;exact⟨λ_=>rfl,λh=>(by cases h),λh=>(by cases h)⟩
 .have h2:[110]=s:=h2 (by decide);subst h2;exact⟨λh=>(by cases h),λ_=>rfl,λh=>(by cases h)⟩
 .have h2:[114]=s:=h2 (by decide);subst h2;exact⟨λh=>(by cases h),λh=>(by cases h),λ_=>rfl⟩
theorem AB (w:WT) (s:List UInt8) (J:w.1=C0):Ok (lw (w,s)) λr=>(s∈NV->s∉L0->0<=r/\r<=2)/\(s=[113]->r=3):=by
 have hl:w.1.length=5:=by rw[J];rfl
 unfold lw bz bB aZ cK aF cD;refine bZ w.1.length (λi x=>x.1=(i:Int)/\x.2=w/\∀ k:Nat,k<i->(aK (T:=Qb) w.1 (k:Int)).1≠s) ?_ ?_ ⟨rfl,rfl,λk hk=>by omega⟩
 .rintro i ⟨a,x⟩ hi ⟨e1,e2,e3⟩;dsimp only at e1 e2 e3;subst e1;have e2:=e2.symm;subst e2;refine db ?_;refine bX (aR ?_);refine aJ (λh=>ar ?_) λg=>ar ?_
  .rw[J] at h e3;rw[hl] at hi;rcases (by omega:i=0\/i=1\/i=2\/i=3\/i=4) with rfl|rfl|rfl|rfl|rfl
   .have h:[120]=s:=h;subst h;exact⟨λ_ _=>⟨by dsimp only;omega,by dsimp only;omega⟩,λh=>(by cases h)⟩
   .have h:[121]=s:=h;subst h;exact⟨λ_ _=>⟨by dsimp only;omega,by dsimp only;omega⟩,λh=>(by cases h)⟩
   .have h:[118]=s:=h;subst h;exact⟨λ_ _=>⟨by dsimp only;omega,by dsimp only;omega⟩,λh=>(by cases h)⟩
   .have h:[113]=s:=h;subst h;exact⟨λh=>cR h (by decide),λ_=>rfl⟩
   .have h:[113]=s:=h;exact (e3 3 (by omega) h).elim
  .refine ⟨gy (by omega),rfl,λk hk=>?_⟩;rcases b_ k i with h1|h1
   .exact e3 k h1
   .rw[show k=i by omega];exact g
 .rintro⟨a,x⟩ ⟨e1,e2,e3⟩;dsimp only at e1 e2 e3;subst e1;have e2:=e2.symm;subst e2;refine dc (ar ?_);have hn:=iv (T:=Qb) (p:=λc=>c.1≠s) e3;rw[J] at hn;have a1:=hn ([120],0,0,aj,0) (by decide);have a2:=hn ([121],0,0,aj,1) (by decide);have a3:=hn ([118],0,0,ai,0) (by decide);have M:=hn ([113],0,2,aj,0) (by decide);refine ⟨λh I=>?_,λh=>(M h.symm).elim⟩;simp only[bp,cz,gi,L0] at h I;rcases h with rfl|rfl|rfl|rfl|rfl
  .exact (I (.inl rfl)).elim
  .exact (I (.inr rfl)).elim
  .exact (a1 rfl).elim
  .exact (a2 rfl).elim
  .exact (a3 rfl).elim
theorem Iw (i:IT) (g:GN) (out:List IT) (h:out.length<=100000000):Ok (cF (i,g,out)) λy=>y.1=g/\y.2=out++[(i.1,i.2.1,i.2.2.1,i.2.2.2.1,i.2.2.2.2.1,g.2.2.2.2.2.2.2.1)]:=by
 unfold cF aY bh bx kE bC;exact bg (by simp;omega) (by omega) (ar ⟨rfl,rfl⟩)
def VE:Nat->Nat
 |0=>0
 |d+1=>1+2*VE d
theorem I5 {l m:List IT} {k:Nat} (h:k<l.length):iA (l++m) k=iA l k:=by
 unfold iA;rw[yM,yM,aA,aA,bO h]
theorem xD (l:List IT) (x:IT):iA (l++[x]) l.length=x:=by
 unfold iA;rw[yM,aA,ca (bV _)];simp
structure QC (nT:Nat) (ss:List (Int×Int×Int)) (t:Int) (n:Nat) (out o:List IT):Prop where
 l:out.length<=o.length
 u:o.length<=out.length+n
 p:∀ k:Nat,k<out.length->iA o k=iA out k
 b:qV o out.length o.length
 i:∀ k:Nat,out.length<=k->k<o.length->GI nT ss t (iA o k)
 r:∀ k:Nat,out.length<=k->k<o.length->(iA o k).1=10->0<=(iA o k).2.2.1/\(iA o k).2.2.1<=(o.length:Int)
variable {nT:Nat} {ss:List (Int×Int×Int)} {t:Int}
theorem QC.nil (n:Nat) (out:List IT):QC nT ss t n out out:=⟨bV _,by omega,λ_ _=>rfl,qV.nil _ _,λk h1 h2=>by omega,λk h1 h2=>by omega⟩
theorem QC.trans {a b c:Nat} {x y z:List IT} (h:QC nT ss t a x y) (k:QC nT ss t b y z) (hc:a+b<=c):QC nT ss t c x z:=by
 obtain⟨h1,h2,h3,h4,h5,h6⟩:=h;obtain⟨k1,k2,I,k4,Z,Y⟩:=k;refine ⟨by omega,by omega,λq hq=>(I q (by omega)).trans (h3 q hq),(h4.congr λq _ hq=>I q hq).app k4,λq U M=>?_,λq U M J=>?_⟩
 .by_cases hq:q<y.length
  .rw[I q hq];exact h5 q U hq
  .exact Z q (by omega) M
 .by_cases hq:q<y.length
  .rw[I q hq] at J ⊢;have:=h6 q U hq J;omega
  .exact Y q (by omega) M J
theorem QC.one {out:List IT} {i:IT} (h:GI nT ss t i) (I:¬i.1=5/\¬i.1=10):QC nT ss t 1 out (out++[i]):=by
 have hl:(out++[i]).length=out.length+1:=by rw[bm];rfl
 refine ⟨by omega,by omega,λk hk=>I5 hk,?_,λk h1 h2=>?_,λk h1 h2 J=>?_⟩
 .rw[hl];exact qV.one (by rw[xD];exact I.1)
 .rw[show k=out.length by omega,xD];exact h
 .rw[show k=out.length by omega,xD] at J;exact (I.2 J).elim
structure GK (ss:List (Int×Int×Int)) (t:Int) (g:GN):Prop where
 c:g.1=C0
 l:g.2.2.2.2.2.2.1=L0
 s:SO ss t g.2.2.2.2.2.2.2.1
theorem YR {nT:Nat} {op A B C N Z:Int} (h1:1<=op) (h2:op<=27) (hr:∀ j:Int,j∈iO (op,A,B,C,N,Z)->0<=j/\j<32) (hb:OB nT (op,A,B,C,N,Z)):GO nT (op,A,B,C,N,Z):=⟨h1,h2,hr,hb⟩
theorem Ey {op:Int} {r:Int×Int×Int×Int×Int} {g:GN} {out:List IT} (h:out.length<=100000000) (hg:GK ss t g) (hi:GO nT (op,r)) (J:¬op=5/\¬op=10):Ok (cF ((op,r),g,out)) λy=>y.1=g/\QC nT ss t 1 out y.2:=(Iw (op,r) g out h).mono λy I=>⟨I.1,by rw[I.2];exact QC.one ⟨⟨hi.o1,hi.o2,hi.r,hi.b⟩,hg.s⟩ J⟩
theorem M_:∀ (n d:Nat),d<n->∀ (e:Xp) (k:Int) (g:GN) (out:List IT),GE d e->GK ss t g->0<=k->k+d<=31->out.length+VE d<=100000000->Ok (iK n ((e,k),g,out)) λy=>y.1=g/\QC nT ss t (VE d) out y.2
 |0,_,h,_,_,_,_,_,_,_,_,_=>by omega
 |n+1,0,_,e,_,_,_,h,_,_,_,_=>h.elim
 |n+1,d+1,hn,e,k,g,out,h,hg,k0,k1,hb=>by
  obtain⟨h1,h2,h3,h4,h5,h6⟩:=h;obtain⟨gc,gl,gs⟩:=id hg;have hv:VE (d+1)=1+2*VE d:=rfl;rw[AT];unfold qF aY bh bx cC dW be iW bC bB aF cD;refine aX (λy=>y.1=g/\QC nT ss t (VE (d+1)) out y.2) ?_ λx hx=>ar hx
  have fin:∀ {y:GN×List IT},(y.1=g/\QC nT ss t 1 out y.2)->y.1=g/\QC nT ss t (VE (d+1)) out y.2:=λh=>⟨h.1,(QC.nil 0 out).trans h.2 (by omega)⟩
  refine aJ (λ_=>?_) λn1=>?_
  .refine ax (Ey (nT:=nT) (by omega) hg (YR (by decide) (by decide) (by simp[iO];omega) ((by decide:¬(1:Int)=3))) (by decide)) λy I=>bf (by simp) (ar (fin I))
  refine aJ (λZ=>?_) λZ=>?_
  .refine ax (yH _ _ (by dsimp only;rw[gl];decide)) λv hv=>eZ (λg0=>?_) λg0=>?_
   .have J:=hv.2.1;dsimp only at J g0;rw[gl] at J;have J:v<2:=J;refine ax (Ey (nT:=nT) (by omega) hg (YR (by decide) (by decide) (by simp[iO];omega) ((by decide:¬(2:Int)=3))) (by decide)) λy I=>bf (by simp) (ar (fin I))
   .have J:=hv.2.2.2 g0;dsimp only at J;rw[gl] at J;refine ax (AB _ _ gc) λv Y=>?_
    have v2:=Y.1 (h5 Z) J;refine ax (Ey (nT:=nT) (by omega) hg (YR (by decide) (by decide) (by simp[iO];omega) (v2)) (by decide)) λy I=>bf (by simp) (ar (fin I))
  have hl:=h2 n1 Z;have hrec:∀ (j:Nat),j<e.l.length->∀ (k':Int) (o:List IT),0<=k'->k'+d<=31->o.length+VE d<=100000000->Ok (iK n ((aK (T:=.ex) e.l (j:Int),k'),g,o)) λy=>y.1=g/\QC nT ss t (VE d) o y.2:=λj hj k' o q0 U ho=>M_ n d (by omega) _ k' g o (h4 _ (bJ (T:=.ex) (xs:=e.l) (j:=(j:Int)) (by omega) (by omega))) hg q0 U ho
  refine aJ (λn3=>?_) λn3=>?_
  .refine bX (aR ?_);refine ax (hrec 0 hl k out k0 (by omega) (by omega)) λy I=>?_
   obtain⟨g2,o2⟩:=y;obtain⟨U,M⟩:=I;dsimp only at U M;subst U;have q3:=M.u;refine bf (by simp) ?_;refine ax (AB _ _ gc) λv Y=>?_
   have v3:=Y.2 (h1 n3);have v3:v=3:=v3;subst v3;refine aS (by decide) (by dsimp only;rw[gc];decide) (aR ?_);refine ax (Ey (nT:=nT) (by omega) hg (YR (by decide) (by decide) (by simp[iO];omega) (⟨rfl,by dsimp only;rw[gc];rfl⟩)) (by decide)) λy I=>bf (by simp) (ar ⟨I.1,M.trans I.2 (by omega)⟩)
  obtain⟨h7,h8,h9⟩:=h6 n1 Z n3;refine aJ (λn4=>?_) λn4=>?_
  .dsimp only[au] at n4;omega
  .have hl2:1<e.l.length:=by omega
   refine bX (aR ?_);refine ax (hrec 0 hl k out k0 (by omega) (by omega)) λy I=>?_
   obtain⟨g2,o2⟩:=y;obtain⟨U,M⟩:=I;dsimp only at U M;subst U;have q3:=M.u;refine bf (by simp) ?_;refine bX (aR ?_);dsimp only;rw[ig (n:=k+1) (by omega) (by omega)];refine ax (hrec 1 hl2 _ o2 (by omega) (by omega) (by omega)) λy I=>?_
   obtain⟨g3,o3⟩:=y;obtain⟨r1,r2⟩:=I;dsimp only at r1 r2;subst r1;have r3:=r2.u;refine bf (by simp) ?_;refine ax (Ey (nT:=nT) (by omega) hg (YR (by decide) (by decide) (by simp[iO];omega) (⟨h8,h9⟩)) (by decide)) λy I=>bf (by simp) (ar ⟨I.1,(M.trans r2 (bV _)).trans I.2 (by omega)⟩)
theorem Uh (e:Xp) (k:Int) (g:GN) (out:List IT) (he:GE 4 e) (hg:GK ss t g) (I:0<=k) (k1:k<=27) (h:out.length<=99999900):Ok (iJ ((e,k),g,out)) λy=>y.1=g/\QC nT ss t 15 out y.2:=M_ fuel 4 (by rw[jQ];omega) e k g out he hg I (by omega) (by have:VE 4=15:=rfl;omega)
structure GB (nT:Nat) (g:GN):Prop where
 c:g.1=C0
 l:g.2.1=G9
 d:g.2.2.1=MF
 f:g.2.2.2.1=TJ
 t:g.2.2.2.2.1=wh.take nT
 h:g.2.2.2.2.2.2.1=L0
structure GQ (g y:GN):Prop where
 a:y.1=g.1
 b:y.2.1=g.2.1
 c:y.2.2.1=g.2.2.1
 d:y.2.2.2.1=g.2.2.2.1
 e:y.2.2.2.2.1=g.2.2.2.2.1
 h:y.2.2.2.2.2.2.1=g.2.2.2.2.2.2.1
theorem GQ.refl (g:GN):GQ g g:=⟨rfl,rfl,rfl,rfl,rfl,rfl⟩
theorem GQ.trans {a b c:GN} (h:GQ a b) (k:GQ b c):GQ a c:=⟨k.a.trans h.a,k.b.trans h.b,k.c.trans h.c,k.d.trans h.d,k.e.trans h.e,k.h.trans h.h⟩
variable {nT:Nat} {ss:List (Int×Int×Int)} {t:Int}
theorem GB.of {g y:GN} (h:GB nT g) (q:GQ g y):GB nT y:=⟨q.a.trans h.c,q.b.trans h.l,q.c.trans h.d,q.d.trans h.f,q.e.trans h.t,q.h.trans h.h⟩
theorem GQ.site (g:GN) (x:List (Int×Int×Int)) (a b:Int):GQ g (g.1,g.2.1,g.2.2.1,g.2.2.2.1,g.2.2.2.2.1,x,g.2.2.2.2.2.2.1,a,b):=⟨rfl,rfl,rfl,rfl,rfl,rfl⟩
abbrev gS (g:GN):Int:=g.2.2.2.2.2.2.2.1
abbrev gN (g:GN):Int:=g.2.2.2.2.2.2.2.2
structure QG (nT:Nat) (ss:List (Int×Int×Int)) (t:Int) (n m:Nat) (g:GN) (out:List IT) (y:GN×List IT):Prop where
 q:GQ g y.1
 c:QC nT ss t n out y.2
 x:gN y.1=gN g+(m:Int)
theorem xw {op:Int} {r:Int×Int×Int×Int×Int} {g:GN} {out:List IT} (h:out.length<=100000000) (hg:GB nT g) (hs:SO ss t (gS g)) (hi:GO nT (op,r)) (I:¬op=5/\¬op=10):Ok (cF ((op,r),g,out)) λy=>y.1=g/\QC nT ss t 1 out y.2:=Ey h ⟨hg.c,hg.h,hs⟩ hi I
theorem CG (e:Xp) (k:Int) (g:GN) (out:List IT) (he:GE 4 e) (hg:GB nT g) (hs:SO ss t (gS g)) (I:0<=k) (k1:k<=27) (h:out.length<=99999000):Ok (iJ ((e,k),g,out)) λy=>y.1=g/\QC nT ss t 15 out y.2:=Uh e k g out he ⟨hg.c,hg.h,hs⟩ I k1 (by omega)
theorem GB.len {g:GN} (h:GB nT g):aP (al g.2.2.2.2.2.2.1)=2:=by rw[h.h];rfl
theorem Wo (s:Sx) (g:GN) (out:List IT) (h1:s.index≠[]->s.name=[113]) (h2:∀ e∈s.index,GE 4 e) (h3:GE 4 s.expr) (h4:s.index=[]->s.name∈NV) (hg:GB nT g) (hs:SO ss t (gS g)) (h:out.length<=99990000):Ok (lZ (s,g,out)) λy=>y.1=g/\QC nT ss t 40 out y.2:=by
 have hex:GE 4 (ec (Xp.op s.expr,Xp.n s.expr,Xp.name s.expr,Xp.l s.expr)):=by rw[fg];exact h3
 have e3:bk .i64 ((2:Int)+1)=3:=ig (by decide) (by decide);unfold lZ aY bh bx cC dW bz iW bC bB aZ;refine bI (λJ=>?_) λJ=>?_
 .dsimp only[au] at J;refine bX (aR ?_);refine ax (CG _ _ g out (h2 _ (bJ (T:=.ex) (xs:=s.index) (j:=0) (by omega) (by omega))) hg hs (by rw[hg.len];decide) (by rw[hg.len];decide) (by omega)) λy I=>?_
  obtain⟨g2,o2⟩:=y;obtain⟨Y,U⟩:=I;dsimp only at Y U;subst Y;have q3:=U.u;refine bf (by simp) ?_;dsimp only;rw[hg.len,e3];refine ax (CG _ _ g2 o2 hex hg hs (by decide) (by decide) (by omega)) λy I=>?_
  obtain⟨g3,o3⟩:=y;obtain⟨r1,r2⟩:=I;dsimp only at r1 r2;subst r1;have r3:=r2.u;refine bf (by simp) ?_;refine ax (AB _ _ hg.c) λv hv=>?_
  have Z:=hv.2 (h1 (λh=>by rw[h] at J;simp at J));have Z:v=3:=Z;subst Z;refine aS (by decide) (by dsimp only;rw[hg.c];decide) (aR ?_);refine ax (xw (by omega) hg hs (YR (by decide) (by decide) (by simp[iO,hg.h,L0]) (⟨rfl,by dsimp only;rw[hg.c];rfl⟩)) (by decide)) λy I=>bf (by simp) (ar ⟨I.1,(U.trans r2 (bV _)).trans I.2 (by omega)⟩)
 .have hi0:s.index=[]:=gM.1 (by dsimp only[au] at J;omega);refine ax (CG _ _ g out hex hg hs (by rw[hg.len];decide) (by rw[hg.len];decide) (by omega)) λy I=>?_
  obtain⟨g2,o2⟩:=y;obtain⟨Y,U⟩:=I;dsimp only at Y U;subst Y;have q3:=U.u;refine bf (by simp) ?_;refine ax (yH _ _ (by dsimp only;rw[hg.h];decide)) λv hv=>eZ (λJ=>?_) λJ=>?_
  .have M:=hv.2.1;dsimp only at M J;rw[hg.h] at M;have M:v<2:=M;refine ax (xw (by omega) hg hs (YR (by decide) (by decide) (by simp[iO,hg.h,L0];omega) ((by decide:¬(2:Int)=3))) (by decide)) λy I=>bf (by simp) (ar ⟨I.1,U.trans I.2 (by omega)⟩)
  .have M:=hv.2.2.2 J;dsimp only at M;rw[hg.h] at M;refine ax (AB _ _ hg.c) λv hv2=>?_
   have v2:=hv2.1 (h4 hi0) M;refine ax (xw (by omega) hg hs (YR (by decide) (by decide) (by simp[iO,hg.h,L0]) (v2)) (by decide)) λy I=>bf (by simp) (ar ⟨I.1,U.trans I.2 (by omega)⟩)
theorem acm (s:List UInt8) (g:GN) (out:List IT) (hg:GB nT g):Ok (jt (s,g,out)) λy=>y.2=(g,out)/\(s=[99]->y.1=0):=by
 have hd:g.2.2.1.length=1:=by rw[hg.d];rfl
 unfold jt aY bz bB aZ cK aF cD;refine bZ 1 (λi x=>x.1=(i:Int)/\x.2=(g,out)/\(s=[99]->i=0)) ?_ ?_ ⟨rfl,rfl,λ_=>rfl⟩
 .rintro i ⟨a,x⟩ hi ⟨e1,e2,e3⟩;dsimp only at e1 e2 e3;subst e1;subst e2;refine db ?_;refine bX (aR ?_);refine aJ (λ_=>ar ⟨rfl,λ_=>by dsimp only;omega⟩) λh=>ar ⟨gy (by omega),rfl,λh2=>?_⟩
  refine (h ?_).elim;dsimp only;rw[hg.d,show i=0 by omega,h2];rfl
 .rintro⟨a,x⟩ ⟨e1,e2,e3⟩;dsimp only at e1 e2 e3;subst e1;subst e2;exact dc (ar ⟨rfl,λh=>by have:=e3 h;omega⟩)
def ME:Nat->Nat
 |0=>0
 |d+1=>50+16*ME d
def SR (ss:List (Int×Int×Int)) (t a:Int) (m:Nat):Prop:=0<=a/\a+m<=1000/\∀ i:Int,a<=i->i<a+m->SO ss t i
def SpG (nT:Nat) (ss:List (Int×Int×Int)) (t:Int) (I:Sx×GN×List IT->Option (GN×List IT)) (d:Nat):Prop:=∀ (s:Sx) (g:GN) (out:List IT),GS nT d s->GB nT g->SR ss t (gN g) (Qf d s)->out.length+ME d<=90000000->Ok (I (s,g,out)) (QG nT ss t (ME d) (Qf d s) g out)
def adk (nT:Nat) (ss:List (Int×Int×Int)) (t:Int) (rs:List Sx×GN×List IT->Option (GN×List IT)) (d:Nat):Prop:=∀ (l:List Sx) (g:GN) (out:List IT),l.length<=100->(∀ s∈l,GS nT d s)->GB nT g->SR ss t (gN g) (nE d l)->out.length+l.length*ME d<=90000000->Ok (rs (l,g,out)) (QG nT ss t (l.length*ME d) (nE d l) g out)
abbrev FS6:Type:=List Sx×GN×List IT->Option (GN×List IT)
abbrev FT6:Type:=Sx×GN×List IT->Option (GN×List IT)
abbrev FA6:Type:=(Sx×Int×Int×Int)×GN×List IT->Option (GN×List IT)
variable {nT:Nat} {ss:List (Int×Int×Int)} {t:Int}
def ake (nT:Nat) (ss:List (Int×Int×Int)) (t:Int) (I:FT6) (d:Nat):Prop:=∀ (s:Sx) (g:GN) (out:List IT),s.op=2\/s.op=3->GE 4 s.expr->s.body.length<=8->s.els.length<=8->(∀ x∈s.body,GS nT d x)->(∀ x∈s.els,GS nT d x)->(¬s.op=2->s.els=[])->GB nT g->SO ss t (gS g)->SR ss t (gN g) (nE d s.body+nE d s.els)->out.length+ME (d+1)<=90000000->Ok (I (s,g,out)) (QG nT ss t (17+16*ME d) (nE d s.body+nE d s.els) g out)
def akf (nT:Nat) (ss:List (Int×Int×Int)) (t:Int) (ra:FA6) (d:Nat):Prop:=∀ (s:Sx) (a b c:Int) (g:GN) (out:List IT),s.body.length<=8->(∀ x∈s.body,GS nT d x)->GO nT (a,c,0,0,0,0)->GO nT (b,c,0,0,0,0)->¬a=5/\¬a=10->¬b=5/\¬b=10->GB nT g->SO ss t (gS g)->SR ss t (gN g) (nE d s.body)->out.length+ME (d+1)<=90000000->Ok (ra ((s,a,b,c),g,out)) (QG nT ss t (17+16*ME d) (nE d s.body) g out)
theorem SR.sub {a b:Int} {m n:Nat} (h:SR ss t a m) (h1:a<=b) (h2:b+n<=a+m):SR ss t b n:=⟨by have:=h.1;omega,by have:=h.2.1;omega,λi J I=>h.2.2 i (by omega) (by omega)⟩
theorem Vl (rs:FS6) (U:FT6) (Z:FT6) (ra:FA6) (d:Nat) (ht:SpG nT ss t U d):adk nT ss t (qG rs U Z ra) d:=by
 intro l g out hl hs hg hso hb;unfold qG bz bC bB aZ cK aF cD;refine bZ l.length (λi x=>x.1=(i:Int)/\QG nT ss t (i*ME d) (nE d (l.take i)) g out x.2) ?_ ?_ ⟨rfl,GQ.refl g,QC.nil _ _,by simp[nE]⟩
 .rintro i ⟨a,Y,o2⟩ hi ⟨e1,J,I,q3⟩;dsimp only at e1 J I q3;subst e1;have hK:(i+1)*ME d<=l.length*ME d:=cH _ (by omega);have hKs:=iR i (ME d);rw[Nat.succ_eq_add_one] at hKs;have hp:=Px (d:=d) l (i+1);rw[w_ hi] at hp;have q4:=I.u;refine db ?_;refine bX (aR ?_);refine ax (ht _ Y o2 (hs _ (bJ (T:=.sm) (xs:=l) (j:=(i:Int)) (by omega) (by omega))) (hg.of J) (hso.sub (by rw[q3];omega) (by rw[q3];dsimp only;omega)) (by omega)) λy M=>bf (by simp) (ar ?_)
  rw[w_ hi];exact⟨gy (by omega),J.trans M.q,I.trans M.c (by omega),by rw[M.x,q3];dsimp only;omega⟩
 .rintro⟨a,Y,o2⟩ ⟨e1,q⟩;dsimp only at e1;subst e1;rw[cP] at q;exact dc (ar q)
theorem RC (rs:FS6) (rt:FT6) (rb:FT6) (ra:FA6) (d:Nat) (hS:adk nT ss t rs d):akf nT ss t (o7 rs rt rb ra) d:=by
 intro s a b c g out h1 h2 ga gb na nb hg hs hso hb;have hm:ME (d+1)=50+16*ME d:=rfl;have kb:s.body.length*ME d<=8*ME d:=cH _ h1;unfold o7 aY bh bx cC dW kE bL qa bC;refine ax (xw (by omega) hg hs ga na) λy I=>?_
 obtain⟨Z,o2⟩:=y;obtain⟨Y,J⟩:=I;dsimp only at Y J;subst Y;have q3:=J.u;refine bf (by simp) ?_;refine ax (hS s.body Z o2 (by omega) h2 hg hso (by omega)) λy I=>?_
 obtain⟨M,o3⟩:=y;obtain⟨r1,r2,r3⟩:=I;dsimp only at r1 r2 r3;have r4:=r2.u;refine bf (by simp) ?_;have U:=r1.trans (GQ.site M M.2.2.2.2.2.1 Z.2.2.2.2.2.2.2.1 M.2.2.2.2.2.2.2.2);refine ax (xw (by dsimp only;omega) (hg.of U) hs gb nb) λy I=>bf (by simp) (ar ⟨?_,?_,?_⟩)
 .rw[I.1];exact U
 .exact (J.trans r2 (bV _)).trans I.2 (by omega)
 .rw[I.1];exact r3
theorem zm {l:List IT} {j k:Nat} {x:IT} (h:j<l.length):iA (cQ l (j:Int) x) k=if k=j then x else iA l k:=Jq (T:=BO) l j k x h
abbrev ptB (l:List IT) (j:Nat) (b:Int):List IT:=cQ l (j:Int) ((iA l j).1,(iA l j).2.1,b,(iA l j).2.2.2.1,(iA l j).2.2.2.2.1,(iA l j).2.2.2.2.2)
abbrev ptA (l:List IT) (j:Nat) (a:Int):List IT:=cQ l (j:Int) ((iA l j).1,a,(iA l j).2.2.1,(iA l j).2.2.2.1,(iA l j).2.2.2.2.1,(iA l j).2.2.2.2.2)
theorem GI.pb {i:IT} {b:Int} (h:GI nT ss t i) (h1:i.1=10):GI nT ss t (i.1,i.2.1,b,i.2.2.2.1,i.2.2.2.2.1,i.2.2.2.2.2):=by
 obtain⟨Z,Y,U,M,J,I⟩:=i;dsimp only at h1;subst h1;exact⟨⟨h.o.o1,h.o.o2,h.o.r,(by decide:¬(10:Int)=3)⟩,h.s⟩
theorem QC.cbr {n m:Nat} {out o1 o2 I:List IT} {br:IT} (h1:QC nT ss t n out o1) (h2:o2=o1++[br]) (hb:GI nT ss t br) (U:br.1=10) (M:QC nT ss t m o2 I) (F:List IT) (hl:I.length<=F.length) (Y:∀ k:Nat,k<I.length->¬k=o1.length->iA F k=iA I k) (hFb:∃ b:Int,(0<=b/\b<=(F.length:Int))/\iA F o1.length=(br.1,br.2.1,b,br.2.2.2.1,br.2.2.2.2.1,br.2.2.2.2.2)):(∀ k:Nat,k<out.length->iA F k=iA out k)/\qV F out.length o1.length/\(iA F o1.length).1=10/\qV F (o1.length+1) I.length/\(∀ k:Nat,out.length<=k->k<I.length->GI nT ss t (iA F k))/\∀ k:Nat,out.length<=k->k<I.length->(iA F k).1=10->0<=(iA F k).2.2.1/\(iA F k).2.2.1<=(F.length:Int):=by
 have l2:o2.length=o1.length+1:=by rw[h2,bm];rfl
 have l1:=h1.l;have l3:=M.l;have e1:∀ k:Nat,k<o1.length->iA F k=iA o1 k:=λk hk=>by rw[Y k (by omega) (by omega),M.p k (by omega),h2,I5 hk]
 obtain⟨b,hb0,eb⟩:=hFb;refine ⟨λk hk=>(e1 k (by omega)).trans (h1.p k hk),h1.b.congr λk _ hk=>e1 k hk,by rw[eb];exact U,?_,λk g1 J=>?_,λk g1 J Z=>?_⟩
 .have:=M.b;rw[l2] at this;exact this.congr λk g1 J=>Y k J (by omega)
 .rcases N2 k o1.length with hk|hk|hk
  .rw[e1 k hk];exact h1.i k g1 hk
  .rw[hk,eb];exact hb.pb U
  .rw[Y k J (by omega)];exact M.i k (by omega) J
 .rcases N2 k o1.length with hk|hk|hk
  .rw[e1 k hk] at Z ⊢;have:=h1.r k g1 hk Z;omega
  .rw[hk,eb];exact hb0
  .rw[Y k J (by omega)] at Z ⊢;have:=M.r k (by omega) J Z;omega
theorem L5 (rs:FS6) (rt:FT6) (rb:FT6) (ra:FA6) (d:Nat) (hS:adk nT ss t rs d):ake nT ss t (mA rs rt rb ra) d:=by
 intro s g out hop he h1 h2 h3 h4 hel hg hs hso hb;have hm:ME (d+1)=50+16*ME d:=rfl;have kb:s.body.length*ME d<=8*ME d:=cH _ h1;have ke:s.els.length*ME d<=8*ME d:=cH _ h2;have hex:GE 4 (ec (Xp.op s.expr,Xp.n s.expr,Xp.name s.expr,Xp.l s.expr)):=by rw[fg];exact he
 unfold mA aY bh bx cC dW kE qa ck be bC aZ;refine ax (CG _ _ g out hex hg hs (by rw[hg.len];decide) (by rw[hg.len];decide) (by omega)) λy hy=>?_
 obtain⟨Y,o1⟩:=y;obtain⟨p1,p2⟩:=hy;dsimp only at p1 p2;subst p1;have p3:=p2.u;have p4:=p2.l;refine bf (by simp) ?_;refine ax (Iw _ Y o1 (by omega)) λy hy=>?_
 obtain⟨J,o2⟩:=y;obtain⟨q1,q2⟩:=hy;dsimp only at q1 q2;subst q1;rw[hg.len] at q2;have hbr:GI nT ss t ((10,2,0,0,0,J.2.2.2.2.2.2.2.1):IT):=⟨YR (by decide) (by decide) (by simp[iO]) (by decide:¬(10:Int)=3),hs⟩
 have l2:o2.length=o1.length+1:=by rw[q2,bm];rfl
 refine bf (by simp) ?_;refine ax (hS s.body J o2 (by omega) h3 hg (hso.sub (eR _) (by omega)) (by omega)) λy hy=>?_
 obtain⟨U,I⟩:=y;obtain⟨r1,r2,r3⟩:=hy;dsimp only at r1 r2 r3;have r4:=r2.u;have r5:=r2.l;have ebr:iA I o1.length=(10,2,0,0,0,J.2.2.2.2.2.2.2.1):=by rw[r2.p _ (by omega),q2,xD]
 refine bf (by simp) ?_;have qs:=r1.trans (GQ.site U U.2.2.2.2.2.1 J.2.2.2.2.2.2.2.1 U.2.2.2.2.2.2.2.2);refine aJ (λh3w=>?_) λh3w=>?_
 .have hels:nE d s.els=0:=by rw[hel (by have h3w:s.op=3:=h3w;omega)];rfl
  rw[hels,dv];refine ax (Iw _ _ I (by omega)) λy hy=>?_
  obtain⟨g4,M⟩:=y;obtain⟨w1,w2⟩:=hy;dsimp only at w1 w2;have l4:M.length=I.length+1:=by rw[w2,bm];rfl
  refine bf (by simp) (aS (dT _) (by dsimp only[au];omega) (aS (dT _) (by dsimp only[au];omega) (ar ?_)));have hat:o1.length<M.length:=by omega
  have ej:iA M I.length=(5,(out.length:Int),0,0,0,J.2.2.2.2.2.2.2.1):=by rw[w2,xD];rfl
  have e43:∀ k:Nat,k<I.length->iA M k=iA I k:=λk hk=>by rw[w2,I5 hk]
  refine ⟨by dsimp only;rw[w1];exact qs,?_,by dsimp only;rw[w1];exact r3⟩;dsimp only;have eF:∀ {z:IT} {k:Nat},¬k=o1.length->iA (cQ M ((o1.length:Nat):Int) z) k=iA M k:=λh=>by rw[zm hat,ay h]
  obtain⟨f1,f2,f3,f4,f5,f6⟩:=p2.cbr q2 hbr rfl r2 (ptB M o1.length (aP M.length)) (by rw[bW];omega) (λk hk hn=>(eF hn).trans (e43 k hk)) ⟨_,⟨dT _,by rw[bW];exact eR _⟩,by rw[zm hat,aE rfl,e43 _ (by omega),ebr];rfl⟩;show QC nT ss t _ out (ptB M o1.length (aP M.length));have ejF:iA (ptB M o1.length (aP M.length)) I.length=(5,(out.length:Int),0,0,0,J.2.2.2.2.2.2.2.1):=(eF (by omega:¬I.length=o1.length)).trans ej;refine ⟨by rw[bW];omega,by rw[bW];omega,f1,?_,λk Y J=>?_,λk Y J U=>?_⟩
  .rw[(bW _ _ _).trans l4];exact f2.whl f3 f4 (by rw[ejF]) (by rw[ejF])
  .rw[bW,l4] at J;by_cases hk:k<I.length
   .exact f5 k Y hk
   .rw[show k=I.length by omega,ejF];exact⟨YR (by decide) (by decide) (by simp[iO]) (by decide:¬(5:Int)=3),hs⟩
  .have g2':=J;rw[bW,l4] at g2';by_cases hk:k<I.length
   .exact f6 k Y hk U
   .rw[show k=I.length by omega,ejF] at U;cases U
 refine aJ (λhz=>?_) λ_=>?_
 .have hels:nE d s.els=0:=by rw[gM.1 (by dsimp only[au] at hz;omega:s.els.length=0)];rfl
  rw[hels,dv];refine aS (dT _) (by dsimp only[au];omega) (aS (dT _) (by dsimp only[au];omega) (ar ⟨qs,?_,r3⟩));dsimp only;have hat:o1.length<I.length:=by omega
  obtain⟨f1,f2,f3,f4,f5,f6⟩:=p2.cbr q2 hbr rfl r2 (ptB I o1.length (aP I.length)) (by rw[bW];omega) (λk hk hn=>by rw[zm hat,ay hn]) ⟨_,⟨dT _,by rw[bW];exact eR _⟩,by rw[zm hat,aE rfl,ebr];rfl⟩;show QC nT ss t _ out (ptB I o1.length (aP I.length));refine ⟨by rw[bW];omega,by rw[bW];omega,f1,?_,λk Y J=>?_,λk Y J U=>?_⟩
  .rw[bW];exact (f2.app (qV.one (by rw[f3];decide))).app f4
  .rw[bW] at J;exact f5 k Y J
  .exact f6 k Y (by rw[bW] at J;exact J) U
 .refine ax (Iw _ _ I (by omega)) λy hy=>?_
  obtain⟨g4,M⟩:=y;obtain⟨w1,w2⟩:=hy;dsimp only at w1 w2;have l4:M.length=I.length+1:=by rw[w2,bm];rfl
  have qs4:GQ J g4:=by rw[w1];exact qs
  have x4:gN g4=gN J+(nE d s.body:Nat):=by rw[w1];exact r3
  have hat:o1.length<M.length:=by omega
  have ej:iA M I.length=(5,0,0,0,0,J.2.2.2.2.2.2.2.1):=by rw[w2,xD]
  have e43:∀ k:Nat,k<I.length->iA M k=iA I k:=λk hk=>by rw[w2,I5 hk]
  refine bf (by simp) (aS (dT _) (by dsimp only[au];omega) (aS (dT _) (by dsimp only[au];omega) ?_));have eF:∀ {z:IT} {k:Nat},¬k=o1.length->iA (cQ M ((o1.length:Nat):Int) z) k=iA M k:=λh=>by rw[zm hat,ay h]
  refine ax (hS s.els g4 (ptB M o1.length (aP M.length)) (by omega) h4 (hg.of qs4) (hso.sub (by rw[x4];omega) (by rw[x4];omega)) (by rw[bW];omega)) λy hy=>?_
  obtain⟨g5,Z⟩:=y;obtain⟨z1,z2,z3⟩:=hy;dsimp only at z1 z2 z3;have z4:=z2.l;have z5:=z2.u;have zp:=z2.p;have zb:=z2.b;have zi:=z2.i;have zr:=z2.r;rw[bW] at z4 z5 zp zb zi zr;have hj5:I.length<Z.length:=by omega
  refine bf (by simp) (aS (dT _) (by dsimp only[au];omega) (aS (dT _) (by dsimp only[au];omega) (ar ⟨qs4.trans z1,?_,by dsimp only;rw[z3,x4];omega⟩)));dsimp only;show QC nT ss t _ out (ptA Z I.length (aP Z.length));have eG:∀ {z:IT} {k:Nat},¬k=I.length->iA (cQ Z ((I.length:Nat):Int) z) k=iA Z k:=λh=>by rw[zm hj5,ay h]
  have ej5:iA Z I.length=(5,0,0,0,0,J.2.2.2.2.2.2.2.1):=by rw[zp _ (by omega),eF (by omega),ej]
  obtain⟨f1,f2,f3,f4,f5,f6⟩:=p2.cbr q2 hbr rfl r2 (ptA Z I.length (aP Z.length)) (by rw[bW];omega) (λk hk hn=>by rw[eG (by omega),zp k (by omega),eF hn,e43 k hk]) ⟨aP M.length,⟨dT _,by rw[bW];dsimp only[au];omega⟩,by rw[eG (by omega),zp _ (by omega),zm hat,aE rfl,e43 _ (by omega),ebr]⟩;have ejF:iA (ptA Z I.length (aP Z.length)) I.length=(5,aP Z.length,0,0,0,J.2.2.2.2.2.2.2.1):=by rw[zm hj5,aE rfl,ej5]
  refine ⟨by rw[bW];omega,by rw[bW];omega,f1,?_,λk Y J=>?_,λk Y J U=>?_⟩
  .rw[bW];refine ((f2.app (qV.one (by rw[f3];decide))).app f4).ite (by rw[ejF]) (by rw[ejF];rfl) ?_;rw[l4] at zb;exact zb.congr λk Y J=>eG (by omega)
  .rw[bW] at J;rcases N2 k I.length with hk|hk|hk
   .exact f5 k Y hk
   .rw[hk,ejF];exact⟨YR (by decide) (by decide) (by simp[iO]) (by decide:¬(5:Int)=3),hs⟩
   .rw[eG (by omega)];exact zi k (by omega) J
  .have g2':=J;rw[bW] at g2';rcases N2 k I.length with hk|hk|hk
   .exact f6 k Y hk U
   .rw[hk,ejF] at U;cases U
   .rw[eG (by omega)] at U ⊢;rw[bW];exact zr k (by omega) g2' U
theorem YQ (rs:FS6) (rt:FT6) (rb:FT6) (ra:FA6) (d:Nat) (hB:ake nT ss t rb d) (hA:akf nT ss t ra d):SpG nT ss t (r_ rs rt rb ra) (d+1):=by
 intro s g out hs hg hso hb;have hm:ME (d+1)=50+16*ME d:=rfl;obtain⟨i1,i2,i3,i4,i5,i6,i7,i8,i9,Y⟩:=hs;have hcn:Qf (d+1) s=1+nE d s.body+nE d s.els:=rfl;rw[hcn] at hso ⊢;obtain⟨so0,so1,so2⟩:=id hso;have so0:0<=g.2.2.2.2.2.2.2.2:=so0;have so1:g.2.2.2.2.2.2.2.2+((1+nE d s.body+nE d s.els:Nat):Int)<=1000:=so1;have ew:bk .i64 (g.2.2.2.2.2.2.2.2+1)=g.2.2.2.2.2.2.2.2+1:=ig (by omega) (by omega);have gs:=GQ.site g g.2.2.2.2.2.1 g.2.2.2.2.2.2.2.2 (bk .i64 (g.2.2.2.2.2.2.2.2+1));unfold r_ aY bh bx cC dW bL qa be bC aZ aF cD em;refine aX (λx=>QG nT ss t (ME (d+1)) (1+nE d s.body+nE d s.els) g out x) ?_ λx hx=>ar hx
 dsimp only;have Z:SO ss t (gS ((g.1,g.2.1,g.2.2.1,g.2.2.2.1,g.2.2.2.2.1,g.2.2.2.2.2.1,g.2.2.2.2.2.2.1,g.2.2.2.2.2.2.2.2,bk .i64 (g.2.2.2.2.2.2.2.2+1)):GN)):=so2 _ (eR _) (by show g.2.2.2.2.2.2.2.2<g.2.2.2.2.2.2.2.2+((1+nE d s.body+nE d s.els:Nat):Int);omega);have hn1:gN ((g.1,g.2.1,g.2.2.1,g.2.2.2.1,g.2.2.2.2.1,g.2.2.2.2.2.1,g.2.2.2.2.2.2.1,g.2.2.2.2.2.2.2.2,bk .i64 (g.2.2.2.2.2.2.2.2+1)):GN)=gN g+1:=ew;revert gs Z hn1;generalize ((g.1,g.2.1,g.2.2.1,g.2.2.2.1,g.2.2.2.2.1,g.2.2.2.2.2.1,g.2.2.2.2.2.2.1,g.2.2.2.2.2.2.2.2,bk .i64 (g.2.2.2.2.2.2.2.2+1)):GN)=U;intro gs Z hn1;have M:=hg.of gs;have hso1:=hso.sub (b:=gN U) (n:=nE d s.body+nE d s.els) (by rw[hn1];omega) (by rw[hn1];omega);have fin:∀ (n m:Nat) (y:GN×List IT),QG nT ss t n m U out y->n<=ME (d+1)->m=nE d s.body+nE d s.els->QG nT ss t (ME (d+1)) (1+nE d s.body+nE d s.els) g out y:=λn m y J hn hm=>⟨gs.trans J.q,(QC.nil 0 out).trans J.c (by omega),by rw[J.x,hn1];omega⟩
 have fin0:s.op=1\/9<=s.op->∀ (n:Nat) (y:GN×List IT),y.1=U/\QC nT ss t n out y.2->n<=ME (d+1)->QG nT ss t (ME (d+1)) (1+nE d s.body+nE d s.els) g out y:=λI n y J hn=>fin n 0 y ⟨by rw[J.1];exact GQ.refl U,J.2,by rw[J.1];simp⟩ hn (by rw[Y.bo I,Y.el (by omega)];rfl)
 refine aJ (λI=>?_) λ_=>?_
 .refine ax (Wo (nP _) U out ?_ ?_ ?_ ?_ M Z (by omega)) λy J=>bf (by simp) (ar (fin0 (.inl I) _ _ J (by omega)))
  .rw[yf];exact i1
  .rw[yf];exact i3
  .rw[yf];exact i4 (.inl I)
  .rw[yf];exact Y.vr I
 refine aX (λx=>x.2=(U,s,out)/\(x.1=ai↔s.op=2\/s.op=3)) ?_ ?_
 .exact aJ (λh=>ar ⟨by dsimp only;rw[yf],λ_=>.inl h,λ_=>aQ h⟩) λh=>ar ⟨by dsimp only;rw[yf],λh2=>.inr (bi h2),λh2=>aQ (h2.resolve_left h)⟩
 rintro⟨b,x⟩ ⟨e,hb2⟩;dsimp only at e hb2;subst e;refine aO (λhb3=>?_) λhbf=>?_
 .dsimp only;rw[yf];refine ax (hB s U out (hb2.1 hb3) (i4 (by rcases hb2.1 hb3 with h|h;exact .inr (.inl h);exact .inr (.inr (.inl h)))) i6 i7 i8 i9 Y.el M Z hso1 hb) λy J=>bf (by simp) (ar (fin _ _ _ J (by omega) rfl))
 have har:∀ (a b c:Int),4<=s.op->GO nT (a,c,0,0,0,0)->GO nT (b,c,0,0,0,0)->¬a=5/\¬a=10->¬b=5/\¬b=10->Ok (ra ((s,a,b,c),U,out)) λy=>QG nT ss t (ME (d+1)) (1+nE d s.body+nE d s.els) g out y:=λa b c h4 ga gb na nb=>(hA s a b c U out i6 i8 ga gb na nb M Z (hso1.sub (eR _) (by omega)) hb).mono λy J=>fin _ _ _ J (by omega) (by rw[Y.el (by omega)];rfl)
 have hput:∀ {op:Int} {r:Int×Int×Int×Int×Int},9<=s.op->GO nT (op,r)->¬op=5/\¬op=10->Ok (cF ((op,r),U,out)) (QG nT ss t (ME (d+1)) (1+nE d s.body+nE d s.els) g out):=λh9 hi h5=>(xw (by omega) M Z hi h5).mono λy J=>fin0 (.inr h9) _ _ J (by omega)
 have hlk:∀ n:List UInt8,Ok (kf (U.2.1,n)) λr=>(n=[109]->r=0)/\(n=[110]->r=1)/\(n=[114]->r=2):=λn=>(M2 U.2.1 n (by rw[M.l];decide)).mono λr h=>ahy (by rw[M.l] at h;exact h)
 have hcond:∀ (n:List UInt8),Ok (jt (n,U,out)) λy=>y.2=(U,out)/\(n=[99]->y.1=0):=λn=>acm n U out M
 have hth:Ok (iZ (U.2.2.2.2.1,s.name)) λr=>s.op=12\/s.op=13->0<=r/\r<(nT:Int):=(yH U.2.2.2.2.1 s.name (by rw[M.t,bH];have q4:wh.length=4:=rfl;omega)).mono λr hr I=>by
  have hn:=Y.sp I;have hl:(wh.take nT).length<=nT:=qc ..;obtain⟨_,h2,_,h4⟩:=hr;rw[M.t] at h2 h4;exact⟨Cv.1 λh=>h4 h hn,by omega⟩
 have hft:∀ n:List UInt8,Ok (iZ (U.2.2.2.1,n)) λr=>n=[102]->r=0:=λn=>(yH U.2.2.2.1 n (by rw[M.f];decide)).mono λr hr hn=>by
  obtain⟨h1,h2,_,h4⟩:=hr;rw[M.f] at h2 h4;have h2:r<1:=h2;have:¬r<0:=λh=>h4 h (by rw[hn];decide)
  omega
 dsimp only;rw[yf];have gor:∀ {a c:Int},1<=a->a<=27->iO (a,c,0,0,0,0)=[]->OB nT (a,c,0,0,0,0)->GO nT (a,c,0,0,0,0):=λh1 h2 h3 h4=>⟨h1,h2,by rw[h3];exact λj hj=>(by cases hj),h4⟩
 refine aJ (λI=>ax (hlk _) λv hv=>ax (har _ _ _ (by have I:s.op=4:=I;omega) (gor (by decide) (by decide) rfl ?_) (gor (by decide) (by decide) rfl ?_) (by decide) (by decide)) λy J=>bf (by simp) (ar J)) λ_=>?_
 .exact (Y.lk I).imp hv.1 hv.2.1
 .exact (Y.lk I).imp hv.1 hv.2.1
 refine aJ (λI=>ax (hlk _) λv hv=>ax (har _ _ _ (by have I:s.op=5:=I;omega) (gor (by decide) (by decide) rfl ?_) (gor (by decide) (by decide) rfl ?_) (by decide) (by decide)) λy J=>bf (by simp) (ar J)) λ_=>?_
 .exact hv.2.2 (Y.rw (.inl I))
 .exact hv.2.2 (Y.rw (.inl I))
 refine aJ (λI=>ax (hlk _) λv hv=>ax (har _ _ _ (by have I:s.op=6:=I;omega) (gor (by decide) (by decide) rfl ?_) (gor (by decide) (by decide) rfl ?_) (by decide) (by decide)) λy J=>bf (by simp) (ar J)) λ_=>?_
 .exact hv.2.2 (Y.rw (.inr I))
 .exact hv.2.2 (Y.rw (.inr I))
 refine aJ (λI=>ax (har _ _ _ (by have I:s.op=7:=I;omega) (gor (by decide) (by decide) rfl (by decide:¬(17:Int)=3)) (gor (by decide) (by decide) rfl (by decide:¬(18:Int)=3)) (by decide) (by decide)) λy J=>bf (by simp) (ar J)) λ_=>?_
 refine aJ (λI=>ax (har _ _ _ (by have I:s.op=8:=I;omega) (gor (by decide) (by decide) rfl (by decide:¬(19:Int)=3)) (gor (by decide) (by decide) rfl (by decide:¬(20:Int)=3)) (by decide) (by decide)) λy J=>bf (by simp) (ar J)) λ_=>?_
 refine aJ (λI=>ax (hcond _) λy J=>?_) λ_=>?_
 .obtain⟨v,y2⟩:=y;obtain⟨y3,y4⟩:=J;dsimp only at y3;subst y3;exact bf (by simp) (ax (hput (by have I:s.op=9:=I;omega) (gor (by decide) (by decide) rfl (y4 (Y.cn (.inl I)))) (by decide)) λy J=>bf (by simp) (ar J))
 refine aJ (λI=>ax (hcond _) λy J=>?_) λ_=>?_
 .obtain⟨v,y2⟩:=y;obtain⟨y3,y4⟩:=J;dsimp only at y3;subst y3;exact bf (by simp) (ax (hput (by have I:s.op=10:=I;omega) (gor (by decide) (by decide) rfl (y4 (Y.cn (.inr (.inl I))))) (by decide)) λy J=>bf (by simp) (ar J))
 refine aJ (λI=>ax (hcond _) λy J=>?_) λ_=>?_
 .obtain⟨v,y2⟩:=y;obtain⟨y3,y4⟩:=J;dsimp only at y3;subst y3;exact bf (by simp) (ax (hput (by have I:s.op=11:=I;omega) (gor (by decide) (by decide) rfl (y4 (Y.cn (.inr (.inr I))))) (by decide)) λy J=>bf (by simp) (ar J))
 refine aJ (λI=>ax hth λv hv=>ax (hput (by have I:s.op=12:=I;omega) (gor (by decide) (by decide) rfl (hv (.inl I))) (by decide)) λy J=>bf (by simp) (ar J)) λ_=>?_
 refine aJ (λI=>ax hth λv hv=>ax (hput (by have I:s.op=13:=I;omega) (gor (by decide) (by decide) rfl (hv (.inr I))) (by decide)) λy J=>bf (by simp) (ar J)) λ_=>?_
 refine aJ (λI=>?_) λn14=>?_
 .have hex:GE 4 (ec (Xp.op s.expr,Xp.n s.expr,Xp.name s.expr,Xp.l s.expr)):=by rw[fg];exact i4 (.inr (.inr (.inr I)))
  refine ax (CG _ _ U out hex M Z (by rw[hg.len];decide) (by rw[hg.len];decide) (by omega)) λy J=>?_
  obtain⟨g2,o2⟩:=y;obtain⟨q1,q2⟩:=J;dsimp only at q1 q2;subst q1;have q3:=q2.u;refine bf (by simp) (ax (hft _) λv hv=>?_);refine ax (xw (by omega) M Z (YR (by decide) (by decide) (by simp[iO,hg.h,L0]) (hv (Y.se I))) (by decide)) λy J=>bf (by simp) (ar (fin0 (.inr (by have I:s.op=14:=I;omega)) 16 _ ⟨J.1,q2.trans J.2 (bV _)⟩ (by omega)))
 refine aJ (λI=>?_) λn15=>?_
 .refine ax (yH _ _ (by rw[M.h];decide)) λv hv=>ax (hft _) λv2 hv2=>?_
  have hge:=Y.ge I;have hl:(0:Int)<=v/\v<2:=by
   obtain⟨_,h2,_,h4⟩:=hv;rw[M.h] at h2 h4;exact⟨Cv.1 λh=>h4 h (by rw[hge.1];decide),h2⟩
  exact ax (hput (by have I:s.op=15:=I;omega) (YR (by decide) (by decide) (by simp[iO];omega) (hv2 hge.2)) (by decide)) λy J=>bf (by simp) (ar J)
 .exfalso;have h1:=Y.o0;have h2:=Y.o1;have h3:¬(s.op=2\/s.op=3):=λh=>by have hbf:b=aj:=hbf;rw[hb2.2 h] at hbf;cases hbf
  omega
variable {nT:Nat} {ss:List (Int×Int×Int)} {t:Int}
theorem XE:∀ (n:Nat),(∀ d:Nat,3*d<n->SpG nT ss t (eP n) d)/\(∀ d:Nat,3*d+1<n->adk nT ss t (dM n) d)/\(∀ d:Nat,3*d+2<n->ake nT ss t (dg n) d)/\(∀ d:Nat,3*d+2<n->akf nT ss t (dI n) d)
 |0=>⟨λd h=>by omega,λd h=>by omega,λd h=>by omega,λd h=>by omega⟩
 |n+1=>by
  obtain⟨J,I,M,hA⟩:=XE n;refine ⟨λd h=>?_,λd h=>?_,λd h=>?_,λd h=>?_⟩
  .cases d with
   |zero=>exact λs g out hs=>hs.elim
   |succ d=>exact YQ (dM n) (eP n) (dg n) (dI n) d (M d (by omega)) (hA d (by omega))
  .exact Vl (dM n) (eP n) (dg n) (dI n) d (J d (by omega))
  .exact L5 (dM n) (eP n) (dg n) (dI n) d (I d (by omega))
  .exact RC (dM n) (eP n) (dg n) (dI n) d (I d (by omega))
theorem O3 (d:Nat) (hd:d<=100):adk nT ss t uo d:=(XE fuel).2.1 d (by rw[jQ];omega)
structure SL (t k:Int) (m:Nat) (S:List (Int×Int×Int)):Prop where
 l:S.length=m
 v:∀ i:Nat,i<m->(aK (T:=yd) S (i:Int)).1=t/\(aK (T:=yd) S (i:Int)).2.1=k+i
theorem Js {T:Ty} {l m:List T.den} {k:Nat} (h:k<l.length):aK (l++m) (k:Int)=aK l (k:Int):=by
 rw[yM,yM,aA,aA,bO h]
theorem Jr {T:Ty} {l m:List T.den} {k:Nat} (h:l.length<=k):aK (l++m) (k:Int)=aK m ((k-l.length:Nat):Int):=by
 rw[yM,yM,aA,aA,ca h]
theorem SL.nil (t k:Int):SL t k 0 []:=⟨rfl,λi h=>by omega⟩
theorem SL.one (t k z:Int):SL t k 1 [(t,k,z)]:=⟨rfl,λi h=>by rw[show i=0 by omega];exact⟨rfl,by show k=k+((0:Nat):Int);omega⟩⟩
theorem SL.app {k k':Int} {a b:Nat} {S S':List (Int×Int×Int)} (h:SL t k a S) (h':SL t k' b S') (hk:k'=k+a):SL t k (a+b) (S++S'):=by
 obtain⟨h1,h2⟩:=h;obtain⟨J,I⟩:=h';refine ⟨by rw[bm];omega,λi hi=>?_⟩;by_cases hl:i<S.length
 .rw[Js (T:=yd) hl];exact h2 i (by omega)
 .rw[Jr (T:=yd) (by omega)];have:=I (i-S.length) (by omega);exact⟨this.1,this.2.trans (show k'+((i-S.length:Nat):Int)=k+(i:Int) by omega)⟩
theorem Fc:∀ (n d:Nat),d<n->∀ (t k:Int) (l:List Sx) (out:List (Int×Int×Int)),l.length<=100->(∀ s∈l,GT d s)->0<=k->k+nE d l<=100000000->out.length+nE d l<=100000000->Ok (pA n ((t,k,l),out)) λy=>y.1=k+nE d l/\∃ S,y.2=out++S/\SL t k (nE d l) S
 |0,_,h,_,_,_,_,_,_,_,_,_=>by omega
 |n+1,d,hn,t,k,l,out,hl,hs,k0,hkb,hb=>by
  rw[Hp];unfold xG bz wa bC aZ cK aF cD;refine bZ l.length (λi x=>x.1.2=(i:Int)/\x.1.1=k+nE d (l.take i)/\∃ S,x.2=out++S/\SL t k (nE d (l.take i)) S) ?_ ?_ ⟨rfl,by simp[nE],[],by simp,by simp[nE];exact SL.nil t k⟩
  .rintro i ⟨⟨a,b⟩,o⟩ hi ⟨e1,e2,S,e3,e4⟩;dsimp only at e1 e2 e3;subst e1;subst e2;subst e3;have hp:=Px (d:=d) l (i+1);rw[w_ hi] at hp;rw[w_ hi];refine db ?_;have hin:((i:Nat):Int)<(l.length:Int):=by omega
   have hm:=hs _ (bJ (T:=.sm) (xs:=l) (j:=(i:Int)) (by omega) (by omega));have hSl:=e4.l;cases d with
   |zero=>exact hm.elim
   |succ d=>
    obtain⟨_,_,_,g4,g5,g6,g7⟩:=hm;have hc:Qf (d+1) (aK (T:=.sm) l (i:Int))=1+nE d (Sx.body (aK (T:=.sm) l (i:Int)))+nE d (Sx.els (aK (T:=.sm) l (i:Int))):=rfl;rw[hc] at hp ⊢;dsimp only;refine aS (by omega) hin (aR (bg (by simp;omega) (by omega) (aS (by omega) hin (aR ?_))));rw[ig (n:=k+(nE (d+1) (l.take i):Nat)+1) (by omega) (by omega)];refine ax (Fc n d (by omega) _ _ _ _ (by omega) g6 (by omega) (by omega) (by simp;omega)) λy I=>bf (by simp) ?_
    obtain⟨a2,o2⟩:=y;obtain⟨Z,S2,Y,U⟩:=I;dsimp only at Z Y;subst Z;subst Y;have hSl2:=U.l;refine aS (by omega) hin (aR ?_);refine ax (Fc n d (by omega) _ _ _ _ (by omega) g7 (by omega) (by omega) (by simp;omega)) λy I=>bf (by simp) (ar ?_)
    obtain⟨a3,o3⟩:=y;obtain⟨M,S3,J,z3⟩:=I;dsimp only at M J;subst M;subst J;refine ⟨gy (by omega),by dsimp only;omega,S++([_]++(S2++S3)),by simp only[fO];rfl,?_⟩;refine e4.app ?_ rfl;rw[pD];exact (SL.one t _ _).app (U.app z3 rfl) (by simp)
  .rintro⟨⟨a,b⟩,o⟩ ⟨e1,e2,e3⟩;dsimp only at e1 e2 e3;subst e1;subst e2;rw[cP] at e3 ⊢;exact dc (ar ⟨rfl,e3⟩)
theorem W1 {T k' U k:Int} {l S:List (Int×Int×Int)} {m:Nat} (h:Lr T l=af (k',U)) (Y:SL t k m S) (hk:(k'=t/\U=k)\/(k'<t/\t<T/\k=0)):∀ i:Nat,i<=m->Lr T (l++S.take i)=af (if i=0 then (k',U) else (t,k+i))
 |0,_=>by rw[List.take_zero,gp,aE rfl];exact h
 |i+1,hi=>by
  have ih:=W1 h Y hk i (by omega);rw[mI (T:=yd) (xs:=S) (i:=i) (by rw[Y.l];omega),<-fO,W3,ih];obtain⟨I,M⟩:=Y.v i (by omega);rw[ay (Nat.succ_ne_zero i)];by_cases J:i=0
  .subst J;rw[aE rfl];unfold T_;dsimp only;rcases hk with ⟨h1,h2⟩|⟨h1,h2,Z⟩
   .rw[aE ⟨by rw[I,h1],by rw[M,h2];simp⟩,h1,h2];simp
   .rw[ay (λh=>by rw[I] at h;omega),aE ⟨by rw[I];exact h1,by rw[I];exact h2,by rw[M,Z];rfl⟩,I,Z];simp
  .rw[ay J];unfold T_;dsimp only;rw[aE ⟨I,M⟩];congr 2;omega
abbrev CE6:Type:=List UInt8×Int×Int×Bool×Int
abbrev W4T:Type:=List CE6×List (List UInt8×Bool)×List (List UInt8×Int)×List (List UInt8)
def ceD (z:DT):List CE6:=(cS (aU (iE z.2.2.2.1 1))).map λ(k:Nat)=>(z.2.2.1,(k:Int),z.2.2.2.1,decide (z.1=2),z.2.2.2.2.1)
def adD (y:W4T) (z:DT):W4T:=
 if z.1=1\/z.1=2 then (y.1++ceD z,y.2) else if z.1=3\/z.1=4 then (y.1,y.2.1++[(z.2.2.1,decide (z.1=4))],y.2.2) else if z.1=5 then (y.1,y.2.1,y.2.2.1++[(z.2.2.1,0)],y.2.2.2) else (y.1,y.2.1,y.2.2.1,y.2.2.2++[z.2.2.1])
def W4 (i:Nat):W4T:=(D0.take i).foldl adD ([],[],[],[])
theorem W4_9:W4 9=(C0,G9,MF,TJ):=rfl
theorem W4_s {i:Nat} (hi:i<9):W4 (i+1)=adD (W4 i) (aK (T:=tDc) D0 (i:Int)):=by
 unfold W4;rw[mI (T:=tDc) (xs:=D0) hi,dR];rfl
theorem D0_c:∀ i:Nat,i<9->(aK (T:=tDc) D0 (i:Int)).1=5->i=7:=by decide
theorem ane:∀ i:Nat,i<9->(W4 i).1.length<=5/\(W4 i).2.1.length<=3/\(W4 i).2.2.1.length<=1/\(W4 i).2.2.2.length<=1/\iE (aK (T:=tDc) D0 (i:Int)).2.2.2.1 1<=2/\1<=iE (aK (T:=tDc) D0 (i:Int)).2.2.2.1 1:=by decide
def bsN (p:PG) (i:Nat):Nat:=((p.2.take i).map λt=>nE 5 t.2.2.2).sum
def boN (p:PG) (i:Nat):Nat:=nE 5 (aK (T:=yU) p.2 (i:Int)).2.2.2
theorem ai8 {p:PG} {i:Nat} (hi:i<p.2.length):bsN p (i+1)=bsN p i+boN p i:=by
 unfold bsN boN;rw[mI (T:=yU) hi,cE,FJ];simp
theorem Wj {p:PG} (i:Nat) (h:(p.2.map λt=>nE 5 t.2.2.2).sum<=60):bsN p i<=60:=by
 refine di ?_ h
 conv=>rhs;rw[<- BJ i p.2]
 unfold bsN;rw[cE,FJ];omega
structure SW (p:PG) (i:Nat) (S:List (Int×Int×Int)):Prop where
 l:S.length=bsN p i
 f:∃ a b,Lr p.2.length S=af (a,b)/\(a<i\/a=0/\b=0)
 s:∀ j:Nat,j<i->SR S (j:Int) (bsN p j:Nat) (boN p j)
structure WW (p:PG) (w:WT):Prop where
 x:WX w
 t:w.2.2.2.2.1=wh.take p.2.length
 s:∀ j:Nat,j<p.2.length->SR w.2.2.2.2.2 (j:Int) (bsN p j:Nat) (boN p j)
theorem SO.app {S S':List (Int×Int×Int)} {t s:Int} (h:SO S t s):SO (S++S') t s:=by
 obtain⟨h0,h1,h2⟩:=h;obtain⟨s,rfl⟩:∃ n:Nat,s=(n:Int):=⟨s.toNat,by omega⟩
 exact⟨h0,by rw[bm];omega,by rw[Js (T:=yd) (by omega)];exact h2⟩
theorem Wr (p:PG) (hp:PJ p) (r:Int×Int) (hr:fk p=af r) (h0:r.1=0) (hc:(p.2.map λt=>nE 5 t.2.2.2).sum<=60):Ok (uq p) (WW p):=by
 have hpt:=hp.t;unfold uq aY bh bx cC dW bL dA cX fh kD be bz iV bC bB aZ cK aF cD;refine aT hr (b8 (λh=>(h h0).elim) λ_=>?_);have hD:p.1=D0:=hp.d;have hlen:p.1.length=9:=by rw[hD];rfl
 refine bZ 9 (λi x=>x.1=(i:Int)/\x.2.1=p/\x.2.2=W4 i) ?_ ?_ ⟨rfl,rfl,rfl⟩
 .rintro i ⟨a,p',y⟩ hi ⟨e1,e2,e3⟩;dsimp only at e1 e2 e3;subst e1;have e2:=e2.symm;subst e2;obtain⟨b1,b2,b3,b4,b5,b6⟩:=ane i hi;rw[<- e3] at b1 b2 b3 b4;have hW:=W4_s hi;rw[<- e3] at hW;have hcd:=D0_c i hi;have hlk:i=7->y.2.1=G9/\(aK (T:=tDc) D0 (i:Int)).2.2.2.2.2=[109]:=λh=>by subst h;rw[e3];exact⟨rfl,rfl⟩
  refine db ?_;refine bX (aR ?_);dsimp only;rw[hD];revert hW hcd hlk b5 b6;generalize (aK (T:=tDc) D0 (i:Int))=z;intro b5 b6 hW hcd hlk;refine aX (λx=>x=(p,W4 (i+1))) ?_ ?_
  .rw[hW];unfold adD;refine aX (λx=>x.2=(p,z,y)/\(x.1=ai↔(z.1=1\/z.1=2))) ?_ ?_
   .exact aJ (λh=>ar ⟨rfl,λ_=>.inl h,λ_=>aQ h⟩) λh=>ar ⟨rfl,λh2=>.inr (bi h2),λh2=>aQ (h2.resolve_left h)⟩
   rintro⟨b,x⟩ ⟨e,hb⟩;dsimp only at e hb;subst e;refine aO (λI=>?_) λI=>?_
   .rw[aE (hb.1 I)];unfold ceD;obtain⟨m,hm⟩:∃ m:Nat,iE z.2.2.2.1 1=(m:Int):=⟨(iE z.2.2.2.1 1).toNat,by omega⟩
    rw[hm,dS];refine bZ m (λk x=>x=((k:Int),p,z,y.1++(cS k).map (λ(k:Nat)=>(z.2.2.1,(k:Int),z.2.2.2.1,decide (z.1=2),z.2.2.2.2.1)),y.2)) ?_ ?_ (by simp)
    .rintro k x hk rfl;refine bI (λ_=>?_) λg=>(by dsimp only at g;rw[hm] at g;omega)
     refine bg (by simp;omega) (by omega) (ar ?_);dsimp only;rw[gy (by omega),FK,cE,<-fO];rfl
    .rintro x rfl;exact bI (λg=>(by dsimp only at g;rw[hm] at g;omega)) λ_=>ar rfl
   rw[ay λh=>by have I:b=aj:=I;rw[hb.2 h] at I;cases I];refine aX (λx=>x.2=(p,z,y)/\(x.1=ai↔(z.1=3\/z.1=4))) ?_ ?_
   .exact aJ (λh=>ar ⟨rfl,λ_=>.inl h,λ_=>aQ h⟩) λh=>ar ⟨rfl,λh2=>.inr (bi h2),λh2=>aQ (h2.resolve_left h)⟩
   rintro⟨c,x⟩ ⟨e,U⟩;dsimp only at e U;subst e;refine aO (λh=>?_) λh=>?_
   .rw[aE (U.1 h)];exact bg (by simp;omega) (by omega) (ar rfl)
   rw[ay λh2=>by have h:c=aj:=h;rw[U.2 h2] at h;cases h];refine aJ (λh5=>?_) λh5=>?_
   .obtain⟨l1,l2⟩:=hlk (hcd h5);rw[aE h5];refine ax (M2 _ _ (by dsimp only;rw[l1];decide)) λv hv=>?_
    have hv:=(ahy (by dsimp only at hv;rw[l1] at hv;exact hv)).1 l2;subst hv;exact bg (by simp;omega) (by omega) (ar rfl)
   .rw[ay h5];exact bg (by simp;omega) (by omega) (ar rfl)
  rintro x rfl;exact ar ⟨gy (by omega),rfl,rfl⟩
 .rintro⟨a,p',y⟩ ⟨e1,e2,j⟩;dsimp only at e1 e2 j;subst e1;have e2:=e2.symm;subst e2;rw[W4_9] at j;subst j;refine dc ?_;refine ax (P:=WW p) ?_ λr hr=>ar hr
  refine bZ p.2.length (λi x=>x.1=(i:Int)/\x.2.1=p/\x.2.2.1=C0/\x.2.2.2.1=G9/\x.2.2.2.2.1=MF/\x.2.2.2.2.2.1=TJ/\x.2.2.2.2.2.2.1=wh.take i/\SW p i x.2.2.2.2.2.2.2) ?_ ?_ ⟨rfl,rfl,rfl,rfl,rfl,rfl,rfl,rfl,⟨0,0,rfl,.inr ⟨rfl,rfl⟩⟩,λj hj=>by omega⟩
  .rintro i ⟨a,p2,c2,l2,d2,f2,t2,s2⟩ hi ⟨e1,e2,e3,e4,e5,e6,Z,M,⟨fa,fb,f8,f9⟩,J⟩;dsimp only at e1 e2 e3 e4 e5 e6 Z M f8 J;subst e1;have e2:=e2.symm;subst e2;have hb8:=Wj (i+1) hc;have hbs:=ai8 hi;refine db ?_;have hin:((i:Nat):Int)<(p.2.length:Int):=by omega
   have hm:=hp.m _ (bJ (T:=yU) (xs:=p.2) (j:=(i:Int)) (by omega) hin);have hnm:(aK (T:=yU) p.2 (i:Int)).1=aK (T:=.str) wh (i:Int):=by
    have h1:=mI (T:=yU) hi;have h2:=gO (List.map Prod.fst) h1;rw[cE,kH,kH,hp.n,List.take_take,List.take_take,sR (by omega),sR (by omega),mI (T:=.str) (xs:=wh) (i:=i) (by have q4:wh.length=4:=rfl;omega)] at h2;exact ((List.cons.inj (List.append_cancel_left h2)).1).symm
   have htl:t2.length=i:=by rw[Z,bH];have q4:wh.length=4:=rfl;omega
   dsimp only;refine aS (by omega) hin (aR (bg (by simp;omega) (by omega) (aS (by omega) hin (aR ?_))));refine ax (Fc fuel 5 (by rw[jQ];omega) _ _ _ s2 (by have:=hm.b;omega) (λs hs=>((hm.s s hs).le (by omega:3<=5)).t) (eR _) ?_ ?_) λy hy=>bf (by simp) (ar ?_)
   .show (0:Int)+(boN p i:Nat)<=_;omega
   .show s2.length+boN p i<=_;omega
   obtain⟨_,S,h2,Y⟩:=hy;have Y:SL (i:Int) 0 (boN p i) S:=Y;refine ⟨gy (by omega),rfl,e3,e4,e5,e6,?_,?_⟩
   .dsimp only;rw[Z,hnm,<-mI (T:=.str) (xs:=wh) (i:=i) (by have q4:wh.length=4:=rfl;omega)]
   .dsimp only;rw[h2];refine ⟨by rw[bm,Y.l,M,hbs],?_,λj hj=>?_⟩
    .have hr:=W1 f8 Y (by rcases f9 with h|⟨h,h'⟩;exact .inr ⟨h,by omega,rfl⟩;rcases Lm i with hi0|hi0;exact .inl ⟨by omega,h'⟩;exact .inr ⟨by omega,by omega,rfl⟩) (boN p i) (bV _);rw[<- Y.l,cP] at hr;rw[hr];split
     .exact⟨_,_,rfl,f9.imp (λh=>by omega) id⟩
     .exact⟨_,_,rfl,.inl (by omega)⟩
    .rcases b_ j i with h1|h1
     .obtain⟨g1,g2,g3⟩:=J j h1;exact⟨g1,g2,λq q1 q2=>(g3 q q1 q2).app⟩
     .have hj:j=i:=by omega
      subst hj;refine ⟨by omega,by omega,λq q1 q2=>?_⟩;obtain⟨q,rfl⟩:∃ n:Nat,q=(n:Int):=⟨q.toNat,by omega⟩
      refine ⟨by omega,by rw[bm,Y.l];omega,?_⟩;rw[Jr (T:=yd) (by omega)];exact (Y.v _ (by omega)).1
  .rintro⟨a,p2,c2,l2,d2,f2,t2,s2⟩ ⟨e1,e2,e3,e4,e5,e6,Z,M,⟨fa,fb,f8,f9⟩,J⟩;dsimp only at e1 e2 e3 e4 e5 e6 Z M f8 J;subst e1;have e2:=e2.symm;subst e2;subst e3;subst e4;subst e5;subst e6;subst Z;refine dc (ar ?_);have hb8:=Wj p.2.length hc;refine ⟨⟨rfl,rfl,rfl,rfl,⟨p.2.length,hp.t0,hp.t,rfl⟩,by dsimp only;omega,?_⟩,rfl,J⟩;unfold SV0;have hTl:(wh.take p.2.length).length=p.2.length:=by rw[bH];have q4:wh.length=4:=rfl;omega
   dsimp only;rw[hTl,f8];simp
def ZL:List (List UInt8):=[[120],[121],[118],[113],[109],[110],[114],[99],[102]]
set_option maxHeartbeats 20000000 in
theorem aba (t:List (List UInt8)) (ht:t.length<=4) (s:List (Int×Int×Int)):pm (C0,G9,MF,TJ,t,s)=af (ZL++t,ai):=by
 refine ci ?_;unfold pm aY bh bx cC dA kD be bz iV bC bB aZ cK aF cD;with_reducible repeat' first|exact ar rfl|refine Xj ?_|refine Xi ?_|refine Xh ?_|refine Xf ?_|refine aey ?_|refine aR ?_|refine fI rfl ?_|refine fJ rfl ?_|refine bf rfl ?_|refine Xg ?_|refine QQ ?_|refine QP ?_
 refine bg (by show 9+t.length<=1073741824;omega) (by decide) ?_;with_reducible repeat' first|exact ar rfl|refine Xj ?_|refine Xi ?_|refine Xh ?_|refine Xf ?_|refine aey ?_|refine aR ?_|refine fI rfl ?_|refine fJ rfl ?_|refine bf rfl ?_|refine Xg ?_|refine QQ ?_|refine QP ?_
theorem TE:∀ x∈ZL++wh,Ok (fe x) λb=>b=ai:=by
 intro x I;simp only[ZL,wh,gw,lV,bp,cz,gi] at I;rcases I with rfl|rfl|rfl|rfl|rfl|rfl|rfl|rfl|rfl|rfl|rfl|rfl|rfl;all_goals with_reducible repeat' first|exact ar rfl|refine Xj ?_|refine Xi ?_|refine Xh ?_|refine Xf ?_|refine QP ?_|refine aey ?_|refine aR ?_|refine fI rfl ?_|refine fJ rfl ?_|refine bf rfl ?_|refine Xg ?_|refine QQ ?_|refine c_ (fe.eq_1 ..) ?_|refine c_ (jF.eq_1 ..) ?_|refine c_ (kr.eq_1 ..) ?_|refine c_ (lx.eq_1 ..) ?_|refine c_ (pq.eq_1 ..) ?_|refine c_ (rE.eq_1 ..) ?_
theorem GT.up:∀ {d:Nat} {s:Sx},GT d s->GT (d+1) s
 |0,_,h=>h.elim
 |_+1,_,⟨a,b,c,e,f,g,i⟩=>⟨a,b,c,e,f,λx I=>GT.up (g x I),λx I=>GT.up (i x I)⟩
theorem ajp {l:List Sx} (h:∀ s∈l,GT 3 s):nE 5 l=nE 3 l:=by
 unfold nE;rw[qb λx I=>(Pw (GT.up (h x I))).trans (Pw (h x I))]
theorem aki:∀ i:Nat,i<13->∀ r:Nat,r<i->aK (T:=.str) (ZL++wh) (r:Int)≠aK (T:=.str) (ZL++wh) (i:Int):=by decide
theorem Qv (T:Int):∀ l:List (Int×Int×Int),l.foldl (T_ T) ah=ah
 |[]=>rfl
 |_::r=>Qv T r
theorem W2 {T:Int} {l:List (Int×Int×Int)} (h:Lr T l≠ah) (i:Nat):Lr T (l.take i)≠ah:=λhn=>h (by
 unfold Lr at hn ⊢;rw[<- BJ i l,dR,hn,Qv])
theorem aaq {T t n:Int} {z:Int×Int×Int} (h:T_ T (af (t,n)) z≠ah):T_ T (af (t,n)) z=af (z.1,z.2.1+1)/\(z.1=t/\z.2.1=n\/t<z.1/\z.1<T/\z.2.1=0):=by
 unfold T_ at h ⊢;dsimp only at h ⊢;by_cases h1:z.1=t/\z.2.1=n
 .rw[aE h1];exact⟨by rw[h1.1,h1.2],.inl h1⟩
 .rw[ay h1] at h ⊢;by_cases h2:t<z.1/\z.1<T/\z.2.1=0
  .rw[aE h2];exact⟨by rw[h2.2.2];rfl,.inr h2⟩
  .rw[ay h2] at h;exact (h rfl).elim
theorem BX {R:Type} {a b:Int} {t f:Option R} {Q:R->Prop} (h:b<=a) (hf:Ok f Q):Ok (bcase (fR a b) t f) Q:=fJ (gk.2 h) hf
theorem HE {w:WT} (hx:WX w):h_ w=af ai:=by
 obtain⟨w1,w2,w3,w4,I,J⟩:=w;obtain⟨hc,hl,hd,hf,⟨n,n1,n4,ht⟩,hs,hv⟩:=hx;dsimp only at hc hl hd hf ht hs;subst hc;subst hl;subst hd;subst hf;have hT:I.length=n:=by rw[ht,bH];have q4:wh.length=4:=rfl;omega
 have hv:Lr I.length J≠ah:=hv;refine ci ?_;unfold h_ aY bh bx cC cX fh be bz iW iV bC bB aZ cK aF cD;refine aX (λx=>x=(aj,C0,G9,MF,TJ,I,J)) ?_ ?_
 .refine BX (show (5:Int)<=12 by decide) (BX (show (3:Int)<=4 by decide) (BX (show (1:Int)<=2 by decide) (BX (show (1:Int)<=2 by decide) (BX (show (1:Int)<=(I.length:Int) by omega) (BX (show (I.length:Int)<=4 by omega) (ar ?_))))));dsimp only[au];rw[gk.2 (show (J.length:Int)<=60 by omega)]
 rintro x rfl;refine gz (aT (aba I (by omega) J) (fJ rfl ?_));have hN:ZL++I=(ZL++wh).take (9+n):=by rw[ht];rcases (by omega:n=1\/n=2\/n=3\/n=4) with rfl|rfl|rfl|rfl<;>rfl
 have hNl:(ZL++I).length=9+n:=by rw[bm,hT];rfl
 have hNg:∀ i:Nat,i<9+n->aK (T:=.str) (ZL++I) (i:Int)=aK (T:=.str) (ZL++wh) (i:Int):=λi hi=>by
  rw[hN,yM,yM,aA,aA,List.getElem?_take_of_lt hi]
 refine bZ (9+n) (λi x=>x=((i:Int),C0,G9,MF,TJ,I,J)) ?_ ?_ rfl
 .rintro i x hi rfl;refine bI (λ_=>?_) λg=>(by dsimp only[au] at g;rw[hNl] at g;omega)
  refine aX (λx=>x=(aj,C0,G9,MF,TJ,I,J)) ?_ ?_
  .refine aS (by dsimp only;omega) (by dsimp only;rw[hNl];omega) (aR ?_);have hmem:aK (T:=.str) (ZL++I) (i:Int)∈ZL++wh:=by rw[hNg i hi];exact bJ (T:=.str) (by omega) (by have:(ZL++wh).length=13:=rfl;omega)
   refine ax (TE _ hmem) λb hb=>?_
   refine fJ (by rw[hb];rfl) (dx (eM (by dsimp only;omega) (eM (by dsimp only;rw[hNl];omega) ?_)));refine aS (by dsimp only;omega) (by dsimp only;rw[hNl];omega) (aR ?_);refine ax (yH _ _ (by dsimp only;rw[bH,hNl];omega)) λr hr=>ar ?_
   obtain⟨_,h2,Z,_⟩:=hr;dsimp only at h2 Z;rw[bH,hNl] at h2;have hr0:¬0<=r:=λh0=>by
    have Z:=Z h0;obtain⟨r,rfl⟩:∃ m:Nat,r=(m:Int):=⟨r.toNat,by omega⟩
    rw[yM,aA,List.getElem?_take_of_lt (by omega),<-aA,<-yM (T:=.str),hNg r (by omega),hNg i hi] at Z;exact aki i (by omega) r (by omega) Z
   rw[l9.2 (by omega)]
  .rintro x rfl;exact gz (ar (by dsimp only;rw[gy (by omega)]))
 rintro x rfl;refine bI (λg=>(by dsimp only[au] at g;rw[hNl] at g;omega)) λ_=>?_
 refine ax (P:=λb=>b=ai) ?_ λy hy=>ar hy
 refine bZ 1 (λi x=>x=((i:Int),C0,G9,MF,TJ,I,J)) ?_ ?_ rfl
 .rintro i x hi rfl;have hi0:i=0:=by omega
  subst hi0;refine fI rfl (bf rfl (aR (aX (λx=>x=(aj,C0,G9,MF,TJ,I,J)) ?_ ?_)))
  .exact fJ rfl (fJ rfl (bf rfl (aR (ar rfl))))
  .rintro x rfl;exact gz (ar (by dsimp only;rw[gy (by omega)]))
 rintro x rfl;refine bI (λg=>(by have g:(1:Int)<1:=g;omega)) λ_=>?_
 refine ax (P:=λb=>b=ai) ?_ λy hy=>ar hy
 refine bZ J.length (λi x=>x=((i:Int),C0,G9,MF,TJ,I,J)/\∃ t k:Int,Lr I.length (J.take i)=af (t,k)/\0<=t/\t<(I.length:Int)/\(i=0->t=0/\k=0)/\(¬i=0->(aK (T:=yd) J ((i-1:Nat):Int)).1=t/\(aK (T:=yd) J ((i-1:Nat):Int)).2.1+1=k/\0<k/\k<=i)) ?_ ?_ ⟨rfl,0,0,rfl,by omega,by omega,λ_=>⟨rfl,rfl⟩,λh=>(h rfl).elim⟩
 .rintro i x hi ⟨rfl,t,k,hF,t0,tT,hz,hp⟩;have hw:¬(i:Int)=0->bk .i64 ((i:Int)-1)=((i-1:Nat):Int):=λh=>by rw[ig (by omega) (by omega)];omega
  have hnx:=Is (T:=I.length) hi;have hne:=W2 hv (i+1);rw[hnx,hF] at hne;obtain⟨hs1,M⟩:=aaq hne;rw[hF,hs1] at hnx;refine db ?_;refine aX (λx=>x=(C0,G9,MF,TJ,I,J)) ?_ ?_
  .refine bX (aR ?_);revert M;generalize (aK (T:=yd) J (i:Int))=z;obtain⟨(U:Int),(z2:Int),z3⟩:=z;intro M;dsimp only at M;refine aX (λx=>x=(aj,(C0,G9,MF,TJ,I,J),U,z2,z3)) ?_ ?_
   .refine BX (show (0:Int)<=U by omega) (ar ?_);dsimp only[au];rw[l9.2 (show U<(I.length:Int) by omega)]
   rintro x rfl;refine gz (aX (λx=>x.2=((C0,G9,MF,TJ,I,J),U,z2,z3)/\(x.1=ai->i=0\/¬t=U)/\(x.1=aj->¬i=0/\t=U)) ?_ ?_)
   .refine aJ (λh=>ar ⟨rfl,λ_=>.inl (by have h:((i:Nat):Int)=0:=h;omega),λh=>(by cases h)⟩) λh=>?_
    have h:¬((i:Nat):Int)=0:=h;dsimp only;rw[hw h];have hq:=(hp (by omega)).1;exact aS (by omega) (by first|omega|(dsimp only;omega)) (aR (ar ⟨rfl,λh2=>.inr (by rw[<- hq];simpa using h2),λh2=>⟨by omega,by rw[<- hq];simpa using h2⟩⟩))
   rintro⟨c,x⟩ ⟨e,Y,hc⟩;dsimp only at e Y hc;subst e;refine aO (λhct=>?_) λhcf=>?_
   .have hz2:z2=0:=by
     rcases Y hct with h|h
     .have:=hz h;omega
     .omega
    refine aX (λx=>x=(aj,C0,G9,MF,TJ,I,J)) ?_ ?_
    .refine b8 (λh=>(h hz2).elim) λ_=>bI (λh=>?_) λ_=>ar rfl
     have h:(0:Int)<((i:Nat):Int):=h;dsimp only;rw[hw (by omega)];have hq:=(hp (by omega)).1;refine aS (by omega) (by first|omega|(dsimp only;omega)) (aR (ar ?_));dsimp only;rw[hq,gk.2 (show t<=U by omega)]
    rintro x rfl;exact gz (ar rfl)
   .obtain⟨h1,h2⟩:=hc hcf;obtain⟨_,p2,p3,p4⟩:=hp h1;dsimp only;rw[hw (by omega)];refine aS (by omega) (by first|omega|(dsimp only;omega)) (aR ?_);refine b8 (λh=>(h ?_).elim) λ_=>ar rfl
    try dsimp only
    rw[p2,ig (by omega) (by omega)];omega
  .rintro x rfl;refine ar ⟨by dsimp only;rw[gy (by omega)],_,_,hnx,?_⟩;revert M;rw[show i+1-1=i by omega];generalize (aK (T:=yd) J (i:Int))=z;obtain⟨(U:Int),(z2:Int),z3⟩:=z;intro M;dsimp only at M ⊢;refine ⟨by omega,by omega,λh=>by omega,λ_=>⟨rfl,rfl,?_,?_⟩⟩
   .by_cases h0:i=0
    .have:=hz h0;omega
    .have:=hp h0;omega
   .by_cases h0:i=0
    .have:=hz h0;omega
    .have:=hp h0;omega
 .rintro x ⟨rfl,_⟩;exact dc (ar rfl)
theorem Wt {c:CT} (I:WX c.1) (hl:c.2.length=c.1.2.2.2.2.1.length) (h:∀ k:Nat,k<c.2.length->GC c.2.length c.1.2.2.2.2.2 (k:Int) (aK (T:=v_) c.2 (k:Int))):jD c=af ai:=by
 obtain⟨w,l⟩:=c;dsimp only at I hl h;have M:l.length<=4:=by
  obtain⟨n,_,J,ht⟩:=I.t;rw[hl,ht,bH];omega
 refine ci ?_;unfold jD bx bz bB aZ cK aF cD;refine aX (λx=>x=(aj,w,l)) ?_ ?_
 .refine aT (HE I) (fJ rfl (ar ?_));dsimp only;rw[hl];simp
 rintro x rfl;refine gz (bZ l.length (λi x=>x=((i:Int),w,l)) ?_ ?_ rfl)
 .rintro i x hi rfl;refine db ?_;refine bX (aR (aT (Ep I hl.symm (h i hi)) (fJ rfl (ar ?_))));dsimp only;rw[gy (by omega)]
 .rintro x rfl;exact dc (ar rfl)
theorem P0 (p:PG) (hp:PJ p) (hr4:∃ r,fk p=af r/\r.1=0):Ok (qw p) λy=>CB y.1:=by
 have hpt:=hp.t;obtain⟨r,hr,h0⟩:=hr4;obtain⟨r',hr',Y⟩:=Ed p hp.x;rw[hr] at hr';cases hr';have Y:=Y h0;unfold qw aY bh bx cC dW bL cX fh qa bz iV bC bB kB aZ cK aF cD;refine aT hr (b8 (λh=>(h h0).elim) λ_=>?_);refine ax (Wr p hp r hr h0 Y) λw M=>?_
 have hwT:w.2.2.2.2.1.length=p.2.length:=by rw[M.t,bH];have q4:wh.length=4:=rfl;omega
 refine bZ p.2.length (λi x=>x.1.1=((bsN p i:Nat):Int)/\x.1.2=(i:Int)/\x.2.1=p/\x.2.2.1=w/\x.2.2.2.length=i/\∀ j:Nat,j<i->GC p.2.length w.2.2.2.2.2 (j:Int) (aK (T:=v_) x.2.2.2 (j:Int))) ?_ ?_ ⟨rfl,rfl,rfl,rfl,rfl,λj hj=>by omega⟩
 .rintro i ⟨⟨a,b⟩,p2,w2,cs⟩ hi ⟨e0,e1,e2,e3,Z,e5⟩;dsimp only at e0 e1 e2 e3 Z e5;subst e0;subst e1;have e2:=e2.symm;subst e2;have e3:=e3.symm;subst e3;have hin:((i:Nat):Int)<(p.2.length:Int):=by omega
  refine db ?_;have hm:=hp.m _ (bJ (T:=yU) (xs:=p.2) (j:=(i:Int)) (by omega) hin);have hsr:=M.s i hi;have hbs:=ai8 hi;have hb1:=Wj (i+1) Y;have hbo:boN p i=nE 3 (aK (T:=yU) p.2 (i:Int)).2.2.2:=ajp λs hs=>(hm.s s hs).t
  rw[hbo] at hsr hbs;dsimp only;refine aS (by omega) hin (aR (aS (by omega) hin (aR ?_)));revert hm hsr hbs;generalize (aK (T:=yU) p.2 (i:Int))=t;intro hm hsr hbs;have hk:ME 3=50+16*(50+16*50):=rfl;have hle:=cH (ME 3) hm.b;rw[hk] at hle;have hll:t.2.2.1.length=2:=by rw[hm.l];rfl
  refine ax (O3 (nT:=p.2.length) (ss:=w.2.2.2.2.2) (t:=(i:Int)) 3 (by omega) _ _ [] (by have:=hm.b;omega) hm.s ⟨M.x.c,M.x.l,M.x.d,M.x.f,M.t,hm.l⟩ hsr (by rw[hk,jU];omega)) λy hy=>bf (by simp) ?_
  obtain⟨g2,o2⟩:=y;obtain⟨q1,q2,q3⟩:=hy;dsimp only at q1 q2 q3;have q4:=q2.u;rw[hk,jU] at q4;refine ax (Iw _ _ o2 (by omega)) λy hy=>bf (by simp) ?_
  obtain⟨g3,I⟩:=y;obtain⟨hg3,U⟩:=hy;dsimp only at hg3 U;have hL:aP (al g3.2.2.2.2.2.2.1)=2:=by
   rw[hg3];show aP (al g2.2.2.2.2.2.2.1)=2;rw[q1.h];show aP (al t.2.2.1)=2;rw[hll];rfl
  have l3:I.length=o2.length+1:=by rw[U,bm];rfl
  have J:I.length-1=o2.length:=by omega
  have iq:∀ q:Nat,q<o2.length->iA I q=iA o2 q:=λq hq=>by rw[U,I5 hq]
  have iend:iA I o2.length=(28,0,0,0,0,-1):=by rw[U,xD]
  have hreg:∀ q:Nat,q<I.length->∀ j:Int,j∈iO (iA I q)->0<=j/\j<32:=λq hq j hj=>by
   by_cases h:q<o2.length
   .rw[iq q h] at hj;exact (q2.i q (jT _) h).o.r j hj
   .rw[show q=o2.length by omega,iend] at hj;simp[iO] at hj
  dsimp only;rw[hL];refine bZ I.length (λk x=>∃ rg:Int,x=((k:Int),p,w,g3,rg,cs,I)/\2<=rg/\rg<=32/\∀ q:Nat,q<k->∀ j:Int,j∈iO (iA I q)->j<rg) ?_ ?_ ⟨2,rfl,by omega,by omega,λq hq=>by omega⟩
  .rintro k x hk2 ⟨rg,rfl,r0,r1,r2⟩;refine db ?_;dsimp only;refine bX (bX (aR (aT (tS _) ?_)));have hrk:=hreg k hk2;have hrl:=CU (iA I k);revert hrk hrl;generalize hins:(aK (T:=BO) I (k:Int))=ins;rw[show iA I k=ins from hins];intro hrk hrl;refine bZ (iO ins).length (λj x=>∃ rg':Int,x=((j:Int),p,w,g3,rg',cs,I)/\rg<=rg'/\rg'<=32/\∀ q:Nat,q<j->rg'>aK (T:=.int .i64) (iO ins) (q:Int)) ?_ ?_ ⟨rg,rfl,eR _,r1,λq hq=>by omega⟩
   .rintro j x hj ⟨rg',rfl,s0,s1,s2⟩;refine db ?_;refine bX (aR (ar ?_));have hz:=hrk _ (bJ (T:=.int .i64) (xs:=iO ins) (j:=(j:Int)) (by omega) (by omega));dsimp only;obtain⟨z,hzj⟩:∃ z:Int,aK (T:=.int .i64) (iO ins) (j:Int)=z:=⟨_,rfl⟩
    rw[hzj] at hz ⊢;have hz0:(0:Int)<=z:=hz.1;have hz1:(32:Int)>z:=hz.2;rw[gy (by omega),ig (n:=z+1) (by omega) (by omega)];have him:rg'<=iE rg' (z+1)/\z+1<=iE rg' (z+1)/\iE rg' (z+1)<=32:=by
     unfold iE;split
     .rename_i h;have h:=tO.1 h;omega
     .rename_i h;have h:=gk.1 (N5.2 h);omega
    refine ⟨_,rfl,by omega,him.2.2,λq hq=>?_⟩;rcases b_ q j with h1|h1
    .have:=s2 q h1;omega
    .rw[show q=j by omega,hzj];exact Int.lt_of_lt_of_le (show z<z+1 by omega) him.2.1
   .rintro x ⟨rg',rfl,s0,s1,s2⟩;refine dc (ar ?_);refine ⟨rg',by dsimp only;rw[gy (by omega)],by omega,s1,λq hq j hj=>?_⟩;rcases b_ q k with h1|h1
    .have:=r2 q h1 j hj;omega
    .rw[show q=k by omega,show iA I k=ins from hins] at hj;exact iv (T:=.int .i64) (p:=λc=>rg'>c) s2 j hj
  .rintro x ⟨rg,rfl,r0,r1,r2⟩;refine dc (QQ (bg (by simp;omega) (by omega) (QP (ar ?_))));dsimp only;have q3':(g2.2.2.2.2.2.2.2.2:Int)=(bsN p i:Nat)+(nE 3 t.2.2.2:Nat):=q3;refine ⟨by rw[q3',hbs];omega,gy (by omega),rfl,rfl,by simp;omega,λj hj=>?_⟩;rcases b_ j i with h1|h1
   .rw[Js (T:=v_) (by rw[Z];exact h1)];exact e5 j h1
   .rw[show j=i by omega,Jr (T:=v_) (by rw[Z];omega),Z,HN];refine ⟨show (1:Int)<=rg by omega,r1,show 1<=I.length by omega,show I.length<=1000000 by omega,?_,?_,?_,?_,?_⟩
    .show (iA I (I.length-1)).1=28/\(iA I (I.length-1)).2.2.2.2.2= -1;rw[J,iend];exact⟨rfl,rfl⟩
    .show qV I 0 (I.length-1);rw[J];exact q2.b.congr λq _ hq=>iq q hq
    .show ∀ q:Nat,q<I.length-1->GI p.2.length w.2.2.2.2.2 (i:Int) (iA I q);rw[J];exact λq hq=>by rw[iq q hq];exact q2.i q (jT _) hq
    .show ∀ q:Nat,q<I.length-1->(iA I q).1=10->0<=(iA I q).2.2.1/\(iA I q).2.2.1<(I.length:Int)
     rw[J];intro q hq h10;rw[iq q hq] at h10 ⊢;have:=q2.r q (jT _) hq h10;omega
    .exact λq hq j hj=>r2 q (show q<I.length by have hq:q<I.length-1:=hq;omega) j hj
 .rintro⟨⟨a,b⟩,p2,w2,cs⟩ ⟨e0,e1,e2,e3,Z,e5⟩;dsimp only at e0 e1 e2 e3 Z e5;subst e1;subst e2;subst e3;refine dc (ar ?_);have hgc:∀ t∈cs,∃ k:Nat,GC p2.2.length w2.2.2.2.2.2 (k:Int) t:=iv (T:=v_) λk hk=>⟨k,e5 k (by omega)⟩
  refine ⟨by dsimp only;omega,λt ht=>?_,λt ht=>?_,M.x,Wt M.x ?_ ?_⟩
  .obtain⟨k,hk⟩:=hgc t ht;exact hk.u
  .obtain⟨k,hk⟩:=hgc t ht;exact hk.r0
  .dsimp only;rw[Z,hwT]
  .dsimp only;rw[Z];exact e5
theorem LC (a b:List Int) (M:a.length<=9223372036854775807) (J:∀ z∈a,0<=z/\z<=255) (hb:b.length<=1000000):Ok (sD (a,b)) TR:=by
 unfold sD;refine ax (P:=CB) ?_ λc hc=>ax (WG b hb) λl hl=>?_
 .unfold xB;exact ax (Hd a M J) λp hp=>ax (P0 p hp.1 hp.2) λy I=>ar I
 .exact ax (akg c l hc (by omega)) λy I=>ar I
theorem PZ (a b c:List Int) (n:Int) (n0:0<=n) (n1:n<=1000000) (M:a.length<=9223372036854775807) (J:∀ z∈a,0<=z/\z<=255) (hc:c.length<=9223372036854775807) (I:∀ z∈c,0<=z/\z<=255):Ok (kX ((a,b,c),n)) TR:=by
 unfold kX bz bC aZ;refine bI (λ_=>ax (It c n hc I) λy h=>ar h) λ_=>?_
 have h0:0<=Hh (aP b.length) n/\Hh (aP b.length) n<=(b.length:Int)/\Hh (aP b.length) n<=n:=by
  unfold Hh;split
  .rename_i h;rw[tO] at h;dsimp only[au] at h;exact⟨n0,by omega,eR _⟩
  .rename_i h;have h:=gk.1 (N5.2 h);dsimp only[au] at h ⊢;exact⟨by omega,eR _,h⟩
 refine dx (eM h0.1 (eM h0.2.1 ?_));have h1:(dQ (aU (Hh (aP b.length) n)) b).length<=1000000:=by rw[bH];have:=h0.1;have:=h0.2.2;omega
 exact ax (LC a _ M J h1) λy h=>ar h
def HS.zero (w:uY):HS:=⟨aG w.2.2.2.2.1.length [],aG w.2.2.2.2.1.length [],aG w.2.1.length [],aG w.2.1.length [],aG w.1.length [],aG w.2.2.2.1.length [],[],aG w.2.2.2.2.1.length [],aG w.2.2.2.2.1.length (-1)⟩
theorem HS.zero_ok {w:uY} (h1:w.1.length<=1000) (h2:w.2.1.length<=1000) (J:w.2.2.2.1.length<=1000) (I:w.2.2.2.2.1.length<=1000):Ub 0 (HS.zero w):=by
 have z:(0:Int)<=0:=by omega
 exact⟨z,by omega,BH.repl z _,BH.repl z _,BH.repl z _,BH.repl z _,BH.repl z _,BH.repl z _,En.nil z,BH.repl z _,by simpa[HS.zero] using I,by simp[HS.zero],by simp[HS.zero],by simp[HS.zero],by simpa[HS.zero] using h2,by simp[HS.zero],by simpa[HS.zero] using h1,by simpa[HS.zero] using J⟩
structure Fit (w:uY) (h:HS):Prop where
 T:h.T.length=w.2.2.2.2.1.length
 L:h.L.length=w.2.1.length
 C:h.C.length=w.1.length
 F:h.F.length=w.2.2.2.1.length
theorem Fit.zero (w:uY):Fit w (HS.zero w):=⟨by simp[HS.zero],by simp[HS.zero],by simp[HS.zero],by simp[HS.zero]⟩
theorem Fit.ent {w:uY} {h:HS} (f:Fit w h) (e:EV) (x:List Int):Fit w (jN w h e x):=by
 obtain⟨a,b,c,d,g,i,j,k⟩:=F_ w h e x;exact⟨a.trans f.T,c.trans f.L,g.trans f.C,i.trans f.F⟩
theorem Fit.step {w:uY} {h:HS} (f:Fit w h) (e:EV):Fit w (Qn w h e).1:=f.ent e _
def evP (e:ET):EV:=⟨e.1.toNat,e.2.1.toNat,e.2.2.1.toNat,e.2.2.2.1⟩
theorem amy {w:WT} {e:ET} (f:EvF w e):EvT (evP e) e:=by
 obtain⟨⟨k1,k2,ce,lk,cd,th,fu⟩,t0,_,_⟩:=f;refine ⟨(G' t0).symm,(G' (by omega)).symm,λh=>(G' ?_).symm,rfl⟩;unfold evP at h;simp only[bp,cz,gi] at h;by_cases h1:e.2.1=3\/e.2.1=4
 .exact (ce h1).1
 by_cases h2:6<=e.2.1/\e.2.1<=11
 .exact (lk h2).1
 by_cases M:16<=e.2.1/\e.2.1<=19
 .exact (cd M).1
 by_cases J:e.2.1=20\/e.2.1=21
 .exact (th J).1
 by_cases I:e.2.1=22\/e.2.1=23
 .exact (fu I).1
 omega
theorem acb {w:WT} {e:ET} (f:EvF w e) (wb:WB w) {h:HS} (I:Fit w h):EOK w h (evP e):=by
 obtain⟨⟨k1,k2,ce,lk,cd,th,fu⟩,t0,t1,J⟩:=f;have Z:=wb.t;have Y:=I.T;have U:=I.L;have f3:=I.C;have M:=I.F;unfold evP;refine ⟨by dsimp only;omega,by dsimp only;omega,by dsimp only;omega,by dsimp only;omega,λq=>?_,λq=>?_,λq=>?_,λq=>?_,λq=>?_⟩<;>dsimp only at q ⊢
 .have:=th (by omega);omega
 .have:=lk (by omega);omega
 .have g:=cd (by omega);have hl:e.2.2.1.toNat<w.2.2.1.length:=by omega
  have hm:=J (w.2.2.1.getD e.2.2.1.toNat ([],0)) (by rw[aA,aB hl];exact vi hl);refine ⟨hl,hm.1,?_⟩;unfold Ow;have:=hm.2;have:=hm.1;omega
 .have:=ce (by omega);omega
 .have:=fu (by omega);omega
theorem iD {σ R:Type} {f:σ->Option (σ⊕R)} {Q:R->Prop} (n:Nat) (hn:n<=1000000) (I:Nat->σ->Prop) (h0:∀ i x,i<n->I i x->Ok (f x) λr=>match r with|.inl y=>I (i+1) y|.inr r=>Q r) (h1:∀ x,I n x->Ok (f x) λr=>match r with|.inl _=>False|.inr r=>Q r) {x:σ} (U:I 0 x):Ok (gg f x) Q:=by
 have key:∀ m i x,i+m=n->I i x->∃ r,iterN f (m+1) x=af r/\Q r:=by
  intro m;induction m with
  |zero=>
   intro i x hi U;have:i=n:=by omega
   subst this;obtain⟨r,M,J⟩:=h1 x U;cases r with
   |inl y=>exact J.elim
   |inr r=>exact⟨r,by rw[iterN,M],J⟩
  |succ m Y=>
   intro i x hi U;obtain⟨r,M,J⟩:=h0 i x (by omega) U;cases r with
   |inl y=>
    obtain⟨r,g3,Z⟩:=Y (i+1) y (by omega) J;exact⟨r,by rw[iterN,M];exact g3,Z⟩
   |inr r=>exact⟨r,zk (n:=1) (by rw[iterN,M]) (by omega),J⟩
 obtain⟨r,M,J⟩:=key n 0 x (by omega) U;exact⟨r,zk M (by omega),J⟩
theorem N7 (a b:Int):e9 (a,b)=af (decide (0<=a/\a<b)):=by
 refine ci ?_;unfold e9 iW aF;with_reducible repeat' first|(refine OS.ok ?_;constructor)|refine IM.mk λ_=>?_
 .by_cases h:a<b<;>simp[*,fR]
 .simp;omega
theorem T3 (l:List Int) (t:Int) (hl:l.length<=1000):kw (l,t)=af (l.contains t):=by
 refine ci ?_;unfold kw rJ xN be bz bB aZ cK aF cD;refine ax (P:=λy:Int=>0<=y↔t∈l) ?_ λy I=>ar ?_
 .refine iD l.length (by omega) (λi x=>x=(i:Int)/\∀ j,j<i->¬l.getD j 0=t) ?_ ?_ ⟨rfl,λj hj=>by omega⟩
  .rintro i x hi ⟨rfl,hn⟩;refine db ?_;refine bX (aR (aJ (λh=>ar ?_) λh=>ar ?_))
   .refine ⟨λ_=>?_,λ_=>by omega⟩;have h:t=aK (T:=.int .i64) l (i:Int):=h;rw[h];exact bJ (T:=.int .i64) (xs:=l) (by omega) (by omega)
   .refine ⟨gy (by omega),λj hj=>?_⟩;have h:¬t=l.getD i 0:=h;by_cases e:j=i
    .subst e;exact λg=>h g.symm
    .exact hn j (by omega)
  .rintro x ⟨rfl,hn⟩;refine dc (ar ?_);refine ⟨λg=>(by omega),λg=>?_⟩;obtain⟨j,hj,e⟩:=List.getElem_of_mem g;exact (hn j hj (by rw[aA,aB hj];exact e)).elim
 .by_cases h:t∈l
  .have:=I.2 h;simp[c8,h,this]
  .have:¬0<=y:=λg=>h (I.1 g)
   simp[c8,h,this]
theorem aiu (w:WT) (s:SY) (I:w.2.2.1.length<=1000) (cd:∀ c∈w.2.2.1,0<=c.2/\c.2<w.2.1.length) (e1:s.1.length=w.2.1.length) (e2:s.2.2.1.length=w.2.2.2.1.length) (e3:s.2.2.2.length=w.2.2.2.2.1.length):kg (w,s)=af ai:=by
 refine ci ?_;unfold kg tP aY bh bx dA bz iV bB aZ cK aF cD;refine aX (λx=>x=(aj,w)) ?_ ?_
 .refine b8 (λh=>(h (by dsimp only[au];omega)).elim) λ_=>b8 (λh=>(h (by dsimp only[au];omega)).elim) λ_=>ar ?_
  dsimp only[au];rw[e3];simp
 rintro x rfl;refine gz (iD w.2.2.1.length (by omega) (λi x=>x=((i:Int),w)) ?_ ?_ rfl)
 .rintro i x hi rfl;refine db ?_;refine bX (aR (aT (N7 _ _) (b8 (λh=>(h ?_).elim) λ_=>ar ?_)))
  .exact cd _ (bJ (T:=T9) (xs:=w.2.2.1) (j:=(i:Int)) (by omega) (by omega))
  .dsimp only;rw[gy (by omega)]
 .rintro x rfl;exact dc (ar rfl)
theorem ad4 (w:WT) (k o:Int) (h:NM w k o):l7 (w,k,o)=af ai:=by
 refine ci ?_;obtain⟨k1,k2,ce,lk,cn,th,fu,no,mu,rw_⟩:=h;unfold l7 aY bh bx cC be bB aZ aF;rcases @I1 k with rfl|rfl|rfl|rfl|rfl|rfl|rfl|rfl|rfl|rfl|rfl|rfl|rfl|rfl|rfl|rfl|rfl|rfl|rfl|rfl|rfl|rfl|rfl|⟨hk,I⟩
 case inr.inr.inr.inr.inr.inr.inr.inr.inr.inr.inr.inr.inr.inr.inr.inr.inr.inr.inr.inr.inr.inr.inr=>omega
 all_goals simp only[aV,bt,tj,N7]
 all_goals with_reducible repeat' first|(refine OS.ok ?_;constructor)|refine IM.mk λ_=>?_
 all_goals try simp only[au,rc] at*
 all_goals first|omega|exact rw_ ⟨by decide,by decide⟩|(simp only[*,Bool.not_false,cM];done)
theorem aj6 {n:Nat} (w:WT) (s:SY) (hs:SB n s) (hn:n<=1000) (t k o:Int) (he:EN w s t k o) (hr:Wy w s t k o):oM (w,s,t,k,o)=af ai:=by
 refine ci ?_;obtain⟨nm,t0,t1,cd,e1,e2,e3⟩:=id he;obtain⟨_,_,ce,lk,cn,th,fu,no,mu,rw_⟩:=nm;obtain⟨_,_,_,aq,wr,ra,rl,rr,xb,xe,ab,ae,nt,sp,jo,se,ge⟩:=hr;have hm:16<=k/\k<=19->0<=(aK (T:=T9) w.2.2.1 o).2/\(aK (T:=T9) w.2.2.1 o).2<w.2.1.length:=λh=>cd _ (bJ (cn h).1 (cn h).2)
 have M:6<=k/\k<=11->kw ((aK (T:=AC) s.1 o).2,t)=af ((aK (T:=AC) s.1 o).2.contains t):=λh=>T3 _ _ (by
  have:=hs.rd _ (bJ (T:=AC) (lk h).1 (by have:=(lk h).2;omega));omega)
 have lk1:6<=k/\k<=11->0<=o/\o<(s.1.length:Int):=λh=>by have:=lk h;omega
 have J:t<(s.2.2.2.length:Int):=by omega
 have fu1:k=22\/k=23->0<=o/\o<(s.2.2.1.length:Int):=λh=>by have:=fu h;omega
 have th1:k=20\/k=21->0<=o/\o<(s.2.2.2.length:Int):=λh=>by have:=th h;omega
 have I:∀ {p:Prop} [Decidable p],p->decide p=ai:=λh=>aQ h
 unfold oM aY bh bx dA cX be iV bB aZ aF;refine aJ (λh=>?_) λn6=>?_
 .have h:k=6:=h;exact aS (lk1 (by omega)).1 (lk1 (by omega)).2 (aR (ar (I (aq (.inl h)))))
 refine aJ (λh=>?_) λU=>?_
 .have h:k=10:=h;refine gj (aS (lk1 (by omega)).1 (lk1 (by omega)).2 (aR (aJ (λ_=>?_) λg=>(g (aq (.inr (.inr h)))).elim)));refine aS (lk1 (by omega)).1 (lk1 (by omega)).2 (aR (ar (ar (I ?_))));have:=wr h;dsimp only[au] at this ⊢;omega
 refine aJ (λh=>?_) λZ=>?_
 .have h:k=8:=h;refine gj (aS (lk1 (by omega)).1 (lk1 (by omega)).2 (aR (aJ (λ_=>?_) λg=>(g (aq (.inr (.inl h)))).elim)));refine aS (lk1 (by omega)).1 (lk1 (by omega)).2 (aR (aT (M (by omega)) (ar (ar ?_))));rw[ra h];rfl
 refine aX (λx=>x.2=(w,s)/\(x.1=ai↔k=7\/k=11)) (aJ (λh=>ar ⟨rfl,λ_=>.inl h,λ_=>I h⟩) λh=>ar ⟨rfl,λh2=>.inr (bi h2),λh2=>I (h2.resolve_left h)⟩) ?_;rintro⟨b,x⟩ ⟨e,hb⟩;dsimp only at e hb;subst e;refine aO (λh=>?_) λ_=>?_
 .have h:=hb.1 h;exact aS (lk1 (by omega)).1 (lk1 (by omega)).2 (aR (ar (I (rl h))))
 refine aJ (λh=>?_) λY=>?_
 .have h:k=9:=h;refine aS (lk1 (by omega)).1 (lk1 (by omega)).2 (aR (aT (M (by omega)) (ar (rr h))))
 refine aJ (λh=>ar (I (xb h))) λ_=>aJ (λh=>ar (I (xe h))) λ_=>?_
 refine aJ (λh=>aS t0 J (aR (ar (by have:=ab h;dsimp only at this ⊢;rw[this];rfl)))) λ_=>aJ (λh=>aS t0 J (aR (ar (ae h)))) λ_=>?_
 refine aX (λx=>x.2=(w,s)/\(x.1=ai->k=16\/k=18\/k=19)) (aJ (λh=>ar ⟨rfl,λ_=>.inl h⟩) λ_=>aJ (λh=>ar ⟨rfl,λ_=>.inr (.inl h)⟩) λ_=>ar ⟨rfl,λh=>.inr (.inr (bi h))⟩) ?_;rintro⟨c,x⟩ ⟨e,hc⟩;dsimp only at e hc;subst e;refine aO (λh=>?_) λ_=>?_
 .have h:=hc h;have hq:=hm (by omega);exact aS (cn (by omega)).1 (cn (by omega)).2 (aR (aS hq.1 (by rw[e1];exact hq.2) (aR (ar (I (nt h))))))
 refine aJ (λh=>?_) λ_=>?_
 .have h:k=20:=h;exact gj (b8 (λ_=>aS (th1 (.inl h)).1 (th1 (.inl h)).2 (aR (ar (ar (I (sp h).2))))) λg=>((sp h).1 g).elim)
 refine aJ (λh=>?_) λ_=>?_
 .have h:k=21:=h;exact gj (b8 (λ_=>aS (th1 (.inr h)).1 (th1 (.inr h)).2 (aR (ar (ar (I (jo h).2))))) λg=>((jo h).1 g).elim)
 refine aJ (λh=>aS (fu1 (.inl h)).1 (fu1 (.inl h)).2 (aR (ar (by have:=se h;dsimp only at this ⊢;rw[this];rfl)))) λ_=>aJ (λh=>aS (fu1 (.inr h)).1 (fu1 (.inr h)).2 (aR (ar (ge h)))) λ_=>ar rfl
theorem Eh {n:Nat} (w:WT) (s:SY) (hs:SB n s) (hn:n<=1000) (U:w.2.2.1.length<=1000) (t k o:Int) (he:EN w s t k o) (hr:Wy w s t k o):jd (w,s,t,k,o)=af ai:=by
 refine ci ?_;obtain⟨nm,t0,t1,cd,e1,e2,e3⟩:=id he;have hrd:=aj6 w s hs hn t k o he hr;have M:t<(s.2.2.2.length:Int):=by omega
 unfold jd aY bh bx bL dA cX be bB aZ aF;refine aX (λx=>x=(aj,w,s)) ?_ ?_
 .refine aT (aiu w s U cd e1 e2 e3) (fJ rfl (aT (N7 _ _) ?_));refine b8 (λh=>(h ⟨t0,t1⟩).elim) λ_=>aT (ad4 w k o nm) (ar rfl)
 rintro x rfl;refine gz (aS t0 M (aR ?_));refine aJ (λh=>ar (aQ (hr.b h))) λn1=>?_
 refine aJ (λh=>?_) λn17=>?_
 .have h:k=17:=h;obtain⟨a1,a2,a3⟩:=hr.wk h;obtain⟨J,I⟩:=nm.cd (by omega);have hq:=cd _ (bJ (T:=T9) (xs:=w.2.2.1) (j:=o) J I);refine gj (aJ (λ_=>aJ (λ_=>?_) λg=>(g a2).elim) λg=>(g a1).elim);exact aS J I (aR (aS hq.1 (by rw[e1];exact hq.2) (aR (ar (ar (aQ a3))))))
 refine gj (aJ (λ_=>aT hrd (ar (ar rfl))) λg=>(g (hr.r n1 n17)).elim)
theorem aew (w:WT) (e:ET) (h1:e.2.1=1\/e.2.1=2->e.2.2.2.2.1= -1) (h2:¬(e.2.1=1\/e.2.1=2)->0<=e.2.2.2.2.1/\e.2.2.2.2.1<w.2.2.2.2.2.length/\(aK (T:=yd) w.2.2.2.2.2 e.2.2.2.2.1).1=e.1):jB (w,e)=af ai:=by
 refine ci ?_;unfold jB aY dW cX be bz iW bB aZ aF;refine aX (λx=>x.2=(w,e)/\(x.1=ai↔e.2.1=1\/e.2.1=2)) (aJ (λh=>ar ⟨rfl,λ_=>.inl h,λ_=>rfl⟩) λh=>ar ⟨rfl,λh2=>.inr (bi h2),λh2=>aQ (h2.resolve_left h)⟩) ?_;rintro⟨b,x⟩ ⟨e1,hb⟩;dsimp only at e1 hb;subst e1;refine aO (λh=>ar (aQ (h1 (hb.1 h)))) λh=>?_
 obtain⟨a1,a2,a3⟩:=h2 λg=>by rw[hb.2 g] at h;cases h
 exact gj (eZ (λ_=>db (aS a1 a2 (aR (ar (ar (aQ a3)))))) λg=>(by dsimp only at g;omega))
theorem ad2 {l:List Int} (h:HJ l) (i:Nat) (hi:i<l.length):∀ z∈l.drop (i+1),l.getD i 0<z:=by
 induction l generalizing i with
 |nil=>cases hi
 |cons a l I=>
  cases i with
  |zero=>exact λz J=>h.1 z (by simpa using J)
  |succ i=>exact I h.2 i (by simpa using hi)
theorem R4 (w:WT) (s:SN) (e:ET) (ce:e.2.1=3\/e.2.1=4->0<=e.2.2.1/\e.2.2.1<w.1.length) (de:0<e.2.2.2.2.2.1.length->e.2.1=5\/(e.2.1=3\/e.2.1=4)/\¬(aK (T:=Qb) w.1 e.2.2.1).2.2.1=0) (fr:0<e.2.2.2.2.2.2.length->e.2.1=4\/e.2.1=22) (t0:0<=e.1) (t1:e.1<s.2.2.2.length) (nd:AN (aK (T:=.int .i64) s.2.2.2 e.1) e.2.2.2.2.2.1) (nf:AN (aK (T:=.int .i64) s.2.2.2 e.1) e.2.2.2.2.2.2) (ld:e.2.2.2.2.2.1.length<=1000000) (lf:e.2.2.2.2.2.2.length<=1000000):eV (w,s,e)=af ai:=by
 refine ci ?_;unfold eV jr aY bh bx cC bL dA fh be bz iW bC bB aZ cK aF cD;refine aX (λx=>x.2=(s,e)/\((e.2.1=3\/e.2.1=4)/\¬(aK (T:=Qb) w.1 e.2.2.1).2.2.1=0->x.1=ai)) ?_ ?_
 .refine aJ (λh=>?_) λn3=>aJ (λh=>?_) λn4=>?_
  .exact aS (ce (.inl h)).1 (ce (.inl h)).2 (aR (ar ⟨rfl,λg=>by simpa using g.2⟩))
  .exact aS (ce (.inr h)).1 (ce (.inr h)).2 (aR (ar ⟨rfl,λg=>by simpa using g.2⟩))
  .exact ar ⟨rfl,λg=>(g.1.elim n3 n4).elim⟩
 rintro⟨b,x⟩ ⟨e1,hb⟩;dsimp only at e1 hb;subst e1;refine aX (λx=>x.1=s/\x.2.1=e/\(0<e.2.2.2.2.2.1.length->x.2.2.1=ai)/\(0<e.2.2.2.2.2.2.length->x.2.2.2=ai)) ?_ ?_
 .refine aJ (λZ=>aJ (λI=>ar ⟨rfl,rfl,λ_=>rfl,λ_=>rfl⟩) λI=>ar ⟨rfl,rfl,λ_=>rfl,λg=>?_⟩) λZ=>aJ (λI=>ar ⟨rfl,rfl,λg=>?_,λ_=>rfl⟩) λI=>ar ⟨rfl,rfl,λg=>?_,λg=>?_⟩
  .exact aQ ((fr g).resolve_left I)
  .exact hb ((de g).resolve_left Z)
  .exact hb ((de g).resolve_left Z)
  .exact aQ ((fr g).resolve_left I)
 rintro⟨s',e',a,b'⟩ ⟨e1,e2,h1,h2⟩;dsimp only at e1 e2 h1 h2;subst e1;subst e2;have key:∀ (r:List Int),r.length<=1000000->AN (aK (T:=.int .i64) s'.2.2.2 e'.1) r->∀ j:Nat,j<r.length->∀ z∈r.drop (j+1),aK (T:=.int .i64) r (j:Int)<z:=λr _ h j hj z U=>ad2 h.a j hj z U
 refine iD 2 (by omega) (λi x=>x=((i:Int),s',e',a,b')) ?_ ?_ rfl
 .rintro i x hi rfl;refine db ?_;refine dx (eM (by dsimp only;omega) (Ao (by dsimp only;omega) (aR ?_)));have hr:∃ r:List Int,aK (T:=.sl (.int .i64)) [e'.2.2.2.2.2.1,e'.2.2.2.2.2.2] (i:Int)=r/\AN (aK (T:=.int .i64) s'.2.2.2 e'.1) r/\r.length<=1000000/\(0<r.length->aK (T:=.bool) [a,b'] (i:Int)=ai):=by
   match i,hi with
   |0,_=>exact⟨_,rfl,nd,ld,h1⟩
   |1,_=>exact⟨_,rfl,nf,lf,h2⟩
  obtain⟨r,er,hA,hl,Y⟩:=hr;have er':aK (T:=.sl aM) [e'.2.2.2.2.2.1,e'.2.2.2.2.2.2] (i:Int)=r:=er;dsimp only at er' ⊢;rw[er'];refine aX (λx=>x=(aj,s',e',a,b')) ?_ ?_
  .refine bI (λg=>?_) λ_=>ar rfl
   have g':0<r.length:=by dsimp only[au] at g;omega
   refine dx (eM (by omega) (Ao (by omega) (bX (aR (ar ?_)))));rw[Y g'];rfl
  rintro x rfl;refine gz ?_;refine iD r.length (by omega) (λj x=>x.1.2=(j:Int)/\x.2=(s',e',a,b')/\∀ z∈r.drop j,x.1.1<z) ?_ ?_ ⟨rfl,rfl,λz U=>?_⟩
  .rintro j ⟨⟨la,ix⟩,x⟩ hj ⟨M,J,g3⟩;dsimp only at M J g3;subst M;subst J;have m:aK (T:=.int .i64) r (j:Int)∈r:=bJ (T:=.int .i64) (xs:=r) (by omega) (by omega);have m2:aK (T:=.int .i64) r (j:Int)∈r.drop j:=by
    have:aK (T:=.int .i64) r (j:Int)=r[j]:=by
     show r.getD j 0=_;rw[aA,aB hj];rfl
    rw[this,List.drop_eq_getElem_cons hj];exact dk
   refine db ?_;refine bX (aR (aX (λx=>x=(aj,s',e',a,b')) ?_ ?_))
   .refine eZ (λg=>?_) λ_=>aS t0 t1 (aR (ar ?_))
    .have q1:=g3 _ m2;exact cR q1 (by dsimp only at g;exact λq=>cR (Int.lt_of_lt_of_le q g) (Int.lt_irrefl _))
    .have:=(hA.m _ m).2;rw[l9.2 (show aK (T:=.int .i64) r (j:Int)<aK (T:=.int .i64) s'.2.2.2 e'.1 from this)]
   rintro x rfl;exact gz (ar ⟨gy (by omega),rfl,key r hl hA j hj⟩)
  .rintro⟨⟨la,ix⟩,x⟩ ⟨M,J,_⟩;dsimp only at M J;subst M;subst J;exact dc (ar (gO (·,s',e',a,b') (gy (by omega))))
  .have:=(hA.m z (by simpa using U)).1;dsimp only;omega
 .rintro x rfl;exact dc (ar rfl)
theorem amu (w:WT) (s:SN) (I:w.2.2.1.length<=1000) (t k o:Int) (he:EN w s.1 t k o) (hf:F16 w s):kU (w,s)=af ai:=by
 obtain⟨_,_,_,cd,e1,e2,e3⟩:=he;obtain⟨M,J,f3⟩:=hf;refine ci ?_;unfold kU aY bh bx dA be aZ aF;refine gj (aT (aiu w s.1 I cd e1 e2 e3) (QR (aJ (λ_=>aJ (λ_=>ar (ar (aQ ?_))) λg=>(g ?_).elim) λg=>(g ?_).elim)));all_goals dsimp only[au];omega
theorem HQ (th:List (Int×Int×Bool)) (c:Int) (i:Nat):wl th c (i+1)=if Ii c (aK (T:=jA) th (i:Int)) then wl th c i++[(i:Int)] else wl th c i:=rfl
theorem aei {n:Nat} (w:WT) (s:SN) (hs:SB n s.1) (e:ET) (hf:F16 w s) (he:EN w s.1 e.1 e.2.1 e.2.2.1) (va:VA w s.1 s.2.1 s.2.2.1 e.1 e.2.1 e.2.2.1 e.2.2.2.1):gB (s,e)=af ai:=by
 refine ci ?_;obtain⟨t,k,o,v,si,de,fr⟩:=e;obtain⟨s1,s2,s3,s4⟩:=s;obtain⟨nm,t0,t1,cd,e1,e2,e3⟩:=he;obtain⟨_,_,ce,lk,cn,th,fu,_,_,_⟩:=nm;obtain⟨f1,f2,f3⟩:=hf;have hth:=hs.th;obtain⟨v3,Y,v5,vel⟩:=va;dsimp only at*
 unfold gB lK aY bh bx cC bL be bz bB aZ cK aF cD;refine aJ (λh=>?_) λn3=>?_
 .have h:k=3:=h;obtain⟨c0,c1⟩:=ce (.inl h);exact aS c0 (by rw[f1];exact c1) (aR (ar (aQ (v3 h))))
 refine aJ (λh=>?_) λZ=>?_
 .have h:k=23:=h;obtain⟨c0,c1⟩:=fu (.inr h);exact aS c0 (by rw[f2];exact c1) (aR (ar (aQ (Y h))))
 refine aJ (λh=>?_) λn5=>?_
 .have h:k=5:=h;exact gj (aJ (λ_=>ar (ar rfl)) λg=>ar (ar (aQ ((v5 h).resolve_left g))))
 refine aX (λx=>x.2=((s1,s2,s3,s4),t,k,o,v,si,de,fr)/\(x.1=aj->¬k=4/\¬k=22)) (aJ (λh=>ar ⟨rfl,λh2=>(by rw[aQ h] at h2;cases h2)⟩) λh=>ar ⟨rfl,λh2=>⟨h,Uc h2⟩⟩) ?_;rintro⟨b,x⟩ ⟨e,hb⟩;dsimp only at e hb;subst e;refine aO (λh=>ar rfl) λh=>?_
 obtain⟨n4,n22⟩:=hb h;have vel:=vel n3 Z n5 n4 n22;have hWl:=vL s1.2.2.2 o s1.2.2.2.length;refine aJ (λh=>?_) λn18=>?_
 .have h:k=18:=h;subst h;rw[FA] at vel;refine iD s1.2.2.2.length (by omega) (λi x=>x.1.2.2=(i:Int)/\x.2=(t,18,o,v,si,de,fr)/\x.1.1=((wl s1.2.2.2 o i).length:Int)/\(x.1.2.1=ai↔v∈wl s1.2.2.2 o i)) ?_ ?_ ⟨rfl,rfl,rfl,by simp[wl]⟩
  .rintro i ⟨⟨c,hit,ix⟩,x⟩ hi ⟨J,I,M,U⟩;dsimp only at J I M U;subst J;subst I;subst M;have hl:=vL s1.2.2.2 o i;refine db ?_;refine aX (λx=>x.2=(t,18,o,v,si,de,fr)/\x.1.1=((wl s1.2.2.2 o (i+1)).length:Int)/\(x.1.2=ai↔v∈wl s1.2.2.2 o (i+1))) ?_ ?_
   .refine bX (aR (aX (λx=>x=(Ii o (aK (T:=jA) s1.2.2.2 (i:Int)),t,18,o,v,si,de,fr)) ?_ ?_))
    .unfold Ii;refine aJ (λh=>ar ?_) λh=>ar ?_
     .dsimp only at h ⊢;rw[h];rfl
     .dsimp only at h ⊢;rw[bw h];rfl
    rintro x rfl;rw[HQ];dsimp only;cases hw:Ii o (aK (T:=jA) s1.2.2.2 (i:Int)) with
    |true=>
     refine QR (aO (λh=>ar ⟨rfl,?_,?_⟩) λh=>ar ⟨rfl,?_,?_⟩)
     .dsimp only;rw[gy (by omega)];simp
     .simp[U.1 h]
     .dsimp only;rw[gy (by omega)];simp
     .have:¬v∈wl s1.2.2.2 o i:=λg=>by rw[U.2 g] at h;cases h
      simp[this]
    |false=>exact gz (ar ⟨rfl,rfl,U⟩)
   rintro⟨⟨c,hit'⟩,x⟩ ⟨J,I,M⟩;dsimp only at J I M;subst J;subst I;exact ar ⟨gy (by omega),rfl,rfl,M⟩
  .rintro⟨⟨c,hit,ix⟩,x⟩ ⟨J,I,M,U⟩;dsimp only at J I M U;subst J;subst I;subst M;refine dc (ax (P:=λy=>y=ai) (gj (aO (λ_=>ar (ar rfl)) λh=>?_)) λy hy=>ar hy);have hn:¬v∈wl s1.2.2.2 o s1.2.2.2.length:=λg=>by rw[U.2 g] at h;cases h
   by_cases h0:(wl s1.2.2.2 o s1.2.2.2.length).length=0
   .rw[aE h0] at vel;refine aJ (λ_=>ar (ar (aQ vel))) λg=>(g (by dsimp only;omega)).elim
   .rw[ay h0] at vel;have vel:v=BD (wl s1.2.2.2 o s1.2.2.2.length) v:=vel;exact (hn (vel▸Ib v h0)).elim
 refine aJ (λh=>?_) λn19=>?_
 .have h:k=19:=h;subst h;rw[ajy] at vel;refine iD s1.2.2.2.length (by omega) (λi x=>x.1.2=(i:Int)/\x.2=(t,19,o,v,si,de,fr)/\x.1.1=((wl s1.2.2.2 o i).length:Int)) ?_ ?_ ⟨rfl,rfl,rfl⟩
  .rintro i ⟨⟨c,ix⟩,x⟩ hi ⟨J,I,M⟩;dsimp only at J I M;subst J;subst I;subst M;have hl:=vL s1.2.2.2 o i;refine db ?_;refine aX (λx=>x.2=(t,19,o,v,si,de,fr)/\x.1=((wl s1.2.2.2 o (i+1)).length:Int)) ?_ ?_
   .refine bX (aR (aX (λx=>x=(Ii o (aK (T:=jA) s1.2.2.2 (i:Int)),t,19,o,v,si,de,fr)) ?_ ?_))
    .unfold Ii;refine aJ (λh=>ar ?_) λh=>ar ?_
     .dsimp only at h ⊢;rw[h];rfl
     .dsimp only at h ⊢;rw[bw h];rfl
    rintro x rfl;rw[HQ];dsimp only;cases hw:Ii o (aK (T:=jA) s1.2.2.2 (i:Int)) with
    |true=>
     refine QR (ar ⟨rfl,?_⟩);dsimp only;rw[gy (by omega)];simp
    |false=>exact gz (ar ⟨rfl,rfl⟩)
   rintro⟨c,x⟩ ⟨J,I⟩;dsimp only at J I;subst J;subst I;exact ar ⟨gy (by omega),rfl,rfl⟩
  .rintro⟨⟨c,ix⟩,x⟩ ⟨J,I,M⟩;dsimp only at J I M;subst J;subst I;subst M;exact dc (ar (aQ vel))
 exact ar (aQ (by rw[aic _ _ _ _ _ _ n18 n19] at vel;exact vel))
theorem aac (x:Int×Int×Bool) (c:Int):mn (x,c)=af (Ii c x):=by
 refine ci ?_;unfold mn Ii be aF;refine gj (aJ (λh=>ar (ar ?_)) λh=>ar (ar ?_))
 .have h:x.1=3:=h;rw[h];rfl
 .have h:¬x.1=3:=h;rw[bw h];rfl
theorem aco {n:Nat} (s:SY) (hs:SB n s):ku s=af (s.2.1,s.1,s.2.2.1,s.2.2.2):=by
 refine ci ?_;obtain⟨s1,s2,J,I⟩:=s;have hn:=hs.n1;have hlk:=hs.lk;have hdn:=hs.dn;have hth:=hs.th;have hrd:=hs.rd;dsimp only at hlk hdn hth hrd;unfold ku sa aY bL ck bz bC bB aZ cK cD;dsimp only[au];refine dx (dx (eM (by omega) (eM (by omega) (bg (by simp;omega) (by omega) ?_))));refine iD s1.length (by omega) (λi x=>∃ c d,x=((i:Int),(s1,s2,J,I),c,d)/\d.length=s1.length/\∀ j,j<i->d.getD j (0,[])=s1.getD j (0,[])) ?_ ?_ ⟨_,_,rfl,by simp,λj hj=>by omega⟩
 .rintro i x hi ⟨c,d,rfl,hd,he⟩;have hr:=hrd _ (bJ (T:=AC) (xs:=s1) (j:=(i:Int)) (by omega) (by omega));refine db ?_;refine bX (aR (aT (x:=(aK (T:=AC) s1 (i:Int)).2) (ci ?_) ?_))
  .exact bg (by dsimp only;omega) (by omega) (ar rfl)
  refine bX (bX (ar ⟨c,d.set i (aK (T:=AC) s1 (i:Int)),?_,by simp[hd],λj hj=>?_⟩))
  .dsimp only;rw[gy (by omega)];rfl
  .by_cases e:i=j
   .subst e;rw[aA,List.getElem?_set_self (by omega)];rfl
   .rw[aA,List.getElem?_set_ne e,<-aA];exact he j (by omega)
 .rintro x ⟨c,d,rfl,hd,he⟩;have:d=s1:=by
   refine dE hd λj Y M=>?_
   have:=he j M;rw[aA,aA,aB Y,aB M] at this;exact this
  subst this;refine dc (ax (P:=λy=>y=(s2,d,J,I)) ?_ λy U=>ar U);refine aT (x:=J) (ci (bg (by dsimp only;omega) (by omega) (ar rfl))) (aT (x:=I) (ci (bg (by dsimp only;omega) (by omega) (ar rfl))) (ar rfl))
theorem XS (l:List Int) (i u:Int):BD (l++[i]) u=if l.length=0 then i else if i=u then i else BD l u:=by
 unfold BD;cases l with
 |nil=>
  by_cases h:u=i
  .subst h;simp
  .simp[h];rfl
 |cons a r=>
  have e1:¬(a::r++[i]).length=0:=by simp
  have e2:¬(a::r).length=0:=by simp
  simp only[ay e1,ay e2];by_cases h:i=u
  .subst h;simp
  .have h':¬u=i:=λg=>h g.symm
   rw[ay h];have:(a::r++[i]).contains u=(a::r).contains u:=by simp[h']
   rw[this];rfl
theorem PH {th:List (Int×Int×Bool)} {c u:Int} {i:Nat} (h:¬(wl th c i).length=0):0<=BD (wl th c i) u/\BD (wl th c i) u<i:=by
 have:=rm.1 (Ib u h);exact⟨this.1,this.2.1⟩
theorem KK {l:List Int} {u:Int} (h:l.length=0):BD l u= -1:=by unfold BD;rw[aE h]
theorem af2 (s:SY) (o u:Int) (hs:s.2.2.2.length<=1000):jG ((s.2.1,o,u),s.1,s.2.2.1,s.2.2.2)=af (BD (wl s.2.2.2 o s.2.2.2.length) u,s.1,s.2.2.1,if (wl s.2.2.2 o s.2.2.2.length).length=0 then s.2.2.2 else ye s.2.2.2 (BD (wl s.2.2.2 o s.2.2.2.length) u) 4):=by
 refine ci ?_;obtain⟨s1,s2,J,I⟩:=s;dsimp only at hs ⊢;unfold jG qH aY bh bL ck bz iW kB aZ cK aF cD;dsimp only[au];refine iD I.length (by omega) (λi x=>x=((BD (wl I o i) u,(i:Int)),s1,J,I,s2)) ?_ ?_ rfl
 .rintro i x hi rfl;refine db ?_;refine aX (λx=>x=(BD (wl I o (i+1)) u,s1,J,I,s2)) ?_ ?_
  .refine bX (bX (aR ?_));refine aX (λx=>x=(decide (Ii o (aK (T:=jA) I (i:Int))=ai/\((wl I o i).length=0\/(i:Int)=u)),s1,J,I,s2)) ?_ ?_
   .refine aT (aac _ _) (aO (λh=>?_) λh=>ar ?_)
    .have h:Ii o (aK (T:=jA) I (i:Int))=ai:=h;refine bI (λg=>ar ?_) λg=>ar ?_
     .have:(wl I o i).length=0:=vK λq=>by have:=(PH (u:=u) q).1;dsimp only at g;omega
      simp[h,this]
     .have:¬(wl I o i).length=0:=λq=>by have:=KK (u:=u) q;dsimp only at g;omega
      simp[h,this]
    .have h:Ii o (aK (T:=jA) I (i:Int))=aj:=h;simp[h]
   rintro x rfl;rw[HQ];refine aJ (λh=>ar ?_) λh=>ar ?_
   .rw[aE h.1,XS];rcases h.2 with g|g
    .rw[aE g]
    .rw[aE g];simp
   .by_cases g:Ii o (aK (T:=jA) I (i:Int))=ai
    .rw[aE g,XS,ay λq=>h ⟨g,.inl q⟩,ay λq=>h ⟨g,.inr q⟩]
    .rw[ay g]
  rintro x rfl;exact ar (by dsimp only;rw[gy (by omega)])
 .rintro x rfl;refine dc (ax (P:=λy=>y=(BD (wl I o I.length) u,s1,J,if (wl I o I.length).length=0 then I else ye I (BD (wl I o I.length) u) 4)) ?_ λy M=>ar M);refine aX (λx=>x=(s1,J,if (wl I o I.length).length=0 then I else ye I (BD (wl I o I.length) u) 4)) ?_ ?_
  .refine eZ (λg=>?_) λg=>ar ?_
   .have h0:¬(wl I o I.length).length=0:=λq=>by have:=KK (u:=u) q;dsimp only at g;omega
    have hp:=PH (u:=u) h0;refine aS hp.1 hp.2 (aS hp.1 hp.2 (ar ?_));rw[ay h0];rfl
   .have:(wl I o I.length).length=0:=vK λq=>by have:=(PH (u:=u) q).1;dsimp only at g;omega
    rw[aE this]
  rintro x rfl;exact ar rfl
theorem af6 (th:List (Int×Int×Bool)) (l:List Int) (i:Int):C2 th (l++[i])=ye (C2 th l) i 4:=by unfold C2;rw[dR];rfl
theorem af5 (l:List Int):∀ (th:List (Int×Int×Bool)) (j:Int),0<=j->(∀ z∈l,0<=z/\z<th.length/\¬z=j)->aK (T:=jA) (C2 th l) j=aK (T:=jA) th j:=by
 induction l with
 |nil=>intro th j _ _;rfl
 |cons x r J=>
  intro th j hj h;have I:=h x (by simp);refine (J (ye th x 4) j hj λz M=>?_).trans ?_
  .have:=h z (by simp[M]);unfold ye;rw[bW];exact this
  .unfold ye;rw[rP (T:=jA) th x j _ I.1 I.2.1 hj,ay λq=>I.2.2 q.symm]
theorem UE (s:SY) (o:Int) (hs:s.2.2.2.length<=1000):gW ((s.2.1,o),s.1,s.2.2.1,s.2.2.2)=af (((wl s.2.2.2 o s.2.2.2.length).length:Int),s.1,s.2.2.1,C2 s.2.2.2 (wl s.2.2.2 o s.2.2.2.length)):=by
 refine ci ?_;obtain⟨s1,s2,J,I⟩:=s;dsimp only at hs ⊢;unfold gW mB aY bh bL dA ck bz kB aZ cK aF cD;dsimp only[au];refine iD I.length (by omega) (λi x=>x=((((wl I o i).length:Int),(i:Int)),s1,J,C2 I (wl I o i),s2)) ?_ ?_ rfl
 .rintro i x hi rfl;have hl:=vL I o i;have hg:aK (T:=jA) (C2 I (wl I o i)) (i:Int)=aK (T:=jA) I (i:Int):=af5 _ _ _ (by omega) λz M=>by have:=rm.1 M;exact⟨this.1,by omega,by omega⟩
  have hq:=HY (wl I o i) I;refine db ?_;refine aX (λx=>x=(((wl I o (i+1)).length:Int),s1,J,C2 I (wl I o (i+1)),s2)) ?_ ?_
  .refine bX (bX (aR (aT (aac _ _) ?_)));rw[HQ];refine aO (λh=>?_) λh=>ar ?_
   .have h:Ii o (aK (T:=jA) I (i:Int))=ai:=hg▸h;refine bX (bX (ar ?_));rw[aE h,af6];dsimp only;rw[gy (by omega)];simp only[bm,b9,jU];rfl
   .have h:Ii o (aK (T:=jA) I (i:Int))=aj:=hg▸h;rw[h];rfl
  rintro x rfl;exact ar (by dsimp only;rw[gy (by omega)])
 .rintro x rfl;exact dc (ar rfl)
theorem ahi {n:Nat} (w:WT) (s:SY) (hs:SB n s) (hn:n<=1000) (U:w.2.2.1.length<=1000) (t k o u:Int) (he:EN w s t k o) (hr:Wy w s t k o) (J:¬k=8) (I:¬k=9):gX (w,s,t,k,o,u)=af ((rh w s t k o u).1,(rh w s t k o u).2,ai):=by
 refine ci ?_;unfold gX aY bh bx cC dW bL dA cX fh kD ck be bC bB kB aF;refine aT (Eh w s hs hn U t k o he hr) (fJ rfl (aT (aco s hs) ?_));suffices hmain:Ok _ _ from aX (λx=>((x.2.2.2.1,x.2.1,x.2.2.2.2),x.1)=rh w s t k o u) hmain λx M=>ar (by rw[<- M])
 obtain⟨nm,t0,t1,cd,e1,e2,e3⟩:=id he;obtain⟨_,_,ce,lk,cn,th,fu⟩:=nm;have hm:16<=k/\k<=19->0<=(aK (T:=T9) w.2.2.1 o).2/\(aK (T:=T9) w.2.2.1 o).2<w.2.1.length:=λh=>cd _ (bJ (cn h).1 (cn h).2)
 rcases @I1 k with rfl|rfl|rfl|rfl|rfl|rfl|rfl|rfl|rfl|rfl|rfl|rfl|rfl|rfl|rfl|rfl|rfl|rfl|rfl|rfl|rfl|rfl|rfl|⟨hk,Y⟩
 case inr.inr.inr.inr.inr.inr.inr.inr.inr.inr.inr.inr.inr.inr.inr.inr.inr.inr.inr.inr.inr.inr.inr=>omega
 all_goals first|exact (J rfl).elim|exact (I rfl).elim|skip
 all_goals simp only[aV,bt,tj]
 all_goals with_reducible repeat' first|(refine OS.ok ?_;constructor)|refine IM.mk λ_=>?_
 all_goals try simp only[au,rc] at*
 all_goals try rw[bW]
 all_goals first|omega|exact (hm ⟨by decide,by decide⟩).1|exact e1▸(hm ⟨by decide,by decide⟩).2|exact rfl|skip
 .refine aT (af2 s o u hs.th) (bf ?_ (ar ?_))
  .have:al (if (wl s.2.2.2 o s.2.2.2.length).length=0 then s.2.2.2 else ye s.2.2.2 (BD (wl s.2.2.2 o s.2.2.2.length) u) 4)=s.2.2.2.length:=by
    split
    .rfl
    .exact bW ..
   dsimp only;rw[this];simp
  .rw[FA];by_cases h:(wl s.2.2.2 o s.2.2.2.length).length=0
   .rw[aE h,aE h,KK h]
   .rw[ay h,ay h]
 .refine aT (UE s o hs.th) (bf ?_ (ar rfl));dsimp only;rw[HY];simp
def A_:Nat->List (List Int)
 |0=>[[]]
 |m+1=>A_ m++(A_ m).map ((3-(m:Int))::·)
theorem ML:∀ m,[]∈A_ m
 |0=>by simp[A_]
 |m+1=>by simp[A_,ML m]
theorem Et:∀ (m:Nat) (l:List Int),HJ l->(∀ z∈l,4-(m:Int)<=z/\z<4)->l∈A_ m
 |m,[],_,_=>ML m
 |0,a::r,_,h=>by have:=h a (by simp);omega
 |m+1,a::r,hA,h=>by
  have J:=h a (by simp);rw[A_,bQ];by_cases e:a=3-(m:Int)
  .refine .inr (dj.2 ⟨r,Et m r hA.2 λz I=>?_,by rw[e]⟩);have:=h z (by simp[I]);have:=hA.1 z I;omega
  .refine .inl (Et m (a::r) hA λz I=>?_);have:=h z I;rcases bp.1 I with rfl|I
   .omega
   .have:=hA.1 z I;omega
theorem ahn {l:List Int} (h:HJ l) (h2:∀ z∈l,0<=z/\z<4):l∈A_ 4:=Et 4 l h λz I=>by have:=h2 z I;omega
def in4:List Int:=[0,1,2,3]
theorem Xt {t:Int} (h0:0<=t) (h1:t<4):t∈in4:=by
 have:t=0\/t=1\/t=2\/t=3:=by omega
 rcases this with rfl|rfl|rfl|rfl<;>simp[in4]
def amc (l:List Int) (t:Int):Bool:=l.contains t||((wI (l++[t])==af (xq l [t]))&&(lJ (xq l [t])==af (xq l [t]))&&aC (xq l [t]).length (l++[t]).length)
def an7 (l:List Int) (t:Int):Bool:= !l.contains t||(je (l,t)==af (t,wo l t))
theorem aem:((A_ 4).all λl=>in4.all λt=>amc l t)=ai:=by kernel_rfl
theorem afw:((A_ 4).all λl=>in4.all λt=>an7 l t)=ai:=by kernel_rfl
theorem srt8 {l:List Int} {t:Int} (h:HJ l) (h2:∀ z∈l,0<=z/\z<4) (h0:0<=t) (h1:t<4) (hn:¬t∈l):wI (l++[t])=af (xq l [t])/\lJ (xq l [t])=af (xq l [t])/\(xq l [t]).length=(l++[t]).length:=by
 have:=gx.1 (gx.1 aem l (ahn h h2)) t (Xt h0 h1);unfold amc at this;have hc:l.contains t=aj:=by simp[hn]
 rw[hc,Bool.false_or,av,av] at this;exact⟨eq_of_beq this.1.1,eq_of_beq this.1.2,aw this.2⟩
theorem del8 {l:List Int} {t:Int} (h:HJ l) (h2:∀ z∈l,0<=z/\z<4) (h0:0<=t) (h1:t<4) (hn:l.contains t=ai):je (l,t)=af (t,wo l t):=by
 have:=gx.1 (gx.1 afw l (ahn h h2)) t (Xt h0 h1);unfold an7 at this;rw[hn,Bool.not_true,Bool.false_or] at this;exact eq_of_beq this
theorem ag7 (a0 a1 a2:Int) (r0 r1 r2:List Int) (h:Int) (d:List Bool) (th:List (Int×Int×Bool)) (h0:r0.length<=1000) (h1:r1.length<=1000) (h2:r2.length<=1000) (hd:d.length<=1000) (ht:th.length<=1000):ne ([(a0,r0),(a1,r1),(a2,r2)],h,d,th)=af ((h,d,th),(a0,a1,a2),r0,r1,r2):=by
 refine ci ?_;have I:∀ l:List Int,l.length<=1000->o6 l=af l:=λl hl=>ci (bg (by omega) (by omega) (ar rfl))
 unfold ne aY bL bz bC bB aZ aF;refine bf rfl (aX (λx=>x=(([(a0,r0),(a1,r1),(a2,r2)],h,d,th),0,(a0,a1,a2),r0,r1,r2)) ?_ ?_)
 .exact fI rfl (bf rfl (aR (aT (I _ h0) (fI rfl (bf rfl (aR (aT (I _ h1) (fI rfl (bf rfl (aR (aT (I _ h2) (fJ rfl (ar rfl)))))))))))))
 rintro x rfl;refine aT (x:=d) (ci (bg (by dsimp only;omega) (by omega) (ar rfl))) (aT (x:=th) (ci (bg (by dsimp only;omega) (by omega) (ar rfl))) (ar rfl))
theorem ahj {n:Nat} (w:WT) (s:SY) (hs:SB n s) (hn:n<=1000) (I:w.2.2.1.length<=1000) (t k o u:Int) (he:EN w s t k o) (hr:Wy w s t k o) (hk:k=8\/k=9):gX (w,s,t,k,o,u)=ah:=by
 have h1:=Eh w s hs hn I t k o he hr;have h2:=aco s hs;rcases hk with rfl|rfl
 .unfold gX aY bh bx cC dW bL dA cX fh kD ck be bC bB kB aF;simp only[h1,h2,aV,bt,tj];cases fc o (al s.1)<;>rfl
 .unfold gX aY bh bx cC dW bL dA cX fh kD ck be bC bB kB aF;simp only[h1,h2,aV,bt,tj];cases fc o (al s.1)<;>rfl
theorem ahh {n:Nat} (w:WT) (s:SY) (hs:SB n s) (hn:n<=900) (Y:w.2.2.1.length<=1000) (t k u:Int) (he:EN w s t k 2) (hr:Wy w s t k 2) (hk:k=8\/k=9) (Z:s.1.length=3) (hA:HJ (aK (T:=AC) s.1 2).2) (I:∀ z∈(aK (T:=AC) s.1 2).2,0<=z/\z<4) (M:t<4):kY (w,s,t,k,2,u)=af ((rh w s t k 2 u).1,(rh w s t k 2 u).2,ai):=by
 have h1:=Eh w s hs (by omega) Y t k 2 he hr;have t0:=he.t0;have ra:=hr.ra;have rr:=hr.rr;have hrd:=hs.rd;have hdn:=hs.dn;have hth:=hs.th;obtain⟨s1,h,d,th⟩:=s
 match s1,Z with
 |[(a0,r0),(a1,r1),(a2,r2)],_=>
  have g0:r0.length<=n:=hrd (a0,r0) (by simp);have g1:r1.length<=n:=hrd (a1,r1) (by simp);have g2:r2.length<=n:=hrd (a2,r2) (by simp);have hA:HJ r2:=hA;have I:∀ z∈r2,0<=z/\z<4:=I;dsimp only at hdn hth;have hc:=ag7 a0 a1 a2 r0 r1 r2 h d th (by omega) (by omega) (by omega) hdn hth;refine ci ?_;unfold kY aY bh bx cC dW kE dA cX fh qa be wa bC aF;rcases hk with rfl|rfl
  .have ra:r2.contains t=aj:=ra rfl;obtain⟨J,U,q3⟩:=srt8 hA I t0 M (by simpa using ra);simp only[h1,hc,aV,bt,tj];refine aX (λx=>x=(0,(h,d,th),0,(((a0,r0),(a1,r1),a2)),ai,xq r2 [t])) ?_ ?_
   .refine bg (by simp;omega) (by omega) (aT J (bf ?_ (aT U (bf ?_ (ar ?_)))))
    .rw[q3];simp
    .simp
    .rfl
   rintro x rfl;exact ar rfl
  .have rr:r2.contains t=ai:=rr rfl;have J:=del8 hA I t0 M rr;simp only[h1,hc,aV,bt,tj];refine aX (λx=>x=(0,(h,d,th),0,(((a0,r0),(a1,r1),a2)),aj,wo r2 t)) ?_ ?_
   .exact aT J (bf (by simp) (ar rfl))
   rintro x rfl;exact ar rfl
theorem alt {n:Nat} (w:WT) (s:SY) (hs:SB n s) (hn:n<=900) (I:w.2.2.1.length<=1000) (t k o u:Int) (he:EN w s t k o) (hr:Wy w s t k o) (h2:k=8\/k=9->o=2) (M:s.1.length=3) (hA:∀ l∈s.1,HJ l.2/\∀ z∈l.2,0<=z/\z<4) (J:t<4):r7 (w,s,t,k,o,u)=af ((rh w s t k o u).1,(rh w s t k o u).2,ai):=by
 unfold r7;by_cases hk:k=8\/k=9
 .have:=h2 hk;subst this;have hg:=hA _ (bJ (T:=AC) (xs:=s.1) (j:=2) (by omega) (by omega));rw[ahj w s hs (by omega) I t k 2 u he hr hk,ahh w s hs hn I t k u he hr hk M hg.1 hg.2 J];rfl
 .rw[ahi w s hs (by omega) I t k o u he hr (λh=>hk (.inl h)) λh=>hk (.inr h)];rfl
theorem XQ (l:List Int) (h:l.length<=100000):zg l=af l:=ci (bg (by omega) (by omega) (ar rfl))
theorem ag8 (l:List Int) (h:l.length<=100000):o6 l=af l:=ci (bg (by omega) (by omega) (ar rfl))
theorem ao0 {n:Nat} (w:WT) (s:SN) (e:ET) (hs:NB n s) (hn:n<=900) (U:w.2.2.1.length<=1000) (Y:F16 w s) (J:EN w s.1 e.1 e.2.1 e.2.2.1) (hS:S16 w s e) (ld:e.2.2.2.2.2.1.length<=1000000) (lf:e.2.2.2.2.2.2.length<=1000000) (h2:e.2.1=8\/e.2.1=9->e.2.2.1=2) (h3:s.1.1.length=3) (hA:∀ l∈s.1.1,HJ l.2/\∀ z∈l.2,0<=z/\z<4) (t4:e.1<4):fQ (w,s,e)=af (nxP w s e,ai):=by
 refine ci ?_;obtain⟨rd,q1,q2,de,fr,nd,nf,va⟩:=id hS;obtain⟨nm,t0,t1,cd,e1,e2,e3⟩:=id J;obtain⟨k1,k2,ce,lk,cn,th,fu,_,_,_⟩:=nm;obtain⟨f1,f2,f3⟩:=id Y;have hsc:=hs.c;have hsf:=hs.f;have hsk:=hs.k;unfold fQ aY bh bx bL dA cX ck be bz iW kB aZ aF cD;refine aX (λx=>x=(aj,w,s,e,0)) ?_ ?_
 .refine aT (amu w s U _ _ _ J Y) (fJ rfl (dc (eZ (λg=>(by dsimp only[au] at g;omega)) λ_=>dc (ar ?_))));rw[gk.2 (show e.2.1<=23 by omega)]
 rintro x rfl;refine gz (aX (λx=>x=(aj,w,s,e,0)) ?_ ?_)
 .exact aT (Eh w s.1 hs.sb (by omega) U _ _ _ J rd) (fJ rfl (aT (aew w e q1 q2) (fJ rfl (aT (R4 w s e (λh=>ce h) de fr t0 (by rw[f3];exact t1) nd nf ld lf) (fJ rfl (aT (aei w s hs.sb e Y J va) (ar rfl)))))))
 rintro x rfl;refine gz (aX (λx=>x.2=(w,s,e,0)/\rh w s.1 e.1 e.2.1 e.2.2.1 x.1=rh w s.1 e.1 e.2.1 e.2.2.1 e.2.2.2.1) ?_ ?_)
 .exact aJ (λ_=>ar ⟨rfl,rfl⟩) λh=>ar ⟨rfl,X2 _ _ _ _ _ _ _ h⟩
 rintro⟨u,x⟩ ⟨Z,hu⟩;dsimp only at Z hu;subst Z;refine aT (alt w s.1 hs.sb hn U _ _ _ u J rd h2 h3 hA t4) (fJ rfl (aT (XQ _ (by dsimp only;omega)) (aT (XQ _ (by dsimp only;omega)) (aT (ag8 _ (by dsimp only;omega)) ?_))));rw[hu];refine aX (λx=>x.1=e/\x.2.2.1=(rh w s.1 e.1 e.2.1 e.2.2.1 e.2.2.2.1).1/\x.2.2.2.1=Zm s.2.1 e/\x.2.2.2.2.1=fuP s.2.2.1 e/\x.2.2.2.2.2=s.2.2.2) ?_ ?_
 .unfold Zm fuP;refine aJ (λh=>?_) λh=>aJ (λh'=>?_) λh'=>ar ⟨rfl,rfl,(ay h).symm,(ay h').symm,rfl⟩
  .have h:e.2.1=4:=h;have I:=ce (.inr h);exact aS I.1 (by rw[f1];exact I.2) (aS I.1 (by rw[f1];exact I.2) (ar ⟨rfl,rfl,(aE h).symm,(ay (by omega)).symm,rfl⟩))
  .have h:e.2.1=22:=h';have I:=fu (.inl h);exact aS I.1 (by rw[f2];exact I.2) (aS I.1 (by rw[f2];exact I.2) (ar ⟨rfl,rfl,(ay (by omega)).symm,(aE h).symm,rfl⟩))
 rintro⟨x1,x2,x3,x4,x5,x6⟩ ⟨h1,h2,h4,h5,h6⟩;simp only at h1 h2 h4 h5 h6;subst h1;subst h2;subst h4;subst h5;subst h6;have M:x1.1<(s.2.2.2.length:Int):=by rw[f3];exact t1
 exact aS t0 M (aS t0 M (aR (aS t0 M (aS t0 M (ar rfl)))))
theorem Zq (r:List Bool) (e:ET) (h1:∀ y∈e.2.2.2.2.2.1,0<=y/\r.getD y.toNat aj=ai) (h2:∀ y∈e.2.2.2.2.2.2,0<=y/\r.getD y.toNat aj=ai) (ld:e.2.2.2.2.2.1.length<=1000000) (I:e.2.2.2.2.2.2.length<=1000000):cj (r,e)=af ai:=by
 refine ci ?_;unfold cj km dW kD bz iW bC bB aZ cK aF cD;refine iD 2 (by omega) (λi x=>x=(i:Int)) ?_ ?_ rfl
 .rintro i x hi rfl;refine bI (λ_=>?_) λg=>(by omega)
  refine dx (eM (by omega) (Ao (by omega) (aR ?_)));have hr:∃ l:List Int,aK (T:=.sl (.int .i64)) [e.2.2.2.2.2.1,e.2.2.2.2.2.2] (i:Int)=l/\(∀ y∈l,0<=y/\r.getD y.toNat aj=ai)/\l.length<=1000000:=by
   match i,hi with
   |0,_=>exact⟨_,rfl,h1,ld⟩
   |1,_=>exact⟨_,rfl,h2,I⟩
  obtain⟨l,J,hA,hl⟩:=hr;have er':aK (T:=.sl aM) [e.2.2.2.2.2.1,e.2.2.2.2.2.2] (i:Int)=l:=J;dsimp only at er' ⊢;rw[er'];refine iD l.length (by omega) (λj x=>x=(j:Int)) ?_ ?_ rfl
  .rintro j x hj rfl;refine db ?_;have m:=hA _ (bJ (T:=.int .i64) (xs:=l) (j:=(j:Int)) (by omega) (by omega));refine bX (aR (aX (λx=>x=aj) ?_ ?_))
   .revert m;generalize aK (T:=.int .i64) l (j:Int)=z;intro m;have M:z.toNat<r.length:=by
     rcases b_ z.toNat r.length with g|g
     .exact g
     .have:=m.2;rw[aA,bS g] at this;cases this
    refine bI (λg=>(by have:=m.1;omega)) λ_=>eZ (λg=>(by have:=m.1;dsimp only[au] at g;omega)) λ_=>aS m.1 (by have:=m.1;omega) (aR (ar ?_))
    have:aK (T:=.bool) r z=ai:=m.2;show (!aK (T:=.bool) r z)=aj;rw[this];rfl
   rintro x rfl;exact gz (ar (gy (by omega)))
  .rintro x rfl;exact dc (ar (gy (by omega)))
 .rintro x rfl;exact bI (λg=>(by omega)) λ_=>ar rfl
abbrev W8 (n:Nat) (s:List (Int×Int×Int)):WT:=(C0,G9,MF,TJ,wh.take n,s)
theorem WX.w8 {w:WT} (U:WX w):∃ n,(n=1\/n=2\/n=3\/n=4)/\w=W8 n w.2.2.2.2.2:=by
 obtain⟨h1,h2,M,J,⟨n,n1,Y,I⟩,_,_⟩:=U;obtain⟨c,l,d,f,t,s⟩:=w;dsimp only at h1 h2 M J I;subst h1;subst h2;subst M;subst J;subst I;exact⟨n,by omega,rfl⟩
abbrev sn8 (w:WT):SN:=(Qd w,ce0 w,fu0 w,aG w.2.2.2.2.1.length 0)
theorem Ir (s:List (Int×Int×Int)):dl (W8 1 s)=af (sn8 (W8 1 s)):=by kernel_rfl
theorem st2 (s:List (Int×Int×Int)):dl (W8 2 s)=af (sn8 (W8 2 s)):=by kernel_rfl
theorem st3 (s:List (Int×Int×Int)):dl (W8 3 s)=af (sn8 (W8 3 s)):=by kernel_rfl
theorem st4 (s:List (Int×Int×Int)):dl (W8 4 s)=af (sn8 (W8 4 s)):=by kernel_rfl
theorem Cp {w:WT} (I:WX w):dl w=af (sn8 w):=by
 obtain⟨n,hn,e⟩:=I.w8;rw[e];rcases hn with rfl|rfl|rfl|rfl
 .exact Ir _
 .exact st2 _
 .exact st3 _
 .exact st4 _
abbrev VN4:List (List UInt8):=[[120],[121],[118],[113]]
theorem vc8:hP C0=af (VN4,ai):=by kernel_rfl
theorem vn1 (s:List (Int×Int×Int)):dO (W8 1 s,VN4)=af ai:=by kernel_rfl
theorem vn2 (s:List (Int×Int×Int)):dO (W8 2 s,VN4)=af ai:=by kernel_rfl
theorem vn3 (s:List (Int×Int×Int)):dO (W8 3 s,VN4)=af ai:=by kernel_rfl
theorem vn4 (s:List (Int×Int×Int)):dO (W8 4 s,VN4)=af ai:=by kernel_rfl
theorem vs8 {w:WT} (M:WX w) (hb:VL w):fZ w=af ai:=by
 have hv:=M.v;have hs:=M.s;have ht:=hb.t0;unfold SV0 at hv;refine ci ?_;unfold fZ kM aY bh cC cX bz iV bB aZ cK aF cD;refine iD w.2.2.2.2.2.length (by omega) (λi x=>∃ t n:Int,x=((t,n,(i:Int)),w)/\Lr w.2.2.2.2.1.length (w.2.2.2.2.2.take i)=af (t,n)/\0<=t/\t<w.2.2.2.2.1.length/\0<=n/\n<=i) ?_ ?_ ⟨0,0,rfl,rfl,by omega,by omega,by omega,by omega⟩
 .rintro i x hi ⟨t,n,rfl,h1,t0,t1,n0,n1⟩;refine db ?_;refine bX (aR ?_);have h2:=W2 hv (i+1);have I:Lr w.2.2.2.2.1.length (w.2.2.2.2.2.take (i+1))=T_ w.2.2.2.2.1.length (af (t,n)) (aK (T:=yd) w.2.2.2.2.2 (i:Int)):=by rw[Is hi,h1]
  rw[I] at h2;dsimp only;revert h2 I;change _->_->Ok _ _;generalize aK (T:=yd) w.2.2.2.2.2 (i:Int)=z;intro h2 I;obtain⟨(a:Int),(b:Int),(c:Int)⟩:=z;have Y:(a=t/\b=n)\/(t<a/\a<w.2.2.2.2.1.length/\b=0):=by
   simp only[T_] at h2;split at h2
   .rename_i h;exact .inl h
   .split at h2
    .rename_i h;exact .inr h
    .exact (h2 rfl).elim
  refine aX (λx=>x=(aj,w,a,b,c)) ?_ ?_
  .refine dc (ar ?_);dsimp only;rw[l9.2 (by dsimp only[au];omega)]
  rintro x rfl;refine gz ?_;rcases Y with ⟨rfl,rfl⟩|⟨U,J,rfl⟩
  .refine aX (λx=>x=((a,b),w,a,b,c)) (dc (ar rfl)) ?_;rintro x rfl;refine b8 (λg=>(g rfl).elim) λ_=>ar ⟨a,b+1,?_,?_,t0,t1,by omega,by omega⟩
   .dsimp only;rw[ig (n:=b+1) (by omega) (by omega),gy (by omega)]
   .rw[I];simp[T_]
  .refine aX (λx=>x=((a,0),w,a,0,c)) (db (ar rfl)) ?_;rintro x rfl;refine b8 (λg=>(g rfl).elim) λ_=>ar ⟨a,1,?_,?_,by omega,J,by omega,by omega⟩
   .dsimp only;rw[ig (n:=0+1) (by omega) (by omega),gy (by omega)];rfl
   .rw[I];show (if a=t/\(0:Int)=n then af (t,n+1) else if t<a/\a<_/\(0:Int)=0 then af (a,1) else ah)=af (a,1);rw[ay (by omega),aE ⟨U,J,rfl⟩]
 .rintro x ⟨t,n,rfl,_⟩;exact dc (ar rfl)
theorem VW8 {w:WT} (M:WX w) (hb:VL w):dP w=af ai:=by
 have hs:=vs8 M hb;have hvn:dO (w,VN4)=af ai:=by
  obtain⟨n,hn,e⟩:=M.w8;rw[e];rcases hn with rfl|rfl|rfl|rfl
  .exact vn1 _
  .exact vn2 _
  .exact vn3 _
  .exact vn4 _
 have hc:=M.c;have hd:=M.d;have hl:=M.l;obtain⟨w1,w2,w3,U,J,I⟩:=w;obtain⟨b1,b2,b3,b4,b0,Z,Y⟩:=hb;dsimp only at hc hd hl b1 b2 b3 b4 Z Y b0;subst hc;subst hd;subst hl;refine ci ?_;unfold dP kN aY bh cC cX bz bB aZ cK aF cD;have f:∀ n m:Nat,n<=m->fR (m:Int) (aP n)=aj:=λn m h=>gk.2 (by dsimp only[au];omega)
 refine aX (λx=>x=(aj,C0,G9,MF,U,J,I)) ?_ ?_
 .refine fJ rfl (fJ rfl (fJ rfl (fJ (f _ 2 b4) (ar ?_))));rw[show fR 60 (aP (al I))=aj from f _ 60 Y]
 rintro x rfl;refine gz (aX (λx=>x=(aj,C0,G9,MF,U,J,I)) ?_ ?_)
 .refine fJ (gk.2 (by dsimp only[au];omega)) (ar ?_);rw[show fR 4 (aP (al J))=aj from f _ 4 Z]
 rintro x rfl;refine gz (aT vc8 (aX (λx=>x=(aj,C0,G9,MF,U,J,I)) ?_ ?_))
 .exact gz (aT hvn (ar rfl))
 rintro x rfl;refine gz (iD 1 (by omega) (λi x=>x=((i:Int),C0,G9,MF,U,J,I)) ?_ ?_ rfl)
 .rintro i x hi rfl;have:i=0:=by omega
  subst this;refine fI rfl (bf rfl (aR (aT (x:=ai) ?_ (gz (ar rfl)))));rfl
 .rintro x rfl;exact fJ rfl (aT (x:=ai) (by rw[hs];rfl) (ar rfl))
abbrev eN (l:List ET) (i:Nat):ET:=aK (T:=tE) l (i:Int)
theorem JP {l:List ET} {i:Nat} (h:i<l.length):eN l i∈l:=bJ (T:=tE) (by omega) (by omega)
theorem ajm {l:List ET} {e:ET} {i:Nat} (h:i<l.length):eN (l++[e]) i=eN l i:=by
 unfold eN;rw[yM,yM,aA,aA,bO h]
theorem afv (l:List ET) (e:ET):eN (l++[e]) l.length=e:=by
 unfold eN;rw[yM,aA,ca (bV _),HN];rfl
def NQ (w:WT) (l:List ET):SY×List Int×List Int:=l.foldl (λs e=>((rh w s.1 e.1 e.2.1 e.2.2.1 e.2.2.2.1).1,Zm s.2.1 e,fuP s.2.2 e)) (Qd w,ce0 w,fu0 w)
theorem Tl (w:WT) {l:List ET} {i:Nat} (h:i<l.length):NQ w (l.take (i+1))=((rh w (NQ w (l.take i)).1 (eN l i).1 (eN l i).2.1 (eN l i).2.2.1 (eN l i).2.2.2.1).1,Zm (NQ w (l.take i)).2.1 (eN l i),fuP (NQ w (l.take i)).2.2 (eN l i)):=by
 rw[mI (T:=tE) h];unfold NQ;rw[dR];rfl
theorem Acw.all {w:WT} {l:List ET} {sy:SY} {ce fu:List Int} (h:Acw w l sy ce fu):NQ w l=(sy,ce,fu)/\∀ i,i<l.length->SCx w (l.take i) (NQ w (l.take i)).1 (NQ w (l.take i)).2.1 (NQ w (l.take i)).2.2 (eN l i):=by
 induction h with
 |nil=>exact⟨rfl,λi hi=>cR hi (xm _)⟩
 |snoc h hs I=>
  rename_i l sy ce fu e;obtain⟨h1,h2⟩:=I;refine ⟨by unfold NQ at h1 ⊢;rw[dR,h1];rfl,λi hi=>?_⟩;rw[bm,c6] at hi;rcases b_ i l.length with g|g
  .rw[li (by omega),ajm g];exact h2 i g
  .have:i=l.length:=by omega
   subst this;rw[li (bV _),cP,afv,h1];exact hs
theorem TR.sc {w:WT} {l:List ET} (I:TR (w,l)) {i:Nat} (h:i<l.length):SCx w (l.take i) (NQ w (l.take i)).1 (NQ w (l.take i)).2.1 (NQ w (l.take i)).2.2 (eN l i):=by
 obtain⟨sy,ce,fu,ac⟩:=I.ac;exact ac.all.2 i h
def Em (w:WT) (l:List ET):HS:=l.foldl (λh e=>(Qn w h (evP e)).1) (HS.zero w)
def cB (l:List ET) (i:Nat):EV:=evP (eN l i)
def oh (w:WT) (l:List ET) (i:Nat):List Int:=Fu w (Em w (l.take i)) (cB l i)
theorem zn (w:WT) {l:List ET} {i:Nat} (h:i<l.length):Em w (l.take (i+1))=jN w (Em w (l.take i)) (cB l i) (oh w l i):=by
 rw[mI (T:=tE) h];unfold Em;rw[dR];rfl
theorem zo {w:WT} {l:List ET} (I:TR (w,l)):∀ i:Nat,i<=l.length->Ub (i:Int) (Em w (l.take i))/\Fit w (Em w (l.take i))
 |0,_=>by
  have wb:=I.wb;dsimp only at wb;exact⟨HS.zero_ok (by have:=wb.c;omega) (by have:=wb.l;omega) (by have:=wb.f;omega) (by have:=wb.t;omega),Fit.zero w⟩
 |i+1,h=>by
  obtain⟨o,J⟩:=zo I i (by omega);have hl:=I.len;dsimp only at hl;have ok:=acb (I.ev _ (JP (l:=l) (i:=i) (by omega))) I.wb J;rw[zn w (by omega)];exact⟨aam (w:=w) (e:=cB l i) o (by omega) ok.th4,J.step (cB l i)⟩
theorem s5 {w:WT} {l:List ET} (I:TR (w,l)) {i:Nat} (h:i<l.length):EOK w (Em w (l.take i)) (cB l i):=acb (I.ev _ (JP h)) I.wb (zo I i (by omega)).2
theorem ly {w:WT} {l:List ET} (I:TR (w,l)) {i:Nat} (h:i<l.length):EvT (cB l i) (eN l i):=amy (I.ev _ (JP h))
theorem V8 {w:WT} {l:List ET} (I:TR (w,l)) {i:Nat} (h:i<l.length):En ((i:Int)+1) (oh w l i):=PA (zo I i (by omega)).1 (s5 I h).th4
def LE (a b:List Int):Prop:=a.length<=b.length/\∀ k,a.getD k 0<=b.getD k 0
theorem LE.refl (a:List Int):LE a a:=⟨bV _,λ_=>eR _⟩
theorem LE.trans {a b c:List Int} (h:LE a b) (g:LE b c):LE a c:=⟨di h.1 g.1,λk=>Int.le_trans (h.2 k) (g.2 k)⟩
theorem LE.jl {a b:List Int} (h:LE a b):jl a b=b:=wL (by rw[pQ];have:=h.1;omega) λi=>by rw[vR,qB];have:=h.2 i;omega
theorem aok (a b:List Int):LE a (jl a b):=⟨by rw[pQ];omega,λk=>by rw[vR,qB];omega⟩
theorem LE_r (a b:List Int):LE b (jl a b):=⟨by rw[pQ];omega,λk=>by rw[vR,qB];omega⟩
theorem ais (a:List Int) (t:Nat):LE a (tk a t):=⟨by rw[MJ];omega,λk=>by rw[Io];split<;>(try subst k)<;>omega⟩
theorem P9:∀ (l:List (List Int)) (c:List Int),LE c (l.foldl jl c)
 |[],c=>LE.refl c
 |x::r,c=>(aok c x).trans (P9 r _)
theorem ai3 (w:uY) (h:HS) (e:EV):LE (h.T.getD e.th []) (Fu w h e):=(P9 _ _).trans (ais _ _)
theorem qJ {α:Type} (l:List α) (i j:Nat) (x d:α):(l.set i x).getD j d=if i=j/\i<l.length then x else l.getD j d:=by
 rw[aA,oW];by_cases e:i=j
 .subst e;by_cases g:i<l.length
  .rw[aE rfl,aE g,aE ⟨rfl,g⟩];rfl
  .rw[aE rfl,ay g,ay λq=>g q.2,aA,bS (by omega)]
 .rw[ay e,ay λq=>e q.1,aA]
structure od (P:List Int->Prop) (h:HS):Prop where
 T:∀ u,P (h.T.getD u [])
 S:∀ u,P (h.S.getD u [])
 L:∀ u,P (h.L.getD u [])
 R:∀ u,P (h.R.getD u [])
 C:∀ u,P (h.C.getD u [])
 F:∀ u,P (h.F.getD u [])
 X:P h.X
 N:∀ u,P (h.N.getD u [])
theorem od.mono {P Q:List Int->Prop} {h:HS} (a:od P h) (g:∀ x,P x->Q x):od Q h:=⟨λu=>g _ (a.T u),λu=>g _ (a.S u),λu=>g _ (a.L u),λu=>g _ (a.R u),λu=>g _ (a.C u),λu=>g _ (a.F u),g _ a.X,λu=>g _ (a.N u)⟩
theorem od.set {P:List Int->Prop} {l:List (List Int)} {c:List Int} (h:∀ u,P (l.getD u [])) (hc:P c) (i:Nat):∀ u,P ((l.set i c).getD u []):=λu=>by
 rw[qJ];split
 .exact hc
 .exact h u
theorem od.repl {P:List Int->Prop} (h:P []) (n:Nat):∀ u,P ((aG n []).getD u []):=λu=>by
 rw[aA,lA];split<;>exact h
theorem od.zero {P:List Int->Prop} (h:P []) (w:uY):od P (HS.zero w):=⟨od.repl h _,od.repl h _,od.repl h _,od.repl h _,od.repl h _,od.repl h _,h,od.repl h _⟩
theorem od.step {P:List Int->Prop} (hj:∀ a b,P a->P b->P (jl a b)) {w:uY} {h:HS} (a:od P h) (e:EV) {c:List Int} (hc:P c):od P (jN w h e c):=by
 have b:od P {h with T:=h.T.set e.th c}:={a with T:=od.set a.T hc _}
 unfold jN;simp only[];repeat' split
 .exact {b with S:=od.set a.S hc _}
 .exact {b with L:=od.set a.L (hj _ _ (a.L _) hc) _}
 .exact {b with R:=od.set a.R (hj _ _ (a.R _) hc) _}
 .exact {b with L:=od.set a.L (hj _ _ (a.L _) hc) _}
 .exact {b with C:=od.set a.C (hj _ _ (a.C _) hc) _}
 .exact b
 .exact {b with F:=od.set a.F (hj _ _ (a.F _) hc) _}
 .exact {b with X:=hj _ _ a.X hc}
 .exact {b with N:=od.set a.N hc _}
 .exact b
 .refine {b with N:=λu=>?_};have:=a.N u;simp only[CE];rw[aA] at this ⊢;rw[Ek];cases I:h.N[u]? with
  |none=>rw[I] at this;exact this
  |some x=>
   rw[I] at this;simp only[ch,ve];split
   .exact hc
   .exact this
 .exact b
theorem od.src {P:List Int->Prop} {w:uY} {h:HS} (a:od P h) (e:EV):∀ x∈tF w h e,P x:=by
 intro c hc;unfold tF at hc;repeat' (split at hc)
 all_goals simp only[bp,cz,gi] at hc
 .subst hc;exact a.S _
 .subst hc;exact a.T _
 .rcases hc with rfl|rfl
  .exact a.L _
  .exact a.R _
 .subst hc;exact a.L _
 .rcases hc with rfl|rfl|rfl
  .exact a.L _
  .exact a.R _
  .exact a.N _
 .subst hc;exact a.C _
 .subst hc;exact a.F _
 .subst hc;exact a.X
theorem ac8 {P:List Int->Prop} (hj:∀ a b,P a->P b->P (jl a b)):∀ (l:List (List Int)) (c:List Int),P c->(∀ x∈l,P x)->P (l.foldl jl c)
 |[],_,hc,_=>hc
 |x::r,_,hc,h=>ac8 hj r _ (hj _ _ hc (h x (dk ..))) λy I=>h y (cI _ I)
theorem acg (w:uY) (h:HS) (e:EV) (c:List Int):(jN w h e c).T=h.T.set e.th c:=by
 unfold jN;simp only[];repeat' split
 all_goals rfl
def AA (l:List ET) (u:Nat):Nat->Nat
 |0=>0
 |i+1=>if (cB l i).th=u then AA l u i+1 else AA l u i
theorem S8 (l:List ET) (u i:Nat):∀ j,AA l u i<=AA l u (i+j)
 |0=>bV _
 |j+1=>by
  have:=S8 l u i j;show AA l u i<=AA l u (i+j+1);rw[AA];split<;>omega
theorem V3 (l:List ET) (u:Nat) {i j:Nat} (h:i<=j):AA l u i<=AA l u j:=by
 obtain⟨k,rfl⟩:∃ k,j=i+k:=⟨j-i,by omega⟩
 exact S8 l u i k
theorem Ia (l:List ET) (i:Nat):AA l (cB l i).th (i+1)=AA l (cB l i).th i+1:=by rw[AA,aE rfl]
structure Gd (w:WT) (l:List ET) (i:Nat) (x:List Int):Prop where
 le:∀ u,x.getD u 0<=(AA l u i:Int)
 dn:∀ k,k<i->(AA l (cB l k).th k:Int)+1<=x.getD (cB l k).th 0->LE (oh w l k) x
theorem Gd.nil (w:WT) (l:List ET) (i:Nat):Gd w l i []:=⟨λu=>by simp,λk _ h=>by simp at h;omega⟩
theorem Gd.jl {w:WT} {l:List ET} {i:Nat} (a b:List Int) (I:Gd w l i a) (hb:Gd w l i b):Gd w l i (jl a b):=by
 refine ⟨λu=>?_,λk hk h=>?_⟩
 .rw[vR,qB];have:=I.le u;have:=hb.le u;omega
 .rw[vR,qB] at h;by_cases g:(AA l (cB l k).th k:Int)+1<=a.getD (cB l k).th 0
  .exact (I.dn k hk g).trans (aok _ _)
  .exact (hb.dn k hk (by omega)).trans (LE_r _ _)
theorem Gd.succ {w:WT} {l:List ET} {i:Nat} {x:List Int} (h:Gd w l i x):Gd w l (i+1) x:=by
 refine ⟨λu=>?_,λk hk g=>?_⟩
 .have:=h.le u;have:=V3 l u (show i<=i+1 by omega);omega
 .by_cases e:k=i
  .subst e;have:=h.le (cB l k).th;omega
  .exact h.dn k (by omega) g
structure GS1 (w:WT) (l:List ET) (i:Nat) (h:HS):Prop where
 a:od (Gd w l i) h
 t:∀ u,(h.T.getD u []).getD u 0=(AA l u i:Int)
theorem PD {w:WT} {l:List ET} {i:Nat} (g:GS1 w l i (Em w (l.take i))):Gd w l (i+1) (oh w l i)/\(oh w l i).getD (cB l i).th 0=(AA l (cB l i).th i:Int)+1:=by
 have J:Gd w l i ((tF w (Em w (l.take i)) (cB l i)).foldl AI.jl ((Em w (l.take i)).T.getD (cB l i).th [])):=ac8 Gd.jl _ _ (g.a.T _) (g.a.src (w:=w) _);have M:=g.t (cB l i).th;have hL:=P9 (tF w (Em w (l.take i)) (cB l i)) ((Em w (l.take i)).T.getD (cB l i).th []);have U:=(g.a.T (cB l i).th).dn;have I:=ai3 w (Em w (l.take i)) (cB l i);have e:(oh w l i).getD (cB l i).th 0=(AA l (cB l i).th i:Int)+1:=by
  unfold oh Fu;rw[Io,aE rfl];have:=hL.2 (cB l i).th;have:=J.le (cB l i).th;omega
 refine ⟨⟨λu=>?_,λk hk h=>?_⟩,e⟩
 .by_cases hu:(cB l i).th=u
  .subst hu;rw[e,Ia];omega
  .have:=J.le u;unfold oh Fu;rw[Io,ay λq=>hu q.symm,AA,ay hu];exact this
 .by_cases hki:k=i
  .subst hki;exact LE.refl _
  have hk:k<i:=by omega
  by_cases hu:(cB l k).th=(cB l i).th
  .refine (U k hk ?_).trans I;rw[hu,M];have:=V3 l (cB l k).th (show k+1<=i from hk);rw[Ia,hu] at this;omega
  .refine (J.dn k hk ?_).trans (ais _ _);unfold oh Fu at h;rw[Io,ay hu] at h;exact h
theorem I7 {w:WT} {l:List ET} (I:TR (w,l)):∀ i:Nat,i<=l.length->GS1 w l i (Em w (l.take i))
 |0,_=>⟨od.zero (Gd.nil w l 0) w,λu=>by have:=od.repl (P:=λx=>x.getD u 0=0) (by simp) w.2.2.2.2.1.length u;exact this⟩
 |i+1,h=>by
  have g:=I7 I i (by omega);obtain⟨M,J⟩:=PD g;have ht:=(s5 I (show i<l.length by omega)).th;rw[zn w (by omega)];refine ⟨od.step Gd.jl (g.a.mono λx h=>h.succ) _ M,λu=>?_⟩;rw[acg,qJ];by_cases hu:(cB l i).th=u
  .subst hu;rw[aE ⟨rfl,ht⟩,J,Ia];omega
  .rw[ay λq=>hu q.1,g.t u,AA,ay hu]
theorem XR {w:WT} {l:List ET} (I:TR (w,l)) {i:Nat} (h:i<l.length):(oh w l i).getD (cB l i).th 0=(AA l (cB l i).th i:Int)+1:=(PD (I7 I i (by omega))).2
theorem acp {w:WT} {l:List ET} (I:TR (w,l)) {i:Nat} (h:i<l.length):Gd w l (i+1) (oh w l i):=(PD (I7 I i (by omega))).1
def Cov (w:WT) (l:List ET) (k j:Nat):Prop:=(AA l (cB l k).th k:Int)+1<=(oh w l j).getD (cB l k).th 0
theorem Cov.le {w:WT} {l:List ET} (I:TR (w,l)) {k j:Nat} (hk:k<=j) (hj:j<l.length) (h:Cov w l k j):LE (oh w l k) (oh w l j):=(acp I hj).dn k (by omega) h
theorem Cov.of {w:WT} {l:List ET} (I:TR (w,l)) {k j:Nat} (hk:k<l.length) (h:LE (oh w l k) (oh w l j)):Cov w l k j:=by
 have:=h.2 (cB l k).th;rw[XR I hk] at this;exact this
theorem Cov.own {w:WT} {l:List ET} (I:TR (w,l)) {k j:Nat} (hk:k<j) (hj:j<l.length) (h:(cB l k).th=(cB l j).th):Cov w l k j:=by
 unfold Cov;rw[h,XR I hj];have:=V3 l (cB l k).th (show k+1<=j from hk);rw[Ia,h] at this;omega
theorem Cov.trans {w:WT} {l:List ET} (I:TR (w,l)) {i j k:Nat} (hi:i<=j) (hj:j<=k) (hk:k<l.length) (h:Cov w l i j) (g:Cov w l j k):Cov w l i k:=Cov.of I (by omega) ((h.le I hi (by omega)).trans (g.le I hj hk))
def Q8 (r:List Int):Prop:=HJ r/\∀ z∈r,0<=z/\z<4
def P8 (s:List (Int×List Int)):Prop:=∀ x∈s,Q8 x.2
theorem P8.get {s:List (Int×List Int)} (h:P8 s) (o:Int):Q8 (aK (T:=AC) s o).2:=by
 unfold aK;rw[aA];cases e:s[o.toNat]? with
 |none=>exact⟨trivial,λz I=>by cases I⟩
 |some x=>exact h x (bc e)
theorem P8.set {s:List (Int×List Int)} (h:P8 s) (o a:Int) {r:List Int} (hr:Q8 r):P8 (cQ s o (a,r)):=λx I=>by
 rcases CL I with I|rfl
 .exact h x I
 .exact hr
theorem Cn (p:Int->Bool):∀ {l:List Int},HJ l->HJ (l.filter p)
 |[],_=>trivial
 |x::r,h=>by
  rw[List.filter_cons];split
  .exact⟨λy I=>h.1 y ((xn.1 I).1),Cn p h.2⟩
  .exact Cn p h.2
theorem P8.ite {c:Prop} [Decidable c] {a b:SY×Int} (I:P8 a.1.1) (hb:P8 b.1.1):P8 (if c then a else b).1.1:=by by_cases h:c<;>simp[h,I,hb]
theorem P8.ap {w:WT} {s:SY} (h:P8 s.1) {t:Int} (k o v:Int) (t0:0<=t) (J:t<4):P8 (rh w s t k o v).1.1:=by
 have ow:∀ a b,P8 (owP s.1 a b):=λa b=>h.set a b (h.get a)
 have un:P8 (rdP s.1 o (xq (aK (T:=AC) s.1 o).2 [t])):=h.set _ _ ⟨Ql _ _,λz I=>by
  rcases In.1 I with I|I
  .exact (h.get o).2 z I
  .rw[aL] at I;subst I;exact⟨t0,J⟩⟩
 have wt:P8 (rdP s.1 o (wo (aK (T:=AC) s.1 o).2 t)):=h.set _ _ ⟨Cn _ (h.get o).1,λz I=>(h.get o).2 z (xn.1 I).1⟩;unfold rh;exact P8.ite h (P8.ite h (P8.ite (ow _ _) (P8.ite (ow _ _) (P8.ite un (P8.ite wt (P8.ite h (P8.ite h (P8.ite h (P8.ite h (P8.ite (ow _ _) (P8.ite (ow _ _) (P8.ite (P8.ite h h) (P8.ite h (P8.ite h (P8.ite h h)))))))))))))))
def iC (w:WT) (l:List ET):SN:=l.foldl (nxP w) (sn8 w)
theorem MN (w:WT) {l:List ET} {i:Nat} (h:i<l.length):iC w (l.take (i+1))=nxP w (iC w (l.take i)) (eN l i):=by
 rw[mI (T:=tE) h];unfold iC;rw[dR];rfl
structure K8 (w:WT) (l:List ET) (i:Nat) (s:SN):Prop where
 a:(s.1,s.2.1,s.2.2.1)=NQ w (l.take i)
 r:P8 s.1.1
 c:s.2.1.length=w.1.length
 f:s.2.2.1.length=w.2.2.2.1.length
 k:s.2.2.2.length=w.2.2.2.2.1.length
 n:CN (l.take i) s.2.2.2
theorem WY {w:WT} {l:List ET} (I:TR (w,l)):∀ i:Nat,i<=l.length->K8 w l i (iC w (l.take i))
 |0,_=>⟨rfl,λx M=>by rw[pE M];exact⟨trivial,λz J=>by cases J⟩,by simp[iC,ce0],by simp[iC,fu0],by simp[iC],λt t0 t1=>by
   have:(aG w.2.2.2.2.1.length (0:Int)).getD t.toNat 0=0:=by rw[aA,lA];split<;>rfl
   exact this⟩
 |i+1,h=>by
  obtain⟨a,r,c,f,k,n⟩:=WY I i (by omega);have sc:=I.sc (i:=i) (by omega);have hl:=I.len;have ht:=I.wb.t;dsimp only at hl ht;have en:=sc.en;have e1:=en.t1;have htk:=qc i l;rw[MN w (by omega)];refine ⟨?_,r.ap _ _ _ en.t0 (by omega),?_,?_,?_,?_⟩
  .rw[Tl w (by omega),<-a];rfl
  .unfold nxP Zm;dsimp only;split
   .rw[bW];exact c
   .exact c
  .unfold nxP fuP;dsimp only;split
   .rw[bW];exact f
   .exact f
  .unfold nxP;rw[bW];exact k
  .have:=n.next (eN l i) en.t0 (by rw[k];exact e1) (by omega);rw[mI (T:=tE) (show i<l.length by omega)];exact this
theorem Oc {w:WT} {l:List ET} (I:TR (w,l)) {i:Nat} (hi:i<l.length):fQ (w,iC w (l.take i),eN l i)=af (iC w (l.take (i+1)),ai):=by
 obtain⟨a,r,c,f,k,n⟩:=WY I i (by omega);have sc:=I.sc hi;have J:=I.wx;have ht:=I.wb.t;have hls:=I.ls _ (JP hi);dsimp only at J ht hls;rw[MN w hi];rw[<- a] at sc;generalize iC w (l.take i)=s at*
 generalize eN l i=e at*
 have en:=sc.en;have e1:=en.t1;have l3:w.2.1.length=3:=by rw[J.l];rfl
 have M:=n e.1 en.t0 (by rw[k];exact e1);have b1:=I.wb.c;have b4:=I.wb.f;have b3:=I.wb.d;dsimp only at b1 b4 b3;have Z:=en.e1;have Y:=en.e2;have q3:=en.e3;dsimp only at Z Y q3;refine ao0 (n:=4) w s e ⟨⟨by omega,by omega,λx U=>?_,by omega,by omega⟩,by omega,by omega,by omega⟩ (by omega) (by omega) ⟨c,f,k⟩ en ⟨sc.rd,sc.s1,sc.s2,sc.de,sc.fr,by rw[M];exact sc.nd,by rw[M];exact sc.nf,sc.va⟩ hls.1 hls.2 (λh=>?_) (by omega) r (by omega)
 .have:=PP x.2 0 4 (r x U).1 (r x U).2;omega
 .have o1:=en.nm.lk (by omega);have o2:=en.nm.rw (by omega);generalize e.2.2.1=o at o1 o2;rw[J.l] at o1 o2;have:o=0\/o=1\/o=2:=by have:G9.length=3:=rfl;omega
  rcases this with rfl|rfl|rfl
  .cases o2
  .cases o2
  .rfl
abbrev fN (l:List ET) (i:Nat) (t:Int):List Bool:=fl (l.take i) t
theorem O8 {l:List ET} {i:Nat} (h:i<l.length) {t:Int} (e:(eN l i).1=t):fN l (i+1) t=fN l i t++[tH (eN l i)]:=by
 unfold fN;rw[mI (T:=tE) h,uG,zC e]
theorem O9 {l:List ET} {i:Nat} (h:i<l.length) {t:Int} (e:¬(eN l i).1=t):fN l (i+1) t=fN l i t:=by
 unfold fN;rw[mI (T:=tE) h,uG,wR e,gp]
theorem HV {w:WT} {l:List ET} (I:TR (w,l)) {i:Nat} (hi:i<l.length) {t:Int} (e:(eN l i).1=t):cj (fN l i t,eN l i)=af ai:=by
 have sc:=I.sc hi;have hls:=I.ls _ (JP hi);subst e;exact Zq _ _ sc.rd1 sc.rd2 hls.1 hls.2
theorem O_ (l:List ET) (i:Nat) (t:Int):(fN l i t).length<=l.length:=di (XB _ _) (List.length_take_le' ..)
theorem ae4 {w:WT} {l:List ET} (I:TR (w,l)) (hn:w.2.2.2.2.1.length=4):eo (w,l)=af (0,0):=by
 have hl:=I.len;dsimp only at hl;refine ci ?_;unfold eo jJ aY bh bx cC dW kE bL fh kD qa be bz bC bB aZ cK aF cD;refine fJ (gk.2 (by dsimp only[au];omega)) (aT (VW8 I.wx I.vl) (gz (aT (Cp I.wx) (bf (by show (c8 0 (aP w.2.2.2.2.1.length)&&c8 (aP w.2.2.2.2.1.length) (aP w.2.2.2.2.1.length)&&a_ (aU (aP w.2.2.2.2.1.length)) 24&&decide ((aP w.2.2.2.2.1.length:Int)=4))=ai;rw[hn];rfl) ?_))));refine iD l.length (by omega) (λi x=>x=((i:Int),(w,l),iC w (l.take i),fN l i 0,fN l i 1,fN l i 2,fN l i 3)) ?_ ?_ rfl
 .rintro i x hi rfl;have e1:=(I.sc hi).en.t1;have e0:=(I.sc hi).en.t0;have st:=Oc I hi;have fa:=λt=>O_ l i t
  have rd:=λt=>HV I hi (t:=t)
  have own:=λt=>O8 hi (t:=t)
  have oth:=λt=>O9 hi (t:=t)
  refine db ?_;refine bX (aR ?_);have ht:(eN l i).1=0\/(eN l i).1=1\/(eN l i).1=2\/(eN l i).1=3:=by omega
  have hg:aK (T:=tE) l (i:Int)=eN l i:=rfl;dsimp only;rw[hg];generalize eN l i=e at*
  refine aT st ?_;obtain⟨(t:Int),e⟩:=e;dsimp only at ht;rcases ht with rfl|rfl|rfl|rfl
  .refine aX (λx=>x=(aj,(w,l),iC w (l.take i),(0,e),iC w (l.take (i+1)),fN l i 0,fN l i 1,fN l i 2,fN l i 3)) ?_ ?_
   .simp only[aV,bt,tj];exact aT (rd 0 rfl) (ar rfl)
   rintro x rfl;refine gz (aX (λx=>x=((w,l),iC w (l.take i),iC w (l.take (i+1)),fN l (i+1) 0,fN l (i+1) 1,fN l (i+1) 2,fN l (i+1) 3)) ?_ ?_)
   .simp only[aV,bt,tj];rw[own 0 rfl,oth 1 (by show ¬(0:Int)=1;decide),oth 2 (by show ¬(0:Int)=2;decide),oth 3 (by show ¬(0:Int)=3;decide)];have:=fa 0;refine aJ (λh=>bg (by simp;omega) (by omega) (ar ?_)) λh=>bg (by simp;omega) (by omega) (ar ?_)
    .have:tH (0,e)=ai:=by unfold tH;rw[aQ h];rfl
     rw[this]
    .have:tH (0,e)=decide (e.1=23):=by unfold tH;rw[bw h];rfl
     rw[this]
   rintro x rfl;exact ar (by rw[gy (by omega)])
  .refine aX (λx=>x=(aj,(w,l),iC w (l.take i),(1,e),iC w (l.take (i+1)),fN l i 0,fN l i 1,fN l i 2,fN l i 3)) ?_ ?_
   .simp only[aV,bt,tj];exact aT (rd 1 rfl) (ar rfl)
   rintro x rfl;refine gz (aX (λx=>x=((w,l),iC w (l.take i),iC w (l.take (i+1)),fN l (i+1) 0,fN l (i+1) 1,fN l (i+1) 2,fN l (i+1) 3)) ?_ ?_)
   .simp only[aV,bt,tj];rw[own 1 rfl,oth 0 (by show ¬(1:Int)=0;decide),oth 2 (by show ¬(1:Int)=2;decide),oth 3 (by show ¬(1:Int)=3;decide)];have:=fa 1;refine aJ (λh=>bg (by simp;omega) (by omega) (ar ?_)) λh=>bg (by simp;omega) (by omega) (ar ?_)
    .have:tH (1,e)=ai:=by unfold tH;rw[aQ h];rfl
     rw[this]
    .have:tH (1,e)=decide (e.1=23):=by unfold tH;rw[bw h];rfl
     rw[this]
   rintro x rfl;exact ar (by rw[gy (by omega)])
  .refine aX (λx=>x=(aj,(w,l),iC w (l.take i),(2,e),iC w (l.take (i+1)),fN l i 0,fN l i 1,fN l i 2,fN l i 3)) ?_ ?_
   .simp only[aV,bt,tj];exact aT (rd 2 rfl) (ar rfl)
   rintro x rfl;refine gz (aX (λx=>x=((w,l),iC w (l.take i),iC w (l.take (i+1)),fN l (i+1) 0,fN l (i+1) 1,fN l (i+1) 2,fN l (i+1) 3)) ?_ ?_)
   .simp only[aV,bt,tj];rw[own 2 rfl,oth 0 (by show ¬(2:Int)=0;decide),oth 1 (by show ¬(2:Int)=1;decide),oth 3 (by show ¬(2:Int)=3;decide)];have:=fa 2;refine aJ (λh=>bg (by simp;omega) (by omega) (ar ?_)) λh=>bg (by simp;omega) (by omega) (ar ?_)
    .have:tH (2,e)=ai:=by unfold tH;rw[aQ h];rfl
     rw[this]
    .have:tH (2,e)=decide (e.1=23):=by unfold tH;rw[bw h];rfl
     rw[this]
   rintro x rfl;exact ar (by rw[gy (by omega)])
  .refine aX (λx=>x=(aj,(w,l),iC w (l.take i),(3,e),iC w (l.take (i+1)),fN l i 0,fN l i 1,fN l i 2,fN l i 3)) ?_ ?_
   .simp only[aV,bt,tj];exact aT (rd 3 rfl) (ar rfl)
   rintro x rfl;refine gz (aX (λx=>x=((w,l),iC w (l.take i),iC w (l.take (i+1)),fN l (i+1) 0,fN l (i+1) 1,fN l (i+1) 2,fN l (i+1) 3)) ?_ ?_)
   .simp only[aV,bt,tj];rw[own 3 rfl,oth 0 (by show ¬(3:Int)=0;decide),oth 1 (by show ¬(3:Int)=1;decide),oth 2 (by show ¬(3:Int)=2;decide)];have:=fa 3;refine aJ (λh=>bg (by simp;omega) (by omega) (ar ?_)) λh=>bg (by simp;omega) (by omega) (ar ?_)
    .have:tH (3,e)=ai:=by unfold tH;rw[aQ h];rfl
     rw[this]
    .have:tH (3,e)=decide (e.1=23):=by unfold tH;rw[bw h];rfl
     rw[this]
   rintro x rfl;exact ar (by rw[gy (by omega)])
 .rintro x rfl;exact dc (ar rfl)
theorem FI {w:WT} {l:List ET} (I:TR (w,l)) (hn:¬w.2.2.2.2.1.length=4):eo (w,l)=ah:=by
 have hl:=I.len;dsimp only at hl;unfold eo jJ aY bh bx cC dW kE bL fh kD qa be bz bC bB aZ cK aF cD;rw[show fR 400 (aP (al (w,l).2))=aj from gk.2 (by dsimp only[au];omega)];simp only[aV,bt,tj];rw[VW8 I.wx I.vl];simp only[aV,bt,tj];rw[Cp I.wx];simp only[aV,bt,tj];rw[show decide ((aP w.2.2.2.2.1.length:Int)=4)=aj from bw (by dsimp only[au];omega),Bool.and_false];rfl
theorem ae5 {w:WT} {l:List ET} (I:TR (w,l)) (hn:w.2.2.2.2.1.length=3):dL (w,l)=af (0,0):=by
 have hl:=I.len;dsimp only at hl;refine ci ?_;unfold dL jK aY bh bx cC dW bL cX fh kD be bz bC bB aZ cK aF cD;refine fJ (gk.2 (by dsimp only[au];omega)) (aT (VW8 I.wx I.vl) (gz (aT (Cp I.wx) (bf (by show (c8 0 (aP w.2.2.2.2.1.length)&&c8 (aP w.2.2.2.2.1.length) (aP w.2.2.2.2.1.length)&&a_ (aU (aP w.2.2.2.2.1.length)) 24&&decide ((aP w.2.2.2.2.1.length:Int)=3))=ai;rw[hn];rfl) ?_))));refine iD l.length (by omega) (λi x=>x=((i:Int),(w,l),iC w (l.take i),fN l i 0,fN l i 1,fN l i 2)) ?_ ?_ rfl
 .rintro i x hi rfl;have e1:=(I.sc hi).en.t1;have e0:=(I.sc hi).en.t0;have st:=Oc I hi;have fa:=λt=>O_ l i t
  have rd:=λt=>HV I hi (t:=t)
  have own:=λt=>O8 hi (t:=t)
  have oth:=λt=>O9 hi (t:=t)
  refine db ?_;refine bX (aR ?_);have ht:(eN l i).1=0\/(eN l i).1=1\/(eN l i).1=2:=by omega
  have hg:aK (T:=tE) l (i:Int)=eN l i:=rfl;dsimp only;rw[hg];generalize eN l i=e at*
  refine aT st ?_;obtain⟨(t:Int),e⟩:=e;dsimp only at ht;rcases ht with rfl|rfl|rfl
  .refine aX (λx=>x=(aj,(w,l),iC w (l.take i),(0,e),iC w (l.take (i+1)),fN l i 0,fN l i 1,fN l i 2)) ?_ ?_
   .simp only[aV,bt,tj];exact aT (rd 0 rfl) (ar rfl)
   rintro x rfl;refine gz (aX (λx=>x=((w,l),iC w (l.take i),iC w (l.take (i+1)),fN l (i+1) 0,fN l (i+1) 1,fN l (i+1) 2)) ?_ ?_)
   .simp only[aV,bt,tj];rw[own 0 rfl,oth 1 (by show ¬(0:Int)=1;decide),oth 2 (by show ¬(0:Int)=2;decide)];have:=fa 0;refine aJ (λh=>bg (by simp;omega) (by omega) (ar ?_)) λh=>bg (by simp;omega) (by omega) (ar ?_)
    .have:tH (0,e)=ai:=by unfold tH;rw[aQ h];rfl
     rw[this]
    .have:tH (0,e)=decide (e.1=23):=by unfold tH;rw[bw h];rfl
     rw[this]
   rintro x rfl;exact ar (by rw[gy (by omega)])
  .refine aX (λx=>x=(aj,(w,l),iC w (l.take i),(1,e),iC w (l.take (i+1)),fN l i 0,fN l i 1,fN l i 2)) ?_ ?_
   .simp only[aV,bt,tj];exact aT (rd 1 rfl) (ar rfl)
   rintro x rfl;refine gz (aX (λx=>x=((w,l),iC w (l.take i),iC w (l.take (i+1)),fN l (i+1) 0,fN l (i+1) 1,fN l (i+1) 2)) ?_ ?_)
   .simp only[aV,bt,tj];rw[own 1 rfl,oth 0 (by show ¬(1:Int)=0;decide),oth 2 (by show ¬(1:Int)=2;decide)];have:=fa 1;refine aJ (λh=>bg (by simp;omega) (by omega) (ar ?_)) λh=>bg (by simp;omega) (by omega) (ar ?_)
    .have:tH (1,e)=ai:=by unfold tH;rw[aQ h];rfl
     rw[this]
    .have:tH (1,e)=decide (e.1=23):=by unfold tH;rw[bw h];rfl
     rw[this]
   rintro x rfl;exact ar (by rw[gy (by omega)])
  .refine aX (λx=>x=(aj,(w,l),iC w (l.take i),(2,e),iC w (l.take (i+1)),fN l i 0,fN l i 1,fN l i 2)) ?_ ?_
   .simp only[aV,bt,tj];exact aT (rd 2 rfl) (ar rfl)
   rintro x rfl;refine gz (aX (λx=>x=((w,l),iC w (l.take i),iC w (l.take (i+1)),fN l (i+1) 0,fN l (i+1) 1,fN l (i+1) 2)) ?_ ?_)
   .simp only[aV,bt,tj];rw[own 2 rfl,oth 0 (by show ¬(2:Int)=0;decide),oth 1 (by show ¬(2:Int)=1;decide)];have:=fa 2;refine aJ (λh=>bg (by simp;omega) (by omega) (ar ?_)) λh=>bg (by simp;omega) (by omega) (ar ?_)
    .have:tH (2,e)=ai:=by unfold tH;rw[aQ h];rfl
     rw[this]
    .have:tH (2,e)=decide (e.1=23):=by unfold tH;rw[bw h];rfl
     rw[this]
   rintro x rfl;exact ar (by rw[gy (by omega)])
 .rintro x rfl;exact dc (ar rfl)
theorem NZ {w:WT} {l:List ET} (I:TR (w,l)) (hn:¬w.2.2.2.2.1.length=3):dL (w,l)=ah:=by
 have hl:=I.len;dsimp only at hl;unfold dL jK aY bh bx cC dW bL cX fh kD be bz bC bB aZ cK aF cD;rw[show fR 400 (aP (al (w,l).2))=aj from gk.2 (by dsimp only[au];omega)];simp only[aV,bt,tj];rw[VW8 I.wx I.vl];simp only[aV,bt,tj];rw[Cp I.wx];simp only[aV,bt,tj];rw[show decide ((aP w.2.2.2.2.1.length:Int)=3)=aj from bw (by dsimp only[au];omega),Bool.and_false];rfl
theorem ae6 {w:WT} {l:List ET} (I:TR (w,l)) (hn:w.2.2.2.2.1.length=2):dt (w,l)=af (0,0):=by
 have hl:=I.len;dsimp only at hl;refine ci ?_;unfold dt jL aY bh bx cC bL dA fh be bz bC bB aZ cK aF cD;refine fJ (gk.2 (by dsimp only[au];omega)) (aT (VW8 I.wx I.vl) (gz (aT (Cp I.wx) (bf (by show (c8 0 (aP w.2.2.2.2.1.length)&&c8 (aP w.2.2.2.2.1.length) (aP w.2.2.2.2.1.length)&&a_ (aU (aP w.2.2.2.2.1.length)) 24&&decide ((aP w.2.2.2.2.1.length:Int)=2))=ai;rw[hn];rfl) ?_))));refine iD l.length (by omega) (λi x=>x=((i:Int),(w,l),iC w (l.take i),fN l i 0,fN l i 1)) ?_ ?_ rfl
 .rintro i x hi rfl;have e1:=(I.sc hi).en.t1;have e0:=(I.sc hi).en.t0;have st:=Oc I hi;have fa:=λt=>O_ l i t
  have rd:=λt=>HV I hi (t:=t)
  have own:=λt=>O8 hi (t:=t)
  have oth:=λt=>O9 hi (t:=t)
  refine db ?_;refine bX (aR ?_);have ht:(eN l i).1=0\/(eN l i).1=1:=by omega
  have hg:aK (T:=tE) l (i:Int)=eN l i:=rfl;dsimp only;rw[hg];generalize eN l i=e at*
  refine aT st ?_;obtain⟨(t:Int),e⟩:=e;dsimp only at ht;rcases ht with rfl|rfl
  .refine aX (λx=>x=(aj,(w,l),iC w (l.take i),(0,e),iC w (l.take (i+1)),fN l i 0,fN l i 1)) ?_ ?_
   .simp only[aV,bt,tj];exact aT (rd 0 rfl) (ar rfl)
   rintro x rfl;refine gz (aX (λx=>x=((w,l),iC w (l.take i),iC w (l.take (i+1)),fN l (i+1) 0,fN l (i+1) 1)) ?_ ?_)
   .simp only[aV,bt,tj];rw[own 0 rfl,oth 1 (by show ¬(0:Int)=1;decide)];have:=fa 0;refine aJ (λh=>bg (by simp;omega) (by omega) (ar ?_)) λh=>bg (by simp;omega) (by omega) (ar ?_)
    .have:tH (0,e)=ai:=by unfold tH;rw[aQ h];rfl
     rw[this]
    .have:tH (0,e)=decide (e.1=23):=by unfold tH;rw[bw h];rfl
     rw[this]
   rintro x rfl;exact ar (by rw[gy (by omega)])
  .refine aX (λx=>x=(aj,(w,l),iC w (l.take i),(1,e),iC w (l.take (i+1)),fN l i 0,fN l i 1)) ?_ ?_
   .simp only[aV,bt,tj];exact aT (rd 1 rfl) (ar rfl)
   rintro x rfl;refine gz (aX (λx=>x=((w,l),iC w (l.take i),iC w (l.take (i+1)),fN l (i+1) 0,fN l (i+1) 1)) ?_ ?_)
   .simp only[aV,bt,tj];rw[own 1 rfl,oth 0 (by show ¬(1:Int)=0;decide)];have:=fa 1;refine aJ (λh=>bg (by simp;omega) (by omega) (ar ?_)) λh=>bg (by simp;omega) (by omega) (ar ?_)
    .have:tH (1,e)=ai:=by unfold tH;rw[aQ h];rfl
     rw[this]
    .have:tH (1,e)=decide (e.1=23):=by unfold tH;rw[bw h];rfl
     rw[this]
   rintro x rfl;exact ar (by rw[gy (by omega)])
 .rintro x rfl;exact dc (ar rfl)
theorem Z_ {w:WT} {l:List ET} (I:TR (w,l)) (hn:¬w.2.2.2.2.1.length=2):dt (w,l)=ah:=by
 have hl:=I.len;dsimp only at hl;unfold dt jL aY bh bx cC bL dA fh be bz bC bB aZ cK aF cD;rw[show fR 400 (aP (al (w,l).2))=aj from gk.2 (by dsimp only[au];omega)];simp only[aV,bt,tj];rw[VW8 I.wx I.vl];simp only[aV,bt,tj];rw[Cp I.wx];simp only[aV,bt,tj];rw[show decide ((aP w.2.2.2.2.1.length:Int)=2)=aj from bw (by dsimp only[au];omega),Bool.and_false];rfl
theorem ae7 {w:WT} {l:List ET} (I:TR (w,l)) (hn:w.2.2.2.2.1.length=1):ey (w,l)=af (0,0):=by
 have hl:=I.len;dsimp only at hl;refine ci ?_;unfold ey lM aY bh bx bL cX be bz bC bB aZ cK aF cD;refine fJ (gk.2 (by dsimp only[au];omega)) (aT (VW8 I.wx I.vl) (gz (aT (Cp I.wx) (bf (by show (c8 0 (aP w.2.2.2.2.1.length)&&c8 (aP w.2.2.2.2.1.length) (aP w.2.2.2.2.1.length)&&a_ (aU (aP w.2.2.2.2.1.length)) 24&&decide ((aP w.2.2.2.2.1.length:Int)=1))=ai;rw[hn];rfl) ?_))));refine iD l.length (by omega) (λi x=>x=((i:Int),(w,l),iC w (l.take i),fN l i 0)) ?_ ?_ rfl
 .rintro i x hi rfl;have e1:=(I.sc hi).en.t1;have e0:=(I.sc hi).en.t0;have st:=Oc I hi;have fa:=λt=>O_ l i t
  have rd:=λt=>HV I hi (t:=t)
  have own:=λt=>O8 hi (t:=t)
  have oth:=λt=>O9 hi (t:=t)
  refine db ?_;refine bX (aR ?_);have ht:(eN l i).1=0:=by omega
  have hg:aK (T:=tE) l (i:Int)=eN l i:=rfl;dsimp only;rw[hg];generalize eN l i=e at*
  refine aT st ?_;obtain⟨(t:Int),e⟩:=e;dsimp only at ht;subst ht
  .refine aX (λx=>x=(aj,(w,l),iC w (l.take i),(0,e),iC w (l.take (i+1)),fN l i 0)) ?_ ?_
   .simp only[aV,bt,tj];exact aT (rd 0 rfl) (ar rfl)
   rintro x rfl;refine gz (aX (λx=>x=((w,l),iC w (l.take i),iC w (l.take (i+1)),fN l (i+1) 0)) ?_ ?_)
   .simp only[aV,bt,tj];rw[own 0 rfl];have:=fa 0;refine aJ (λh=>bg (by simp;omega) (by omega) (ar ?_)) λh=>bg (by simp;omega) (by omega) (ar ?_)
    .have:tH (0,e)=ai:=by unfold tH;rw[aQ h];rfl
     rw[this]
    .have:tH (0,e)=decide (e.1=23):=by unfold tH;rw[bw h];rfl
     rw[this]
   rintro x rfl;exact ar (by rw[gy (by omega)])
 .rintro x rfl;exact dc (ar rfl)
theorem als {w:WT} {l:List ET} (I:TR (w,l)):my (w,l)=af (0,0):=by
 have h1:=I.vl.t0;have J:=I.vl.t;dsimp only at h1 J;unfold my;have:w.2.2.2.2.1.length=4\/w.2.2.2.2.1.length=3\/w.2.2.2.2.1.length=2\/w.2.2.2.2.1.length=1:=by omega
 rcases this with h|h|h|h
 .rw[ae4 I h];rfl
 .rw[FI I (by omega),ae5 I h];rfl
 .rw[FI I (by omega),NZ I (by omega),ae6 I h];rfl
 .rw[FI I (by omega),NZ I (by omega),Z_ I (by omega),ae7 I h];rfl
theorem aan {w:WT} {l:List ET} (I:TR (w,l)):pO w=af (HS.zero w).t:=by
 have wb:=I.wb;dsimp only at wb;exact adi w (by have:=wb.c;unfold wg;omega) (by have:=wb.l;unfold wg;omega) (by have:=wb.f;unfold wg;omega) (by have:=wb.t;unfold wg;omega)
theorem ael {w:WT} {l:List ET} (I:TR (w,l)) {i:Nat} (hi:i<l.length):sF (w,(Em w (l.take i)).t,eN l i)=af ((Em w (l.take (i+1))).t,oh w l i):=by
 have hl:=I.len;dsimp only at hl;have:=agv (zo I i (by omega)).1 (by omega) (s5 I hi) (ly I hi);rw[zn w hi];exact this
def tA {α:Type} (n:Nat) (f:Nat->α) (z:α) (i:Nat):List α:=(cS n).map λk=>if k<i then f k else z
theorem N' {α:Type} (n:Nat) (f:Nat->α) (z:α) (i:Nat):(tA n f z i).length=n:=by simp[tA]
theorem aak {α:Type} {n:Nat} {f:Nat->α} {z:α} {i:Nat} (h:i<n):(tA n f z i).set i (f i)=tA n f z (i+1):=by
 unfold tA;apply dE
 .simp
 intro k h1 h2;simp only[sS,bR,fK] at h1;rw[vh];simp only[qW,nC];by_cases e:i=k
 .subst e;rw[aE rfl,aE (by omega)]
 .rw[ay e];by_cases g:k<i
  .rw[aE g,aE (by omega)]
  .rw[ay g,ay (by omega)]
theorem WR {α:Type} (n:Nat) (f:Nat->α) (z:α):tA n f z 0=aG n z:=by unfold tA;simp[List.map_const']
theorem aal {α:Type} (n:Nat) (f:Nat->α) (z:α):tA n f z n=(cS n).map f:=qb λk hk=>by rw[aE (lj.1 hk)]
abbrev csN (w:WT) (l:List ET):List (List Int):=(cS l.length).map (oh w l)
theorem ag0 {w:WT} {l:List ET} {i:Nat} (h:i<l.length):(csN w l).getD i []=oh w l i:=by
 rw[aA,ba,v8 h];rfl
theorem Sc {w:WT} {l:List ET} {i:Nat} (h:i<l.length):aK (T:=.sl (.int .i64)) (csN w l) (i:Int)=oh w l i:=by rw[qI];exact ag0 h
theorem Z9 {w:WT} {l:List ET} (I:TR (w,l)):px (w,l)=af (csN w l,0):=by
 have hl:=I.len;dsimp only at hl;refine ci ?_;unfold px xJ aY bL ck bz iV bC bB aZ cK aF cD;refine aT (als I) (gz (aT (aan I) (dx (dx (eM (by dsimp only[au];omega) (eM (by omega) (bg (by simp;omega) (by omega) ?_)))))));refine iD l.length (by omega) (λi x=>x=((i:Int),(w,l),(Em w (l.take i)).t,tA l.length (oh w l) [] i)) ?_ ?_ ?_
 .rintro i x hi rfl;refine db ?_;refine bX (aR ?_);refine aT (ael I hi) ?_;refine aS (by dsimp only;omega) (by dsimp only;rw[N'];omega) (aS (by dsimp only;omega) (by dsimp only;rw[N'];omega) (ar ?_));dsimp only;rw[gy (by omega),fU,aak hi]
 .rintro x rfl;refine dc (ar ?_);dsimp only;rw[aal]
 .show _=_;rw[WR];rfl
abbrev Ke0:Ty:=(.st (.pr Ef (.pr Ef Ef)))
def j9 (x:Int×Int×Int×Int×Int×(List Int)×List Int):Option (Bool):=
 (jn (α:=Bool) (be x.2.1 3 (aF ai) (aF (decide ((x.2.1:Int)=4)))) λI=>(af I))
def mf (x:dz×Int×Int×Int×Int×Int×(List Int)×List Int):Option (Bool):=
 (jn (α:=Bool) (obind (j9 x.2) λJ=>(bcase J (iW 0 x.p3 (bz x.p3 (aZ x.1.1) (bB ky x.1.1 x.p3 λI=>(aF I.2.2.2.1)) (aF aj)) (aF aj)) (aF aj))) λM=>(af M))
def oK (x:gh×Int×Int×Int×Int×Int×(List Int)×List Int):Option (Bool):=
 (jn (α:=Bool) (obind (j9 x.1) λJ=>(bcase J (obind (j9 x.2) λI=>(bcase I (iV x.1.1 x.2.1 (be x.1.p2 x.p3 (be x.1.2.1 4 (aF ai) (aF (decide ((x.p2:Int)=4)))) (aF aj)) (aF aj)) (aF aj))) (aF aj))) λM=>(af M))
def mg (x:(List gh)×Int):Option (Int):=
 (iter (σ:=Int) (λI=>(iW 0 I (bB fH x.1 I λM=>(bB fH x.1 x.2 λJ=>(be M.1 J.1 (aF I) (cK (bk .i64 (I-1)))))) (aF (-1)))) (bk .i64 (x.2-1)))
def sw (x:(List gh)×Int):Option (Int):=
 (iter (σ:=Int×Int) (λI=>(bz I.2 x.2 (jn (α:=Int) (bB fH x.1 I.2 λM=>(bB fH x.1 x.2 λJ=>(be M.1 J.1 (aF (cD I.1)) (aF I.1)))) λU=>(cK (U,(cD I.2)))) (aF I.1))) (0,0))
def uh (x:(List gh)×Int):Option (Int):=
 (obind (mg x) λJ=>(jn (α:=Bool) (bz J 0 (aF ai) (bB fH x.1 J λz3=>(aF (!decide ((z3.2.1:Int)=16))))) λx2=>(bcase x2 (af (-1)) (iter (σ:=Int) (λI=>(bz I x.2 (jn (α:=Bool) (bB fH x.1 I λz6=>(be z6.2.1 18 (bB fH x.1 I λz7=>(bB fH x.1 x.2 λz8=>(be z7.2.2.2.1 z8.1 (aF ai) (bB fH x.1 I λz9=>(be z9.2.1 19 (bB fH x.1 I λz10=>(bB fH x.1 J λZ=>(aF (decide ((z10.2.2.1:Int)=Z.2.2.1))))) (aF aj)))))) (bB fH x.1 I λY=>(be Y.2.1 19 (bB fH x.1 I λU=>(bB fH x.1 J λM=>(aF (decide ((U.2.2.1:Int)=M.2.2.1))))) (aF aj))))) λx5=>(bcase x5 (aF I) (cK (cD I)))) (aF (-1)))) (cD J)))))
def ww (x:dz×(List gh)×Int):Option (List Int):=
 (bB fH x.2.1 x.2.2 λz1=>(iter (σ:=Int×dz×(List Int)×Int×Int×Int×Int×Int×(List Int)×List Int) (λI=>(bz I.1 x.2.2 (bB fH x.2.1 I.1 λz3=>(jn (α:=dz×(List Int)×Int×Int×Int×Int×Int×(List Int)×List Int) (jn (α:=Bool×dz×(List Int)×gh×Int×Int×Int×Int×Int×(List Int)×List Int) (be I.p4 1 (be z3.2.1 20 (aF ((decide ((z3.p2:Int)=I.p3)),I.2.1,I.p2,I.q3,z3)) (aF (aj,I.2.1,I.p2,I.q3,z3))) (aF (aj,I.2.1,I.p2,I.q3,z3))) λU=>(bcase U.1 (bC (a_ (al U.p2+al ([I.1])) 8) (aF (U.2.1,(U.p2++([I.1])),U.p3))) (jn (α:=Bool×dz×(List Int)×gh×Int×Int×Int×Int×Int×(List Int)×List Int) (be U.p3.2.1 21 (aF ((decide ((U.p4:Int)=U.p3.p2)),U.2)) (aF (aj,U.2))) λM=>(bcase M.1 (bC (a_ (al M.p2+al ([I.1])) 8) (aF (M.2.1,(M.p2++([I.1])),M.p3))) (jn (α:=Bool×dz×(List Int)×gh×Int×Int×Int×Int×Int×(List Int)×List Int) (be M.p3.2.1 3 (obind (mf (M.2.1,M.p3)) λy8=>(bcase y8 (be M.p5 4 (aF ((decide ((M.p6:Int)=M.p3.p2)),M.2)) (aF (aj,M.2))) (aF (aj,M.2)))) (aF (aj,M.2))) λJ=>(bcase J.1 (bC (a_ (al J.p2+al ([I.1])) 8) (aF (J.2.1,(J.p2++([I.1])),J.p3))) (jn (α:=Bool×dz×(List Int)×Int×Int×Int×Int×Int×(List Int)×List Int) (be J.p3.2.1 23 (be J.p5 22 (aF ((decide ((J.p6:Int)=J.p3.p2)),J.2.1,J.p2,J.p3)) (aF (aj,J.2.1,J.p2,J.p3))) (aF (aj,J.2.1,J.p2,J.p3))) λZ=>(bcase Z.1 (bC (a_ (al Z.p2+al ([I.1])) 8) (aF (Z.2.1,(Z.p2++([I.1])),Z.q3))) (aF Z.2))))))))) λx4=>(cK ((cD I.1),x4)))) (obind (jn (α:=List Int) (be I.p4 17 (obind (uh x.2) λY=>(iW 0 Y (bC (a_ (al I.p2+al ([Y])) 8) (aF (I.p2++([Y])))) (aF I.p2))) (aF I.p2)) λx10=>(af x10)) λr=>af (bP r)))) (0,x.1,([]:List Int),z1)))
def wv (x:dz×(List gh)×Int):Option (List Int):=
 (bB fH x.2.1 x.2.2 λz1=>(obind (oL (x.1,z1)) λy2=>(iter (σ:=Int×dz×List Int) (λI=>(bz I.1 x.2.2 (jn (α:=dz×List Int) (bB fH x.2.1 I.1 λz5=>(obind (oJ (I.2.1,z5)) λy6=>(jn (α:=Bool×dz×List Int) (iW 0 y2.1 (be y6.1 y2.1 (bcase y2.2 (bcase (!y6.2) (aF (ai,I.2)) (bB fH x.2.1 x.2.2 λz8=>(be z8.2.1 12 (bB fH x.2.1 I.1 λz9=>(aF ((decide ((z9.2.1:Int)=13)),I.2))) (aF (aj,I.2))))) (aF (ai,I.2))) (bB fH x.2.1 x.2.2 λZ=>(be Z.2.1 12 (bB fH x.2.1 I.1 λY=>(aF ((decide ((Y.2.1:Int)=13)),I.2))) (aF (aj,I.2))))) (bB fH x.2.1 x.2.2 λU=>(be U.2.1 12 (bB fH x.2.1 I.1 λM=>(aF ((decide ((M.2.1:Int)=13)),I.2))) (aF (aj,I.2))))) λJ=>(bcase J.1 (bC (a_ (al J.2.2+al ([I.1])) 8) (aF (J.2.1,(J.2.2++([I.1]))))) (aF J.2))))) λx4=>(cK ((cD I.1),x4))) (aF I.2.2))) (0,x.1,([]:List Int)))))
def sx (x:dz×List gh):Option (List (List Int)):=
 (iter (σ:=Int×(dz×List gh)×List (List Int)) (λJ=>(bz J.1 (aZ x.2) (jn (α:=(List Int)×(dz×List gh)×List (List Int)) (obind (mg (J.2.1.2,J.1)) λy3=>(iW 0 y3 (kB (.sl aM) J.2.2 y3 λz4=>(aF (z4,J.2))) (aF (([]:List Int),J.2)))) λZ=>(obind (ww (Z.2.1.1,Z.2.1.2,J.1)) λy5=>(iter (σ:=fE×(dz×List gh)×List (List Int)) (λM=>(bz M.1.2 (aZ y5) (bB aM y5 M.1.2 λz7=>(kB (.sl aM) M.2.2 z7 λz8=>(obind (pJ (M.1.1,z8)) λy9=>(cK ((y9,(cD M.1.2)),M.2))))) (obind (obind (wv (M.2.1.1,M.2.1.2,J.1)) λY=>(iter (σ:=fE×(dz×List gh)×List (List Int)) (λI=>(bz I.1.2 (aZ Y) (bB aM Y I.1.2 λz12=>(kB (.sl aM) I.2.2 z12 λz13=>(obind (pJ (I.1.1,z13)) λy14=>(cK ((y14,(cD I.1.2)),I.2))))) (obind (bB fH I.2.1.2 J.1 λz15=>(obind (pI (I.1.1,z15.1)) λU=>(bC (a_ (al I.2.2+al ([U])) 24) (cK ((cD J.1),I.2.1,(I.2.2++([U]))))))) λr=>af (bP r)))) ((M.1.1,0),M.2))) λr=>af (bP r)))) ((Z.1,0),Z.2)))) (aF J.2.2))) (0,x,([]:List (List Int))))
def vn (x:(List Int)×Int×Int):Option (Bool):=
 (obind (C3 (x.1,x.2.2)) λI=>(af (c8 x.2.1 I)))
def qn (x:(List gh)×Int):Option (Int×Int):=
 (obind (sw x) λJ=>(bB fH x.1 x.2 λI=>(af ((bk .i64 (1+J)),I.1))))
def mN (x:(dz×List gh)×List (List Int)):Option Yd5:=
 (iter (σ:=Int×(dz×List gh)×List (Int×Int)) (λJ=>(bz J.1 (aZ x.1.2) (iter (σ:=Int×(dz×List gh)×List (Int×Int)) (λI=>(bz I.1 J.1 (jn (α:=(dz×List gh)×List (Int×Int)) (jn (α:=Bool×(dz×List gh)×List (Int×Int)) (bB fH I.2.1.2 I.1 λz5=>(bB fH I.2.1.2 J.1 λz6=>(obind (oK (z5,z6)) λy7=>(bcase y7 (bB fH I.2.1.2 J.1 λz8=>(obind (mf (I.2.1.1,z8)) λy9=>(bcase (!y9) (bB (.sl aM) x.2 J.1 λU=>(obind (qn (I.2.1.2,I.1)) λZ=>(obind (vn (U,Z)) λY=>(aF ((!Y),I.2))))) (aF (aj,I.2))))) (aF (aj,I.2)))))) λM=>(bcase M.1 (bC (a_ (al M.2.2+al ([(I.1,J.1)])) 16) (aF (M.2.1,(M.2.2++([(I.1,J.1)]))))) (aF M.2))) λx3=>(cK ((cD I.1),x3))) (aF (lz ((cD J.1),I.2))))) (0,J.2)) (aF J.2.2))) (0,x.1,([]:List (Int×Int))))
def mO (x:Yd5×List (Int×Int)):Option (Bool):=
 (iV (aZ x.1) (aZ x.2) (af aj) (iter (σ:=Int) (λI=>(bz I (aZ x.1) (bB gR x.1 I λM=>(bB gR x.2 I λJ=>(bcase (Ng (.pr aM (.pr aM .un)) (M.1,M.2,()) (J.1,J.2,()) !=ai) (aF aj) (cK (cD I))))) (aF ai))) 0))
def ng (x:(List Int)×(List Int)×List Int):Option (Bool):=
 (obind (kX (x,40)) λI=>(obind (nR I) λJ=>(jn (α:=Bool) (be J.2 0 (obind (sx I) λZ=>(obind (mN (I,Z)) λY=>(obind (mO (J.1,Y)) λU=>(bcase U (obind (tK ()) λM=>(aF M)) (aF aj))))) (aF aj)) λx3=>(af x3))))
theorem MZ (k j v:Int):∀ m:List (Int×Int),wG (K:=.int .i64) (V:=.int .i64) j (EK (K:=.int .i64) (V:=.int .i64) k v m)=if j=k then af v else wG (K:=.int .i64) (V:=.int .i64) j m
 |[]=>by
  show (if decide (j=k)=ai then af v else ah)=_;by_cases h:j=k<;>simp[h,wG]
 |(a,b)::r=>by
  have I:=MZ k j v r;show wG (K:=.int .i64) (V:=.int .i64) j (if decide (k=a)=ai then (k,v)::r else (a,b)::EK (K:=.int .i64) (V:=.int .i64) k v r)=if j=k then af v else if decide (j=a)=ai then af b else wG (K:=.int .i64) (V:=.int .i64) j r
  by_cases h:k=a
  .subst h;rw[aE (aQ rfl)];show (if decide (j=k)=ai then af v else wG (K:=.int .i64) (V:=.int .i64) j r)=_;by_cases g:j=k<;>simp[g]
  .rw[ay (by simpa using h)];show (if decide (j=a)=ai then af b else wG (K:=.int .i64) (V:=.int .i64) j (EK (K:=.int .i64) (V:=.int .i64) k v r))=_;rw[I];by_cases g:j=a
   .subst g;rw[aE (aQ rfl),ay λq=>h q.symm,aE (aQ rfl)]
   .simp only[g,cw,cA,eh]
theorem MY (k j v d:Int) (m:List (Int×Int)):wF (K:=.int .i64) (V:=.int .i64) j (EK (K:=.int .i64) (V:=.int .i64) k v m) d=if j=k then v else wF (K:=.int .i64) (V:=.int .i64) j m d:=by
 unfold wF;rw[MZ];by_cases h:j=k<;>simp[h]
def epN (l:List ET) (i:Nat):Int×Int:=((AA l (cB l i).th i:Int)+1,((cB l i).th:Int))
theorem D5 (l:List ET) (u:Nat):∀ i,AA l u i<=i
 |0=>bV _
 |i+1=>by have:=D5 l u i;rw[AA];split<;>omega
theorem YX {w:WT} {l:List ET} (I:TR (w,l)):pw l=af ((cS l.length).map (epN l)):=by
 have hl:=I.len;dsimp only at hl;refine ci ?_;unfold pw xH ck bz bC bB aZ cK aF cD;refine dx (dx (eM (by dsimp only[au];omega) (eM (by omega) (bg (by simp;omega) (by omega) ?_))));refine iD l.length (by omega) (λi x=>x.1=(i:Int)/\(∀ u:Nat,wF (K:=.int .i64) (V:=.int .i64) (u:Int) x.2.1 0=(AA l u i:Int))/\x.2.2=tA l.length (epN l) (0,0) i) ?_ ?_ ⟨rfl,λu=>rfl,by rw[WR];rfl⟩
 .rintro i ⟨x,m,r⟩ hi ⟨e1,hm,e2⟩;dsimp only at e1 hm e2;subst e1;subst e2;refine db ?_;refine bX (aR ?_);have et:=ly I hi;refine aS (by dsimp only;omega) (by dsimp only;rw[N'];omega) (aS (by dsimp only;omega) (by dsimp only;rw[N'];omega) (ar ?_));have hc:=D5 l (cB l i).th i;have J:(aK (T:=tE) l (i:Int)).1=((cB l i).th:Int):=et.th;have M:bk .i64 (wF (K:=.int .i64) (V:=.int .i64) ((cB l i).th:Int) m 0+1)=(AA l (cB l i).th i:Int)+1:=by rw[hm];exact ig (by omega) (by omega)
  dsimp only;refine ⟨gy (by omega),λu=>?_,?_⟩
  .rw[J,M,MY,AA];by_cases q:(cB l i).th=u
   .subst q;rw[aE rfl,aE rfl];rfl
   .rw[ay (by omega),ay q];exact hm u
  .rw[J,M,MY,aE rfl,fU];exact aak (f:=epN l) hi
 .rintro⟨x,m,r⟩ ⟨e1,hm,e2⟩;dsimp only at e1 hm e2;subst e1;subst e2;refine dc (ar ?_);dsimp only;rw[aal]
theorem ace {l:List ET} {i:Nat} (h:i<l.length):aK (T:=.st (.pr (.int .i64) (.int .i64))) ((cS l.length).map (epN l)) (i:Int)=epN l i:=by
 rw[yM,aA,ba,v8 h];rfl
theorem Lj (c:List Int) (a:Int) (u:Nat):mo (c,a,(u:Int))=af (decide (a<=c.getD u 0)):=by
 unfold mo;dsimp only;rw[Ll];rfl
theorem Tu (w:uY) (o:Nat) (h:o<w.2.2.1.length) (h0:0<=(w.2.2.1.getD o ([],0)).2):ru (w,(o:Int))=af ((Ow w.2.2.1 o:Nat):Int):=by
 have e1:(w.2.2.1.getD o ([],0)).2=((Ow w.2.2.1 o:Nat):Int):=by unfold Ow;omega
 unfold ru aY bh bx cX bz wa aZ aF;simp only[];rw[wO (by omega)];simp only[c4,jh];rw[M6 (by simp;omega)];simp only[c4];rw[cu (cW h),O1,e1]
def Co (w:uY) (e:EV):Int×Bool:=if e.k=6\/e.k=10 then ((e.ob:Int),aj) else if e.k=8 then ((e.ob:Int),ai) else if e.k=17 then ((Ow w.2.2.1 e.ob:Nat),aj) else (-1,aj)
def AE (w:uY) (e:EV):Int×Bool:=if e.k=7\/e.k=11 then ((e.ob:Int),aj) else if e.k=9 then ((e.ob:Int),ai) else if e.k=16 then ((Ow w.2.2.1 e.ob:Nat),aj) else (-1,aj)
theorem alu {w:uY} {h:HS} {e:EV} (ok:EOK w h e) {x:ETp} (hx:EvT e x):oL (w,x)=af (Co w e):=by
 obtain⟨x1,x2,x3,x4,x5,x6,x7⟩:=x;obtain⟨w1,w2,Z,Y,U,M⟩:=w;obtain⟨th,k,ob,va⟩:=e;obtain⟨J,I,q3,q4⟩:=hx;simp only at J I q3 q4;subst J q4;unfold oL aY bh bx cC dW cX kD be aF;rcases HZ I ok.k1 ok.k2 with ⟨e,e'⟩|⟨e,e'⟩|⟨e,e'⟩|⟨e,e'⟩|⟨e,e'⟩|⟨e,e'⟩|⟨e,e'⟩|⟨e,e'⟩|⟨e,e'⟩|⟨e,e'⟩|⟨e,e'⟩|⟨e,e'⟩|⟨e,e'⟩|⟨e,e'⟩|⟨e,e'⟩|⟨e,e'⟩|⟨e,e'⟩|⟨e,e'⟩|⟨e,e'⟩|⟨e,e'⟩|⟨e,e'⟩|⟨e,e'⟩|⟨e,e'⟩<;>clear I<;>subst e<;>subst e'
 case inr.inr.inr.inr.inr.inl=>
  obtain rfl:=q3 (by decide);simp only[aV,cw,cM,cZ,c4,jh,cV];rfl
 case inr.inr.inr.inr.inr.inr.inr.inr.inr.inl=>
  obtain rfl:=q3 (by decide);simp only[aV,cw,cM,cZ,c4,jh,cV];rfl
 case inr.inr.inr.inr.inr.inr.inr.inl=>
  obtain rfl:=q3 (by decide);simp only[aV,cw,cM,cZ,c4,jh,cV];rfl
 case inr.inr.inr.inr.inr.inr.inr.inr.inr.inr.inr.inr.inr.inr.inr.inr.inl=>
  obtain rfl:=q3 (by decide);obtain⟨d1,d2,d3⟩:=ok.cd (.inr rfl);have mu:=Tu (w1,w2,Z,Y,U,M) ob d1 d2;simp only[aV,cw,cM,cZ,c4,jh,cV,mu];rfl
 all_goals
  simp only[aV,cw,cM,cZ,c4,jh,cV];rfl
theorem akh {w:uY} {h:HS} {e:EV} (ok:EOK w h e) {x:ETp} (hx:EvT e x):oJ (w,x)=af (AE w e):=by
 obtain⟨x1,x2,x3,x4,x5,x6,x7⟩:=x;obtain⟨w1,w2,Z,Y,U,M⟩:=w;obtain⟨th,k,ob,va⟩:=e;obtain⟨J,I,q3,q4⟩:=hx;simp only at J I q3 q4;subst J q4;unfold oJ aY bh bx cC dW cX kD be aF;rcases HZ I ok.k1 ok.k2 with ⟨e,e'⟩|⟨e,e'⟩|⟨e,e'⟩|⟨e,e'⟩|⟨e,e'⟩|⟨e,e'⟩|⟨e,e'⟩|⟨e,e'⟩|⟨e,e'⟩|⟨e,e'⟩|⟨e,e'⟩|⟨e,e'⟩|⟨e,e'⟩|⟨e,e'⟩|⟨e,e'⟩|⟨e,e'⟩|⟨e,e'⟩|⟨e,e'⟩|⟨e,e'⟩|⟨e,e'⟩|⟨e,e'⟩|⟨e,e'⟩|⟨e,e'⟩<;>clear I<;>subst e<;>subst e'
 case inr.inr.inr.inr.inr.inr.inl=>
  obtain rfl:=q3 (by decide);simp only[aV,cw,cM,cZ,c4,jh,cV];rfl
 case inr.inr.inr.inr.inr.inr.inr.inr.inr.inr.inl=>
  obtain rfl:=q3 (by decide);simp only[aV,cw,cM,cZ,c4,jh,cV];rfl
 case inr.inr.inr.inr.inr.inr.inr.inr.inl=>
  obtain rfl:=q3 (by decide);simp only[aV,cw,cM,cZ,c4,jh,cV];rfl
 case inr.inr.inr.inr.inr.inr.inr.inr.inr.inr.inr.inr.inr.inr.inr.inl=>
  obtain rfl:=q3 (by decide);obtain⟨d1,d2,d3⟩:=ok.cd (.inl rfl);have mu:=Tu (w1,w2,Z,Y,U,M) ob d1 d2;simp only[aV,cw,cM,cZ,c4,jh,cV,mu];rfl
 all_goals
  simp only[aV,cw,cM,cZ,c4,jh,cV];rfl
theorem Xr (a b:List Int):jl a b=jl b a:=wL (by simp only[pQ];omega) λi=>by simp only[vR,qB];omega
def JC (c:Nat->List Int) (p:Nat->Bool):Nat->List Int
 |0=>[]
 |i+1=>if p i=ai then jl (JC c p i) (c i) else JC c p i
theorem WD (c:Nat->List Int) (p:Nat->Bool):∀ i,(∀ k,k<i->p k=aj)->JC c p i=[]
 |0,_=>rfl
 |i+1,h=>by rw[JC,h i (by omega),ay (by simp)];exact WD c p i λk hk=>h k (by omega)
theorem P_ {c:Nat->List Int} {p:Nat->Bool} {i:Nat} (h:p i=ai):JC c p (i+1)=jl (JC c p i) (c i):=by rw[JC,aE h]
theorem Eg {c:Nat->List Int} {p:Nat->Bool} {i:Nat} (h:p i=aj):JC c p (i+1)=JC c p i:=by rw[JC,ay (by rw[h];simp)]
theorem an1 (w:uY) (h:HS) (e:EV) (c:List Int):(jN w h e c).S=if e.k=20 then h.S.set e.ob c else h.S:=by
 unfold jN;simp only[];repeat' split
 all_goals first|rfl|omega
theorem an4 (w:uY) (h:HS) (e:EV) (c:List Int):(jN w h e c).L=if (e.k=7\/e.k=11) then jat h.L e.ob c else if e.k=16 then jat h.L (Ow w.2.2.1 e.ob) c else h.L:=by
 unfold jN;simp only[];repeat' split
 all_goals first|rfl|omega
theorem an2 (w:uY) (h:HS) (e:EV) (c:List Int):(jN w h e c).R=if e.k=9 then jat h.R e.ob c else h.R:=by
 unfold jN;simp only[];repeat' split
 all_goals first|rfl|omega
theorem an6 (w:uY) (h:HS) (e:EV) (c:List Int):(jN w h e c).C=if e.k=4/\CF w.1 e.ob=ai then jat h.C e.ob c else h.C:=by
 unfold jN;simp only[];repeat' split
 all_goals first|rfl|omega|(rename_i h1 h2;exact cR ⟨by assumption,by assumption⟩ h2)|(rename_i h1 h2;exact cR h2.2 h1)|(rename_i h1;exact cR h1.1 (by assumption))
theorem an5 (w:uY) (h:HS) (e:EV) (c:List Int):(jN w h e c).F=if e.k=22 then jat h.F e.ob c else h.F:=by
 unfold jN;simp only[];repeat' split
 all_goals first|rfl|omega
theorem amz (w:uY) (h:HS) (e:EV) (c:List Int):(jN w h e c).X=if e.k=13 then jl h.X c else h.X:=by
 unfold jN;simp only[];repeat' split
 all_goals first|rfl|omega
theorem Db (l:List (List Int)) (i:Nat) (c:List Int) (o:Nat) (h:i<l.length):(jat l i c).getD o []=if i=o then jl (l.getD o []) c else l.getD o []:=by
 unfold jat;rw[qJ];by_cases e:i=o
 .subst e;rw[aE ⟨rfl,h⟩,aE rfl]
 .rw[ay λq=>e q.1,ay e]
abbrev pT (l:List ET) (u k:Nat):Bool:=decide ((cB l k).th=u)
abbrev pS (l:List ET) (u k:Nat):Bool:=decide ((cB l k).k=20/\(cB l k).ob=u)
abbrev pL (w:WT) (l:List ET) (x:Int×Bool) (k:Nat):Bool:=decide (AE w (cB l k)=x)
abbrev pC (w:WT) (l:List ET) (o k:Nat):Bool:=decide ((cB l k).k=4/\(cB l k).ob=o/\CF w.1 o=ai)
abbrev pF (l:List ET) (o k:Nat):Bool:=decide ((cB l k).k=22/\(cB l k).ob=o)
abbrev pX (l:List ET) (k:Nat):Bool:=decide ((cB l k).k=13)
structure IN (w:WT) (l:List ET) (i:Nat) (h:HS):Prop where
 T:∀ u,h.T.getD u []=JC (oh w l) (pT l u) i
 S:∀ u,h.S.getD u []=JC (oh w l) (pS l u) i
 L:∀ o:Nat,h.L.getD o []=JC (oh w l) (pL w l ((o:Int),aj)) i
 R:∀ o:Nat,h.R.getD o []=JC (oh w l) (pL w l ((o:Int),ai)) i
 C:∀ o,h.C.getD o []=JC (oh w l) (pC w l o) i
 F:∀ o,h.F.getD o []=JC (oh w l) (pF l o) i
 X:h.X=JC (oh w l) (pX l) i
theorem aau {w:uY} {e:EV} (h:e.k=7\/e.k=11):AE w e=((e.ob:Int),aj):=by unfold AE;rw[aE h]
theorem Uu {w:uY} {e:EV} (h:e.k=9):AE w e=((e.ob:Int),ai):=by unfold AE;rw[ay (by omega),aE h]
theorem W7 {w:uY} {e:EV} (h:e.k=16):AE w e=((Ow w.2.2.1 e.ob:Int),aj):=by unfold AE;rw[ay (by omega),ay (by omega),aE h]
theorem aj5 {w:uY} {e:EV} (h:¬(e.k=7\/e.k=11)) (h1:¬e.k=9) (h2:¬e.k=16):AE w e=(-1,aj):=by unfold AE;rw[ay h,ay h1,ay h2]
theorem IN.zero (w:WT) (l:List ET):IN w l 0 (HS.zero w):=
 have r:∀ n:Nat,∀ u,(aG n ([]:List Int)).getD u []=[]:=λn=>od.repl (P:=λx=>x=[]) rfl n
 ⟨r _,r _,λ_=>r _ _,λ_=>r _ _,r _,r _,rfl⟩
theorem IN.step {w:WT} {l:List ET} {i:Nat} {h:HS} (a:IN w l i h) (n:Int) (o:Ub n h) (hh:h=Em w (l.take i)) (hi:i<l.length) (ok:EOK w h (cB l i)) (J:(cB l i).k=20->∀ k,k<i->pS l (cB l i).ob k=aj):IN w l (i+1) (jN w h (cB l i) (oh w l i)):=by
 have hcT:LE (h.T.getD (cB l i).th []) (oh w l i):=by rw[hh];exact ai3 w _ _
 have hc:En (n+1) (oh w l i):=by unfold oh;rw[<- hh];exact PA o ok.th4
 refine ⟨λu=>?_,λu=>?_,λx=>?_,λx=>?_,λx=>?_,λx=>?_,?_⟩
 .rw[acg,qJ];by_cases e:(cB l i).th=u
  .rw[aE ⟨e,ok.th⟩,P_ (by simpa using e),<-a.T u,LE.jl (by rw[<- e];exact hcT)]
  .rw[ay λq=>e q.1,Eg (by simpa using e)];exact a.T u
 .rw[an1];by_cases k:(cB l i).k=20
  .rw[aE k,qJ];by_cases e:(cB l i).ob=u
   .rw[aE ⟨e,by rw[o.lS];exact ok.sp (.inl k)⟩,P_ (by simp[k,e]),WD _ _ i (by rw[<- e];exact J k),aja hc]
   .rw[ay λq=>e q.1,Eg (by simp[e])];exact a.S u
  .rw[ay k,Eg (by simp[k])];exact a.S u
 .rw[an4];by_cases k:(cB l i).k=7\/(cB l i).k=11
  .rw[aE k,Db _ _ _ _ (ok.lk (by omega))];by_cases e:(cB l i).ob=x
   .rw[aE e,P_ (by simp[aau k,e]),<-a.L x]
   .rw[ay e,Eg (by simp[aau k];omega)];exact a.L x
  rw[ay k];by_cases k2:(cB l i).k=16
  .rw[aE k2,Db _ _ _ _ (ok.cd (.inl k2)).2.2];by_cases e:Ow w.2.2.1 (cB l i).ob=x
   .rw[aE e,P_ (by simp[W7 k2,e]),<-a.L x]
   .rw[ay e,Eg (by simp[W7 k2];omega)];exact a.L x
  rw[ay k2,Eg]
  .exact a.L x
  .by_cases I:(cB l i).k=9
   .simp[Uu I]
   .simp[aj5 k I k2]
 .rw[an2];by_cases k:(cB l i).k=9
  .rw[aE k,Db _ _ _ _ (by rw[o.lR];exact ok.lk (by omega))];by_cases e:(cB l i).ob=x
   .rw[aE e,P_ (by simp[Uu k,e]),<-a.R x]
   .rw[ay e,Eg (by simp[Uu k];omega)];exact a.R x
  rw[ay k,Eg]
  .exact a.R x
  .unfold pL AE;repeat' split
   all_goals first|omega|simp
 .rw[an6];by_cases k:(cB l i).k=4/\CF w.1 (cB l i).ob=ai
  .rw[aE k,Db _ _ _ _ (ok.ce (.inr k.1)).1];by_cases e:(cB l i).ob=x
   .rw[aE e,P_ (by simp[k.1,e];rw[<- e];exact k.2),<-a.C x]
   .rw[ay e,Eg (by simp[e])];exact a.C x
  .rw[ay k,Eg]
   .exact a.C x
   .refine bw λq=>k ⟨q.1,by rw[q.2.1];exact q.2.2⟩
 .rw[an5];by_cases k:(cB l i).k=22
  .rw[aE k,Db _ _ _ _ (ok.fu (.inl k))];by_cases e:(cB l i).ob=x
   .rw[aE e,P_ (by simp[k,e]),<-a.F x]
   .rw[ay e,Eg (by simp[e])];exact a.F x
  .rw[ay k,Eg (by simp[k])];exact a.F x
 .rw[amz];by_cases k:(cB l i).k=13
  .rw[aE k,P_ (by simp[k]),<-a.X]
  .rw[ay k,Eg (by simp[k])];exact a.X
abbrev gT (th:List (Int×Int×Bool)) (u:Int):Int×Int×Bool:=aK (T:=jA) th u
theorem Fa {T:Ty} (xs:List T.den) (j k:Int) (x:T.den) (hj:0<=j) (hk:0<=k) (h2:k<xs.length):aK (cQ xs j x) k=if k=j then x else aK xs k:=by
 by_cases h:j<xs.length
 .exact rP xs j k x hj h hk
 .rw[ay (by omega)];unfold aK cQ;rw[aA,aA,oW,ay (by omega)]
theorem xt {th:List (Int×Int×Bool)} {t u:Int} (s:Int) (t0:0<=t) (J:0<=u) (I:u<th.length):gT (ye th t s) u=if u=t then (s,(gT th u).2) else gT th u:=by
 unfold ye gT;rw[Fa _ _ _ _ t0 J I];split
 .rename_i h;subst h;rfl
 .rfl
theorem XT {th:List (Int×Int×Bool)} {t u:Int} (s:Int) (t0:0<=t) (J:0<=u) (I:u<th.length):gT (cdP th t s) u=if u=t then ((gT th u).1,s,(gT th u).2.2) else gT th u:=by
 unfold cdP gT;rw[Fa _ _ _ _ t0 J I];split
 .rename_i h;subst h;rfl
 .rfl
theorem XX {th:List (Int×Int×Bool)} {t u:Int} (s:Bool) (t0:0<=t) (J:0<=u) (I:u<th.length):gT (atP th t s) u=if u=t then ((gT th u).1,(gT th u).2.1,s) else gT th u:=by
 unfold atP gT;rw[Fa _ _ _ _ t0 J I];split
 .rename_i h;subst h;rfl
 .rfl
theorem aml {u:Int} (I:0<=u):∀ (l:List Int) (th:List (Int×Int×Bool)),(∀ x∈l,0<=x)->u<th.length->gT (C2 th l) u=if u∈l then (4,(gT th u).2) else gT th u
 |[],th,_,_=>by simp[C2]
 |x::r,th,h,h2=>by
  have e:C2 th (x::r)=C2 (ye th x 4) r:=rfl;rw[e,aml I r _ (λy J=>h y (cI _ J)) (by unfold ye;rw[bW];exact h2),xt 4 (h x (dk ..)) I h2];by_cases a:u=x
  .subst a;simp
  .simp[a]
structure TH1 (k o v t u:Int) (g g':Int×Int×Bool):Prop where
 a:u=t->g.1≠0/\g.1≠3/\(k=16->g'.1=3/\g'.2.1=o)/\(k≠16->g'.1≠0/\g'.1≠3/\g'.1≠4)/\(k≠1->k≠17->g.1=2)
 b:u≠t->k=18->v=u->g.1=3/\g.2.1=o/\g'.1=4/\g'.2.1=o
 c:u≠t->k=19->g.1=3->g.2.1=o->g'.1=4/\g'.2.1=o
 d:u≠t->¬(k=18/\v=u)->¬(k=19/\g.1=3/\g.2.1=o)->g'.2.1=g.2.1/\(g'.1=g.1\/k=20/\o=u/\g.1=0/\g'.1=1)
 e:k=20->o=u->g'.1≠0
theorem TH1.same {k o v t u:Int} {g g':Int×Int×Bool} (h2:k≠1->k≠17->u=t->g.1=2) (e1:g'.1=g.1) (e2:g'.2.1=g.2.1) (n1:k≠1) (Y:k≠17) (n3:k≠16) (J:k≠20) (U:k=18->v=u->u=t) (M:k=19->g.1=3->g.2.1=o->u=t):TH1 k o v t u g g':=
 ⟨λh=>(by have:=h2 n1 Y h;rw[e1];omega),λh h1 I=>(h (U h1 I)).elim,λh h1 I Z=>(h (M h1 I Z)).elim,λ_ _ _=>⟨e2,.inl e1⟩,λh=>(J h).elim⟩
theorem ajw (w:WT) (s:SY) (t k o v:Int) (en:EN w s t k o) (rd:Wy w s t k o) (va:k=18->v=(rh w s t k o v).2) (u:Int) (J:0<=u) (I:u<s.2.2.2.length):TH1 k o v t u (gT s.2.2.2 u) (gT (rh w s t k o v).1.2.2.2 u):=by
 have t0:=en.t0;have r2:k≠1->k≠17->u=t->(gT s.2.2.2 u).1=2:=λh1 h2 Y=>by subst Y;exact rd.r h1 h2
 have nm:=en.nm;have k1:=nm.k1;have k2:=nm.k2;obtain⟨s1,s2,M,th⟩:=s;dsimp only at I r2;change TH1 k o v t u (gT th u) (gT (rh w (s1,s2,M,th) t k o v).1.2.2.2 u);by_cases a1:k=1
 .subst a1;have e:gT (rh w (s1,s2,M,th) t 1 o v).1.2.2.2 u=if u=t then (2,(gT th u).2) else gT th u:=xt 2 t0 J I
  rw[e];refine ⟨λh=>?_,λ_ h=>by omega,λ_ h=>by omega,λh _ _=>by rw[ay h];exact⟨rfl,.inl rfl⟩,λh=>by omega⟩;have b:=rd.b rfl;rw[aE h];subst h;have b:(gT th u).1=1:=b;dsimp only;omega
 by_cases a2:k=2
 .subst a2;have e:gT (rh w (s1,s2,M,th) t 2 o v).1.2.2.2 u=if u=t then (5,(gT th u).2) else gT th u:=xt 5 t0 J I
  rw[e];refine ⟨λh=>?_,λ_ h=>by omega,λ_ h=>by omega,λh _ _=>by rw[ay h];exact⟨rfl,.inl rfl⟩,λh=>by omega⟩;have:=r2 (by omega) (by omega) h;rw[aE h];dsimp only;omega
 by_cases a14:k=14\/k=15
 .have e:∃ b,gT (rh w (s1,s2,M,th) t k o v).1.2.2.2 u=if u=t then ((gT th u).1,(gT th u).2.1,b) else gT th u:=by
   rcases a14 with rfl|rfl
   .exact⟨ai,XX ai t0 J I⟩
   .exact⟨aj,XX aj t0 J I⟩
  obtain⟨b,e⟩:=e;rw[e];refine TH1.same r2 (by split<;>rfl) (by split<;>rfl) a1 (by omega) (by omega) (by omega) (λh=>by omega) λh=>by omega
 by_cases a16:k=16
 .subst a16;have e:gT (rh w (s1,s2,M,th) t 16 o v).1.2.2.2 u=if u=t then (3,o,(gT th u).2.2) else gT th u:=by
   have:gT (cdP (ye th t 3) t o) u=_:=XT o t0 J (by unfold ye;rw[bW];exact I);refine Eq.trans this ?_;rw[xt 3 t0 J I];split<;>rfl
  rw[e];refine ⟨λh=>?_,λ_ h=>by omega,λ_ h=>by omega,λh _ _=>by rw[ay h];exact⟨rfl,.inl rfl⟩,λh=>by omega⟩;have:=r2 (by omega) (by omega) h;rw[aE h];exact⟨by omega,by omega,λ_=>⟨rfl,rfl⟩,λh=>(h rfl).elim,λ_ _=>this⟩
 by_cases a17:k=17
 .subst a17;have e:gT (rh w (s1,s2,M,th) t 17 o v).1.2.2.2 u=if u=t then (2,0,(gT th u).2.2) else gT th u:=by
   have:gT (cdP (ye th t 2) t 0) u=_:=XT 0 t0 J (by unfold ye;rw[bW];exact I);refine Eq.trans this ?_;rw[xt 2 t0 J I];split<;>rfl
  rw[e];refine ⟨λh=>?_,λ_ h=>by omega,λ_ h=>by omega,λh _ _=>by rw[ay h];exact⟨rfl,.inl rfl⟩,λh=>by omega⟩;have b:=(rd.wk rfl).1;rw[aE h];subst h;have b:(gT th u).1=4:=b;dsimp only;omega
 by_cases a18:k=18
 .subst a18;have va:=va rfl;rw[FA] at va ⊢;dsimp only at va ⊢;by_cases hl:(wl th o th.length).length=0
  .rw[aE hl] at va ⊢;dsimp only at va ⊢;exact TH1.same r2 rfl rfl a1 (by omega) (by omega) (by omega) (λ_ h=>by omega) λh=>by omega
  .rw[ay hl] at va ⊢;dsimp only at va ⊢;have hv:v∈wl th o th.length:=by
    unfold BD at va;rw[ay hl] at va;split at va
    .rename_i h;simpa using h
    .rw[va];exact bJ (T:=.int .i64) (by omega) (by omega)
   rw[<- va];obtain⟨v0,v1,U⟩:=rm.1 hv;unfold Ii at U;simp only[av,bd] at U;rw[xt 4 v0 J I];refine ⟨λh=>?_,λh _ h2=>?_,λ_ h=>by omega,λh h2 _=>?_,λh=>by omega⟩
   .have:=r2 (by omega) (by omega) h;rw[ay (λq=>by rw[q] at this;exact cR (this.symm.trans U.1) (by decide))];omega
   .subst h2;rw[aE rfl];exact⟨U.1,U.2,rfl,U.2⟩
   .rw[ay λq=>h2 ⟨rfl,q.symm⟩];exact⟨rfl,.inl rfl⟩
 by_cases a19:k=19
 .subst a19;have e:gT (rh w (s1,s2,M,th) t 19 o v).1.2.2.2 u=if u∈wl th o th.length then (4,(gT th u).2) else gT th u:=aml J _ th (λx hx=>(rm.1 hx).1) I
  rw[e];have hm:u∈wl th o th.length↔(gT th u).1=3/\(gT th u).2.1=o:=by
   rw[rm];unfold Ii;simp only[av,bd];exact⟨λh=>h.2.2,λh=>⟨J,I,h⟩⟩
  refine ⟨λh=>?_,λ_ h=>by omega,λh _ Y h4=>?_,λh _ Y=>?_,λh=>by omega⟩
  .have:=r2 (by omega) (by omega) h;rw[ay (λq=>by have:=(hm.1 q).1;omega)];omega
  .rw[aE (hm.2 ⟨Y,h4⟩)];exact⟨rfl,h4⟩
  .rw[ay λq=>Y ⟨rfl,hm.1 q⟩];exact⟨rfl,.inl rfl⟩
 by_cases Z:k=20
 .subst Z;have sp:=rd.sp rfl;have o0:=(nm.th (.inl rfl)).1;have e:gT (rh w (s1,s2,M,th) t 20 o v).1.2.2.2 u=if u=o then (1,(gT th u).2) else gT th u:=xt 1 o0 J I
  rw[e];refine ⟨λh=>?_,λ_ h=>by omega,λ_ h=>by omega,λh _ _=>?_,λ_ h=>?_⟩
  .have:=r2 (by omega) (by omega) h;rw[ay (λq=>sp.1 (by omega))];omega
  .by_cases q:u=o
   .subst q;rw[aE rfl];exact⟨rfl,.inr ⟨rfl,rfl,sp.2,rfl⟩⟩
   .rw[ay q];exact⟨rfl,.inl rfl⟩
  .rw[aE h.symm];show (1:Int)≠0;omega
 have e:(rh w (s1,s2,M,th) t k o v).1.2.2.2=th:=by
  unfold rh;rw[ay a1,ay a2];repeat' split
  all_goals first|rfl|omega
 rw[e];exact TH1.same r2 rfl rfl a1 a17 a16 Z (λh=>(a18 h).elim) λh=>(a19 h).elim
def ud (l:List ET) (u:Nat):Nat->Int
 |0=> -1
 |i+1=>if (cB l i).th=u then (i:Int) else ud l u i
def mtN (l:List ET) (u i:Nat) (p:Int):Prop:=0<=p/\(cB l p.toNat).k=16/\((cB l i).k=18/\(cB l i).va=u\/(cB l i).k=19/\(cB l i).ob=(cB l p.toNat).ob)
def CD (l:List ET) (u:Nat):Nat->Int
 |0=> -1
 |i+1=>if (cB l i).th=u then -1 else if 0<=CD l u i then CD l u i else @ite _ (mtN l u i (ud l u i)) (yJ _) (i:Int) (-1)
theorem WJ {l:List ET} {u i:Nat} (h:(cB l i).th=u):CD l u (i+1)= -1:=by rw[CD,aE h]
theorem WL {l:List ET} {u i:Nat} (h:¬(cB l i).th=u) (g:0<=CD l u i):CD l u (i+1)=CD l u i:=by rw[CD,ay h,aE g]
theorem WN {l:List ET} {u i:Nat} (h:¬(cB l i).th=u) (g:CD l u i= -1) (m:mtN l u i (ud l u i)):CD l u (i+1)=i:=by rw[CD,ay h,ay (by omega),aE m]
theorem WM {l:List ET} {u i:Nat} (h:¬(cB l i).th=u) (g:CD l u i= -1) (m:¬mtN l u i (ud l u i)):CD l u (i+1)= -1:=by rw[CD,ay h,ay (by omega),ay m]
theorem F8 {α:Type} (l:List α) (f:Nat->α->α) (u:Nat) (d:α) (h:u<l.length):(l.mapIdx f).getD u d=f u (l.getD u d):=by
 rw[aA,Ek,aB h,aA,aB h];rfl
theorem an0 (w:uY) (h:HS) (e:EV) (c:List Int) (u:Nat) (hu:u<h.W.length) (U:h.N.length=h.W.length):(jN w h e c).W.getD u 0=if e.k=16/\e.th=u then (e.ob:Int) else if e.k=18/\e.va=u\/e.k=19/\h.W.getD u 0=e.ob then -1 else h.W.getD u 0:=by
 obtain⟨th,k,ob,va⟩:=e;dsimp only;by_cases I:k=16
 .subst I;have e:(jN w h ⟨th,16,ob,va⟩ c).W=h.W.set th ob:=rfl;rw[e,qJ];by_cases q:th=u
  .rw[aE ⟨q,by omega⟩,aE ⟨rfl,q⟩]
  .rw[ay λx=>q x.1,ay λx=>q x.2,ay (by omega)]
 rw[ay λx=>I x.1];by_cases M:k=18
 .subst M;have e:jN w h ⟨th,18,ob,va⟩ c=if 0<=va/\va<h.N.length then {h with T:=h.T.set th c,N:=h.N.set va.toNat c,W:=h.W.set va.toNat (-1)} else {h with T:=h.T.set th c}:=rfl
  rw[e];split
  .show (h.W.set va.toNat (-1)).getD u 0=_;rw[qJ];by_cases q:va=u
   .rw[aE ⟨by omega,by omega⟩,aE (.inl ⟨rfl,q⟩)]
   .rw[ay (by omega),ay (by omega)]
  .rw[ay (by omega)]
 by_cases J:k=19
 .subst J;have e:(jN w h ⟨th,19,ob,va⟩ c).W=h.W.mapIdx λu x=>if decide (h.W.getD u 0=(ob:Int))=ai then -1 else x:=rfl
  rw[e,F8 _ _ _ _ hu];by_cases q:h.W.getD u 0=ob
  .rw[aE (aQ q),aE (.inr ⟨rfl,q⟩)]
  .rw[ay (by simpa using q),ay (by omega)]
 rw[ay (by omega)];have e:(jN w h ⟨th,k,ob,va⟩ c).W=h.W:=by
  unfold jN;simp only[];repeat' split
  all_goals first|rfl|omega
 rw[e]
theorem an3 (w:uY) (h:HS) (e:EV) (c:List Int) (u:Nat) (hu:u<h.N.length):(jN w h e c).N.getD u []=if e.k=18/\e.va=u\/e.k=19/\h.W.getD u 0=e.ob then c else h.N.getD u []:=by
 obtain⟨th,k,ob,va⟩:=e;dsimp only;by_cases J:k=18
 .subst J;have e:jN w h ⟨th,18,ob,va⟩ c=if 0<=va/\va<h.N.length then {h with T:=h.T.set th c,N:=h.N.set va.toNat c,W:=h.W.set va.toNat (-1)} else {h with T:=h.T.set th c}:=rfl
  rw[e];split
  .show (h.N.set va.toNat c).getD u []=_;rw[qJ];by_cases q:va=u
   .rw[aE ⟨by omega,by omega⟩,aE (.inl ⟨rfl,q⟩)]
   .rw[ay (by omega),ay (by omega)]
  .rw[ay (by omega)]
 by_cases I:k=19
 .subst I;have e:(jN w h ⟨th,19,ob,va⟩ c).N=h.N.mapIdx λu x=>if decide (h.W.getD u 0=(ob:Int))=ai then c else x:=rfl
  rw[e,F8 _ _ _ _ hu];by_cases q:h.W.getD u 0=ob
  .rw[aE (aQ q),aE (.inr ⟨rfl,q⟩)]
  .rw[ay (by simpa using q),ay (by omega)]
 rw[ay (by omega)];have e:(jN w h ⟨th,k,ob,va⟩ c).N=h.N:=by
  unfold jN;simp only[];repeat' split
  all_goals first|rfl|omega
 rw[e]
abbrev gN9 (w:WT) (l:List ET) (i u:Nat):Int×Int×Bool:=gT (NQ w (l.take i)).1.2.2.2 (u:Int)
structure WI (w:WT) (l:List ET) (i:Nat) (h:HS) (u:Nat) (g:Int×Int×Bool):Prop where
 W:h.W.getD u 0=if g.1=3 then g.2.1 else -1
 p:g.1=3\/g.1=4->0<=ud l u i/\(cB l (ud l u i).toNat).k=16/\((cB l (ud l u i).toNat).ob:Int)=g.2.1
 a:g.1=3->CD l u i= -1
 n:g.1=4->0<=CD l u i/\h.N.getD u []=oh w l (CD l u i).toNat
 s:g.1=0->∀ k,k<i->pS l u k=aj
theorem aj3:∀ n,∀ x∈Yb n,x.1=0\/x.1=1
 |0,x,h=>by cases h
 |n+1,x,h=>by
  rcases bp.1 h with rfl|h
  .exact .inr rfl
  .rw[pE h];exact .inl rfl
theorem WI.zero (w:WT) (l:List ET) (u:Nat) (hu:u<w.2.2.2.2.1.length):WI w l 0 (HS.zero w) u (gN9 w l 0 u):=by
 have h1:(gN9 w l 0 u).1=0\/(gN9 w l 0 u).1=1:=aj3 _ _ (bJ (T:=jA) (xs:=Yb w.2.2.2.2.1.length) (j:=(u:Int)) (by omega) (by rw[HR];omega));have hW:(HS.zero w).W.getD u 0= -1:=by
  have:(aG w.2.2.2.2.1.length (-1:Int)).getD u 0= -1:=by rw[aA,lA,aE hu];rfl
  exact this
 exact⟨by rw[hW,ay (by omega)],λh=>by omega,λh=>by omega,λh=>by omega,λ_ k hk=>by omega⟩
theorem WI.step {w:WT} {l:List ET} {i:Nat} {h:HS} {u:Nat} (a:WI w l i h u (gN9 w l i u)) (hi:i<l.length) (sc:SCx w (l.take i) (NQ w (l.take i)).1 (NQ w (l.take i)).2.1 (NQ w (l.take i)).2.2 (eN l i)) (et:EvT (cB l i) (eN l i)) (hu:u<w.2.2.2.2.1.length) (h1:h.W.length=w.2.2.2.2.1.length) (h2:h.N.length=w.2.2.2.2.1.length):WI w l (i+1) (jN w h (cB l i) (oh w l i)) u (gN9 w l (i+1) u):=by
 have en:=sc.en;have eg:gN9 w l (i+1) u=gT (rh w (NQ w (l.take i)).1 (eN l i).1 (eN l i).2.1 (eN l i).2.2.1 (eN l i).2.2.2.1).1.2.2.2 (u:Int):=by unfold gN9;rw[Tl w hi]
 have T1:TH1 (eN l i).2.1 (eN l i).2.2.1 (eN l i).2.2.2.1 (eN l i).1 (u:Int) (gN9 w l i u) (gN9 w l (i+1) u):=by
  rw[eg];exact ajw w (NQ w (l.take i)).1 (eN l i).1 (eN l i).2.1 (eN l i).2.2.1 (eN l i).2.2.2.1 en sc.rd (λh=>sc.va.el (by omega) (by omega) (by omega) (by omega) (by omega)) (u:Int) (by omega) (by rw[en.e3];omega)
 clear eg;have eW:=an0 w h (cB l i) (oh w l i) u (by omega) (by omega);have eN9:=an3 w h (cB l i) (oh w l i) u (by omega);have qt:=et.th;have Z:=et.k;have qv:=et.va;have Y:(cB l i).k=16\/(cB l i).k=19\/(cB l i).k=20->(eN l i).2.2.1=((cB l i).ob:Int):=λh=>et.ob (by rcases h with h|h|h<;>rw[h]<;>decide)
 have pv':ud l u (i+1)=if (cB l i).th=u then (i:Int) else ud l u i:=rfl
 have ps:pS l u i=decide ((cB l i).k=20/\(cB l i).ob=u):=rfl;clear en sc;obtain⟨aW,ap,aa,an,as'⟩:=a;obtain⟨ta,tb,tc,td,te⟩:=T1;generalize gN9 w l (i+1) u=g' at*
 generalize gN9 w l i u=g at*
 by_cases I:(cB l i).th=u
 .obtain⟨b1,b2,b3,b4,_⟩:=ta (by rw[qt,I]);have w0:CD l u (i+1)= -1:=WJ I;have hW':h.W.getD u 0= -1:=by rw[aW,ay b2]
  by_cases J:(cB l i).k=16
  .obtain⟨c1,c2⟩:=b3 (by rw[Z,J];rfl);refine ⟨by rw[eW,aE ⟨J,I⟩,aE c1,c2,Y (.inl J)],λ_=>?_,λ_=>w0,λh=>by omega,λh=>by omega⟩;rw[pv',aE I,dS];exact⟨by omega,J,by rw[c2,Y (.inl J)]⟩
  .obtain⟨c1,c2,c3⟩:=b4 (by rw[Z];omega);refine ⟨?_,λh=>by omega,λh=>by omega,λh=>by omega,λh=>by omega⟩;rw[eW,ay (λx=>J x.1),ay c2,hW'];split<;>rfl
 have hut:(u:Int)≠(eN l i).1:=by rw[qt];omega
 rw[ay I] at pv';rw[ay (λx=>I x.2)] at eW;by_cases A:(cB l i).k=18/\(cB l i).va=u\/(cB l i).k=19/\h.W.getD u 0=(cB l i).ob
 .have B:g.1=3/\g'.1=4/\g'.2.1=g.2.1/\((cB l i).k=19->g.2.1=(cB l i).ob):=by
   rcases A with ⟨k,v⟩|⟨k,v⟩
   .obtain⟨U,M,d3,d4⟩:=tb hut (by rw[Z,k];rfl) (by rw[qv,v]);exact⟨U,d3,by rw[M,d4],λq=>by omega⟩
   .have g3:g.1=3:=by
     rw[aW] at v;split at v
     .assumption
     .omega
    rw[aW,aE g3] at v;obtain⟨U,M⟩:=tc hut (by rw[Z,k];rfl) g3 (by rw[v,Y (.inr (.inl k))]);exact⟨g3,U,by rw[M,v,Y (.inr (.inl k))],λ_=>v⟩
  obtain⟨U,M,d3,d4⟩:=B;obtain⟨p1,p2,p3⟩:=ap (.inl U);have hw:=WN I (aa U) ⟨p1,p2,by
   rcases A with A|⟨k,_⟩
   .exact .inl A
   .exact .inr ⟨k,by have:=d4 k;omega⟩⟩
  rw[aE A] at eW eN9;refine ⟨by rw[eW,ay (by omega)],λ_=>by rw[pv',d3];exact⟨p1,p2,p3⟩,λh=>by omega,λ_=>by rw[hw,dS];exact⟨by omega,eN9⟩,λh=>by omega⟩
 rw[ay A] at eW eN9;have nv:¬((eN l i).2.1=18/\(eN l i).2.2.2.1=(u:Int)):=λq=>A (.inl ⟨by omega,by rw[<- qv];exact q.2⟩)
 have nw:¬((eN l i).2.1=19/\g.1=3/\g.2.1=(eN l i).2.2.1):=λq=>A (.inr ⟨by omega,by rw[aW,aE q.2.1,q.2.2,Y (.inr (.inl (by omega)))]⟩)
 obtain⟨U,M⟩:=td hut nv nw;have nm:g.1=3->¬mtN l u i (ud l u i):=λq ⟨_,_,m⟩=>by
  obtain⟨_,_,p3⟩:=ap (.inl q);rcases m with m|⟨k,m⟩
  .exact A (.inl m)
  .exact nw ⟨by omega,q,by rw[Y (.inr (.inl k)),m,p3]⟩
 refine ⟨?_,λq=>?_,λq=>?_,λq=>?_,λq k hk=>?_⟩
 .rw[eW,aW,U];rcases M with M|M
  .rw[M]
  .rw[ay (by omega),ay (by omega)]
 .rw[pv',U];exact ap (by omega)
 .have q:g.1=3:=by omega
  exact WM I (aa q) (nm q)
 .have q:g.1=4:=by omega
  obtain⟨n1,n2⟩:=an q;rw[WL I n1,eN9];exact⟨n1,n2⟩
 .have q0:g.1=0:=by omega
  by_cases e:k=i
  .subst e;rw[ps];exact bw λr=>te (by rw[Z,r.1];rfl) (by rw[Y (.inr (.inr r.1)),r.2]) q
  .exact as' q0 k (by omega)
theorem UQ {w:WT} {l:List ET} (I:TR (w,l)):∀ i:Nat,i<=l.length->IN w l i (Em w (l.take i))/\∀ u,u<w.2.2.2.2.1.length->WI w l i (Em w (l.take i)) u (gN9 w l i u)
 |0,_=>⟨IN.zero w l,λu hu=>WI.zero w l u hu⟩
 |i+1,h=>by
  obtain⟨a,b⟩:=UQ I i (by omega);obtain⟨o,J⟩:=zo I i (by omega);have hi:i<l.length:=by omega
  have sc:=I.sc hi;have et:=ly I hi;have ok:=s5 I hi;rw[zn w hi];refine ⟨a.step _ o rfl hi ok λk=>?_,λu hu=>(b u hu).step hi sc et hu (o.lW.trans J.T) (o.lN.trans J.T)⟩;have sp:=(sc.rd.sp (by rw[et.k,k];rfl)).2;rw[et.ob (by rw[k];decide)] at sp;exact (b _ (by rw[<- J.T];exact ok.sp (.inl k))).s sp
theorem anh {w:WT} {l:List ET} (I:TR (w,l)) (u:Nat):∀ i:Nat,i<=l.length->(Em w (l.take i)).T.getD u []=if 0<=ud l u i then oh w l (ud l u i).toNat else []
 |0,_=>od.repl (P:=λx=>x=[]) rfl _ _
 |i+1,h=>by
  have J:=anh I u i (by omega);rw[zn w (by omega),acg,qJ,ud];by_cases e:(cB l i).th=u
  .rw[aE ⟨e,(s5 I (by omega)).th⟩,aE e,aE (by omega),dS]
  .rw[ay λq=>e q.1,ay e];exact J
theorem uP {c:Nat->List Int} {p q:Nat->Bool}:∀ i,(∀ k,k<i->p k=q k)->JC c p i=JC c q i
 |0,_=>rfl
 |i+1,h=>by rw[JC,JC,h i (by omega),uP i λk hk=>h k (by omega)]
theorem ait {c:Nat->List Int} {p q r:Nat->Bool}:∀ i,(∀ k,k<i->(r k=ai↔p k=ai\/q k=ai)/\¬(p k=ai/\q k=ai))->JC c r i=jl (JC c p i) (JC c q i)
 |0,_=>rfl
 |i+1,h=>by
  have I:=ait (c:=c) i λk hk=>h k (by omega)
  obtain⟨h1,h2⟩:=h i (by omega);rw[JC,JC,JC];by_cases a:p i=ai
  .have b:¬q i=ai:=λb=>h2 ⟨a,b⟩
   rw[aE (h1.2 (.inl a)),aE a,ay b,I,qA,qA,Xr (JC c q i)]
  .by_cases b:q i=ai
   .rw[aE (h1.2 (.inr b)),ay a,aE b,I,qA]
   .rw[ay λq=>(h1.1 q).elim a b,ay a,ay b,I]
def H4 (w:WT) (l:List ET) (j i:Nat):Prop:=((cB l j).k=1/\(cB l i).k=20/\(cB l i).ob=(cB l j).th)\/((cB l j).k=21/\(cB l i).th=(cB l j).ob)\/((cB l j).k=3/\CF w.1 (cB l j).ob=ai/\(cB l i).k=4/\(cB l i).ob=(cB l j).ob)\/((cB l j).k=23/\(cB l i).k=22/\(cB l i).ob=(cB l j).ob)
def Qc (w:WT) (l:List ET) (j i:Nat):Prop:=(0<=(Co w (cB l j)).1/\(AE w (cB l i)).1=(Co w (cB l j)).1/\¬((Co w (cB l j)).2=ai/\(AE w (cB l i)).2=ai))\/((cB l j).k=12/\(cB l i).k=13)
def dB (p:Nat->Prop) (k:Nat):Bool:= @decide (p k) (yJ _)
theorem afx {p:Nat->Prop} {k:Nat}:dB p k=ai↔p k:=by unfold dB;exact @decide_eq_true_iff (p k) (yJ _)
theorem afy {p:Nat->Prop} {k:Nat}:dB p k=aj↔¬p k:=by unfold dB;exact @decide_eq_false_iff_not (p k) (yJ _)
theorem NI {p:Nat->Prop} {q:Bool} {k:Nat} (h:p k↔q=ai):q=dB p k:=by
 cases q with
 |true=>exact (afx.2 (h.2 rfl)).symm
 |false=>exact (afy.2 λx=>by have:=h.1 x;cases this).symm
def wkC (w:WT) (l:List ET) (j:Nat):List Int:=if (cB l j).k=17 then oh w l (CD l (cB l j).th j).toNat else []
theorem ajr {w:WT} {l:List ET} (Y:TR (w,l)) {j:Nat} (hj:j<l.length):oh w l j=tk (jl (jl (jl (if 0<=ud l (cB l j).th j then oh w l (ud l (cB l j).th j).toNat else []) (JC (oh w l) (dB (H4 w l j)) j)) (wkC w l j)) (JC (oh w l) (dB (Qc w l j)) j)) (cB l j).th:=by
 obtain⟨a,b⟩:=UQ Y j (by omega);have o:=(zo Y j (by omega)).1;have ft:=(zo Y j (by omega)).2;have ok:=s5 Y hj;have sc:=Y.sc hj;have et:=ly Y hj;rw[<- anh Y _ j (by omega)];have nH:∀ {p:Nat->Prop},(∀ k,¬p k)->JC (oh w l) (dB p) j=[]:=λh=>WD _ _ _ λk _=>afy.2 (h k)
 have oT:=o.T (cB l j).th;have z:=En.nil o.n0;have e0:jl (jl ((Em w (l.take j)).T.getD (cB l j).th []) []) []=(Em w (l.take j)).T.getD (cB l j).th []:=by rw[mw oT,mw oT]
 have sN:¬(cB l j).k=6->¬(cB l j).k=10->¬(cB l j).k=8->¬(cB l j).k=17->¬(cB l j).k=12->∀ k,¬Qc w l j k:=λh1 h2 h3 h4 h5 k q=>by
  unfold Qc Co at q;rw[ay (by omega),ay h3,ay h4] at q;rcases q with ⟨q,_⟩|⟨q,_⟩
  .dsimp only at q;omega
  .exact h5 q
 unfold wkC;show Fu w (Em w (l.take j)) (cB l j)=_;unfold Fu;congr 1;by_cases k1:(cB l j).k=1
 .rw[ay (by omega),nH (sN (by omega) (by omega) (by omega) (by omega) (by omega))];unfold tF;rw[aE k1,uP (q:=pS l (cB l j).th) j λk _=>(NI (by unfold H4 pS;rw[bd];omega)).symm,<-a.S];rw[mw (oT.jl (o.S _)),mw (oT.jl (o.S _))];rfl
 by_cases I:(cB l j).k=21
 .rw[ay (by omega),nH (sN (by omega) (by omega) (by omega) (by omega) (by omega))];unfold tF;rw[ay k1,aE I,uP (q:=pT l (cB l j).ob) j λk _=>(NI (by unfold H4 pT;rw[bd];omega)).symm,<-a.T];rw[mw (oT.jl (o.T _)),mw (oT.jl (o.T _))];rfl
 by_cases k3:(cB l j).k=3
 .rw[ay (by omega),nH (sN (by omega) (by omega) (by omega) (by omega) (by omega))];unfold tF;rw[ay k1,ay I,ay (by omega),ay (by omega),ay (by omega),aE k3,uP (q:=pC w l (cB l j).ob) j λk _=>(NI ?_).symm,<-a.C]
  .rw[mw (oT.jl (o.C _)),mw (oT.jl (o.C _))];rfl
  .unfold H4 pC;rw[bd];constructor
   .rintro (h|h|h|h)
    .omega
    .omega
    .exact⟨h.2.2.1,h.2.2.2,h.2.1⟩
    .omega
   .intro h;exact .inr (.inr (.inl ⟨k3,h.2.2,h.1,h.2.1⟩))
 by_cases k23:(cB l j).k=23
 .rw[ay (by omega),nH (sN (by omega) (by omega) (by omega) (by omega) (by omega))];unfold tF;rw[ay k1,ay I,ay (by omega),ay (by omega),ay (by omega),ay k3,aE k23,uP (q:=pF l (cB l j).ob) j λk _=>(NI (by unfold H4 pF;rw[bd];omega)).symm,<-a.F];rw[mw (oT.jl (o.F _)),mw (oT.jl (o.F _))];rfl
 have hN:∀ k,¬H4 w l j k:=λk q=>by unfold H4 at q;omega
 rw[nH hN,mw oT];by_cases U:(cB l j).k=12
 .rw[ay (by omega),mw oT];unfold tF;rw[ay k1,ay I,ay (by omega),ay (by omega),ay (by omega),ay k3,ay k23,aE U,uP (q:=pX l) j λk _=>(NI ?_).symm,<-a.X]
  .rfl
  .unfold Qc pX Co;rw[bd,ay (by omega),ay (by omega),ay (by omega)];dsimp only;constructor
   .rintro (h|h)
    .omega
    .exact h.2
   .intro h;exact .inr ⟨U,h⟩
 have hor:∀ m:Nat,(Co w (cB l j)).1=(m:Int)->(Co w (cB l j)).2=aj->JC (oh w l) (dB (Qc w l j)) j=jl ((Em w (l.take j)).L.getD m []) ((Em w (l.take j)).R.getD m []):=λm h1 h2=>by
  rw[a.L,a.R];refine ait j λk _=>?_
  rw[afx,bd,bd];unfold Qc;rw[h1,h2];generalize AE w (cB l k)=x;obtain⟨x1,x2⟩:=x;simp only[aD];constructor
  .constructor
   .rintro (h|h)
    .cases x2 with
     |true=>exact .inr ⟨h.2.1,rfl⟩
     |false=>exact .inl ⟨h.2.1,rfl⟩
    .omega
   .rintro (h|h)<;>exact .inl ⟨by omega,h.1,λq=>by cases q.1⟩
  .rintro⟨⟨_,h⟩,⟨_,h'⟩⟩;rw[h] at h';cases h'
 by_cases M:(cB l j).k=6\/(cB l j).k=10
 .rw[ay (by omega),mw oT,hor (cB l j).ob (by unfold Co;rw[aE M]) (by unfold Co;rw[aE M])];unfold tF;rw[ay k1,ay I,aE M,<-qA];rfl
 by_cases Z:(cB l j).k=8
 .have ha:Co w (cB l j)=(((cB l j).ob:Int),ai):=by unfold Co;rw[ay M,aE Z]
  rw[ay (by omega),mw oT];unfold tF;rw[ay k1,ay I,ay M,aE Z,uP (q:=pL w l (((cB l j).ob:Int),aj)) j λk _=>(NI ?_).symm,<-a.L]
  .rfl
  .unfold Qc pL;rw[ha,bd];generalize AE w (cB l k)=x;obtain⟨x1,x2⟩:=x;simp only[aD];constructor
   .rintro (h|h)
    .exact⟨h.2.1,by simpa using h.2.2⟩
    .omega
   .intro h;exact .inl ⟨by omega,h.1,by simp[h.2]⟩
 by_cases J:(cB l j).k=17
 .have wk:=sc.rd.wk (by rw[et.k,J];rfl);have hth:(cB l j).th<w.2.2.2.2.1.length:=by rw[<- ft.T];exact ok.th
  have hn:=(b _ hth).n (by have:=wk.1;rw[et.th] at this;exact this);rw[aE J,hor (Ow w.2.2.1 (cB l j).ob) (by unfold Co;rw[ay M,ay Z,aE J]) (by unfold Co;rw[ay M,ay Z,aE J]),<-hn.2];unfold tF;rw[ay k1,ay I,ay M,ay Z,aE J];simp only[xo,List.foldl_nil];rw[qA,qA,qA,<-qA _ _ ((Em w (l.take j)).N.getD _ []),Xr ((Em w (l.take j)).N.getD _ [])]
 .rw[ay J,nH (sN (by omega) (by omega) Z J U),mw oT,mw oT];unfold tF;rw[ay k1,ay I,ay M,ay Z,ay J,ay k3,ay k23,ay U];rfl
theorem XA {n:Int} {c:Nat->List Int} {p:Nat->Bool} {a:List Int} (I:En n a):∀ i,((cS i).filter p).foldl (λx k=>jl x (c k)) a=jl a (JC c p i)
 |0=>(mw I).symm
 |i+1=>by
  rw[FK,yc,dR,XA I i];by_cases h:p i=ai
  .rw[P_ h,List.filter_cons_of_pos h,<-qA];rfl
  .rw[Eg (by simpa using h),List.filter_cons_of_neg h];rfl
theorem xr {w:WT} {l:List ET} (I:TR (w,l)) {a b:Nat} (J:a<l.length) (hb:b<l.length):(eN l a).1=(eN l b).1↔(cB l a).th=(cB l b).th:=by
 have:=(ly I J).th;have:=(ly I hb).th;omega
theorem Uw (l:List ET) (u:Nat):∀ i:Nat,-1<=ud l u i/\ud l u i<i
 |0=>⟨eR _,by show (-1:Int)<0;omega⟩
 |i+1=>by have:=Uw l u i;rw[ud];split<;>omega
theorem Oj {l:List ET} {u:Nat}:∀ (j k:Nat),ud l u j<k->k<j->¬(cB l k).th=u
 |j+1,k,h,hk=>by
  rw[ud] at h;by_cases q:(cB l j).th=u
  .rw[aE q] at h;omega
  .rw[ay q] at h;by_cases e:k=j
   .subst e;exact q
   .exact Oj j k h (by omega)
theorem W_ {l:List ET} {u:Nat}:∀ j:Nat,0<=ud l u j->(cB l (ud l u j).toNat).th=u
 |0,h=>cR h (by show ¬(0:Int)<= -1;omega)
 |j+1,h=>by
  rw[ud] at h ⊢;by_cases q:(cB l j).th=u
  .rw[aE q];exact q
  .rw[ay q] at h ⊢;exact W_ j h
theorem QJ {l:List ET} {u:Nat}:∀ (j k:Nat),ud l u j<k->k<=j->ud l u k=ud l u j
 |0,k,_,hk=>by rw[show k=0 by omega]
 |j+1,k,h,hk=>by
  by_cases e:k=j+1
  .rw[e]
  .have q:¬(cB l j).th=u:=Oj (j+1) j (by omega) (by omega);rw[ud,ay q] at h ⊢;exact QJ j k h (by omega)
theorem G8 {w:WT} {l:List ET} (I:TR (w,l)) {j:Nat} (hj:j<l.length):mg (l,(j:Int))=af (ud l (cB l j).th j):=by
 have hl:=I.len;dsimp only at hl;refine ci ?_;unfold mg be iW bB cK aF;refine bZ j (λi x=>x=((j:Int)-1-i)/\ud l (cB l j).th (j-i)=ud l (cB l j).th j) ?_ ?_ ⟨?_,by rw[Nat.sub_zero]⟩
 .rintro i x hi ⟨rfl,e⟩;refine eZ (λ_=>?_) λg=>by omega
  rw[show (j:Int)-1-i=((j-i-1:Nat):Int) by omega];refine bX (aR (bX (aR (aJ (λg=>ar ?_) λg=>ar ?_))))
  .have g:=(xr I (show j-i-1<l.length by omega) hj).1 g;dsimp only;rw[<- e,show j-i=j-i-1+1 by omega,ud,Nat.add_sub_cancel,aE g]
  .have g:¬_:=λq=>g ((xr I (show j-i-1<l.length by omega) hj).2 q)
   dsimp only;refine ⟨by rw[ig (by omega) (by omega)];omega,?_⟩;rw[<- e,show j-i=j-(i+1)+1 by omega,ud,show j-(i+1)=j-i-1 by omega,ay g]
 .rintro x ⟨rfl,e⟩;refine eZ (λg=>by omega) λ_=>ar ?_
  rw[HN] at e;exact e
 .dsimp only;rw[ig (by omega) (by omega)];omega
theorem aa1 (x:ET):j9 x=af (decide (x.2.1=3\/x.2.1=4)):=by
 refine ci ?_;unfold j9 be aF;refine gj (aJ (λh=>ar (ar ?_)) λh=>ar (ar ?_))
 .exact (aQ (.inl h)).symm
 .by_cases q:x.2.1=4<;>simp[h,q]
def acB (e:EV):Bool:=decide (e.k=3\/e.k=4)
theorem Af {w:WT} {l:List ET} (I:TR (w,l)) {j:Nat} (hj:j<l.length):j9 (eN l j)=af (acB (cB l j)):=by
 rw[aa1,(ly I hj).k];unfold acB;congr 1;rw[aa5];omega
theorem G7 {w:WT} {l:List ET} (I:TR (w,l)) {j:Nat} (hj:j<l.length):mf (w,eN l j)=af (acB (cB l j)&&CF w.1 (cB l j).ob):=by
 refine ci ?_;unfold mf bh bz iW bB aZ aF;refine gj (aT (Af I hj) (aO (λh=>?_) λh=>ar (ar ?_)))
 .have hk:=bi h;have ce:=((s5 I hj).ce hk).2;have ob:(eN l j).2.2.1=((cB l j).ob:Int):=(ly I hj).ob (by rcases hk with h|h<;>rw[h]<;>decide);rw[ob];refine eZ (λ_=>db (bX (aR (ar (ar ?_))))) λg=>(by omega)
  rw[h,O0];rfl
 .rw[h];rfl
def fL (p:Nat->Bool) (i:Nat):List Int:=((cS i).filter p).map aP
theorem amw {p:Nat->Bool} {i:Nat} (h:p i=ai):fL p (i+1)=fL p i++[(i:Int)]:=by
 unfold fL;rw[FK,yc,cE,List.filter_cons_of_pos h];rfl
theorem amx {p:Nat->Bool} {i:Nat} (h:p i=aj):fL p (i+1)=fL p i:=by
 unfold fL;rw[FK,yc,cE,List.filter_cons_of_neg (by rw[h];decide)];simp
theorem JF (p:Nat->Bool) (i:Nat):(fL p i).length<=i:=by
 unfold fL;rw[bR];exact di (BK p _) (Nat.le_of_eq fK)
theorem JE {p:Nat->Bool} {i:Nat} {z:Int} (h:z∈fL p i):0<=z/\z<i:=by
 obtain⟨k,hk,rfl⟩:=dj.1 h;have:=lj.1 (xn.1 hk).1;exact⟨dT k,Int.ofNat_lt.2 this⟩
theorem agw {w:WT} {l:List ET} (J:TR (w,l)) {j:Nat} (hj:j<l.length):wv (w,l,(j:Int))=af (fL (dB (Qc w l j)) j):=by
 have hl:=J.len;dsimp only at hl;refine ci ?_;unfold wv be bz iW bC bB cK aF cD;refine bX (aR (aT (alu (s5 J hj) (ly J hj)) ?_));have Y:=(ly J hj).k;refine bZ j (λi x=>x=((i:Int),w,fL (dB (Qc w l j)) i)) ?_ ?_ rfl
 .rintro i x hi rfl;have M:i<l.length:=by omega
  have Z:=(ly J M).k;refine db ?_;refine aX (λx=>x=(w,fL (dB (Qc w l j)) (i+1))) ?_ ?_
  .refine bX (aR (aT (akh (s5 J M) (ly J M)) ?_));refine aX (λx=>x.2=(w,fL (dB (Qc w l j)) i)/\(x.1=ai↔Qc w l j i)) ?_ ?_
   .unfold Qc;generalize Co w (cB l j)=A;generalize AE w (cB l i)=R;obtain⟨A,a⟩:=A;obtain⟨R,r⟩:=R;refine eZ (λU=>aJ (λhr=>aO (λhb=>dN (λhs=>ar ⟨rfl,λ_=>.inl ⟨U,hr,λq=>by dsimp only at q hs;rw[hs] at q;cases q.2⟩,λ_=>rfl⟩) λhs=>?_) λhb=>ar ⟨rfl,λ_=>.inl ⟨U,hr,λq=>by dsimp only at q hb;rw[hb] at q;cases q.1⟩,λ_=>rfl⟩) λhr=>?_) λU=>?_
    all_goals refine bX (aR (aJ (λI=>bX (aR (ar ⟨rfl,?_⟩))) λI=>ar ⟨rfl,?_⟩))
    all_goals dsimp only at I U ⊢
    all_goals rw[Y] at I
    all_goals try rw[bd,Z]
    all_goals try change ((cB l i).k:Int)=13↔_
    all_goals first|(have I:((cB l j).k:Int)=12:=I)|(have I:¬((cB l j).k:Int)=12:=I)
    all_goals
     have hn:¬(0<=A/\R=A/\¬(a=ai/\r=ai)):=λq=>by first|exact q.2.2 ⟨hb,hs⟩|exact hr q.2.1|exact cR q.1 (by omega)
     rw[or_iff_right hn];first|exact⟨λq=>(by cases q),λq=>by omega⟩|omega
   rintro⟨x,y⟩ ⟨e,h⟩;dsimp only at e h;subst e;refine aO (λhb=>?_) λhb=>ar ?_
   .have hn:=JF (dB (Qc w l j)) i;refine bg (by dsimp only[c6];omega) (by omega) (ar ?_);dsimp only;rw[amw (afx.2 (h.1 hb))]
   .dsimp only;rw[amx (afy.2 λq=>cR (h.2 q) (by rw[show x=aj from hb];decide))]
  rintro x rfl;refine ar ?_;dsimp only;rw[gy (by omega)]
 .rintro x rfl;exact dc (ar rfl)
theorem Qk {l:List ET} {u k:Nat} (h:0<=CD l u k):∀ m:Nat,(∀ n,k<=n->n<k+m->¬(cB l n).th=u)->CD l u (k+m)=CD l u k
 |0,_=>rfl
 |m+1,hn=>by
  have I:=Qk h m λn h1 h2=>hn n h1 (by omega)
  rw[<- pD,WL (hn (k+m) (by omega) (by omega)) (by rw[I];exact h)];exact I
theorem adc {w:WT} {l:List ET} (J:TR (w,l)) {j:Nat} (hj:j<l.length) (h0:0<=ud l (cB l j).th j) (I:(cB l (ud l (cB l j).th j).toNat).k=16) (hw:0<=CD l (cB l j).th j):uh (l,(j:Int))=af (CD l (cB l j).th j):=by
 have hl:=J.len;dsimp only at hl;have hlt:=(Uw l (cB l j).th j).2;have hown:=W_ j h0;have hnot:=λk=>Oj (l:=l) (u:=(cB l j).th) j k
 have hsame:=λk=>QJ (l:=l) (u:=(cB l j).th) j k
 refine ci ?_;unfold uh be bz bB cK aF cD;refine aT (G8 J hj) ?_;generalize ud l (cB l j).th j=p at*
 obtain⟨p,rfl⟩:∃ k:Nat,p=k:=⟨p.toNat,by omega⟩
 rw[dS] at I hown;have hp:p<l.length:=by omega
 have Z:=ly J hp;have ej:=ly J hj;have op:(eN l p).2.2.1=((cB l p).ob:Int):=Z.ob (by rw[I];decide);refine aX (λx=>x=aj) (bI (λg=>by omega) λ_=>bX (aR (ar ?_))) ?_
 .show (!decide ((eN l p).2.1=16))=aj;rw[Z.k,I];rfl
 rintro x rfl;refine gz ?_;rw[gy (show p<9223372036854775807 by omega)];refine bZ (j-(p+1)) (λi x=>x=((p+1+i:Nat):Int)/\CD l (cB l j).th (p+1+i)= -1) ?_ ?_ ⟨rfl,WJ hown⟩
 .rintro i x hi ⟨rfl,e⟩;have hk:p+1+i<l.length:=by omega
  have hu:=hnot (p+1+i) (by omega) (by omega);have hs:=hsame (p+1+i) (by omega) (by omega);have U:=ly J hk;refine db ?_;generalize hkk:p+1+i=k at*
  have ok':(cB l k).k=19->(eN l k).2.2.1=((cB l k).ob:Int):=λh=>U.ob (by rw[h];decide)
  have ekk:=U.k;have ekv:=U.va;have ejt:=ej.th;refine aX (λx=>x=ai↔(cB l k).k=18/\(cB l k).va=(cB l j).th\/(cB l k).k=19/\(cB l k).ob=(cB l p).ob) ?_ ?_
  .have M:∀ {R:Type} {Q:R⊕Bool->Prop},¬((cB l k).k=18/\(cB l k).va=(cB l j).th)->(∀ x,(x=ai↔(cB l k).k=18/\(cB l k).va=(cB l j).th\/(cB l k).k=19/\(cB l k).ob=(cB l p).ob)->Q (.inr x))->Ok (chk (fc (k:Int) (al l)) λ_=>lt (aK (T:=tE) l (k:Int)) λz=>bcase (decide ((z.2.1:Int)=19)) (chk (fc (k:Int) (al l)) λ_=>lt (aK (T:=tE) l (k:Int)) λz=>chk (fc (p:Int) (al l)) λ_=>lt (aK (T:=tE) l (p:Int)) λy=>af (bP (decide ((z.2.2.1:Int)=y.2.2.1)))) (af (bP aj))) Q:=λhn Y=>by
    refine bX (aR (aJ (λh=>?_) λh=>ar (Y _ ?_)))
    .have h:(eN l k).2.1=19:=h;refine bX (aR (bX (aR (ar (Y _ ?_)))));have o2:=ok' (by omega);change decide ((eN l k).2.2.1=(eN l p).2.2.1)=ai↔_;rw[o2,op,bd,or_iff_right hn];omega
    .have h:¬(eN l k).2.1=19:=h;rw[or_iff_right hn];exact⟨λq=>(by cases q),λq=>by omega⟩
   refine bX (aR (aJ (λh=>?_) λh=>?_))
   .have h:(eN l k).2.1=18:=h;refine bX (aR (bX (aR (aJ (λg=>ar ?_) λg=>?_))))
    .have g:(eN l k).2.2.2.1=(eN l j).1:=g;exact⟨λ_=>.inl ⟨by omega,by omega⟩,λ_=>rfl⟩
    .have g:¬(eN l k).2.2.2.1=(eN l j).1:=g;exact M (λq=>g (by omega)) λx h=>h
   .have h:¬(eN l k).2.1=18:=h;exact M (λq=>h (by omega)) λx h=>h
  rintro x hx;have hm:mtN l (cB l j).th k (ud l (cB l j).th k)↔x=ai:=by
   rw[hx,hs];unfold mtN;rw[dS];exact⟨λq=>q.2.2,λq=>⟨by omega,I,q⟩⟩
  refine aO (λhb=>ar ?_) λhb=>ar ?_
  .have e2:=WN hu e (hm.2 hb);have e3:=Qk (k:=k+1) (by omega) (j-(k+1)) λn h1 h2=>hnot n (by omega) (by omega)
   rw[show k+1+(j-(k+1))=j by omega,e2] at e3;exact e3.symm
  .have e2:=WM hu e λq=>by rw[hm.1 q] at hb;cases hb
   exact⟨by rw[gy (by omega)];omega,by rw[<- e2];congr 1;omega⟩
 .rintro x ⟨rfl,e⟩;rw[show p+1+(j-(p+1))=j by omega] at e;omega
def YK (w:WT) (l:List ET) (j:Nat):List Int:=fL (dB (H4 w l j)) j++if (cB l j).k=17 then [CD l (cB l j).th j] else []
theorem aa9 {w:WT} {l:List ET} (I:TR (w,l)) {j:Nat} (hj:j<l.length) (h:(cB l j).k=17):0<=ud l (cB l j).th j/\(cB l (ud l (cB l j).th j).toNat).k=16/\0<=CD l (cB l j).th j:=by
 have b:=(UQ I j (by omega)).2 (cB l j).th (by rw[<- (zo I j (by omega)).2.T];exact (s5 I hj).th);have wk:=((I.sc hj).rd.wk (by rw[(ly I hj).k,h];rfl)).1;rw[(ly I hj).th] at wk;have g:=b.p (.inr wk);exact⟨g.1,g.2.1,(b.n wk).1⟩
theorem ahd {w:WT} {l:List ET} (J:TR (w,l)) {j:Nat} (hj:j<l.length):ww (w,l,(j:Int))=af (YK w l j):=by
 have hl:=J.len;dsimp only at hl;refine ci ?_;unfold ww aY bh bx cC dW bL be bz iW bC bB cK aF cD;refine bX (aR ?_);have Y:=ly J hj;have kj:(eN l j).2.1=(cB l j).k:=Y.k;refine bZ j (λi x=>x=((i:Int),w,fL (dB (H4 w l j)) i,eN l j)) ?_ ?_ rfl
 .rintro i x hi rfl;have hi':i<l.length:=by omega
  have Z:=ly J hi';have ki:(eN l i).2.1=(cB l i).k:=Z.k;have hn:=JF (dB (H4 w l j)) i;have ad:∀ {R:Type} {Q:(R⊕(WT×List Int×ET))->Prop},H4 w l j i->Q (.inr (w,fL (dB (H4 w l j)) (i+1),eN l j))->Ok (chk (a_ ((fL (dB (H4 w l j)) i).length+[(i:Int)].length) 8) λ_=>af (bP (w,fL (dB (H4 w l j)) i++[(i:Int)],eN l j))) Q:=λh q=>by
   refine bg (by rw[c6];omega) (by omega) (ar ?_);rw[<- amw (afx.2 h)];exact q
  refine db ?_;refine bX (aR ?_);refine aX (λx=>x=(w,fL (dB (H4 w l j)) (i+1),eN l j)) ?_ ?_
  .refine aX (λx=>x.2=(w,fL (dB (H4 w l j)) i,eN l j,eN l i)/\(x.1=ai↔(cB l j).k=1/\(cB l i).k=20/\(cB l i).ob=(cB l j).th)) ?_ ?_
   .refine aJ (λh=>aJ (λg=>ar ⟨rfl,?_⟩) λg=>ar ⟨rfl,?_⟩) λh=>ar ⟨rfl,?_⟩
    .have h:(eN l j).2.1=1:=h;have g:(eN l i).2.1=20:=g;have o:(eN l i).2.2.1=(cB l i).ob:=Z.ob (by rw[show (cB l i).k=20 by omega];decide);have t:(eN l j).1=(cB l j).th:=Y.th;change decide ((eN l i).2.2.1=(eN l j).1)=ai↔_;rw[bd];omega
    .have g:¬(eN l i).2.1=20:=g;exact⟨λq=>(by cases q),λq=>by omega⟩
    .have h:¬(eN l j).2.1=1:=h;exact⟨λq=>(by cases q),λq=>by omega⟩
   rintro⟨x,y⟩ ⟨e,h1⟩;dsimp only at e h1;subst e;refine aO (λhb=>ad (.inl (h1.1 hb)) rfl) λI=>?_
   have h1:¬_:=λq=>cR (h1.2 q) (by rw[show x=aj from I];decide)
   clear I;refine aX (λx=>x.2=(w,fL (dB (H4 w l j)) i,eN l j,eN l i)/\(x.1=ai↔(cB l j).k=21/\(cB l i).th=(cB l j).ob)) ?_ ?_
   .refine aJ (λh=>ar ⟨rfl,?_⟩) λh=>ar ⟨rfl,?_⟩
    .have h:(eN l j).2.1=21:=h;have o:(eN l j).2.2.1=(cB l j).ob:=Y.ob (by rw[show (cB l j).k=21 by omega];decide);have t:(eN l i).1=(cB l i).th:=Z.th;change decide ((eN l i).1=(eN l j).2.2.1)=ai↔_;rw[bd];omega
    .have h:¬(eN l j).2.1=21:=h;exact⟨λq=>(by cases q),λq=>by omega⟩
   rintro⟨x,y⟩ ⟨e,h2⟩;dsimp only at e h2;subst e;refine aO (λhb=>ad (.inr (.inl (h2.1 hb))) rfl) λI=>?_
   have h2:¬_:=λq=>cR (h2.2 q) (by rw[show x=aj from I];decide)
   clear I;refine aX (λx=>x.2=(w,fL (dB (H4 w l j)) i,eN l j,eN l i)/\(x.1=ai↔(cB l j).k=3/\CF w.1 (cB l j).ob=ai/\(cB l i).k=4/\(cB l i).ob=(cB l j).ob)) ?_ ?_
   .refine aJ (λh=>?_) λh=>ar ⟨rfl,?_⟩
    .have h:(eN l j).2.1=3:=h;have h:(cB l j).k=3:=by omega
     have o:(eN l j).2.2.1=(cB l j).ob:=Y.ob (by rw[h];decide);refine aT (G7 J hj) (aO (λhv=>aJ (λg=>ar ⟨rfl,?_⟩) λg=>ar ⟨rfl,?_⟩) λhv=>ar ⟨rfl,?_⟩)
     .have hv:=(jm.1 hv).2;have g:(eN l i).2.1=4:=g;have o':(eN l i).2.2.1=(cB l i).ob:=Z.ob (by rw[show (cB l i).k=4 by omega];decide);change decide ((eN l i).2.2.1=(eN l j).2.2.1)=ai↔_;rw[bd];exact⟨λq=>⟨h,hv,by omega,by omega⟩,λq=>by omega⟩
     .have g:¬(eN l i).2.1=4:=g;exact⟨λq=>(by cases q),λq=>by omega⟩
     .refine ⟨λq=>(by cases q),λq=>?_⟩;rw[q.2.1] at hv;unfold acB at hv;rw[aQ (.inl h)] at hv;cases hv
    .have h:¬(eN l j).2.1=3:=h;exact⟨λq=>(by cases q),λq=>by omega⟩
   rintro⟨x,y⟩ ⟨e,U⟩;dsimp only at e U;subst e;refine aO (λhb=>ad (.inr (.inr (.inl (U.1 hb)))) rfl) λI=>?_
   have U:¬_:=λq=>cR (U.2 q) (by rw[show x=aj from I];decide)
   clear I;refine aX (λx=>x.2=(w,fL (dB (H4 w l j)) i,eN l j)/\(x.1=ai↔(cB l j).k=23/\(cB l i).k=22/\(cB l i).ob=(cB l j).ob)) ?_ ?_
   .refine aJ (λh=>aJ (λg=>ar ⟨rfl,?_⟩) λg=>ar ⟨rfl,?_⟩) λh=>ar ⟨rfl,?_⟩
    .have h:(eN l j).2.1=23:=h;have g:(eN l i).2.1=22:=g;have o:(eN l i).2.2.1=(cB l i).ob:=Z.ob (by rw[show (cB l i).k=22 by omega];decide);have o':(eN l j).2.2.1=(cB l j).ob:=Y.ob (by rw[show (cB l j).k=23 by omega];decide);change decide ((eN l i).2.2.1=(eN l j).2.2.1)=ai↔_;rw[bd];omega
    .have g:¬(eN l i).2.1=22:=g;exact⟨λq=>(by cases q),λq=>by omega⟩
    .have h:¬(eN l j).2.1=23:=h;exact⟨λq=>(by cases q),λq=>by omega⟩
   rintro⟨x,y⟩ ⟨e,M⟩;dsimp only at e M;subst e;refine aO (λhb=>ad (.inr (.inr (.inr (M.1 hb)))) rfl) λI=>?_
   have M:¬_:=λq=>cR (M.2 q) (by rw[show x=aj from I];decide)
   refine ar ?_;dsimp only;rw[amx (afy.2 λq=>q.elim h1 λq=>q.elim h2 λq=>q.elim U M)]
  rintro x rfl;refine ar ?_;dsimp only;rw[gy (by omega)]
 .rintro x rfl;refine dc ?_;have hn:=JF (dB (H4 w l j)) j;refine ax (P:=λy=>y=YK w l j) (aX (λx=>x=YK w l j) ?_ λx hx=>ar hx) λx hx=>ar hx
  unfold YK;refine aJ (λh=>?_) λh=>ar ?_
  .have h:(eN l j).2.1=17:=h;have h:(cB l j).k=17:=by omega
   obtain⟨h0,h1,h2⟩:=aa9 J hj h;refine aT (adc J hj h0 h1 h2) (eZ (λ_=>bg (by dsimp only[c6];omega) (by omega) (ar ?_)) λg=>(by omega));dsimp only;rw[aE h]
  .have h:¬(eN l j).2.1=17:=h;dsimp only;rw[ay (by omega),gp]
theorem Wn:tK ()=af ai:=by kernel_rfl
theorem fA {φ:PM} {O:Nat->Prop} {w:World} {v u:Value} (h:cO φ O w (.f (.raw v)) u):u=v:=by
 cases h with
 |f h=>cases h;rfl
theorem ub (h:HF) (nw:HF):eT h [] nw=h:=by funext t;simp[eT]
theorem G3:∀ {l:List Value},KL l=ai->∀ v∈l,v.oneCell'=ai
 |[],_,v,hv=>by cases hv
 |x::r,h,v,hv=>by
  simp only[KL,av] at h;rcases bp.1 hv with rfl|hv
  .exact h.1
  .exact G3 h.2 v hv
theorem V0 {φ:PM} {O:Nat->Prop} {w:World} (v:Value):cO φ O w (Fr v) v:=by
 unfold Fr;split
 .rename_i vs;split
  .rename_i h1;refine cO.agg (vs:=vs.toList) (by simp) (λx I=>?_) (λj x v I hv=>?_)
   .obtain⟨u,hu,rfl⟩:=dj.1 I;exact G3 h1 u hu
   .rw[ba,hv] at I;simp only[ch,ak] at I;subst I;exact .f (.raw _)
  .exact .f (.raw _)
 .exact .f (.raw _)
theorem tR {φ:PM} {E:Nat->Prop} {h':HF} {w:World} {e:Ad} {a:Act} {xs:Array Operand} (hrep:ri φ E h' w) (h:∀ t,.tmp t∈xs->∀ y,e.get t=af y->cO φ (tot E φ h') w y (a.tmps.getD t undef)) {x:Operand} {y:AV} (J:x∈xs) (I:mH e x=af y):cO φ (tot E φ h') w y (a.eval x):=by
 cases x with
 |tmp t=>exact h t J y I
 |const v=>simp only[mH,ak] at I;subst I;exact V0 v
 |func g=>
  simp only[mH,ak] at I;subst I;exact cO.clo (vs:=[]) (g:=g) (cells:=[]) rfl (by intro j x v J;simp at J)
 |global g=>
  simp only[mH] at I;cases hg:G g with
  |none=>rw[hg] at I;cases I
  |some cells=>rw[hg] at I;simp only[ak] at I;subst I;exact .f (hrep.gl g cells hg)
abbrev Wx (φ:PM) (E:Nat->Prop) (h':HF) (w:World) (a:Act) (e:Ad) (o:Oper):Prop:=∀ x y,x∈o.op.operands->mH e x=af y->cO φ (tot E φ h') w y (a.eval x)
theorem gQ.reads {P:Program} {o:Oper} {e:Ad} {h:HF} {val:AV} {rd:List Nat} {nw:HF}
 (hv:∀ (φ:PM) (E:Nat->Prop) (h':HF) (w:World) (a:Act),(∀ i∈rd,h' i=h i)->Wx φ E h' w a e o->ri φ E h' w->
   ∃ v,(execOp a.eval o).run P w= .ok (.value v) w/\cO φ (tot E φ h') w val v):gQ P o e.get h ⟨val,rd,[],nw,[]⟩:=by
 intro φ E h' w a h1 h2 U I Y;obtain⟨v,r,rel⟩:=hv φ E h' w a h1 (λx y M J=>tR I U M J) I;unfold HM;rw[r];refine ⟨v,φ,rfl,?_,λ_ _ h=>.inl h,?_,?_⟩<;>rw[ub]
 .exact ja.refl _ _ _
 .exact I
 .exact rel
theorem dC {x:AV} {R:Cq} (h:rv x=af R):R=⟨x,[],[],[],[]⟩:=by simp only[rv,ak] at h;exact h.symm
section pure
variable {P:Program} {o:Oper} {e:Ad} {h:oc} {nx:Nat} {R:Cq}
theorem anl {x:Operand} (I:o.op= .move x\/o.op= .assign x) (J:eQ (.mv x) e h nx=af R):gQ P o e.get h.get R.eff:=by
 simp only[eQ] at J;split at J
 .rename_i v hv;rw[dC J];exact gQ.reads λφ E h' w a _ hop _=>⟨a.eval x,by unfold execOp;rcases I with I|I<;>rw[I]<;>rfl,hop x v (by rcases I with I|I<;>rw[I]<;>simp[Op.operands]) hv⟩
 .cases J
theorem ak4 {c x y:Operand} (J:o.op= .pick c x y) (I:eQ (.pick c x y) e h nx=af R):gQ P o e.get h.get R.eff:=by
 simp only[eQ] at I;split at I
 .rename_i t hc;split at I
  .rename_i v hv;rw[dC I];refine gQ.reads λφ E h' w a _ hop _=>?_
   have hcv:=fA (hop c _ (by rw[J];simp[Op.operands]) hc);refine ⟨a.eval (if t then x else y),?_,hop _ v (by rw[J];cases t<;>simp[Op.operands]) hv⟩;unfold execOp;rw[J];simp only[hcv];cases t<;>rfl
  .cases I
 .cases I
theorem ak5 {x:Operand} (I:o.op= .nilCheck x) (J:eQ (.nilc x) e h nx=af R):gQ P o e.get h.get R.eff:=by
 simp only[eQ] at J;split at J
 .rename_i id off U;rw[dC J];refine gQ.reads λφ E h' w a _ hop _=>?_
  have h1:=hop x _ (by rw[I];simp[Op.operands]) U;generalize M:a.eval x=z at h1;cases h1 with
  |ptr hφ=>exact⟨_,by unfold execOp;rw[I];simp only[M];rfl,.ptr hφ⟩
 .rename_i cells off U;rw[dC J];refine gQ.reads λφ E h' w a _ hop _=>?_
  have h1:=hop x _ (by rw[I];simp[Op.operands]) U;generalize M:a.eval x=z at h1;cases h1 with
  |f h1=>
   have h2:=h1;cases h2 with
   |ptr _ _ b base us hO hb hcl hu hr=>exact⟨_,by unfold execOp;rw[I];simp only[M];rfl,.f h1⟩
 .rename_i g cap U;rw[dC J];refine gQ.reads λφ E h' w a _ hop _=>?_
  have h1:=hop x _ (by rw[I];simp[Op.operands]) U;generalize M:a.eval x=z at h1;cases h1 with
  |clo hl hr=>exact⟨_,by unfold execOp;rw[I];simp only[M];rfl,.clo hl hr⟩
 .cases J
theorem anj {x:Operand} {t:TypeId} (J:o.op= .unOp .not t x) (I:eQ (.not x) e h nx=af R):gQ P o e.get h.get R.eff:=by
 simp only[eQ] at I;split at I
 .rename_i b M;rw[dC I];refine gQ.reads λφ E h' w a _ hop _=>?_
  have h1:=fA (hop x _ (by rw[J];simp[Op.operands]) M);exact⟨_,by unfold execOp;rw[J];simp only[h1];rfl,.f (.raw _)⟩
 .cases I
theorem yT (k:IntKind) (n:Int):bk k n=k.wrap n:=by
 rw[HP];unfold MG;split
 .split
  .rename_i h;simp only[c8,av,bd] at h;have:oX .i64 n=if n%18446744073709551616≥9223372036854775808 then n%18446744073709551616-18446744073709551616 else n%18446744073709551616:=by
    simp[oX,IntKind.bits,IntKind.signed]
   rw[this];split<;>omega
  .rfl
 .split
  .rename_i h;simp only[c8,av,bd] at h;have:oX .u8 n=n%256:=by
    simp[oX,IntKind.bits,IntKind.signed]
   rw[this];omega
  .rfl
 .rfl
theorem akd {x:Operand} {s d:TypeId} {k k':IntKind} (J:o.op= .convert s d x) (hs:P.underlying s=af (.int k')) (hd:P.underlying d=af (.int k)) (I:eQ (.conv k x) e h nx=af R):gQ P o e.get h.get R.eff:=by
 simp only[eQ] at I;split at I
 .rename_i U n M;rw[dC I];refine gQ.reads λφ E h' w a _ hop _=>?_
  have h1:=fA (hop x _ (by rw[J];simp[Op.operands]) M);refine ⟨_,?_,.f (.raw _)⟩;unfold execOp;rw[J];simp[h1,convert,run_underlying hs,run_underlying hd,Conv.intToInt,yT]
 .cases I
theorem PN (a:ByteArray):a.toList=a.data.toList:=by
 first|exact ByteArray.toList_eq a|simp[ByteArray.toList]|rfl
theorem aas {op:BinOp} {t:TypeId} {u v r:Value} (hr:uX op u v=af r) (x y:Operand) (w:World):
 (do eqGuard op t x y u v;binOp op t u v:Sem Value).run P w= .ok r w:=by
 unfold uX at hr;split at hr
 .rename_i k a k' b;split at hr
  .rename_i hk;have I:k=k':=by simpa using hk
   subst I;split at hr<;>first|(simp only[ak] at hr;subst hr;simp[eqGuard,binOp,Op.intCmp,Op.intArith,yT,c8,fR];done)|(split at hr<;>first|(cases hr;done)|(rename_i hb;simp only[ak] at hr;subst hr;simp[eqGuard,binOp,Op.intDiv,yT,show b≠0 from by simpa using hb];done))|(cases hr;done)
  .cases hr
 .rename_i a b;split at hr<;>first|(simp only[ak] at hr;subst hr;simp[eqGuard,binOp,Op.stringOp,sh,PN];done)|(cases hr;done)
 .cases hr
theorem ahr {s:Sem Value} {r:Value} {w w':World} (hs:s.run P w= .ok r w'):(do let x<-s;pure (Next.value x):Sem Next).run P w= .ok (.value r) w':=by
 simp[hs]
theorem aih {op:BinOp} {x y:Operand} {t t':TypeId} (J:o.op= .binOp op t x y t') (I:eQ (.bin op x y) e h nx=af R):gQ P o e.get h.get R.eff:=by
 simp only[eQ] at I;split at I
 .rename_i u v U M;split at I
  .rename_i r hr;rw[dC I];refine gQ.reads λφ E h' w a _ hop _=>?_
   have h1:=fA (hop x _ (by rw[J];simp[Op.operands]) U);have h2:=fA (hop y _ (by rw[J];simp[Op.operands]) M);refine ⟨r,?_,.f (.raw _)⟩;unfold execOp;rw[J];simp only[h1,h2];exact ahr (aas (P:=P) (t:=t) hr x y w)
  .cases I
 .cases I
theorem Vn {t:TypeId} (hu:P.underlying t=af .bool) (u v:Bool) (w:World):(Op.equal t (.bool u) (.bool v)).run P w= .ok (u==v) w:=by
 have key:∀ d,(Op.equalIn (d+1) t (.bool u) (.bool v)).run P w= .ok (u==v) w:=λd=>by simp[Op.equalIn,run_underlying hu]
 exact key 9999
theorem RP {t el:TypeId} (hu:P.underlying t=af (.slice el)) (A:Option Addr) (n c:Nat) (w:World):(Op.equal t (.slice A n c) (.slice ah 0 0)).run P w= .ok A.isNone w:=by
 have key:∀ d,(Op.equalIn (d+1) t (.slice A n c) (.slice ah 0 0)).run P w= .ok A.isNone w:=λd=>by cases A<;>simp[Op.equalIn,run_underlying hu]
 exact key 9999
theorem aig {neg:Bool} {op:BinOp} {x y:Operand} {t t':TypeId} (J:o.op= .binOp op t x y t') (hop:op=if neg then .neq else .eql) (hu:P.underlying t=af .bool) (I:eQ (.eqb neg x y) e h nx=af R):gQ P o e.get h.get R.eff:=by
 simp only[eQ] at I;split at I
 .rename_i u v U M;rw[dC I];refine gQ.reads λφ E h' w a _ hp _=>?_
  have h1:=fA (hp x _ (by rw[J];simp[Op.operands]) U);have h2:=fA (hp y _ (by rw[J];simp[Op.operands]) M);refine ⟨_,?_,.f (.raw _)⟩;unfold execOp;rw[J];simp only[h1,h2];subst hop;cases neg<;>simp[eqGuard,binOp,Vn hu]
 .cases I
theorem X5 {neg:Bool} {op:BinOp} {x y:Operand} {t t' el:TypeId} (U:o.op= .binOp op t x y t') (hop:op=if neg then .neq else .eql) (Y:y= .const (.slice ah 0 0)) (hu:P.underlying t=af (.slice el)) (J:eQ (.isnil neg x) e h nx=af R):gQ P o e.get h.get R.eff:=by
 have key:∀ (v:Value) (w:World) (ρ:Operand->Value) (A:Option Addr) (n c:Nat),ρ x= .slice A n c->ρ y= .slice ah 0 0->(execOp ρ o).run P w= .ok (.value (.bool (A.isNone !=neg))) w:=by
  intro v w ρ A n c h1 h2;unfold execOp;rw[U];simp only[h1,h2];subst hop;cases neg<;>simp[eqGuard,binOp,RP hu]
 have hyv:∀ a:Act,a.eval y= .slice ah 0 0:=λa=>by rw[Y];rfl
 simp only[eQ] at J;split at J
 .rename_i id sz n I;rw[dC J];refine gQ.reads λφ E h' w a _ hp _=>?_
  have h1:=hp x _ (by rw[U];simp[Op.operands]) I;generalize M:a.eval x=z at h1;cases h1 with
  |row hφ hn hc hs=>exact⟨_,key (.bool ai) w a.eval _ _ _ M (hyv a),by simpa[raw] using cO.f (.raw _)⟩
 .rename_i id off n I;rw[dC J];refine gQ.reads λφ E h' w a _ hp _=>?_
  have h1:=hp x _ (by rw[U];simp[Op.operands]) I;generalize M:a.eval x=z at h1;cases h1 with
  |sl hφ hn hc=>exact⟨_,key (.bool ai) w a.eval _ _ _ M (hyv a),by simpa[raw] using cO.f (.raw _)⟩
 .rename_i cells n I;rw[dC J];refine gQ.reads λφ E h' w a _ hp _=>?_
  have h1:=hp x _ (by rw[U];simp[Op.operands]) I;generalize M:a.eval x=z at h1;cases h1 with
  |f h1=>
   cases h1 with
   |sl=>exact⟨_,key (.bool ai) w a.eval _ _ _ M (hyv a),by simpa[raw] using cO.f (.raw _)⟩
 .rename_i cells I;rw[dC J];refine gQ.reads λφ E h' w a _ hp _=>?_
  have h1:=hp x _ (by rw[U];simp[Op.operands]) I;generalize M:a.eval x=z at h1;cases h1 with
  |f h1=>
   cases h1 with
   |nil=>exact⟨_,key (.bool ai) w a.eval _ _ _ M (hyv a),.anyb⟩
   |sl=>exact⟨_,key (.bool ai) w a.eval _ _ _ M (hyv a),.anyb⟩
 .rename_i I;rw[dC J];refine gQ.reads λφ E h' w a _ hp _=>?_
  have h1:=hp x _ (by rw[U];simp[Op.operands]) I;generalize M:a.eval x=z at h1;cases h1 with
  |emp=>exact⟨_,key (.bool ai) w a.eval _ _ _ M (hyv a),.anyb⟩
 .rename_i v I;split at J
  .rename_i hv;rw[dC J];refine gQ.reads λφ E h' w a _ hp _=>?_
   have h1:=fA (hp x _ (by rw[U];simp[Op.operands]) I);unfold Ar at hv;split at hv
   .exact⟨_,key (.bool ai) w a.eval _ _ _ h1 (hyv a),by simpa[raw] using cO.f (.raw _)⟩
   .cases hv
  .cases J
 .cases J
theorem gD {t:TypeId} {sz:Nat} (hs:fw P t=af sz) (w:World):(sizeOf t).run P w= .ok sz w:=by
 unfold fw at hs;cases hi:P.info? t with
 |none=>rw[hi] at hs;cases hs
 |some i=>rw[hi] at hs;simp at hs;simp[sizeOf,typeInfo,program,hi,nF,hs]
theorem Qz {t:TypeId} {ag:Bool} (hs:Eb P t=af ag) (w:World):(isAgg t).run P w= .ok ag w:=by
 unfold Eb at hs;cases hi:P.underlying t with
 |none=>rw[hi] at hs;cases hs
 |some d=>
  rw[hi] at hs;simp only[ch,ak] at hs;rw[<- hs];simp only[isAgg,eJ,run_underlying hi,cL];cases d<;>rfl
theorem k_ (b off i:Nat):(⟨b,off,ah⟩:Addr).add i=⟨b,off+i,ah⟩:=by
 unfold Addr.add;split<;>simp_all
theorem Qy {s:TypeId} {fs:Array Field} {k:Nat} {f:Field} {sz:Nat} (hu:P.underlying s=af (.struct fs)) (hf:fs[k]? =af f) (hs:fw P f.type=af sz) (h0:sz≠0) (w:World) (b i:Nat):
 (Instr.fieldAt s (.pointer (af ⟨b,i,ah⟩)) k).run P w= .ok (.pointer (af ⟨b,i+f.offset,ah⟩)) w:=by
 have h1:=gD hs w;simp[Instr.fieldAt,run_underlying hu,hf,Instr.sureAddr,fieldPlace,h1,h0,k_]
theorem ant {s:TypeId} {fs:Array Field} {k:Nat} {f:Field} {sz:Nat} {x:Operand} (U:o.op= .fieldAddr s x k) (hu:P.underlying s=af (.struct fs)) (hf:fs[k]? =af f) (hs:fw P f.type=af sz) (h0:sz≠0) (I:eQ (.fad f.offset x) e h nx=af R):gQ P o e.get h.get R.eff:=by
 have key:∀ (w:World) (ρ:Operand->Value) (b i:Nat),ρ x= .pointer (af ⟨b,i,ah⟩)->(execOp ρ o).run P w= .ok (.value (.pointer (af ⟨b,i+f.offset,ah⟩))) w:=by
  intro w ρ b i h1;unfold execOp;rw[U];simp only[h1];exact ahr (Qy hu hf hs h0 w b i)
 simp only[eQ] at I;split at I
 .rename_i id off M;rw[dC I];refine gQ.reads λφ E h' w a _ hp _=>?_
  have h1:=hp x _ (by rw[U];simp[Op.operands]) M;generalize J:a.eval x=z at h1;cases h1 with
  |ptr hφ=>exact⟨_,key w a.eval _ _ J,.ptr hφ⟩
 .rename_i cells off M;rw[dC I];refine gQ.reads λφ E h' w a _ hp _=>?_
  have h1:=hp x _ (by rw[U];simp[Op.operands]) M;generalize J:a.eval x=z at h1;cases h1 with
  |f h1=>
   cases h1 with
   |ptr _ _ b base us hO hb hcl hu hr=>
    refine ⟨_,key w a.eval _ _ J,.f ?_⟩;rw[pD];exact .ptr cells _ b base us hO hb hcl hu hr
 .cases I
theorem JG {t el:TypeId} {x y:Operand} {sz b off n c:Nat} {k:IntKind} {i:Int} {ρ:Operand->Value} {w:World} (M:o.op= .indexAddr t x y) (hu:P.underlying t=af (.slice el)) (hs:fw P el=af sz) (J:ρ x= .slice (af ⟨b,off,ah⟩) n c) (I:ρ y= .int k i) (h0:0<=i) (h1:i<n):
 (execOp ρ o).run P w= .ok (.value (.pointer (af ⟨b,off+i.toNat*sz,ah⟩))) w:=by
 have h2:=gD hs w;unfold execOp;rw[M];simp[J,I,Instr.indexAt,asIntOf,run_underlying hu,h2,h0,h1,k_]
theorem anr {t el:TypeId} {x y:Operand} {sz:Nat} (J:o.op= .indexAddr t x y) (hu:P.underlying t=af (.slice el)) (hs:fw P el=af sz) (I:eQ (.iad sz x y) e h nx=af R):gQ P o e.get h.get R.eff:=by
 simp only[eQ] at I;split at I
 .rename_i v k j Y hy;have hyv:∀ {φ:PM} {E:Nat->Prop} {h':HF} {w:World} {a:Act},Wx φ E h' w a e o->a.eval y= .int k j:=λhp=>fA (hp y _ (by rw[J];simp[Op.operands]) hy)
  split at I
  .split at I
   .rename_i id sz' n hc;simp only[c8,fR,av,bd,c5] at hc;obtain⟨⟨rfl,h0⟩,h1⟩:=hc;rw[dC I];refine gQ.reads λφ E h' w a _ hp _=>?_
    have hr:=hp x _ (by rw[J];simp[Op.operands]) Y;generalize M:a.eval x=z at hr;cases hr with
    |row hφ hn U hsh=>
     refine ⟨_,JG J hu hs M (hyv hp) h0 h1,?_⟩;rw[bN];exact .ptr hφ
   .cases I
  .split at I
   .rename_i id off n hc;simp only[c8,fR,av,bd] at hc;obtain⟨h0,h1⟩:=hc;rw[dC I];refine gQ.reads λφ E h' w a _ hp _=>?_
    have hr:=hp x _ (by rw[J];simp[Op.operands]) Y;generalize M:a.eval x=z at hr;cases hr with
    |sl hφ hn U=>exact⟨_,JG J hu hs M (hyv hp) h0 h1,.ptr hφ⟩
   .cases I
  .split at I
   .rename_i cells n hc;simp only[c8,fR,av,bd] at hc;obtain⟨h0,h1⟩:=hc;rw[dC I];refine gQ.reads λφ E h' w a _ hp _=>?_
    have hr:=hp x _ (by rw[J];simp[Op.operands]) Y;generalize M:a.eval x=z at hr;cases hr with
    |f hr=>
     cases hr with
     |nil=>omega
     |sl _ _ c b base us hn U hO hb hcl Z hr'=>exact⟨_,JG J hu hs M (hyv hp) h0 h1,.f (.ptr cells _ b base us hO hb hcl Z hr')⟩
   .cases I
  .cases I
 .cases I
theorem akb {t el:TypeId} {x y:Operand} {n sz:Nat} (J:o.op= .indexAddr t x y) (hu:P.underlying t=af (.array n el)) (hs:fw P el=af sz) (I:eQ (.iada n sz x y) e h nx=af R):gQ P o e.get h.get R.eff:=by
 have key:∀ (w:World) (ρ:Operand->Value) (b off:Nat) (k:IntKind) (i:Int),ρ x= .pointer (af ⟨b,off,ah⟩)->ρ y= .int k i->0<=i->i<n->(execOp ρ o).run P w= .ok (.value (.pointer (af ⟨b,off+i.toNat*sz,ah⟩))) w:=by
  intro w ρ b off k i h1 h2 h3 h4;have h5:=gD hs w;unfold execOp;rw[J];simp[h1,h2,Instr.indexAt,asIntOf,run_underlying hu,h5,h3,h4,k_,Instr.sureAddr]
 simp only[eQ] at I;split at I
 .rename_i v k j hx Z;split at I
  .rename_i hc;simp only[c8,fR,av,bd] at hc;obtain⟨h0,h1⟩:=hc;split at I
   .rw[dC I];refine gQ.reads λφ E h' w a _ hp _=>?_
    have hr:=hp x _ (by rw[J];simp[Op.operands]) hx;have hyv:=fA (hp y _ (by rw[J];simp[Op.operands]) Z);generalize M:a.eval x=z at hr;cases hr with
    |ptr hφ=>exact⟨_,key w a.eval _ _ k j M hyv h0 h1,.ptr hφ⟩
   .rw[dC I];refine gQ.reads λφ E h' w a _ hp _=>?_
    have hr:=hp x _ (by rw[J];simp[Op.operands]) hx;have hyv:=fA (hp y _ (by rw[J];simp[Op.operands]) Z);generalize M:a.eval x=z at hr;cases hr with
    |f hr=>
     cases hr with
     |ptr _ _ b base us hO hb hcl U Y=>
      refine ⟨_,key w a.eval _ _ k j M hyv h0 h1,.f ?_⟩;rw[pD];exact .ptr _ _ b base us hO hb hcl U Y
   .cases I
  .cases I
 .cases I
theorem anu {x:Operand} {i:Nat} (J:o.op= .extract x i) (I:eQ (.ext x i) e h nx=af R):gQ P o e.get h.get R.eff:=by
 simp only[eQ] at I;split at I
 .rename_i l U;split at I
  .rename_i v hv;rw[dC I];refine gQ.reads λφ E h' w a _ hp _=>?_
   have hr:=hp x _ (by rw[J];simp[Op.operands]) U;generalize M:a.eval x=z at hr;cases hr with
   |@tup _ vs hl hrr=>
    have hlt:i<vs.length:=by
     rw[hl];exact (bn.1 hv).1
    refine ⟨vs[i],?_,hrr i v _ hv (aB hlt)⟩;unfold execOp;rw[J];simp[M,Instr.extract,hlt]
  .cases I
 .cases I
theorem anp {x y:Operand} {M:Array TypeId} (J:o.op= .call {callee:=.builtin .max,args:=#[x,y],argTypes:=M}) (I:eQ (.max x y) e h nx=af R):gQ P o e.get h.get R.eff:=by
 simp only[eQ] at I;split at I
 .rename_i k a b k' Y U;rw[dC I];refine gQ.reads λφ E h' w a _ hp _=>?_
  have h1:=fA (hp x _ (by rw[J];simp[Op.operands,eS]) Y);have h2:=fA (hp y _ (by rw[J];simp[Op.operands,eS]) U);refine ⟨_,?_,.f (.raw _)⟩;unfold execOp;rw[J];simp[resolve,invoke,builtin,Builtin.max_,Builtin.max2,h1,h2,fR]
 .cases I
theorem ano {x y:Operand} {M:Array TypeId} (J:o.op= .call {callee:=.builtin .min,args:=#[x,y],argTypes:=M}) (I:eQ (.min x y) e h nx=af R):gQ P o e.get h.get R.eff:=by
 simp only[eQ] at I;split at I
 .rename_i k a b k' Y U;rw[dC I];refine gQ.reads λφ E h' w a _ hp _=>?_
  have h1:=fA (hp x _ (by rw[J];simp[Op.operands,eS]) Y);have h2:=fA (hp y _ (by rw[J];simp[Op.operands,eS]) U);refine ⟨_,?_,.f (.raw _)⟩;unfold execOp;rw[J];simp[resolve,invoke,builtin,Builtin.min_,Builtin.min2,h1,h2,fR]
 .cases I
theorem ank {x:Operand} {t:TypeId} {k:IntKind} (J:o.op= .unOp .neg t x) (I:eQ (.bin .sub (.const (.int k 0)) x) e h nx=af R):gQ P o e.get h.get R.eff:=by
 simp only[eQ,mH,Fr] at I;split at I
 .rename_i u v hu M;cases hu;split at I
  .rename_i r hb;rw[dC I];refine gQ.reads λφ E h' w a _ hop _=>?_
   have h1:=fA (hop x _ (by rw[J];simp[Op.operands]) M);refine ⟨r,?_,.f (.raw _)⟩;unfold execOp;rw[J];cases v<;>simp only[uX] at hb<;>try (cases hb;done)
   split at hb
   .rename_i hk;have hk:=eq_of_beq hk;subst hk;simp only[ak] at hb;subst hb;simp[h1,Op.unary,Op.intArith,yT]
   .cases hb
  .cases I
 .cases I
theorem ak3 {x i:Operand} {t:TypeId} (J:o.op= .index t x i) (hu:P.underlying t=af .string) (I:eQ (.sidx x i) e h nx=af R):gQ P o e.get h.get R.eff:=by
 simp only[eQ] at I;split at I
 .rename_i s k j M hi;split at I
  .rename_i h0;simp only[c8,bd] at h0;split at I
   .rename_i b hb;rw[dC I];refine gQ.reads λφ E h' w a _ hop _=>?_
    have h1:=fA (hop x _ (by rw[J];simp[Op.operands]) M);have h2:=fA (hop i _ (by rw[J];simp[Op.operands]) hi);refine ⟨_,?_,.f (.raw _)⟩;have hs:s[j.toNat]? =af b:=by
     rw[cJ] at hb;obtain⟨hl,he⟩:=cG.1 hb;exact getElem?_pos s j.toNat hl▸gO af he
    unfold execOp;rw[J];simp[Instr.index,run_underlying hu,h1,h2,asIntOf,h0,hs]
   .cases I
  .cases I
 .cases I
theorem ann {f:FuncId} {caps:Array Operand} (Y:o.op= .makeFunc (.func f) #[] caps) (M:eQ (.mkf f caps.toList) e h nx=af R):gQ P o e.get h.get R.eff:=by
 simp only[eQ] at M;split at M
 .rename_i l hl;rw[dC M];refine gQ.reads λφ E h' w a _ hp _=>?_
  refine ⟨_,by unfold execOp;rw[Y];rfl,?_⟩;have key:∀ (xs:List Operand) (I:List AV),(∀ x∈xs,x∈o.op.operands)->XG e xs=af I->I.length=xs.length/\∀ (j:Nat) x v,I[j]? =af x->(xs.map a.eval)[j]? =af v->cO φ (tot E φ h') w x v:=by
   intro xs;induction xs with
   |nil=>intro I _ h;simp only[XG,ak] at h;subst h;exact⟨rfl,λj x v J=>by simp at J⟩
   |cons x xs Z=>
    intro I hm h;simp only[XG] at h;split at h
    .rename_i y hy;split at h
     .rename_i ys' hys;simp only[ak] at h;subst h;obtain⟨h1,h2⟩:=Z ys' (λx J=>hm x (cI _ J)) hys;refine ⟨by simp[h1],λj z v U hv=>?_⟩;cases j with
      |zero=>simp at U hv;subst U;subst hv;exact hp x _ (hm x (dk ..)) hy
      |succ j=>exact h2 j z v (by simpa using U) (by simpa using hv)
     .cases h
    .cases h
  obtain⟨h1,h2⟩:=key caps.toList l (λx J=>by rw[Y];simpa[Op.operands] using J) hl;have h3:(caps.map a.eval)=(caps.toList.map a.eval).toArray:=by
   apply Lo;simp
  have h4:(#[]:Array Operand).map a.eval=#[]:=by simp
  rw[h4,h3];exact .clo (by simp[h1]) h2
 .cases M
end pure
end
end Go.Proofs.YthehadcddfilhaaGreatDoor.AI
