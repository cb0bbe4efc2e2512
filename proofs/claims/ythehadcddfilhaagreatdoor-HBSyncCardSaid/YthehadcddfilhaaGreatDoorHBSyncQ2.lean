/-
  Texts of the proof, part 3 of 5: what is used to prove the statement. No condition.
-/
import Derived.Test.YthehadcddfilhaaGreatDoorHBSyncQ1
import Derived.KernelRfl
import Derived.WalkSpells
import Derived.Laws.CopyRow
import Derived.Deep.AppendSrc
import Derived.Laws.AppendOwn
namespace Go.Proofs.YthehadcddfilhaaGreatDoor.AI
open Go.RowKit
set_option maxRecDepth 100000
set_option maxHeartbeats 4000000
set_option linter.unusedVariables false
set_option linter.unusedSimpArgs false
open _root_.Bool renaming true→ai,false→aj
open Call renaming operands→eM
open _root_.Int renaming ofNat_eq_natCast→au,ofNat→aO,reduceEq→aT,toNat→aU,reduceNeg→bp,toNat_natCast→gB
open IntKind renaming wrap→oL
open _root_.List renaming length→al,replicate→aG,length_cons→bY,take→dM,length_singleton→eD,range→eS,cons_append→gi,length_nil→jS,nil_append→lM,foldl_cons→E0
open _root_.Nat renaming beq→aC,add_zero→c8
open Oper renaming wp→GW
open _root_.Option renaming some→af,none→ah,bind_some→aH,map_some→ca,getD_some→uE
open _root_.Prod renaming p2→aX,p3→bl,p4→bw,q3→bL,p5→cz,q5→cS,q4→dw,p6→ef,q6→fc,q7→ky,p7→kz,q8→pN,p8→zD
open Result renaming andThen_ok→cI
open Sem renaming run_bind→eB,run→nj,run_pure→oI
open _root_.Sum renaming inr→bW,inl→nh
open World renaming shape?→rF,cell?→MT
noncomputable section
def NE (op:Int):Prop:=op=1\/op=2\/op=3\/op=14
def ZE (e:Xp):Prop:=GE 4 e\/e= .mk 0 0 [] []
structure NO (nT:Nat) (s:Sx):Prop where
 o0:1<=s.op
 o1:s.op<=15
 vr:s.op=1->s.index=[]->s.name∈NV
 lk:s.op=4->s.name=[109]\/s.name=[110]
 rw:s.op=5\/s.op=6->s.name=[114]
 cn:s.op=9\/s.op=10\/s.op=11->s.name=[99]
 sp:s.op=12\/s.op=13->s.name∈vE.take nT
 se:s.op=14->s.name=[102]
 ge:s.op=15->s.name=[97]/\s.arg=[102]
 el:¬s.op=2->s.els=[]
 bo:s.op=1\/9<=s.op->s.body=[]
variable {nT:Nat}
def GS (nT:Nat):Nat->Sx->Prop
 |0,_=>False
 |d+1,s=>(s.index≠[]->s.name=[113])/\s.index.length<=1/\(∀ e∈s.index,GE 4 e)/\(NE s.op->GE 4 s.expr)/\ZE s.expr/\s.body.length<=8/\s.els.length<=8/\(∀ x∈s.body,GS nT d x)/\(∀ x∈s.els,GS nT d x)/\NO nT s
theorem GS.mono:∀ {d:Nat} {s:Sx},GS nT d s->GS nT (d+1) s
 |0,_,h=>h.elim
 |_+1,_,⟨a,b,c,e,f,g,i,j,k,l⟩=>⟨a,b,c,e,f,g,i,λx I=>(j x I).mono,λx I=>(k x I).mono,l⟩
theorem GS.le {d k:Nat} {s:Sx} (h:GS nT d s) (hk:d<=k):GS nT k s:=by
 induction hk with
 |refl=>exact h
 |step _ I=>exact I.mono
theorem NO.asg {s a:List UInt8} {e:Xp} {i:List Xp} (hs:i=[]->s∈NV):NO nT (.mk 1 0 s a i e [] []):=by
 constructor<;>simp[Sx.op,Sx.name,Sx.index,Sx.els,Sx.body];exact λh=>by simpa using hs h
theorem GS.asg {d:Nat} {s:List UInt8} (hs:s∈NV) {e:Xp} (h:GE 4 e):GS nT (d+1) (.mk 1 0 s [] [] e [] []):=
 ⟨λh=>(h rfl).elim,by simp[Sx.index],λe he=>(by cases he),λ_=>h,.inl h,by simp[Sx.body],by simp[Sx.els],λx I=>(by cases I),λx I=>(by cases I),NO.asg λ_=>hs⟩
theorem GS.aix {d:Nat} {i e:Xp} (hi:GE 4 i) (h:GE 4 e):GS nT (d+1) (.mk 1 0 [113] [] [i] e [] []):=
 ⟨λ_=>rfl,by simp[Sx.index],λe he=>(by simp only[Sx.index,aL] at he;rw[he];exact hi),λ_=>h,.inl h,by simp[Sx.body],by simp[Sx.els],λx I=>(by cases I),λx I=>(by cases I),NO.asg λh=>(by cases h)⟩
theorem GS.we {d:Nat} {op:Int} {s a:List UInt8} {e:Xp} {b l:List Sx} (h:GE 4 e) (hb:b.length<=8) (hl:l.length<=8) (I:∀ x∈b,GS nT d x) (gl:∀ x∈l,GS nT d x) (hn:NO nT (.mk op 0 s a [] e b l)):GS nT (d+1) (.mk op 0 s a [] e b l):=
 ⟨λh=>(h rfl).elim,by simp[Sx.index],λe he=>(by cases he),λ_=>h,.inl h,hb,hl,I,gl,hn⟩
theorem GS.wo {d:Nat} {op ln:Int} {s a:List UInt8} {b:List Sx} (M:4<=op/\op≠14) (hb:b.length<=8) (J:∀ x∈b,GS nT d x) (hn:NO nT (.mk op ln s a [] (.mk 0 0 [] []) b [])):GS nT (d+1) (.mk op ln s a [] (.mk 0 0 [] []) b []):=
 ⟨λh=>(h rfl).elim,by simp[Sx.index],λe he=>(by cases he),λh=>(by have h:op=1\/op=2\/op=3\/op=14:=h;omega),.inr rfl,hb,by simp[Sx.els],J,λx I=>(by cases I),hn⟩
def QS (nT:Nat) (d:Nat) (n:Int) (t:OE) (h:HD) (y:MK×OE×HD×List Sx):Prop:=(y.2.2.2.length:Int)<=max 0 n/\(∀ s∈y.2.2.2,GS nT (d+1) s)/\uA t y.2.1/\y.2.2.1.2=h.2
def QT (nT:Nat) (d:Nat) (t:OE) (h:HD) (y:Sx×MK×OE×HD):Prop:=GS nT (d+1) y.1/\uA t y.2.2.1/\y.2.2.2.2=h.2
def QB (nT:Nat) (d:Nat) (t:OE) (h:HD) (y:List Sx×MK×OE×HD):Prop:=y.1.length<=2/\(∀ s∈y.1,GS nT (d+1) s)/\uA t y.2.2.1/\y.2.2.2.2=h.2
abbrev RS:Type:=((Int×Int)×MK×OE×HD)->Option (MK×OE×HD×List Sx)
abbrev RT:Type:=(Int×MK×OE×HD)->Option (Sx×MK×OE×HD)
abbrev RBk:Type:=((List UInt8×Int)×MK×OE×HD)->Option (List Sx×MK×OE×HD)
def SpS (nT:Nat) (rs:RS) (d:Nat):Prop:=∀ (n:Int) (m:MK) (t:OE) (h:HD),n<=3->TP t->h.2.length+d<=100->Ok (rs (((d:Int),n),m,t,h)) (QS nT d n t h)
def SpT (nT:Nat) (I:RT) (d:Nat):Prop:=∀ (m:MK) (t:OE) (h:HD),TP t->h.2.length+d<=100->Ok (I ((d:Int),m,t,h)) (QT nT d t h)
def SpB (nT:Nat) (I:RBk) (d:Nat):Prop:=∀ (s:List UInt8) (m:MK) (t:OE) (h:HD),TP t->h.2.length+1+d<=100->Ok (I ((s,(d:Int)),m,t,h)) (QB nT d t h)
theorem Xh (rs:RS) (M:RT) (rb:RBk) (d:Nat) (ht:SpT nT M d):SpS nT (mn rs M rb) d:=by
 intro n m t h hn hp hh;unfold mn aX bl bw bL dw cS bf bz bF cP aF cF dZ;refine pR (λx=>(n-x.1).toNat) (λx=>0<=x.1/\(x.1<=n\/x.1=0)/\uA t x.2.2.1/\(x.2.2.2.1.length:Int)<=x.1/\(∀ s∈x.2.2.2.1,GS nT (d+1) s)/\x.2.2.2.2.2=h.2) ?_ ⟨eX _,.inr rfl,uA.refl hp,by simp,λs hs=>(by cases hs),rfl⟩;rintro⟨(i:Int),m',t',l,h'⟩ ⟨i0,i1,e1,e2,e3,J⟩;dsimp only at i0 i1 e1 e2 e3 J;refine aY (λx=>x.2=(m',t',l,h')/\(x.1=ai->i<n)) ?_ ?_
 .refine bI (λg=>aK (λ_=>ar ⟨rfl,λ_=>g⟩) λ_=>ar ⟨rfl,λ_=>g⟩) λ_=>ar ⟨rfl,λh=>(by cases h)⟩
 rintro⟨b,x⟩ ⟨Z,Y⟩;dsimp only at Z Y;subst Z;refine aP (λhb=>?_) λ_=>ar ⟨by dsimp only;omega,e3,e1,J⟩
 have g:=Y hb;refine ax (ht m' t' h' e1.p (by rw[J];exact hh)) λy hy=>?_
 obtain⟨s,m2,t2,h2⟩:=y;obtain⟨k1,k2,U⟩:=hy;dsimp only at k1 k2 U;refine be (by simp) (bn (by simp;omega) (by omega) (ar ?_));dsimp only;rw[e_,yn,ib (n:=i+1) (by omega) (by omega)];refine ⟨⟨by omega,by omega,e1.trans k2,by simp;omega,λx I=>?_,U.trans J⟩,by omega⟩;rcases bP.1 I with I|I
 .exact e3 x I
 .rw[aL] at I;subst I;exact k1
theorem Xk (rs:RS) (rt:RT) (rb:RBk) (d:Nat) (hs:SpS nT rs d):SpB nT (mo rs rt rb) d:=by
 intro s m t h hp hh;unfold mo aX bl bL dw bF aZ;refine bn (by simp;omega) (by omega) ?_;refine ax (gg 2 t hp) λy M=>?_
 obtain⟨k,t1⟩:=y;obtain⟨J,Z,I,_⟩:=M;have I:=I (by decide);dsimp only at J Z I;have ew:bm .i64 (1+k)=1+k:=ib (by omega) (by omega);dsimp only;rw[ew];refine ax (hs (1+k) m t1 (h.1,h.2++[s]) (by omega) J.p (by simp;omega)) λy M=>?_
 obtain⟨m2,t2,h2,l⟩:=y;obtain⟨k1,k2,Y,U⟩:=M;dsimp only at k1 k2 Y U;refine be (by simp) ?_;dsimp only;rw[U];have el:bm .i64 ((aO (h.2++[s]).length)-1)=(h.2.length:Int):=by
  rw[bt,eD,ib (by simp<;>omega) (by simp<;>omega)];simp<;>omega
 rw[el];refine dt (eH (by omega) (zL (by simp;omega) (ar ?_)));refine ⟨by dsimp only;omega,k2,J.trans Y,?_⟩;show dM (aU (h.2.length:Int)) (h.2++[s])=h.2;simp
theorem CA (s:List UInt8) (m:MK) (t:OE) (h:HD) (hh:h.2.length<=100):Ok (eJ (s,m,t,h)) λy=>y.2=(m,t,h):=by
 unfold eJ dw;exact ax (xY h.2 s (by omega)) λy _=>ar rfl
theorem ZM (rs:RS) (rt:RT) (rb:RBk) (d:Nat) (hd:d<=5) (h0:1<=d->SpS nT rs 0) (hS:1<=d->SpS nT rs (d-1)) (hB:1<=d->SpB nT rb (d-1)):SpT nT (nJ rs rt rb) d:=by
 intro m t h hp hh;unfold nJ aX bl bw bL dw cS bf bz bF kZ aF dZ;refine ax (gg 18 t hp) λy J=>?_
 obtain⟨k,t1⟩:=y;obtain⟨s1,k0,k1,_⟩:=J;have k1:=k1 (by decide);dsimp only at s1 k0 k1;have hE:∀ (j:Nat) (m':MK) (t':OE) (h':HD),j<=1->TP t'->Ok (eY ((j:Int),m',t',h')) λy=>GE 4 y.1/\y.2.1=m'/\uA t' y.2.2.1/\y.2.2.2=h':=λj m' t' h' hj ht'=>(Zi j (by omega) m' t' h' ht').mono λy J=>⟨J.1.le (by omega),J.2⟩
 have ed:bm .i64 ((d:Int)-1)=(d:Int)-1:=ib (by omega) (by omega);have ed1:1<=d->(d:Int)-1=((d-1:Nat):Int):=λ_=>by omega
 refine aY (λx=>x.2=((m.1,bm .i64 (m.2.1-1),m.2.2),t1,(0,0,[],[],0,0,[]),h)/\(x.1=ai->1<=d)) ?_ ?_
 .refine bI (λg=>aS (bI (λ_=>ar ⟨rfl,λ_=>?_⟩) λ_=>ar ⟨rfl,λh=>(by cases h)⟩)) λ_=>ar ⟨rfl,λh=>(by cases h)⟩
  dsimp only at g;omega
 generalize ((m.1,bm .i64 (m.2.1-1),m.2.2):MK)=m0;rintro⟨nest,x⟩ ⟨e,hn⟩;dsimp only at e hn;subst e;refine bI (λ_=>?_) λg4=>?_
 .refine aR k0 (by dsimp only[al];omega) (aR k0 (by dsimp only[al];omega) (aS ?_));refine ax (hE 1 m0 t1 h (by omega) s1.p) λy J=>?_
  obtain⟨e,m2,t2,h2⟩:=y;obtain⟨v1,v2,v3,v4⟩:=J;dsimp only at v1 v2 v3 v4;subst v2;subst v4;refine be (by simp) (aV (tH _ _) (ar ?_));dsimp only;rw[e_,yn];have hnv:∀ z∈([[120],[121],[120],[118]]:List (List UInt8)),z∈NV:=by decide
  exact⟨GS.asg (hnv _ (bG (T:=.str) k0 (by dsimp only[al];omega))) v1,s1.trans v3,rfl⟩
 dsimp only at g4;refine aK (λ_=>?_) λg5=>?_
 .refine ax (gg 2 t1 s1.p) λy J=>?_
  obtain⟨u1,u2,u3,_⟩:=J;have u3:=u3 (by decide);refine aR u2 u3 (aR u2 u3 (aS ?_));refine ax (hE 1 m0 y.2 h (by omega) u1.p) λz U=>?_
  obtain⟨e,m2,t2,h2⟩:=z;obtain⟨v1,v2,v3,v4⟩:=U;dsimp only at v1 v2 v3 v4;subst v2;subst v4;refine be (by simp) (aV (tH _ _) (ar ?_));dsimp only;rw[e_,yn];have hnv:∀ z∈([[97],[98]]:List (List UInt8)),z∈NV:=by decide
  exact⟨GS.asg (hnv _ (bG (T:=.str) u2 u3)) v1,s1.trans (u1.trans v3),rfl⟩
 dsimp only at g5;refine aK (λ_=>?_) λg6=>?_
 .refine ax (hE 0 m0 t1 h (by omega) s1.p) λz U=>?_
  obtain⟨e,m2,t2,h2⟩:=z;obtain⟨v1,v2,v3,v4⟩:=U;dsimp only at v1 v2 v3 v4;subst v2;subst v4;refine be (by simp) ?_;refine ax (hE 1 m2 t2 h2 (by omega) v3.p) λz U=>?_
  obtain⟨e',m3,t3,h3⟩:=z;obtain⟨w1,Z,w3,w4⟩:=U;dsimp only at w1 Z w3 w4;subst Z;subst w4;refine be (by simp) (ar ?_);dsimp only;rw[e_,e_];exact⟨GS.aix v1 w1,s1.trans (v3.trans w3),rfl⟩
 dsimp only at g6;have U:∀ (c:Prop),c->c:=λ_ h=>h
 have dd:1<=d->d-1+1=d:=λ_=>by omega
 have w8:8<=k->bm .i64 (k-8)=k-8:=λ_=>ib (by omega) (by omega)
 refine aY (λx=>x.2=(m0,t1,(0,0,[],[],0,0,[]),h)/\(x.1=ai->1<=d)) ?_ ?_
 .refine aK (λ_=>ar ⟨rfl,λg=>?_⟩) λ_=>ar ⟨rfl,λh=>(by cases h)⟩
  dsimp only at g;rw[s8] at g;omega
 rintro⟨b,x⟩ ⟨e,hb⟩;dsimp only at e hb;subst e;refine aP (λI=>?_) λ_=>?_
 .have M:=hb I;refine ax (hE 1 m0 t1 h (by omega) s1.p) λz U=>?_
  obtain⟨e,m2,t2,h2⟩:=z;obtain⟨v1,v2,v3,v4⟩:=U;dsimp only at v1 v2 v3 v4;subst v2;subst v4;refine be (by simp) ?_;dsimp only;rw[ed,ed1 M];refine ax (hS M 1 m2 t2 h2 (by omega) v3.p (by omega)) λz U=>?_
  obtain⟨m3,t3,h3,l⟩:=z;obtain⟨w1,Z,w3,w4⟩:=U;dsimp only at w1 Z w3 w4;rw[dd M] at Z;refine be (by simp) ?_;refine aY (λx=>x.2.2.2.1=(2,0,[],[],e.op,e.n,e.name,e.l)/\uA t1 x.2.1/\x.2.2.2.2.1.2=h2.2/\x.2.2.2.2.2.1=l/\x.2.2.2.2.2.2.length<=8/\∀ s∈x.2.2.2.2.2.2,GS nT d s) ?_ ?_
  .refine ax (gg 2 t3 w3.p) λy J=>?_
   refine aK (λ_=>?_) λ_=>ar ⟨rfl,v3.trans (w3.trans J.1),w4,rfl,by simp,λs hs=>(by cases hs)⟩
   dsimp only;refine ax (hS M 1 m3 y.2 h3 (by omega) J.1.p (by rw[w4];omega)) λz U=>?_
   obtain⟨m4,t4,h4,l2⟩:=z;obtain⟨x1,x2,x3,x4⟩:=U;dsimp only at x1 x2 x3 x4;rw[dd M] at x2;exact be (by simp) (ar ⟨rfl,v3.trans (w3.trans (J.1.trans x3)),x4.trans w4,rfl,by dsimp only;omega,x2⟩)
  rintro⟨m5,t5,z5,e5,h5,l5,l6⟩ ⟨x1,x2,x3,x4,x5,x6⟩;dsimp only at x1 x2 x3 x4 x5 x6;subst x1;subst x4;refine ar ?_;dsimp only;rw[e_];exact⟨GS.we v1 (by first|omega|(dsimp only;omega)) x5 Z x6 (by constructor<;>simp[Sx.op,Sx.name,Sx.index,Sx.arg,Sx.els,Sx.body]),s1.trans x2,x3⟩
 refine aY (λx=>x.2=(m0,t1,(0,0,[],[],0,0,[]),h)/\(x.1=ai->1<=d)) ?_ ?_
 .refine aK (λ_=>ar ⟨rfl,λg=>?_⟩) λ_=>ar ⟨rfl,λh=>(by cases h)⟩
  dsimp only at g;rw[s8] at g;omega
 rintro⟨b,x⟩ ⟨e,hb⟩;dsimp only at e hb;subst e;refine aP (λI=>?_) λ_=>?_
 .have M:=hb I;refine aV (G7 _) (aV (Ng _) (aV (EK _ _ _) ?_));dsimp only;rw[ed,ed1 M];refine ax (hS M 1 _ t1 h (by omega) s1.p (by omega)) λz U=>?_
  obtain⟨m3,t3,h3,l⟩:=z;obtain⟨w1,Z,w3,w4⟩:=U;dsimp only at w1 Z w3 w4;rw[dd M] at Z;refine be (by simp) ?_;refine aV (G7 _) (aV (Ng _) (aV (EK _ _ _) (aV (tH _ _) ?_)));refine bn (by simp;omega) (by omega) (ar ?_);dsimp only;rw[e_,e_,yn];refine ⟨GS.we (GE.bin (by omega) (GE.nm (by decide) 2) (GE.num _ 2)) (by simp;omega) (by simp) (λx Y=>?_) (λx Y=>(by cases Y)) (by constructor<;>simp[Sx.op,Sx.name,Sx.index,Sx.arg,Sx.els,Sx.body]),s1.trans w3,w4⟩;rcases bP.1 Y with Y|Y
  .exact Z x Y
  .rw[aL] at Y;subst Y;rw[<- dd M];exact GS.asg (by decide) (GE.bin (by omega) (GE.nm (by decide) 2) (GE.num _ 2))
 refine aY (λx=>x.2=(m0,t1,(0,0,[],[],0,0,[]),h)/\(x.1=ai->nest=ai/\(k=8\/k=9))) ?_ ?_
 .refine aK (λg=>aP (λgn=>?_) λ_=>ar ⟨rfl,λh=>(by cases h)⟩) λ_=>aK (λg=>aP (λgn=>?_) λ_=>ar ⟨rfl,λh=>(by cases h)⟩) λ_=>ar ⟨rfl,λh=>(by cases h)⟩
  all_goals
   dsimp only at g ⊢;rw[w8 (by omega)];refine aR (by omega) (by simp;omega) (aR (by omega) (by simp;omega) (aS ?_));refine ax (CA _ m0 t1 h (by omega)) λy J=>?_
   obtain⟨yb,y2⟩:=y;dsimp only at J;subst J;exact be (by simp) (ar ⟨rfl,λ_=>⟨gn,by omega⟩⟩)
 rintro⟨b,x⟩ ⟨e,hb⟩;dsimp only at e hb;subst e;refine aP (λI=>?_) λ_=>?_
 .obtain⟨q1,q2⟩:=hb I;have M:=hn q1;have hnm:aJ (T:=.str) [[109],[110]] (k-8)=[109]\/aJ (T:=.str) [[109],[110]] (k-8)=[110]:=by rcases q2 with rfl|rfl<;>simp[aJ]
  dsimp only;rw[w8 (by omega),ed,ed1 M];refine aR (by omega) (by simp;omega) (aR (by omega) (by simp;omega) (aS ?_));refine ax (hB M _ m0 t1 h s1.p (by omega)) λz U=>?_
  obtain⟨l,m3,t3,h3⟩:=z;obtain⟨w1,Z,w3,w4⟩:=U;dsimp only at w1 Z w3 w4;rw[dd M] at Z;exact be (by simp) (ar ⟨GS.wo (by omega) (by first|omega|(dsimp only;omega)) Z (by constructor<;>simp[Sx.op,Sx.name,Sx.index,Sx.arg,Sx.els,Sx.body];exact hnm),s1.trans w3,w4⟩)
 refine aY (λx=>x.2=(m0,t1,(0,0,[],[],0,0,[]),h)/\(x.1=ai->nest=ai/\(k=10\/k=11))) ?_ ?_
 .refine aK (λg=>aP (λgn=>?_) λ_=>ar ⟨rfl,λh=>(by cases h)⟩) λ_=>aK (λg=>aP (λgn=>?_) λ_=>ar ⟨rfl,λh=>(by cases h)⟩) λ_=>ar ⟨rfl,λh=>(by cases h)⟩
  all_goals
   dsimp only at g ⊢;refine ax (CA _ m0 t1 h (by omega)) λy J=>?_
   obtain⟨yb,y2⟩:=y;dsimp only at J;subst J;exact be (by simp) (ar ⟨rfl,λ_=>⟨gn,by omega⟩⟩)
 rintro⟨b,x⟩ ⟨e,hb⟩;dsimp only at e hb;subst e;refine aP (λI=>?_) λ_=>?_
 .obtain⟨q1,q2⟩:=hb I;have M:=hn q1;dsimp only;rw[ed,ed1 M,ib (n:=k-10) (by omega) (by omega),ib (n:=k-10+5) (by omega) (by omega)];refine ax (hB M _ m0 t1 h s1.p (by omega)) λz U=>?_
  obtain⟨l,m3,t3,h3⟩:=z;obtain⟨w1,Z,w3,w4⟩:=U;dsimp only at w1 Z w3 w4;rw[dd M] at Z;exact be (by simp) (ar ⟨GS.wo (by omega) (by first|omega|(dsimp only;omega)) Z (by constructor<;>simp[Sx.op,Sx.name,Sx.index,Sx.arg,Sx.els,Sx.body]<;>omega),s1.trans w3,w4⟩)
 refine aY (λx=>x.2=(m0,t1,(0,0,[],[],0,0,[]),h)/\(x.1=ai->nest=ai)) ?_ ?_
 .exact aK (λ_=>ar ⟨rfl,λg=>g⟩) λ_=>ar ⟨rfl,λh=>(by cases h)⟩
 rintro⟨b,x⟩ ⟨e,hb⟩;dsimp only at e hb;subst e;refine aP (λI=>?_) λ_=>?_
 .have M:=hn (hb I);refine ax (gg 2 t1 s1.p) λy J=>?_
  obtain⟨u1,u2,u3,_⟩:=J;have u3:=u3 (by decide);dsimp only;rw[ib (n:=1+y.1) (by omega) (by omega)];refine ax (h0 M (1+y.1) _ y.2 h (by omega) u1.p (by omega)) λz U=>?_
  obtain⟨m3,t3,h3,l⟩:=z;obtain⟨w1,Z,w3,w4⟩:=U;dsimp only at w1 Z w3 w4;exact be (by simp) (ar ⟨GS.wo (by omega) (by first|omega|(dsimp only;omega)) (λx Y=>(Z x Y).le (by omega)) (by constructor<;>simp[Sx.op,Sx.name,Sx.index,Sx.arg,Sx.els,Sx.body]),s1.trans (u1.trans w3),w4⟩)
 refine aY (λx=>x.2=(m0,t1,(0,0,[],[],0,0,[]),h)/\(x.1=ai->nest=ai)) ?_ ?_
 .exact aK (λ_=>aP (λgn=>ar ⟨rfl,λ_=>gn⟩) λ_=>ar ⟨rfl,λh=>(by cases h)⟩) λ_=>ar ⟨rfl,λh=>(by cases h)⟩
 rintro⟨b,x⟩ ⟨e,hb⟩;dsimp only at e hb;subst e;refine aP (λI=>?_) λ_=>?_
 .have M:=hn (hb I);dsimp only;rw[ed,ed1 M];refine ax (hS M 2 _ t1 h (by omega) s1.p (by omega)) λz U=>?_
  obtain⟨m3,t3,h3,l⟩:=z;obtain⟨w1,Z,w3,w4⟩:=U;dsimp only at w1 Z w3 w4;rw[dd M] at Z;exact be (by simp) (ar ⟨GS.wo (by omega) (by first|omega|(dsimp only;omega)) Z (by constructor<;>simp[Sx.op,Sx.name,Sx.index,Sx.arg,Sx.els,Sx.body]),s1.trans w3,w4⟩)
 refine aY (λx=>x.2=(m0,t1,(0,0,[],[],0,0,[]),h)/\(x.1=ai->nest=ai)) ?_ ?_
 .refine aK (λ_=>aP (λgn=>aP (λ_=>?_) λ_=>ar ⟨rfl,λh=>(by cases h)⟩) λ_=>ar ⟨rfl,λh=>(by cases h)⟩) λ_=>ar ⟨rfl,λh=>(by cases h)⟩
  refine ax (CA _ m0 t1 h (by omega)) λy J=>?_
  obtain⟨yb,y2⟩:=y;dsimp only at J;subst J;exact be (by simp) (ar ⟨rfl,λ_=>gn⟩)
 rintro⟨b,x⟩ ⟨e,hb⟩;dsimp only at e hb;subst e;refine aP (λI=>?_) λ_=>?_
 .have M:=hn (hb I);refine aV (G7 _) (aV (tH _ _) (ar ?_));dsimp only;rw[e_,yn];refine ⟨GS.wo (by omega) (by simp) (λx Y=>?_) (by constructor<;>simp[Sx.op,Sx.name,Sx.index,Sx.arg,Sx.els,Sx.body]),s1,rfl⟩;simp only[bi,cu,fY] at Y;rw[<- dd M];rcases Y with rfl|rfl
  .exact GS.wo (by omega) (by simp) (λx Y=>(by cases Y)) (by constructor<;>simp[Sx.op,Sx.name,Sx.index,Sx.arg,Sx.els,Sx.body])
  .exact GS.asg (by decide) (GE.nm (by decide) 3)
 refine aY (λx=>x.2=(m0,t1,(0,0,[],[],0,0,[]),h)/\(x.1=ai->nest=ai)) ?_ ?_
 .refine aK (λ_=>aP (λgn=>?_) λ_=>ar ⟨rfl,λh=>(by cases h)⟩) λ_=>ar ⟨rfl,λh=>(by cases h)⟩
  refine ax (CA _ m0 t1 h (by omega)) λy J=>?_
  obtain⟨yb,y2⟩:=y;dsimp only at J;subst J;exact be (by simp) (ar ⟨rfl,λ_=>gn⟩)
 rintro⟨b,x⟩ ⟨e,hb⟩;dsimp only at e hb;subst e;refine aP (λI=>?_) λ_=>?_
 .have M:=hn (hb I);refine ax (gg 2 t1 s1.p) λy J=>ar ?_
  obtain⟨u1,u2,u3,_⟩:=J;have u3:=u3 (by decide);dsimp only;rw[ib (n:=10+y.1) (by omega) (by omega)];refine ⟨GS.wo (by omega) (by simp) (λx Y=>?_) (by constructor<;>simp[Sx.op,Sx.name,Sx.index,Sx.arg,Sx.els,Sx.body]),s1.trans u1,rfl⟩;simp only[bi,cu,fY] at Y;rw[Y,<-dd M];exact GS.wo (by omega) (by simp) (λx Y=>(by cases Y)) (by constructor<;>simp[Sx.op,Sx.name,Sx.index,Sx.arg,Sx.els,Sx.body]<;>omega)
 refine aY (λx=>x.2=(m0,t1,(0,0,[],[],0,0,[]),h)) ?_ ?_
 .exact aK (λ_=>aP (λ_=>aP (λ_=>ar rfl) λ_=>ar rfl) λ_=>ar rfl) λ_=>ar rfl
 rintro⟨b,x⟩ e;dsimp only at e;subst e;refine aP (λI=>?_) λ_=>?_
 .refine ax (hE 1 _ t1 h (by omega) s1.p) λz U=>?_
  obtain⟨e,m2,t2,h2⟩:=z;obtain⟨v1,v2,v3,v4⟩:=U;dsimp only at v1 v2 v3 v4;subst v2;subst v4;refine be (by simp) (ar ?_);dsimp only;rw[e_];exact⟨GS.we v1 (by simp) (by simp) (λx Y=>(by cases Y)) (λx Y=>(by cases Y)) (by constructor<;>simp[Sx.op,Sx.name,Sx.index,Sx.arg,Sx.els,Sx.body]),s1.trans v3,rfl⟩
 refine aY (λx=>x.2.1=m0/\uA t1 x.2.2.1/\x.2.2.2.2=h) ?_ ?_
 .refine aK (λ_=>aP (λ_=>?_) λ_=>ar ⟨rfl,uA.refl s1.p,rfl⟩) λ_=>ar ⟨rfl,uA.refl s1.p,rfl⟩
  exact ax (gg 2 t1 s1.p) λy J=>ar ⟨rfl,J.1,rfl⟩
 rintro⟨b,m9,t9,z9,h9⟩ ⟨e1,e2,e3⟩;dsimp only at e1 e2 e3;subst e1;subst e3;refine aP (λI=>?_) λ_=>?_
 .exact ar ⟨GS.wo (by omega) (by simp) (λx Y=>(by cases Y)) (by constructor<;>simp[Sx.op,Sx.name,Sx.index,Sx.arg,Sx.els,Sx.body]),s1.trans e2,rfl⟩
 refine ax (hE 1 _ t9 h9 (by omega) e2.p) λz U=>?_
 obtain⟨e,m2,t2,h2⟩:=z;obtain⟨v1,v2,v3,v4⟩:=U;dsimp only at v1 v2 v3 v4;subst v2;subst v4;refine be (by simp) (aV (tH _ _) (ar ?_));dsimp only;rw[e_,yn];exact⟨GS.asg (by decide) v1,s1.trans (e2.trans v3),rfl⟩
theorem Mh:∀ (n:Nat),(∀ d:Nat,d<=5->3*d+1<=n->SpT nT (ep n) d)/\(∀ d:Nat,d<=5->3*d+2<=n->SpS nT (dF n) d)/\(∀ d:Nat,d<=5->3*d+3<=n->SpB nT (dT n) d)
 |0=>⟨λd _ h=>by omega,λd _ h=>by omega,λd _ h=>by omega⟩
 |n+1=>by
  obtain⟨J,I,M⟩:=Mh n;refine ⟨λd h1 h2=>?_,λd h1 h2=>?_,λd h1 h2=>?_⟩
  .exact ZM (dF n) (ep n) (dT n) d h1 (λh=>I 0 (by omega) (by omega)) (λh=>I (d-1) (by omega) (by omega)) (λh=>M (d-1) (by omega) (by omega))
  .exact Xh (dF n) (ep n) (dT n) d (J d h1 (by omega))
  .exact Xk (dF n) (ep n) (dT n) d (I d h1 (by omega))
theorem WR (d:Nat) (hd:d<=5):SpS nT qg d:=(Mh fuel).2.1 d hd (by rw[jO];omega)
def GX:Nat->Xp->Prop
 |0,_=>False
 |d+1,e=>e.l.length<=2/\∀ x∈e.l,GX d x
theorem GE.x:∀ {d:Nat} {e:Xp},GE d e->GX d e
 |0,_,h=>h.elim
 |_+1,_,h=>⟨h.2.2.1,λx I=>(h.2.2.2.1 x I).x⟩
theorem ZE.x {e:Xp} (h:ZE e):GX 4 e:=by
 rcases h with h|rfl
 .exact h.x
 .exact⟨by simp[Xp.l],λx I=>(by cases I)⟩
def GT:Nat->Sx->Prop
 |0,_=>False
 |d+1,s=>s.index.length<=1/\(∀ e∈s.index,GX 4 e)/\GX 4 s.expr/\s.body.length<=8/\s.els.length<=8/\(∀ x∈s.body,GT d x)/\(∀ x∈s.els,GT d x)
theorem GS.t {nT:Nat}:∀ {d:Nat} {s:Sx},GS nT d s->GT d s
 |0,_,h=>h.elim
 |_+1,_,⟨_,b,c,_,f,g,i,j,k,_⟩=>⟨b,λe he=>(c e he).x,f.x,g,i,λx I=>(j x I).t,λx I=>(k x I).t⟩
theorem xC (s:Sx):nD (Sx.op s,Sx.line s,Sx.name s,Sx.arg s,Sx.index s,dW (Xp.op (Sx.expr s),Xp.n (Sx.expr s),Xp.name (Sx.expr s),Xp.l (Sx.expr s)),Sx.body s,Sx.els s)=s:=by
 rw[e_,yn]
theorem RQ (k:Int):Ok (md k) λ_=>True:=by
 unfold md bf jz aF;with_reducible repeat' first|(refine OS.ok ?_;constructor)|refine IM.mk λ_=>?_
 all_goals trivial
theorem qC (e:Xp):Ok (pe e) λ_=>True:=by
 unfold pe bf aF;with_reducible repeat' first|(refine OS.ok ?_;constructor)|refine IM.mk λ_=>?_
 all_goals trivial
theorem yS:∀ (n d:Nat) (e:Xp),d<n->GX d e->Ok (hY n e) λ_=>True
 |0,_,_,h,_=>by omega
 |n+1,0,_,_,h=>h.elim
 |n+1,d+1,e,hn,h=>by
  obtain⟨h1,h2⟩:=h;rw[sg];unfold lX bf bz iT bK cP aF cF;refine aY (λx=>x.2=e) (aK (λ_=>ar (e_ e)) λ_=>ar (e_ e)) ?_;rintro⟨b,x⟩ J;dsimp only at J;subst J;refine aY (λy=>y.2=x) ?_ ?_
  .refine ax (RQ _) λ_ _=>?_
   with_reducible repeat' first|refine b8 (λ_=>?_) λ_=>?_|refine bI (λ_=>?_) λ_=>?_|refine dO (λ_=>?_) λ_=>?_|refine aP (λ_=>?_) λ_=>?_|exact ar (e_ x)|refine ax (ir _) λ_ _=>?_
  rintro⟨M,y⟩ I;dsimp only at I;subst I;refine aP (λ_=>ar trivial) λ_=>?_
  refine ci y.l.length (λi x=>x.1=(i:Int)/\x.2=y) ?_ ?_ ⟨rfl,e_ y⟩
  .rintro i ⟨a,z⟩ hi ⟨e1,e2⟩;dsimp only at e1 e2;subst e1;subst e2;refine dv ?_;refine cA (aS ?_);refine ax (yS n d _ (by omega) (h2 _ (bG (T:=.ex) (xs:=z.l) (j:=(i:Int)) (by omega) (by omega)))) λ_ _=>?_
   refine dO (λ_=>ar trivial) λ_=>ar ?_
   dsimp only;exact⟨gO (by omega),e_ z⟩
  .rintro⟨a,z⟩ ⟨e1,e2⟩;dsimp only at e1 e2;subst e1;subst e2;exact dc (ar trivial)
theorem gd (e:Xp) (h:GX 4 e):Ok (iZ e) λ_=>True:=yS fuel 4 e (by rw[jO];omega) h
theorem Kw (d:Int×Int×List UInt8×Int×Int×List UInt8):Ok (jY d) λ_=>True:=by
 unfold jY aX bl cz fc bf bz iT aF;refine aY (λ_=>True) ?_ λx _=>aP (λ_=>ar trivial) λ_=>?_
 .with_reducible repeat' first|refine b8 (λ_=>?_) λ_=>?_|refine bI (λ_=>?_) λ_=>?_|refine dO (λ_=>?_) λ_=>?_|exact ar trivial|refine ax (ir _) λ_ _=>?_
 refine aY (λ_=>True) ?_ λx _=>aP (λ_=>ar trivial) λ_=>?_
 .with_reducible repeat' first|refine b8 (λ_=>?_) λ_=>?_|refine aK (λ_=>?_) λ_=>?_|refine dO (λ_=>?_) λ_=>?_|exact ar trivial|refine ax (ir _) λ_ _=>?_
 with_reducible repeat' first|(refine OS.ok ?_;constructor)|refine IM.mk λ_=>?_
 all_goals trivial
theorem Gp (I:Sx->Option Bool) (rs:List Sx->Option Bool) (l:List Sx) (hl:l.length<=1000) (h:∀ s∈l,Ok (I s) λ_=>True):Ok (jv I rs l) λ_=>True:=by
 unfold jv bz vI aZ cP aF cF;refine ci l.length (λi x=>x=(i:Int)) ?_ ?_ rfl
 .rintro i x hi rfl;refine dv ?_;refine cA ?_;refine ax (h _ (bG (T:=.sm) (xs:=l) (j:=(i:Int)) (by omega) (by omega))) λ_ _=>?_
  exact dO (λ_=>ar trivial) λ_=>ar (gO (by omega))
 .rintro x rfl;exact dc (ar trivial)
theorem IG (J:Sx->Option Bool) (rs:List Sx->Option Bool) (s:Sx) (h1:∀ e∈s.index,GX 4 e) (h2:GX 4 s.expr) (hb:Ok (rs s.body) λ_=>True) (he:Ok (rs s.els) λ_=>True):Ok (j6 J rs s) λ_=>True:=by
 unfold j6 bf bz jz iT bK aF dZ;refine aY (λx=>x.2=s) ?_ ?_
 .with_reducible repeat' first|refine b8 (λ_=>?_) λ_=>?_|refine aK (λ_=>?_) λ_=>?_|refine bI (λ_=>?_) λ_=>?_|refine fo (λ_=>?_) λ_=>?_|refine dO (λ_=>?_) λ_=>?_|refine aP (λ_=>?_) λ_=>?_|exact ar (xC _)|refine ax (ir _) λ_ _=>?_|refine ax (qC _) λ_ _=>?_|refine ax (gd _ h2x) λ_ _=>?_
 rintro⟨b,x⟩ I;dsimp only at I;have I:=I.symm;subst I;refine aP (λ_=>ar trivial) λ_=>?_
 refine aY (λx=>x.2=s) ?_ ?_
 .with_reducible repeat' first|refine b8 (λ_=>?_) λ_=>?_|refine aK (λ_=>?_) λ_=>?_|refine bI (λ_=>?_) λ_=>?_|refine fo (λ_=>?_) λ_=>?_|refine dO (λ_=>?_) λ_=>?_|refine aP (λ_=>?_) λ_=>?_|exact ar (xC _)|refine ax (ir _) λ_ _=>?_|refine ax (qC _) λ_ _=>?_|refine ax (gd _ h2x) λ_ _=>?_
 rintro⟨b,x⟩ I;dsimp only at I;have I:=I.symm;subst I;refine aY (λx=>x.2=s) ?_ ?_
 .with_reducible repeat' first|refine b8 (λ_=>?_) λ_=>?_|refine aK (λ_=>?_) λ_=>?_|refine bI (λ_=>?_) λ_=>?_|refine fo (λ_=>?_) λ_=>?_|refine dO (λ_=>?_) λ_=>?_|refine aP (λ_=>?_) λ_=>?_|exact ar (xC _)|refine ax (ir _) λ_ _=>?_|refine ax (qC _) λ_ _=>?_|refine ax (gd _ h2x) λ_ _=>?_
 rintro⟨b,x⟩ I;dsimp only at I;have I:=I.symm;subst I;refine aP (λ_=>ar trivial) λ_=>?_
 refine aY (λx=>x.2=s) ?_ ?_
 .with_reducible repeat' first|refine b8 (λ_=>?_) λ_=>?_|refine aK (λ_=>?_) λ_=>?_|refine bI (λ_=>?_) λ_=>?_|refine fo (λ_=>?_) λ_=>?_|refine dO (λ_=>?_) λ_=>?_|refine aP (λ_=>?_) λ_=>?_|exact ar (xC _)|refine ax (ir _) λ_ _=>?_|refine ax (qC _) λ_ _=>?_|refine ax (gd _ h2x) λ_ _=>?_
 rintro⟨b,x⟩ I;dsimp only at I;have I:=I.symm;subst I;refine aP (λ_=>ar trivial) λ_=>?_
 refine aY (λx=>x.2=s) ?_ ?_
 .with_reducible repeat' first|refine b8 (λ_=>?_) λ_=>?_|refine aK (λ_=>?_) λ_=>?_|refine bI (λ_=>?_) λ_=>?_|refine fo (λ_=>?_) λ_=>?_|refine dO (λ_=>?_) λ_=>?_|refine aP (λ_=>?_) λ_=>?_|exact ar (xC _)|refine ax (ir _) λ_ _=>?_|refine ax (qC _) λ_ _=>?_|refine ax (gd _ h2x) λ_ _=>?_
  all_goals
   rename_i g;dsimp only[au] at g;refine cA (aS ?_);refine ax (gd _ (h1 _ (bG (T:=.ex) (xs:=Sx.index _) (j:=0) (by omega) (by omega)))) λ_ _=>ar (xC _)
 rintro⟨b,x⟩ I;dsimp only at I;have I:=I.symm;subst I;refine aP (λ_=>ar trivial) λ_=>?_
 refine aY (λx=>x.2=s) ?_ ?_
 .with_reducible repeat' first|refine b8 (λ_=>?_) λ_=>?_|refine aK (λ_=>?_) λ_=>?_|refine bI (λ_=>?_) λ_=>?_|refine fo (λ_=>?_) λ_=>?_|refine dO (λ_=>?_) λ_=>?_|refine aP (λ_=>?_) λ_=>?_|exact ar (xC _)|refine ax (ir _) λ_ _=>?_|refine ax (qC _) λ_ _=>?_|refine ax (gd _ h2x) λ_ _=>?_
 rintro⟨b,x⟩ I;dsimp only at I;have I:=I.symm;subst I;refine aY (λx=>x.2=s) ?_ ?_
 .have h2x:GX 4 (dW (Xp.op (Sx.expr s),Xp.n (Sx.expr s),Xp.name (Sx.expr s),Xp.l (Sx.expr s))):=by rw[e_];exact h2
  with_reducible repeat' first|refine b8 (λ_=>?_) λ_=>?_|refine aK (λ_=>?_) λ_=>?_|refine bI (λ_=>?_) λ_=>?_|refine fo (λ_=>?_) λ_=>?_|refine dO (λ_=>?_) λ_=>?_|refine aP (λ_=>?_) λ_=>?_|exact ar (xC _)|refine ax (ir _) λ_ _=>?_|refine ax (qC _) λ_ _=>?_|refine ax (gd _ h2x) λ_ _=>?_
 rintro⟨b,x⟩ I;dsimp only at I;have I:=I.symm;subst I;refine aP (λ_=>ar trivial) λ_=>?_
 refine aY (λx=>x.2=s) ?_ ?_
 .with_reducible repeat' first|refine b8 (λ_=>?_) λ_=>?_|refine aK (λ_=>?_) λ_=>?_|refine bI (λ_=>?_) λ_=>?_|refine fo (λ_=>?_) λ_=>?_|refine dO (λ_=>?_) λ_=>?_|refine aP (λ_=>?_) λ_=>?_|exact ar (xC _)|refine ax (ir _) λ_ _=>?_|refine ax (qC _) λ_ _=>?_|refine ax (gd _ h2x) λ_ _=>?_
 rintro⟨b,x⟩ I;dsimp only at I;have I:=I.symm;subst I;refine aY (λx=>x.2=s) ?_ ?_
 .with_reducible repeat' first|refine b8 (λ_=>?_) λ_=>?_|refine aK (λ_=>?_) λ_=>?_|refine bI (λ_=>?_) λ_=>?_|refine fo (λ_=>?_) λ_=>?_|refine dO (λ_=>?_) λ_=>?_|refine aP (λ_=>?_) λ_=>?_|exact ar (xC _)|refine ax (ir _) λ_ _=>?_|refine ax (qC _) λ_ _=>?_|refine ax (gd _ h2x) λ_ _=>?_
 rintro⟨b,x⟩ I;dsimp only at I;have I:=I.symm;subst I;refine aP (λ_=>ar trivial) λ_=>?_
 refine aY (λ_=>True) ?_ λ_ _=>ar trivial
 refine ax hb λ_ _=>aP (λ_=>ax he λ_ _=>ar trivial) λ_=>ar trivial
theorem IP:∀ (n:Nat),(∀ (d:Nat) (s:Sx),2*d<n->GT d s->Ok (eh n s) λ_=>True)/\(∀ (d:Nat) (l:List Sx),2*d+1<n->l.length<=1000->(∀ s∈l,GT d s)->Ok (dD n l) λ_=>True)
 |0=>⟨λd _ h=>by omega,λd _ h=>by omega⟩
 |n+1=>by
  obtain⟨J,I⟩:=IP n;refine ⟨λd s hd h=>?_,λd l hd hl h=>?_⟩
  .cases d with
   |zero=>exact h.elim
   |succ d=>
    obtain⟨_,Z,Y,g4,g5,U,M⟩:=h;exact IG (eh n) (dD n) s Z Y (I d _ (by omega) (by omega) U) (I d _ (by omega) (by omega) M)
  .exact Gp (eh n) (dD n) l hl λs hs=>J d s (by omega) (h s hs)
theorem Ka (d:Nat) (hd:d<=100) (l:List Sx) (hl:l.length<=1000) (h:∀ s∈l,GT d s):Ok (nB l) λ_=>True:=(IP fuel).2 d l (by rw[jO];omega) hl h
abbrev DT:Type:=Int×Int×List UInt8×Int×Int×List UInt8
abbrev HT:Type:=List UInt8×Int×List (List UInt8)×List Sx
abbrev PG:Type:=List DT×List HT
structure PX (p:PG):Prop where
 d:p.1.length<=100
 t:p.2.length<=8
 l:∀ t∈p.2,t.2.2.1.length<=100
 b:∀ t∈p.2,t.2.2.2.length<=100
 s:∀ t∈p.2,∀ s∈t.2.2.2,GT 5 s
theorem X7 (p:PG) (h:PX p):Ok (pA p) λ_=>True:=by
 obtain⟨hd,ht,hl,hb,hs⟩:=h;unfold pA aX bw cS bz bK aZ cP aF cF;refine ci p.1.length (λi x=>x.1=(i:Int)/\x.2=p) ?_ ?_ ⟨rfl,rfl⟩
 .rintro i ⟨a,x⟩ hi ⟨e1,e2⟩;dsimp only at e1 e2;subst e1;subst e2;refine dv ?_;refine cA (aS ?_);refine ax (Kw _) λ_ _=>?_
  exact dO (λ_=>ar trivial) λ_=>ar ⟨gO (by omega),rfl⟩
 rintro⟨a,x⟩ ⟨e1,e2⟩;dsimp only at e1 e2;subst e1;subst e2;refine dc ?_;refine ax (P:=λ_=>True) ?_ λ_ _=>ar trivial
 refine ci x.2.length (λi y=>y.1=(i:Int)/\y.2=x) ?_ ?_ ⟨rfl,rfl⟩
 .rintro i ⟨a,x⟩ hi ⟨e1,e2⟩;dsimp only at e1 e2;subst e1;have e2:=e2.symm;subst e2;refine dv ?_;refine cA (aS ?_);have hm:=bG (T:=yk) (xs:=x.2) (j:=(i:Int)) (by omega) (by omega);have h1:=hl _ hm;have h2:=hb _ hm;have M:=hs _ hm;revert h1 h2 M;generalize (aJ (T:=yk) x.2 (i:Int))=t;intro h1 h2 M;refine ci t.2.2.1.length (λk y=>y.1=(k:Int)/\y.2=(x,t)) ?_ ?_ ⟨rfl,rfl⟩
  .rintro k ⟨a,z⟩ hk ⟨J,I⟩;dsimp only at J I;subst J;subst I;refine dv ?_;refine cA (aS ?_);refine ax (ir _) λ_ _=>?_
   exact dO (λ_=>ar trivial) λ_=>ar ⟨gO (by omega),rfl⟩
  .rintro⟨a,z⟩ ⟨J,I⟩;dsimp only at J I;subst J;subst I;refine dc ?_;refine ax (P:=λr=>match r with|.inl y=>y.1=((i+1:Nat):Int)/\y.2=x|.inr _=>True) ?_ ?_
   .refine aY (λy=>y.2=x) ?_ ?_
    .refine ax (ir _) λ_ _=>dO (λ_=>ar rfl) λ_=>?_
     exact ax (Ka 5 (by omega) _ (by dsimp only;omega) M) λ_ _=>ar rfl
    rintro⟨b,y⟩ e;dsimp only at e;subst e;exact aP (λ_=>ar trivial) λ_=>ar ⟨gO (by omega),rfl⟩
   .rintro (y|y) U
    .exact ar U
    .exact ar trivial
 .rintro⟨a,y⟩ ⟨e1,e2⟩;dsimp only at e1 e2;subst e1;subst e2;exact dc (ar trivial)
theorem wJ (l:List DT) (s:List UInt8) (hl:l.length<=1000):Ok (hX (l,s)) λr=> -1<=r/\r<(l.length:Int):=by
 unfold hX bz bK aZ cP aF cF;refine ci l.length (λi x=>x=(i:Int)) ?_ ?_ rfl
 .rintro i x hi rfl;refine dv ?_;refine cA (aS ?_);exact aK (λ_=>ar ⟨by omega,by omega⟩) λ_=>ar (gO (by omega))
 .rintro x rfl;exact dc (ar ⟨by omega,by omega⟩)
theorem sr (l:List HT) (s:List UInt8) (hl:l.length<=1000):Ok (gM (l,s)) λr=> -1<=r/\r<(l.length:Int):=by
 unfold gM bz bK aZ cP aF cF;refine ci l.length (λi x=>x=(i:Int)) ?_ ?_ rfl
 .rintro i x hi rfl;refine dv ?_;refine cA (aS ?_);exact aK (λ_=>ar ⟨by omega,by omega⟩) λ_=>ar (gO (by omega))
 .rintro x rfl;exact dc (ar ⟨by omega,by omega⟩)
def DD (p:PG) (s:List UInt8):Prop:=∃ v,hX (p.1,s)=af v/\0<=v/\v<(p.1.length:Int)
theorem Yh (p:PG) (h:PX p) (t:Int) (s:List UInt8):Ok (py (p,t,s)) λk=>k≠0->k≠7->k≠8->DD p s:=by
 have hd:=h.d;have ht:=h.t;unfold py bf bz jz iT vI bK aZ aF;refine aY (λx=>x.2=p) ?_ ?_
 .refine fo (λU=>bI (λM=>?_) λ_=>ar rfl) λ_=>ar rfl
  dsimp only[au] at U M;refine aR U M (aS ?_);have hm:=h.l _ (bG (T:=yk) (xs:=p.2) (j:=t) U M);exact ax (xY _ s (dj hm (by omega))) λ_ _=>ar rfl
 rintro⟨b,x⟩ e;dsimp only at e;have e:=e.symm;subst e;refine aP (λ_=>ar λ_ _ h=>(h rfl).elim) λ_=>?_
 obtain⟨v,hv,v0,J⟩:=wJ p.1 s (by omega);refine aV hv ?_;refine bI (λ_=>?_) λg=>?_
 .exact ax (sr p.2 s (by omega)) λ_ _=>fo (λ_=>ar λ_ h=>(h rfl).elim) λ_=>ar λh=>(h rfl).elim
 have I:DD p s:=⟨v,hv,g,J⟩
 refine aR g J (aS ?_);refine aK (λ_=>?_) λ_=>?_
 .exact aR g J (aS (b8 (λ_=>ar λ_ _ _=>I) λ_=>ar λ_ _ _=>I))
 refine aK (λ_=>ar λ_ _ _=>I) λ_=>?_
 refine aY (λx=>x.2=p) (aK (λ_=>ar rfl) λ_=>aK (λ_=>ar rfl) λ_=>aK (λ_=>ar rfl) λ_=>ar rfl) ?_;rintro⟨b,x⟩ e;dsimp only at e;have e:=e.symm;subst e;exact aP (λ_=>aR g J (aS (ar λ_ _ _=>I))) λ_=>ar λ_ _ _=>I
theorem oM (p:PG) (h:PX p) (t:Int) (s:List UInt8) (a b:Int):Ok (gy (p,t,s,a,b)) λr=>r=0->(a≠7/\a≠8)->(b≠7/\b≠8)->DD p s:=by
 unfold gy aX bl dw bf iT aF;refine ax (Yh p h t s) λk hk=>?_
 refine aK (λ_=>ar λh=>(by cases h)) λg=>?_
 refine aY (λx=>x=aj->k=a\/k=b) ?_ ?_
 .refine b8 (λ_=>ar λh=>?_) λh=>ar λ_=>.inl h
  simp at h;exact .inr h
 rintro x I;refine aP (λ_=>ar λh=>(by cases h)) λh=>ar λ_ h1 h2=>hk g ?_ ?_
 .rcases I h with h|h<;>omega
 .rcases I h with h|h<;>omega
theorem Mi:∀ (n d:Nat) (e:Xp),d<n->GX d e->Ok (mV n e) λ_=>True
 |0,_,_,h,_=>by omega
 |n+1,0,_,_,h=>h.elim
 |n+1,d+1,e,hn,h=>by
  obtain⟨h1,h2⟩:=h;rw[xK];unfold uc bz bK cP aF cF;refine ci e.l.length (λi x=>x.1.2.2=(i:Int)/\x.2=e) ?_ ?_ ⟨rfl,e_ e⟩
  .rintro i ⟨⟨a,b,c⟩,z⟩ hi ⟨e1,e2⟩;dsimp only at e1 e2;subst e1;subst e2;refine dv ?_;refine cA (aS ?_);refine ax (Mi n d _ (by omega) (h2 _ (bG (T:=.ex) (xs:=z.l) (j:=(i:Int)) (by omega) (by omega)))) λ_ _=>ar ?_
   exact⟨gO (by omega),e_ z⟩
  .rintro⟨⟨a,b,c⟩,z⟩ ⟨e1,e2⟩;dsimp only at e1 e2;subst e1;subst e2;exact dc (ar trivial)
theorem Fk (p:PG) (hp:PX p) (t:Int):∀ (n d:Nat) (e:Xp),d<n->GX d e->Ok (mU n (p,t,e)) λ_=>True
 |0,_,_,h,_=>by omega
 |n+1,0,_,_,h=>h.elim
 |n+1,d+1,e,hn,h=>by
  obtain⟨h1,h2⟩:=h;rw[xJ];unfold ub bf bz bK cP aF cF;refine aY (λx=>x.2.1=p/\x.2.2=e) ?_ ?_
  .refine aK (λ_=>ax (oM p hp t _ _ _) λ_ _=>ar ⟨rfl,e_ e⟩) λ_=>aK (λ_=>ax (oM p hp t _ _ _) λ_ _=>ar ⟨rfl,e_ e⟩) λ_=>ar ⟨rfl,e_ e⟩
  rintro⟨r,M,e'⟩ ⟨J,I⟩;dsimp only at J I;have J:=J.symm;subst J;have I:=I.symm;subst I;refine pR (λx=>((e.l.length:Int)-x.1.2).toNat) (λx=>0<=x.1.2/\x.2.1=p/\x.2.2=e) ?_ ⟨eX _,rfl,e_ e⟩;rintro⟨⟨a,(b:Int)⟩,M,e'⟩ ⟨b0,J,I⟩;dsimp only at b0 J I;have J:=J.symm;subst J;have I:=I.symm;subst I;refine aY (λx=>x.2.1=p/\x.2.2=e/\(x.1=ai->b<(e.l.length:Int))) ?_ ?_
  .exact bI (λg=>ar ⟨rfl,e_ e,λ_=>g⟩) λ_=>ar ⟨rfl,e_ e,λh=>(by cases h)⟩
  rintro⟨c,M,e'⟩ ⟨J,I,U⟩;dsimp only at J I U;have J:=J.symm;subst J;have I:=I.symm;subst I;refine aP (λhc=>?_) λ_=>ar trivial
  have g:=U hc;refine aR b0 g (aS ?_);refine ax (Fk p hp t n d _ (by omega) (h2 _ (bG (T:=.ex) (xs:=e.l) (j:=b) b0 g))) λ_ _=>ar ?_
  dsimp only;rw[ib (n:=b+1) (by omega) (by omega)];exact⟨⟨by omega,rfl,e_ e⟩,by omega⟩
theorem wI (p:PG) (hp:PX p) (t:Int) (e:Xp) (h:GX 4 e):Ok (mc (p,t,e)) λ_=>True:=by
 unfold mc bz aF;have M:GX 4 (dW (Xp.op e,Xp.n e,Xp.name e,Xp.l e)):=by rw[e_];exact h
 refine ax (gd _ M) λ_ _=>dO (λ_=>ar trivial) λ_=>?_
 refine ax (Mi fuel 4 _ (by rw[jO];omega) M) λ_ _=>?_
 refine aY (λx=>x.2.1=p/\x.2.2=e) (bI (λ_=>ar ⟨rfl,e_ e⟩) λ_=>ar ⟨rfl,e_ e⟩) ?_;rintro⟨r,U,e'⟩ ⟨J,I⟩;dsimp only at J I;have J:=J.symm;subst J;have I:=I.symm;subst I;exact aP (λ_=>ar trivial) λ_=>ax (Fk p hp t fuel 4 _ (by rw[jO];omega) M) λ_ _=>ar trivial
theorem fw (b:Bool):Ok (c6 b) λ_=>True:=by
 unfold c6;exact aP (λ_=>ar trivial) λ_=>ar trivial
theorem tL (x:Int×Int):Ok (iV x) λr=>r=0->x.1=0/\x.2=0:=by
 unfold iV iT;exact b8 (λh=>ar λh2=>(h h2).elim) λh=>ar λh2=>⟨h,h2⟩
abbrev WK:Type:=(List DT×List HT×Int)×(Bool×List Sx)×List (List UInt8)×List (List UInt8)
theorem WZ (a b:Int) (s:List UInt8) (w:WK) (h:w.2.1.2.length<=100):Ok (dR ((a,b,s),w)) λy=>y.2=w:=by
 unfold dR aX bf bz kZ aZ cP aF cF;refine ci w.2.1.2.length (λi x=>x.1=(i:Int)/\x.2=w) ?_ ?_ ⟨rfl,rfl⟩
 .rintro i ⟨c,x⟩ hi ⟨e1,e2⟩;dsimp only at e1 e2;subst e1;have e2:=e2.symm;subst e2;refine dv ?_;refine cA (cA (aS ?_));refine aY (λx=>x.2=w) ?_ ?_
  .refine aK (λ_=>aK (λ_=>ar rfl) λ_=>ar rfl) λ_=>aK (λ_=>aK (λ_=>ar rfl) λ_=>ar rfl) λ_=>ar rfl
  rintro⟨c,x⟩ e;dsimp only at e;have e:=e.symm;subst e;exact aP (λ_=>ar rfl) λ_=>ar ⟨gO (by omega),rfl⟩
 .rintro⟨c,x⟩ ⟨e1,e2⟩;dsimp only at e1 e2;subst e1;have e2:=e2.symm;subst e2;exact dc (ar rfl)
def OV:Nat->Sx->Nat
 |0,_=>0
 |d+1,s=>1+(s.body.map (OV d)).sum+(s.els.map (OV d)).sum
def ng (d:Nat) (l:List Sx):Nat:=(l.map (OV d)).sum
def KS:Nat->Nat
 |0=>0
 |d+1=>1+16*KS d
theorem M4 {α:Type} {f:α->Nat} {k:Nat}:∀ {l:List α},(∀ x∈l,f x<=k)->(l.map f).sum<=l.length*k
 |[],_=>by simp
 |x::r,h=>by
  have:=M4 (l:=r) λy I=>h y (cM _ I)
  have:=h x (dz ..);rw[gh,List.sum_cons,bY,iP];omega
theorem UA:∀ {d:Nat} {s:Sx},GT d s->OV d s<=KS d
 |0,_,h=>h.elim
 |d+1,s,⟨_,_,_,Y,U,M,J⟩=>by
  have a:=M4 (f:=OV d) (l:=s.body) λx I=>UA (M x I)
  have b:=M4 (f:=OV d) (l:=s.els) λx I=>UA (J x I)
  have c:=cG (KS d) Y;have e:=cG (KS d) U;show 1+_+_<=1+16*KS d;omega
theorem Oh:∀ {d:Nat} {s:Sx},GT d s->OV (d+1) s=OV d s
 |0,_,h=>h.elim
 |d+1,s,⟨_,_,_,_,_,M,J⟩=>by
  show 1+(s.body.map (OV (d+1))).sum+(s.els.map (OV (d+1))).sum=1+(s.body.map (OV d)).sum+(s.els.map (OV d)).sum;rw[pO λx I=>Oh (M x I),pO λx I=>Oh (J x I)]
theorem Z4 {d:Nat} {l:List Sx} (h:∀ s∈l,GT d s):ng d l<=l.length*KS d:=M4 λx I=>UA (h x I)
theorem wB {d:Nat} {l:List Sx} {i:Nat} (hi:i<l.length):ng d (l.take (i+1))=ng d (l.take i)+OV d (aJ (T:=.sm) l (i:Int)):=by
 unfold ng;rw[nQ (T:=.sm) hi,cQ,EY];simp
theorem Oi {d:Nat} (l:List Sx) (i:Nat):ng d (l.take i)<=ng d l:=by
 conv=>rhs;rw[<- AZ i l]
 unfold ng;rw[cQ,EY];omega
theorem Eo:∀ (n d:Nat) (l:List Sx),d<n->l.length<=1000->(∀ s∈l,GT d s)->KS d<=100000->mW n l=af ((ng d l:Nat):Int)
 |0,_,_,h,_,_,_=>by omega
 |n+1,d,l,hn,hl,h,J=>by
  refine cD ?_;rw[xL];unfold ud bz vI aZ cP aF cF;have hb:=Z4 h;have I:=Nat.mul_le_mul hl J;refine ci l.length (λi x=>x.2=(i:Int)/\x.1=(l.length:Int)-i+(ng d (l.take i):Nat)) ?_ ?_ ⟨rfl,by simp[ng]⟩
  .rintro i ⟨a,b⟩ hi ⟨e1,e2⟩;dsimp only at e1 e2;subst e1;subst e2;have hp:=Oi (d:=d) l (i+1);rw[wB hi] at hp;refine dv ?_;refine cA (aS ?_);rw[wB hi];have hm:=h _ (bG (T:=.sm) (xs:=l) (j:=(i:Int)) (by omega) (by omega));revert hm hp;generalize (aJ (T:=.sm) l (i:Int))=s;intro hp hm;cases d with
   |zero=>exact hm.elim
   |succ d=>
    obtain⟨_,_,_,Z,Y,U,M⟩:=hm;have hk:KS (d+1)=1+16*KS d:=rfl;have hc:OV (d+1) s=1+ng d s.body+ng d s.els:=rfl;rw[hc] at hp ⊢;refine aV (Eo n d _ (by omega) (by omega) U (by omega)) ?_;refine cA (aS ?_);refine aV (Eo n d _ (by omega) (by omega) M (by omega)) (ar ⟨gO (by omega),?_⟩);dsimp only;rw[ib (n:=(l.length:Int)-i+(ng (d+1) (l.take i):Nat)+(ng d s.body:Nat)) (by omega) (by omega),ib (by omega) (by omega)];omega
  .rintro⟨a,b⟩ ⟨e1,e2⟩;dsimp only at e1 e2;subst e1;subst e2;rw[cR];exact dc (ar (by dsimp only;omega))
theorem T6 (l:List DT) (hl:l.length<=100):Ok (rf l) λ_=>True:=by
 unfold rf aX bl bw bL dw fc bf bz jz iT bF bK aZ cP aF cF;refine ci l.length (λi x=>x.2.2.2.2=(i:Int)) ?_ ?_ rfl
 .rintro i ⟨a,b,c,d,e⟩ hi e1;dsimp only at e1;subst e1;refine dv ?_;refine aY (λ_=>True) ?_ λx _=>ar (gO (by omega))
  refine cA (aS ?_);have htk:(dM (aU (i:Int)) l).length<=100:=by rw[bE];omega
  refine dt (eH (by dsimp only;omega) (eH (by dsimp only;omega) ?_));refine ax (wJ _ _ (dj htk (by omega))) λv hv=>?_
  refine fo (λ_=>ar trivial) λ_=>bI (λ_=>ar trivial) λ_=>?_
  refine aY (λ_=>True) ?_ λx _=>?_
  .refine aY (λ_=>True) (aK (λ_=>ar trivial) λ_=>ar trivial) λx _=>aP (λ_=>ar trivial) λ_=>?_
   refine aY (λ_=>True) (aK (λ_=>ar trivial) λ_=>ar trivial) λx _=>aP (λ_=>ar trivial) λ_=>?_
   exact aK (λ_=>ar trivial) λ_=>ar trivial
  refine aY (λ_=>True) (bI (λ_=>ar trivial) λ_=>bI (λ_=>ar trivial) λ_=>bI (λ_=>ar trivial) λ_=>ar trivial) λx _=>aP (λ_=>ar trivial) λ_=>?_
  refine aK (λ_=>?_) λ_=>ar trivial
  refine dt (eH (by dsimp only;omega) (eH (by dsimp only;omega) ?_));refine ax (wJ _ _ (dj htk (by omega))) λv hv=>?_
  refine bI (λ_=>ar trivial) λg=>?_
  have h2:=hv.2;rw[bE] at h2;exact aR g (by dsimp only at h2 ⊢;omega) (aS (b8 (λ_=>ar trivial) λ_=>ar trivial))
 .rintro⟨a,b,c,d,e⟩ e1;dsimp only at e1;subst e1;exact dc (ar trivial)
theorem M1 (p:PG) (h:PX p):Ok (nA p) λ_=>True:=by
 have hd:=h.d;have ht:=h.t;unfold nA aX bl bw bz jz bF bK aZ cP aF cF;refine ci p.2.length (λi x=>x.1=(i:Int)/\x.2=p) ?_ ?_ ⟨rfl,rfl⟩
 .rintro i ⟨a,x⟩ hi ⟨e1,e2⟩;dsimp only at e1 e2;subst e1;have e2:=e2.symm;subst e2;refine dv ?_;refine cA (aS ?_);refine aY (λx=>x.2.1=p) ?_ ?_
  .refine ax (wJ _ _ (by dsimp only;omega)) λv hv=>fo (λ_=>ar rfl) λ_=>?_
   refine dt (eH (by dsimp only;omega) (eH (by dsimp only;omega) ?_));exact ax (sr _ _ (by rw[bE];dsimp only;omega)) λ_ _=>ar rfl
  rintro⟨b,x,z⟩ e;dsimp only at e;have e:=e.symm;subst e;exact aP (λ_=>ar trivial) λ_=>ar ⟨gO (by omega),rfl⟩
 rintro⟨a,x⟩ ⟨e1,e2⟩;dsimp only at e1 e2;subst e1;have e2:=e2.symm;subst e2;refine dc ?_;refine ax (P:=λ_=>True) ?_ λ_ _=>ar trivial
 refine ci p.2.length (λi x=>x.1=(i:Int)/\x.2=p) ?_ ?_ ⟨rfl,rfl⟩
 .rintro i ⟨a,x⟩ hi ⟨e1,e2⟩;dsimp only at e1 e2;subst e1;have e2:=e2.symm;subst e2;refine dv ?_;refine cA (aS ?_);have hm:=h.l _ (bG (T:=yk) (xs:=p.2) (j:=(i:Int)) (by omega) (by omega));revert hm;generalize (aJ (T:=yk) p.2 (i:Int))=t;intro hm;refine bI (λ_=>ar trivial) λ_=>?_
  refine ci t.2.2.1.length (λk y=>y.1=(k:Int)/\y.2=(p,t)) ?_ ?_ ⟨rfl,rfl⟩
  .rintro k ⟨a,z⟩ hk ⟨J,I⟩;dsimp only at J I;subst J;subst I;refine dv ?_;refine cA (aS ?_);refine aY (λx=>x.2=(p,t)) ?_ ?_
   .refine ax (wJ _ _ (by dsimp only;omega)) λv hv=>fo (λ_=>ar rfl) λ_=>?_
    refine ax (sr _ _ (by dsimp only;omega)) λv hv=>fo (λ_=>ar rfl) λ_=>?_
    refine dt (eH (by dsimp only;omega) (eH (by dsimp only;omega) ?_));exact ax (xY _ _ (by rw[bE];dsimp only;omega)) λ_ _=>ar rfl
   rintro⟨b,x⟩ e;dsimp only at e;subst e;exact aP (λ_=>ar trivial) λ_=>ar ⟨gO (by omega),rfl⟩
  .rintro⟨a,z⟩ ⟨J,I⟩;dsimp only at J I;subst J;subst I;exact dc (ar ⟨gO (by omega),rfl⟩)
 .rintro⟨a,x⟩ ⟨e1,e2⟩;dsimp only at e1 e2;subst e1;have e2:=e2.symm;subst e2;exact dc (ar trivial)
structure WQ (w:WK) (y:Int×WK):Prop where
 p:y.2.1=w.1
 a:y.2.2.1=w.2.1
 s:y.2.2.2.1.length<=w.2.2.1.length+1
 t:y.2.2.2.2.length<=w.2.2.2.length+1
theorem WQ.same (w:WK) (e:Int):WQ w (e,w):=⟨rfl,rfl,Nat.le_succ _,Nat.le_succ _⟩
theorem agb (s:Sx) (D:List DT) (T:List HT) (t:Int) (A:Bool×List Sx) (sp se:List (List UInt8)) (hp:PX (D,T)) (hA:A.2.length<=100) (h1:sp.length<=100000000) (h2:se.length<=100000000) (J:∀ e∈s.index,GX 4 e) (he:GX 4 s.expr):Ok (mb (s,((D,T,t),A,sp,se))) (WQ ((D,T,t),A,sp,se)):=by
 have hex:GX 4 (dW (Xp.op s.expr,Xp.n s.expr,Xp.name s.expr,Xp.l s.expr)):=by rw[e_];exact he
 have hin:∀ (a b:Int) (n:List UInt8),Ok (dR ((a,b,n),((D,T,t),A,sp,se))) λy=>y.2=((D,T,t),A,sp,se):=λa b n=>WZ a b n _ hA
 have hth:T.length<=1000:=by have:=hp.t;dsimp only at this;omega
 have hdl:D.length<=1000:=by have:=hp.d;dsimp only at this;omega
 have sm:∀ e,WQ ((D,T,t),A,sp,se) (e,((D,T,t),A,sp,se)):=WQ.same _;unfold mb aX bl bw cz bL dw cS fc bf jz iT bF bK aF dZ;refine ax (hin _ _ _) λy I=>?_
 obtain⟨b1,M⟩:=y;dsimp only at I;subst I;refine be (by simp) ?_;refine ax (hin _ _ _) λy I=>?_
 obtain⟨b2,M⟩:=y;dsimp only at I;subst I;refine be (by simp) ?_;refine ax (hin _ _ _) λy I=>?_
 obtain⟨Z,M⟩:=y;dsimp only at I;subst I;refine be (by simp) ?_;refine aK (λ_=>?_) λ_=>?_
 .refine aK (λ_=>?_) λg=>?_
  .exact ax (oM _ hp _ _ _ _) λ_ _=>ax (wI _ hp _ _ hex) λ_ _=>ax (tL _) λ_ _=>ar (sm _)
  .refine ax (oM _ hp _ _ _ _) λ_ _=>?_
   dsimp only[au] at g;refine cA (aS ?_);refine ax (wI _ hp _ _ (J _ (bG (T:=.ex) (xs:=s.index) (j:=0) (by omega) (by omega)))) λ_ _=>?_
   exact ax (wI _ hp _ _ hex) λ_ _=>ax (tL _) λ_ _=>ax (tL _) λ_ _=>ar (sm _)
 refine aY (λx=>x.2=((D,T,t),A,s,(D,T),sp,se)) (aK (λ_=>ar (by dsimp only;rw[xC])) λ_=>ar (by dsimp only;rw[xC])) ?_;rintro⟨b,x⟩ e;dsimp only at e;subst e;refine aP (λ_=>ax (wI _ hp _ _ hex) λ_ _=>ar (sm _)) λ_=>?_
 refine aK (λ_=>?_) λ_=>?_
 .refine aY (λx=>WQ ((D,T,t),A,sp,se) x) ?_ λx J=>ar J
  refine ax (oM _ hp _ _ _ _) λ_ _=>aP (λ_=>?_) λ_=>?_
  .exact ax (fw _) λ_ _=>ax (tL _) λ_ _=>ar (sm _)
  .refine ax (hin _ _ _) λy I=>?_
   obtain⟨U,M⟩:=y;dsimp only at I;subst I;exact be (by simp) (ax (fw _) λ_ _=>ax (tL _) λ_ _=>ar (sm _))
 refine aY (λx=>x.2=((D,T,t),A,s,(D,T),sp,se)) (aK (λ_=>ar (by dsimp only;rw[xC])) λ_=>ar (by dsimp only;rw[xC])) ?_;rintro⟨b,x⟩ e;dsimp only at e;subst e;refine aP (λ_=>?_) λ_=>?_
 .refine aY (λx=>WQ ((D,T,t),A,sp,se) x) ?_ λx J=>ar J
  refine ax (oM _ hp _ _ _ _) λ_ _=>aP (λ_=>?_) λ_=>?_
  .exact ax (fw _) λ_ _=>ax (tL _) λ_ _=>ar (sm _)
  .refine ax (hin _ _ _) λy I=>?_
   obtain⟨U,M⟩:=y;dsimp only at I;subst I;exact be (by simp) (ax (fw _) λ_ _=>ax (tL _) λ_ _=>ar (sm _))
 refine aK (λ_=>ax (fw _) λ_ _=>ar (sm _)) λ_=>?_
 refine aK (λ_=>?_) λ_=>?_
 .refine aY (λx=>WQ ((D,T,t),A,sp,se) x) ?_ λx J=>ar J
  exact aP (λ_=>ax (fw _) λ_ _=>ar (sm _)) λ_=>ax (fw _) λ_ _=>ar (sm _)
 refine aY (λx=>x.2=((D,T,t),A,s,(D,T),sp,se)) (aK (λ_=>ar (by dsimp only;rw[xC])) λ_=>aK (λ_=>ar (by dsimp only;rw[xC])) λ_=>ar (by dsimp only;rw[xC])) ?_;rintro⟨b,x⟩ e;dsimp only at e;subst e;refine aP (λ_=>?_) λ_=>?_
 .refine ax (oM _ hp _ _ _ _) λr hr=>b8 (λ_=>ar (sm _)) λg=>?_
  obtain⟨v,hv,v0,Y⟩:=hr g (by omega) (by omega);refine aV hv (aR v0 Y (aS ?_));refine ax (hin _ _ _) λy I=>?_
  obtain⟨U,M⟩:=y;dsimp only at I;subst I;refine be (by simp) ?_;refine aY (λx=>WQ ((D,T,t),A,sp,se) x) ?_ λx J=>ar J
  refine aP (λ_=>ax (fw _) λ_ _=>ar (sm _)) λ_=>dO (λ_=>ax (fw _) λ_ _=>ar (sm _)) λ_=>?_
  exact aK (λ_=>ax (fw _) λ_ _=>ar (sm _)) λ_=>ax (fw _) λ_ _=>ar (sm _)
 refine aK (λ_=>?_) λ_=>?_
 .refine ax (oM _ hp _ _ _ _) λr hr=>b8 (λ_=>ar (sm _)) λg=>?_
  refine ax (sr T _ hth) λv hv=>?_
  refine aY (λx=>x.2=((D,T,t),A,s,sp,se)) ?_ ?_
  .refine aP (λ_=>ar (by dsimp only;rw[xC])) λ_=>aP (λ_=>ar (by dsimp only;rw[xC])) λ_=>aP (λ_=>ar (by dsimp only;rw[xC])) λ_=>aK (λ_=>ar (by dsimp only;rw[xC])) λ_=>ar (by dsimp only;rw[xC])
  rintro⟨b,x⟩ e;dsimp only at e;subst e;refine aP (λ_=>ar (sm _)) λ_=>?_
  refine ax (xY sp _ (by omega)) λ_ _=>fo (λ_=>ar (sm _)) λ_=>?_
  exact bn (by simp;omega) (by omega) (ar ⟨rfl,rfl,by simp,Nat.le_succ _⟩)
 refine aK (λ_=>?_) λ_=>?_
 .refine aY (λx=>WQ ((D,T,t),A,sp,se) x) ?_ λx J=>ar J
  refine ax (oM _ hp _ _ _ _) λr hr=>?_
  refine aP (λ_=>ax (fw _) λ_ _=>ax (tL _) λ_ _=>ar (sm _)) λ_=>?_
  refine aP (λ_=>ax (fw _) λ_ _=>ax (tL _) λ_ _=>ar (sm _)) λ_=>?_
  exact ax (sr T _ hth) λv hv=>ax (fw _) λ_ _=>ax (tL _) λ_ _=>ar (sm _)
 refine aK (λ_=>?_) λ_=>?_
 .refine aY (λx=>x.2=((D,T,t),A,s,(D,T),sp,se)) ?_ ?_
  .refine ax (oM _ hp _ _ _ _) λr hr=>?_
   exact aP (λ_=>ax (fw _) λ_ _=>ax (tL _) λ_ _=>ar (by dsimp only;rw[xC])) λ_=>ax (fw _) λ_ _=>ax (tL _) λ_ _=>ar (by dsimp only;rw[xC])
  rintro⟨b,x⟩ e;dsimp only at e;subst e;refine aY (λx=>x.2=((D,T,t),A,s,(D,T),sp,se)) ?_ ?_
  .refine aY (λx=>x.2=((D,T,t),A,s,(D,T),sp,se)) ?_ ?_
   .exact aK (λ_=>ax (xY se _ (by omega)) λ_ _=>ar (by dsimp only;rw[xC])) λ_=>ar (by dsimp only;rw[xC])
   rintro⟨b,x⟩ e;dsimp only at e;subst e;exact aP (λ_=>ar (by dsimp only;rw[xC])) λ_=>ar (by dsimp only;rw[xC])
  rintro⟨b,x⟩ e;dsimp only at e;subst e;refine bn (by simp;omega) (by omega) ?_;exact ax (wI _ hp _ _ hex) λ_ _=>ax (tL _) λ_ _=>ar ⟨rfl,rfl,Nat.le_succ _,by simp⟩
 exact ax (oM _ hp _ _ _ _) λ_ _=>ax (oM _ hp _ _ _ _) λ_ _=>ax (fw _) λ_ _=>ax (tL _) λ_ _=>ax (tL _) λ_ _=>ar (sm _)
abbrev RA4:Type:=(List Sx×WK)->Option ((Int×Int)×WK)
structure QA (l:List Sx) (d:Nat) (w:WK) (y:(Int×Int)×WK):Prop where
 p:y.2.1=w.1
 a:y.2.2.1.2.length=w.2.1.2.length
 s:y.2.2.2.1.length<=w.2.2.1.length+l.length*KS d
 t:y.2.2.2.2.length<=w.2.2.2.length+l.length*KS d
def SpA (rr:RA4) (d:Nat):Prop:=∀ (l:List Sx) (w:WK),l.length<=100->(∀ s∈l,GT d s)->PX (w.1.1,w.1.2.1)->w.2.1.2.length+d<=50->w.2.2.1.length+l.length*KS d<=100000000->w.2.2.2.length+l.length*KS d<=100000000->Ok (rr (l,w)) (QA l d w)
theorem acy (rr:RA4) (d:Nat) (hr:∀ d',d=d'+1->SpA rr d'):SpA (mg rr) d:=by
 rintro l ⟨⟨D,T,t⟩,A,sp,se⟩ hl hg hp hA h1 h2;dsimp only at hp hA h1 h2;have hK:∀ i:Nat,i<=l.length->i*KS d<=l.length*KS d:=λi hi=>cG _ hi
 unfold mg aX bl bw bL dw cS ck bf bz iT bF bK aZ cP aF cF dZ;refine ci l.length (λi x=>x.1=(i:Int)/\x.2.1=(D,T,t)/\x.2.2.1.2.length=A.2.length/\x.2.2.2.1.length<=sp.length+i*KS d/\x.2.2.2.2.length<=se.length+i*KS d) ?_ ?_ ⟨rfl,rfl,rfl,by simp,by simp⟩
 .rintro i ⟨a,P,A',sp',se'⟩ hi ⟨e1,e2,e3,Y,U⟩;dsimp only at e1 e2 e3 Y U;subst e1;subst e2;have hKi:=hK (i+1) (by omega);have hKs:=iP i (KS d);rw[Nat.succ_eq_add_one] at hKs;refine dv ?_;refine cA (aS ?_);have hm:=hg _ (bG (T:=.sm) (xs:=l) (j:=(i:Int)) (by omega) (by omega));revert hm;generalize (aJ (T:=.sm) l (i:Int))=s;intro hm;cases d with
  |zero=>exact hm.elim
  |succ d=>
   have hR:=hr d rfl;obtain⟨_,g2,g3,g4,g5,g6,g7⟩:=hm;have hk:KS (d+1)=1+16*KS d:=rfl;have kb:s.body.length*KS d<=8*KS d:=cG _ g4;have ke:s.els.length*KS d<=8*KS d:=cG _ g5;dsimp only;rw[xC];refine ax (agb s D T t A' sp' se' hp (by omega) (by omega) (by omega) g2 g3) λy M=>?_
   obtain⟨e,P2,A2,sp2,se2⟩:=y;obtain⟨J,I,q3,q4⟩:=M;dsimp only at J I q3 q4;subst J;subst I;refine be (by simp) ?_;refine aY (λx=>x.2=((D,T,t),s,A2,sp2,se2)) (bI (λ_=>ar rfl) λ_=>ar rfl) ?_;rintro⟨e,x⟩ ex;dsimp only at ex;subst ex;refine b8 (λ_=>ar ⟨rfl,e3,by dsimp only;omega,by dsimp only;omega⟩) λ_=>?_
   refine bn (by simp;omega) (by omega) (aR (by simp) (by simp;omega) (aR (by simp) (by simp;omega) ?_));dsimp only;rw[xC];refine ax (hR s.body ((D,T,t),(A2.1,cO (A2.2++[_]) _ s),sp2,se2) (by omega) g6 hp ?_ ?_ ?_) λy M=>?_
   .dsimp only;rw[bV];simp;omega
   .dsimp only;omega
   .dsimp only;omega
   obtain⟨e6,P6,A6,sp6,se6⟩:=y;obtain⟨J,I,q5,q6⟩:=M;dsimp only at J I q5 q6;subst J;rw[bV,bt,eD] at I;refine be (by simp) ?_;refine aY (λx=>x.2.1=(D,T,t)/\x.2.2.1.2.length=A2.2.length+1/\x.2.2.2.1.length<=sp2.length+16*KS d/\x.2.2.2.2.length<=se2.length+16*KS d) ?_ ?_
   .refine aK (λ_=>?_) λ_=>ar ⟨rfl,I,by dsimp only;omega,by dsimp only;omega⟩
    refine ax (hR s.els ((D,T,t),A6,sp6,se6) (by omega) g7 hp (by dsimp only;omega) (by dsimp only;omega) (by dsimp only;omega)) λy M=>?_
    obtain⟨e7,P7,A7,sp7,se7⟩:=y;obtain⟨r1,r2,r5,Z⟩:=M;dsimp only at r1 r2 r5 Z;subst r1;exact be (by simp) (ar ⟨rfl,r2.trans I,by dsimp only;omega,by dsimp only;omega⟩)
   rintro⟨e8,P8,A8,sp8,se8⟩ ⟨r1,r2,r5,Z⟩;dsimp only at r1 r2 r5 Z;subst r1;have el:bm .i64 ((aO A8.2.length)-1)=(A2.2.length:Int):=by
    rw[r2,ib (by simp<;>omega) (by simp<;>omega)];simp<;>omega
   dsimp only;rw[el];have tk:(dM (aU (A2.2.length:Int)) A8.2).length=A2.2.length:=by rw[bE];omega
   refine dt (eH (by omega) (zL (by rw[r2];omega) ?_));refine b8 (λ_=>ar ⟨rfl,by dsimp only;omega,by dsimp only;omega,by dsimp only;omega⟩) λ_=>ar ?_
   exact⟨gO (by omega),rfl,by dsimp only;omega,by dsimp only;omega,by dsimp only;omega⟩
 .rintro⟨a,P,A',sp',se'⟩ ⟨e1,e2,e3,Y,U⟩;dsimp only at e1 e2 e3 Y U;subst e1;subst e2;exact dc (ar ⟨rfl,e3,Y,U⟩)
theorem VZ:∀ (n d:Nat),d<n->SpA (iC n) d
 |0,_,h=>by omega
 |n+1,d,h=>acy (iC n) d λI hd=>VZ n I (by omega)
theorem Dw (p:PG) (h:PX p):Ok (fd p) λr=>r.1=0->(p.2.map λt=>ng 5 t.2.2.2).sum<=60:=by
 have hd:=h.d;have ht:=h.t;unfold fd aX bl bw bL cS bz iT bF bK aZ cP aF cF;refine ax (X7 p h) λ_ _=>dO (λ_=>ar λh=>(by cases h)) λ_=>?_
 refine ax (T6 p.1 hd) λ_ _=>b8 (λhn=>ar λh=>(hn h).elim) λ_=>bI (λ_=>ar λh=>(by cases h)) λ_=>?_
 refine ax (M1 p h) λ_ _=>b8 (λhn=>ar λh=>(hn h).elim) λ_=>?_
 have J:KS 5=69905:=rfl;refine ci p.2.length (λi x=>x.1.2=(i:Int)/\x.2=p/\x.1.1=((((p.2.take i).map λt=>ng 5 t.2.2.2).sum:Nat):Int)/\(x.1.1:Int)<=((i*6990500:Nat):Int)) ?_ ?_ ⟨rfl,rfl,by simp,by simp⟩
 .rintro i ⟨⟨(c:Int),a⟩,x⟩ hi ⟨e1,e2,e3,I⟩;dsimp only at e1 e2 e3 I;subst e1;have e2:=e2.symm;subst e2;refine dv ?_;refine cA (aS ?_);have hm:=bG (T:=yk) (xs:=p.2) (j:=(i:Int)) (by omega) (by omega);have hb:=h.b _ hm;have hcb:=Z4 (h.s _ hm);have hcb2:=cG (KS 5) hb;rw[J] at hcb hcb2;refine aV (Eo fuel 5 _ (by rw[jO];omega) (dj hb (by omega)) (h.s _ hm) (by rw[J];omega)) (ar ⟨gO (by omega),rfl,?_,?_⟩)
  .dsimp only;rw[nQ (T:=yk) hi,cQ,EY,ib (by omega) (by omega),e3];simp
  .dsimp only;rw[ib (by omega) (by omega)];omega
 rintro⟨⟨(c:Int),a⟩,x⟩ ⟨e1,e2,e3,I⟩;dsimp only at e1 e2 e3 I;subst e1;have e2:=e2.symm;subst e2;rw[cR] at e3;refine dc ?_;refine ax (P:=λr=>r.1=0->(p.2.map λt=>ng 5 t.2.2.2).sum<=60) ?_ λ_ h=>ar h
 refine bI (λ_=>ar λh=>(by cases h)) λM=>?_
 have M:c<=60:=M;refine ci p.2.length (λi x=>x.1=(i:Int)/\x.2.1=p/\x.2.2.1.1=p.1/\x.2.2.1.2.1=p.2/\x.2.2.2.1.2.length=0/\x.2.2.2.2.1.length<=i*6990500/\x.2.2.2.2.2.length<=i*6990500) ?_ ?_ ⟨rfl,rfl,rfl,rfl,rfl,by simp,by simp⟩
 .rintro i ⟨a,x,⟨D,T,t⟩,A,sp,se⟩ hi ⟨e1,e2,e3,I,e5,e6,e7⟩;dsimp only at e1 e2 e3 I e5 e6 e7;subst e1;have e2:=e2.symm;subst e2;subst e3;subst I;refine dv ?_;refine cA (aS ?_);have hm:=bG (T:=yk) (xs:=p.2) (j:=(i:Int)) (by omega) (by omega);have hb:=h.b _ hm;have hs:=h.s _ hm;revert hb hs;dsimp only;generalize (aJ (T:=yk) p.2 (i:Int))=th;intro hb hs;have hk:KS 5=69905:=rfl;have hle:th.2.2.2.length*KS 5<=100*KS 5:=cG _ hb;rw[hk] at hle;refine ax (VZ fuel 5 (by rw[jO];omega) th.2.2.2 ((p.1,p.2,(i:Int)),A,sp,se) hb hs h (by dsimp only;omega) (by dsimp only;rw[hk];omega) (by dsimp only;rw[hk];omega)) λy Z=>?_
  obtain⟨e,P2,A2,sp2,se2⟩:=y;obtain⟨U,Y,q3,q4⟩:=Z;dsimp only at U Y q3 q4;subst U;rw[hk] at q3 q4;refine be (by simp) (b8 (λhn=>ar λh=>(hn h).elim) λ_=>ar ?_);exact⟨gO (by omega),rfl,rfl,rfl,by dsimp only;omega,by dsimp only;omega,by dsimp only;omega⟩
 .rintro⟨a,x,P,w⟩ ⟨e1,e2,_⟩;dsimp only at e1 e2;subst e1;have e2:=e2.symm;subst e2;exact dc (ar λ_=>by omega)
theorem c7 {R:Type} {o o':Option R} {Q:R->Prop} (h:o=o') (hk:Ok o' Q):Ok o Q:=h▸hk
def D0:List DT:=[(1,0,[120],0,0,[]),(1,0,[121],0,1,[]),(2,0,[118],0,0,[]),(1,0,[113],2,0,[]),(3,0,[109],0,0,[]),(3,0,[110],0,0,[]),(4,0,[114],0,0,[]),(5,0,[99],0,0,[109]),(6,0,[102],0,0,[])]
def L0:List (List UInt8):=[[97],[98]]
set_option maxHeartbeats 20000000 in
theorem ak1:∃ r,fd (D0,[([109,97,105,110],0,L0,[nD (1,0,[120],[],[],dW (1,1,[],[]),[],[])])])=af r/\r.1=0:=by
 suffices h:Ok (fd (D0,[([109,97,105,110],0,L0,[nD (1,0,[120],[],[],dW (1,1,[],[]),[],[])])])) λr=>r.1=0 by
  obtain⟨y,h1,h2⟩:=h;exact⟨y,h1,h2⟩
 unfold fd aX bl bw bL cS bz iT bF bK aZ cP aF cF;with_reducible repeat' first|exact ar rfl|refine Vy ?_|refine Vx ?_|refine Vw ?_|refine Vu ?_|refine Pt ?_|refine ac7 ?_|refine aS ?_|refine fA rfl ?_|refine fJ rfl ?_|refine be rfl ?_|refine Vv ?_|refine Pu ?_|refine c7 (pA.eq_1 ..) ?_|refine c7 (jY.eq_1 ..) ?_|refine c7 (eZ.eq_1 ..) ?_|refine c7 (jE.eq_1 ..) ?_|refine c7 (kl.eq_1 ..) ?_|refine c7 (lj.eq_1 ..) ?_|refine c7 (pf.eq_1 ..) ?_|refine c7 (rh.eq_1 ..) ?_|refine c7 (nB.eq_1 ..) ?_|refine c7 (jv.eq_1 ..) ?_|refine c7 (j6.eq_1 ..) ?_|refine c7 (lX.eq_1 ..) ?_|refine c7 (iZ.eq_1 ..) ?_|refine c7 (md.eq_1 ..) ?_|refine c7 (pe.eq_1 ..) ?_|refine c7 (rf.eq_1 ..) ?_|refine c7 (hX.eq_1 ..) ?_|refine c7 (nA.eq_1 ..) ?_|refine c7 (gM.eq_1 ..) ?_|refine c7 (iW.eq_1 ..) ?_|refine c7 (Bt.eq_1 ..) ?_|refine c7 (ud.eq_1 ..) ?_|refine c7 (vm.eq_1 ..) ?_|refine c7 (mg.eq_1 ..) ?_|refine c7 (mb.eq_1 ..) ?_|refine c7 (dR.eq_1 ..) ?_|refine c7 (gy.eq_1 ..) ?_|refine c7 (py.eq_1 ..) ?_|refine c7 (mc.eq_1 ..) ?_|refine c7 (Bs.eq_1 ..) ?_|refine c7 (uc.eq_1 ..) ?_|refine c7 (Br.eq_1 ..) ?_|refine c7 (ub.eq_1 ..) ?_|refine c7 (iV.eq_1 ..) ?_|refine c7 (c6.eq_1 ..) ?_|refine c7 (ck.eq_1 ..) ?_|refine c7 (congrFun (gG dD jO) _) ?_|refine c7 (yc _ _) ?_|refine c7 (congrFun (gG eh jO) _) ?_|refine c7 (yP _ _) ?_|refine c7 (congrFun (gG hY jO) _) ?_|refine c7 (sg _ _) ?_|refine c7 (congrFun (gG mW jO) _) ?_|refine c7 (xL _ _) ?_|refine c7 (congrFun (gG iC jO) _) ?_|refine c7 (BG _ _) ?_|refine c7 (congrFun (gG mV jO) _) ?_|refine c7 (xK _ _) ?_|refine c7 (congrFun (gG mU jO) _) ?_|refine c7 (xJ _ _) ?_
 all_goals trace_state
structure TM (nT:Nat) (t:HT):Prop where
 l:t.2.2.1=L0
 b:t.2.2.2.length<=8
 s:∀ s∈t.2.2.2,GS nT 3 s
structure PJ (p:PG):Prop where
 d:p.1=D0
 t0:1<=p.2.length
 t:p.2.length<=4
 m:∀ t∈p.2,TM p.2.length t
 n:p.2.map Prod.fst=vE.take p.2.length
theorem PJ.x {p:PG} (h:PJ p):PX p:=⟨by rw[h.d];decide,by have:=h.t;omega,λt ht=>by rw[(h.m t ht).l];decide,λt ht=>by have:=(h.m t ht).b;omega,λt ht s hs=>((h.m t ht).s s hs).le (by omega:3<=5) |>.t⟩
theorem QP:r8 ()=af D0:=rfl
theorem aai:∀ m:Nat,m<5->∀ j:Nat,j<m->aJ (T:=.str) vE (j:Int)∈vE.take m:=by decide
theorem Pa {nT:Nat} (op:Int) {n:List UInt8} (J:op=12\/op=13) (hn:n∈vE.take nT):GS nT 3 (nD (op,0,n,[],[],dW (0,0,[],[]),[],[])):=GS.wo (by omega) (by simp) (λx I=>(by cases I)) (by rcases J with rfl|rfl<;>(constructor<;>simp[Sx.op,Sx.name,Sx.index,Sx.arg,Sx.els,Sx.body]<;>exact hn))
theorem Gb (x:List Int) (hl:x.length<=9223372036854775807) (hx:∀ z∈x,0<=z/\z<=255):Ok (oB x) λp=>PJ p/\∃ r,fd p=af r/\r.1=0:=by
 unfold oB aX bl bw cz ef kz zD bL fc ky pN Prod.q9 bf bz iT bF kZ cP aF cF dZ;refine aV QP ?_;refine ax (gg 3 (x,0) ⟨hl,hx,by dsimp only;omega,by dsimp only;omega⟩) λy J=>?_
 obtain⟨n,t0⟩:=y;obtain⟨s0,n0,n1,_⟩:=J;have n1:=n1 (by decide);dsimp only at s0 n0 n1;have ew:bm .i64 (2+n)=2+n:=ib (by omega) (by omega);obtain⟨nT,hnT⟩:∃ m:Nat,2+n=(m:Int):=⟨(2+n).toNat,by omega⟩
 refine ci nT (λi x=>x.1=(i:Int)/\x.2.2.1=D0/\x.2.2.2.1=vE/\TP x.2.2.2.2.1/\x.2.2.2.2.2.1.2=[]/\x.2.2.2.2.2.2.map Prod.fst=vE.take i/\∀ t∈x.2.2.2.2.2.2,TM nT t) ?_ ?_ ⟨rfl,rfl,rfl,s0.p,rfl,rfl,λt ht=>(by cases ht)⟩
 .rintro i ⟨a,m,D,N,t,h,th⟩ hi ⟨e1,e2,e3,e4,e5,e6,e7⟩;dsimp only at e1 e2 e3 e4 e5 e6 e7;subst e1;subst e2;refine bI (λg=>?_) λg=>(by dsimp only at g;rw[ew] at g;omega)
  have l4:N.length=4:=by rw[e3];rfl
  refine cA (cA (aS ?_));have hthl:th.length=i:=by have:=gG al e6;rw[cf,bE] at this;have q4:vE.length=4:=rfl;omega
  refine aY (λx=>x.2.2.2.1.1=aJ (T:=.str) N (i:Int)/\x.2.1=D0/\x.2.2.1=vE/\TP x.2.2.2.2.1/\x.2.2.2.2.2.1.2=[]/\x.2.2.2.2.2.2.1=th/\x.2.2.2.2.2.2.2.1=L0/\x.2.2.2.2.2.2.2.2.length<=3/\∀ s∈x.2.2.2.2.2.2.2.2,GS nT 3 s) ?_ ?_
  .refine aK (λ_=>?_) λ_=>ar ⟨rfl,rfl,e3,e4,e5,rfl,rfl,by simp,λs hs=>(by cases hs)⟩
   refine ci (1+n).toNat (λk x=>x.2.2.2.2.1.1=aJ (T:=.str) N (i:Int)/\x.1=1+(k:Int)/\x.2.2.1=D0/\x.2.2.2.1=vE/\TP x.2.2.2.2.2.1/\x.2.2.2.2.2.2.1.2=[]/\x.2.2.2.2.2.2.2.1=th/\x.2.2.2.2.2.2.2.2.1=L0/\x.2.2.2.2.2.2.2.2.2.length<=k/\∀ s∈x.2.2.2.2.2.2.2.2.2,GS nT 3 s) ?_ ?_ ⟨rfl,rfl,rfl,e3,e4,e5,rfl,rfl,by simp,λs hs=>(by cases hs)⟩
   .rintro k ⟨c,m1,D1,N1,z1,t1,h1,th1,l1,b1⟩ hk ⟨fz,f1,f2,I,f4,M,Z,Y,f8,U⟩;dsimp only at fz f1 f2 I f4 M Z Y f8 U;subst f1;refine bI (λ_=>?_) λg=>(by dsimp only at g;rw[ew] at g;omega)
    have l41:N1.length=4:=by rw[I];rfl
    refine cA (cA (aS ?_));refine bn (by simp;omega) (by omega) (ar ?_);dsimp only;rw[ib (n:=1+(k:Int)+1) (by omega) (by omega)];refine ⟨fz,by omega,f2,I,f4,M,Z,Y,by simp;omega,λs hs=>?_⟩;rcases bP.1 hs with hs|hs
    .exact U s hs
    .rw[aL] at hs;rw[hs];refine Pa 12 (.inl rfl) ?_;rw[I,show 1+(k:Int)=((1+k:Nat):Int) by omega];exact aai nT (by omega) (1+k) (by omega)
   .rintro⟨c,m1,D1,N1,z1,t1,h1,th1,l1,b1⟩ ⟨fz,f1,f2,I,f4,M,Z,Y,f8,U⟩;dsimp only at fz f1 f2 I f4 M Z Y f8 U;subst f1;refine bI (λg=>(by dsimp only at g;rw[ew] at g;omega)) λ_=>ar ?_
    exact⟨fz,f2,I,f4,M,Z,Y,by dsimp only;omega,U⟩
  rintro⟨m1,D1,N1,z1,t1,h1,th1,l1,b1⟩ ⟨fz,f2,I,f4,M,Z,Y,f8,U⟩;dsimp only at fz f2 I f4 M Z Y f8 U;subst f2;subst Z;subst Y;refine ax (gg 3 t1 f4) λy J=>?_
  obtain⟨k2,t2⟩:=y;obtain⟨u1,u2,u3,_⟩:=J;have u3:=u3 (by decide);dsimp only at u1 u2 u3;dsimp only;rw[ib (n:=1+k2) (by omega) (by omega)];refine ax (WR (nT:=nT) 2 (by omega) (1+k2) m1 t2 h1 (by omega) u1.p (by rw[M];simp)) λy J=>?_
  obtain⟨m3,t3,h3,l3⟩:=y;obtain⟨w1,w2,w3,w4⟩:=J;dsimp only at w1 w2 w3 w4;refine be (by simp) (bn (by simp;omega) (by omega) ?_);have hbody:∀ s∈b1++l3,GS nT 3 s:=λs hs=>by
   rcases bP.1 hs with hs|hs
   .exact U s hs
   .exact w2 s hs
  have hlen:(b1++l3).length<=6:=by rw[bt];omega
  refine aY (λx=>x.2.2.2.1.1=aJ (T:=.str) N (i:Int)/\x.2.1=D0/\x.2.2.1=vE/\TP x.2.2.2.2.1/\x.2.2.2.2.2.1.2=[]/\x.2.2.2.2.2.2.1=th1/\x.2.2.2.2.2.2.2.1=L0/\x.2.2.2.2.2.2.2.2.length<=8/\∀ s∈x.2.2.2.2.2.2.2.2,GS nT 3 s) ?_ ?_
  .refine aY (λx=>x.2.2.2.2.1.1=aJ (T:=.str) N (i:Int)/\x.2.2.1=D0/\x.2.2.2.1=vE/\TP x.2.2.2.2.2.1/\x.2.2.2.2.2.2.1.2=[]/\x.2.2.2.2.2.2.2.1=th1/\x.2.2.2.2.2.2.2.2.1=L0/\x.2.2.2.2.2.2.2.2.2=b1++l3) ?_ ?_
   .refine aK (λ_=>?_) λ_=>ar ⟨fz,rfl,I,w3.p,w4.trans M,rfl,rfl,rfl⟩
    exact ax (gg 3 t3 w3.p) λy J=>ar ⟨fz,rfl,I,J.1.p,w4.trans M,rfl,rfl,rfl⟩
   rintro⟨b,m4,D4,N4,z4,t4,h4,th4,l4,b4⟩ ⟨pz,p2,p3,p4,p5,p6,p7,p8⟩;dsimp only at pz p2 p3 p4 p5 p6 p7 p8;subst p2;subst p6;subst p7;subst p8;have l44:N4.length=4:=by rw[p3];rfl
   refine aP (λ_=>?_) λ_=>ar ⟨pz,rfl,p3,p4,p5,rfl,rfl,by dsimp only;omega,hbody⟩
   refine cA (cA (aS ?_));refine bn (by simp at hlen ⊢;omega) (by omega) (ar ⟨pz,rfl,p3,p4,p5,rfl,rfl,by dsimp only;rw[bt,eD];omega,λs hs=>?_⟩);rcases bP.1 hs with hs|hs
   .exact hbody s hs
   .rw[aL] at hs;rw[hs];refine Pa 13 (.inr rfl) ?_;rw[p3];exact aai nT (by omega) 1 (by omega)
  rintro⟨m4,D4,N4,z4,t4,h4,th4,l4,b4⟩ ⟨pz,p2,p3,p4,p5,p6,p7,p8,p9⟩;dsimp only at pz p2 p3 p4 p5 p6 p7 p8 p9;subst p2;subst p6;subst p7;refine bn (by simp;omega) (by omega) (ar ?_);dsimp only;refine ⟨gO (by omega),rfl,p3,p4,p5,by rw[nQ (T:=.str) (xs:=vE) (i:=i) (by have q4:vE.length=4:=rfl;omega),cQ,e6,<-e3];show _++[z4.1]=_;rw[pz],λt ht=>?_⟩;rcases bP.1 ht with ht|ht
  .exact e7 t ht
  .rw[aL] at ht;rw[ht];exact⟨rfl,p8,p9⟩
 .rintro⟨a,m,D,N,t,h,th⟩ ⟨e1,e2,e3,e4,e5,e6,e7⟩;dsimp only at e1 e2 e3 e4 e5 e6 e7;subst e1;subst e2;refine bI (λg=>(by dsimp only at g;rw[ew] at g;omega)) λ_=>?_
  have hthl:th.length=nT:=by have:=gG al e6;rw[cf,bE] at this;have q4:vE.length=4:=rfl;omega
  have hpm:PJ (D0,th):=⟨rfl,by dsimp only;omega,by dsimp only;omega,by dsimp only;rw[hthl];exact e7,by dsimp only;rw[hthl];exact e6⟩
  refine ax (P:=λp=>PJ p/\∃ r,fd p=af r/\r.1=0) ?_ λr hr=>ar hr
  obtain⟨y,J,_⟩:=Dw (D0,th) hpm.x;refine aV J (b8 (λ_=>?_) λh=>ar ⟨hpm,y,J,h⟩);refine aV QP (aV (Ng _) (aV (tH _ _) (ar ?_)));refine ⟨⟨rfl,by simp,by simp,λt ht=>?_,rfl⟩,ak1⟩;simp only[aL] at ht;rw[ht];refine ⟨rfl,by simp,λs hs=>?_⟩;simp only[aL] at hs;rw[hs,e_,yn];exact GS.asg (by decide) (GE.num _ 3)
abbrev iA (l:List IT) (k:Nat):IT:=aJ (T:=Bc) l (k:Int)
def JT (l:List IT) (ρ:Nat->Nat) (a e k:Nat):Prop:=(iA l k).1=5->∃ k':Nat,(iA l k).2.1=(k':Int)/\(k'=e\/a<=k'/\k'<e/\ρ k'<ρ k)
def qG (l:List IT) (a e:Nat):Prop:=a<=e/\∃ ρ:Nat->Nat,∀ k,a<=k->k<e->1<=ρ k/\ρ k<=e-a/\JT l ρ a e k/\((iA l k).1<5->k+1=e\/ρ (k+1)<ρ k)
theorem qG.nil (l:List IT) (a:Nat):qG l a a:=⟨bT _,λ_=>0,λk h1 h2=>by omega⟩
theorem qG.one {l:List IT} {a:Nat} (h:¬(iA l a).1=5):qG l a (a+1):=⟨by omega,λ_=>1,λk h1 h2=>⟨bT 1,by show 1<=a+1-a;omega,λI=>by rw[show k=a by omega] at I;exact (h I).elim,λ_=>.inl (by omega)⟩⟩
theorem qG.congr {l I:List IT} {a e:Nat} (h:qG l a e) (hc:∀ k,a<=k->k<e->iA I k=iA l k):qG I a e:=by
 obtain⟨h1,ρ,h2⟩:=h;exact⟨h1,ρ,λk M J=>by unfold JT;rw[hc k M J];exact h2 k M J⟩
theorem qG.app {l:List IT} {a b c:Nat} (h:qG l a b) (k:qG l b c):qG l a c:=by
 obtain⟨h1,ρ,h2⟩:=h;obtain⟨k1,σ,k2⟩:=k;refine ⟨by omega,λk=>if k<b then ρ k+(c-b) else σ k,λk Y U=>?_⟩;by_cases hk:k<b
 .obtain⟨J,M,q3,q4⟩:=h2 k Y hk;simp only[aE hk];refine ⟨by omega,by omega,?_,λI=>?_⟩
  .intro I;simp only[aE hk];obtain⟨k',e,r⟩:=q3 I;refine ⟨k',e,?_⟩;rcases r with r|⟨r1,r2,r3⟩
   .subst r;by_cases hc:k'=c
    .exact .inl hc
    .have:=(k2 k' (bT _) (by omega)).2.1;rw[aB (B1 _)];exact .inr ⟨by omega,by omega,by omega⟩
   .rw[aE r2];exact .inr ⟨r1,by omega,by omega⟩
  .rcases q4 I with r|r
   .by_cases hc:k+1=c
    .exact .inl hc
    .have:=(k2 (k+1) (by omega) (by omega)).2.1;rw[aB (by omega)];exact .inr (by omega)
   .by_cases hb:k+1<b
    .rw[aE hb];exact .inr (by omega)
    .rw[aB hb];by_cases hc:k+1=c
     .exact .inl hc
     .have:=(k2 (k+1) (by omega) (by omega)).2.1;exact .inr (by omega)
 .obtain⟨J,M,q3,q4⟩:=k2 k (by omega) U;simp only[aB hk];refine ⟨J,by omega,?_,λI=>?_⟩
  .intro I;simp only[aB hk];obtain⟨k',e,r⟩:=q3 I;refine ⟨k',e,r.imp id λ⟨r1,r2,r3⟩=>⟨by omega,r2,?_⟩⟩;rw[aB (by omega)];exact r3
  .rw[aB (by omega)];exact q4 I
theorem qG.ite {l:List IT} {a j e:Nat} (h:qG l a j) (hj:(iA l j).1=5) (U:(iA l j).2.1=(e:Int)) (k:qG l (j+1) e):qG l a e:=by
 obtain⟨h1,ρ,h2⟩:=h;obtain⟨k1,σ,k2⟩:=k;refine ⟨by omega,λk=>if k<j then ρ k+(e-j) else if k=j then e-j else σ k,λk Z Y=>?_⟩;by_cases hk:k<j
 .obtain⟨J,M,q3,q4⟩:=h2 k Z hk;simp only[aE hk];refine ⟨by omega,by omega,?_,λI=>?_⟩
  .intro I;simp only[aE hk];obtain⟨k',e',r⟩:=q3 I;refine ⟨k',e',.inr ?_⟩;rcases r with r|⟨r1,r2,r3⟩
   .rw[r,aB (B1 _),aE rfl];exact⟨by omega,by omega,by omega⟩
   .rw[aE r2];exact⟨r1,by omega,by omega⟩
  .refine .inr ?_;by_cases hb:k+1<j
   .rw[aE hb];rcases q4 I with r|r<;>omega
   .rw[aB hb,aE (by omega)];omega
 .by_cases hkj:k=j
  .subst hkj;simp only[aB hk,aE];exact⟨by omega,by omega,λ_=>⟨e,U,.inl rfl⟩,λI=>by rw[hj] at I;omega⟩
  .obtain⟨J,M,q3,q4⟩:=k2 k (by omega) Y;simp only[aB hk,aB hkj];refine ⟨J,by omega,?_,λI=>?_⟩
   .intro I;simp only[aB hk,aB hkj];obtain⟨k',e',r⟩:=q3 I;refine ⟨k',e',r.imp id λ⟨r1,r2,r3⟩=>⟨by omega,r2,?_⟩⟩;rw[aB (by omega),aB (by omega)];exact r3
   .rw[aB (by omega),aB (by omega)];exact q4 I
theorem qG.whl {l:List IT} {a c j:Nat} (h:qG l a c) (hc:(iA l c).1=10) (k:qG l (c+1) j) (hj:(iA l j).1=5) (Y:(iA l j).2.1=(a:Int)):qG l a (j+1):=by
 obtain⟨h1,ρ,h2⟩:=h;obtain⟨k1,σ,k2⟩:=k;refine ⟨by omega,λk=>if k<c then ρ k+1 else if k=c then 1 else if k<j then σ k+(c-a)+2 else c-a+2,λk Z g2=>?_⟩;by_cases hk:k<c
 .obtain⟨U,M,q3,q4⟩:=h2 k Z hk;simp only[aE hk];refine ⟨by omega,by omega,?_,λI=>?_⟩
  .intro I;simp only[aE hk];obtain⟨k',e',r⟩:=q3 I;refine ⟨k',e',.inr ?_⟩;rcases r with r|⟨r1,r2,r3⟩
   .rw[r,aB (B1 _),aE rfl];exact⟨by omega,by omega,by omega⟩
   .rw[aE r2];exact⟨r1,by omega,by omega⟩
  .refine .inr ?_;by_cases hb:k+1<c
   .rw[aE hb];rcases q4 I with r|r<;>omega
   .rw[aB hb,aE (by omega)];omega
 .by_cases hkc:k=c
  .subst hkc;simp only[aB hk,aE];exact⟨by omega,by omega,λI=>by rw[hc] at I;omega,λI=>by rw[hc] at I;omega⟩
  .simp only[aB hk,aB hkc];by_cases hkj:k<j
   .obtain⟨U,M,q3,q4⟩:=k2 k (by omega) hkj;simp only[aE hkj];refine ⟨by omega,by omega,?_,λI=>?_⟩
    .intro I;simp only[aB hk,aB hkc,aE hkj];obtain⟨k',e',r⟩:=q3 I;refine ⟨k',e',.inr ?_⟩;rcases r with r|⟨r1,r2,r3⟩
     .rw[r,aB (by omega),aB (by omega),aB (B1 _)];exact⟨by omega,by omega,by omega⟩
     .rw[aB (by omega),aB (by omega),aE r2];exact⟨by omega,by omega,by omega⟩
    .refine .inr ?_;rw[aB (by omega),aB (by omega)];by_cases hb:k+1<j
     .rw[aE hb];rcases q4 I with r|r<;>omega
     .rw[aB hb];omega
   .have hkj:k=j:=by omega
    subst hkj;simp only[aB (B1 _)];refine ⟨by omega,by omega,λ_=>⟨a,Y,.inr ⟨bT _,by omega,?_⟩⟩,λI=>by rw[hj] at I;omega⟩;simp only[aB hk,aB hkc,aB (B1 _)];by_cases J:a<c
    .rw[aE J];have:=(h2 a (bT _) J).2.1;omega
    .rw[aB J,aE (by omega)];omega
def OB (nT:Nat) (i:IT):Prop:=
 if i.1=6 then 0<=i.2.2.1/\i.2.2.1<=2 else if i.1=8 then 0<=i.2.1/\i.2.1<=2 else if i.1=7 then i.2.2.1=3/\i.2.2.2.2.1=2 else if i.1=9 then i.2.1=3/\i.2.2.2.2.1=2 else if i.1=11\/i.1=12 then i.2.1=0\/i.2.1=1 else if 13<=i.1/\i.1<=16 then i.2.1=2 else if 21<=i.1/\i.1<=23 then i.2.1=0 else if i.1=24\/i.1=25 then 0<=i.2.1/\i.2.1<(nT:Int) else if i.1=26 then i.2.1=0 else if i.1=27 then i.2.2.1=0 else if i.1=4 then 6<=i.2.2.2.2.1/\i.2.2.2.2.1<=18 else ¬i.1=3
structure GO (nT:Nat) (i:IT):Prop where
 o1:1<=i.1
 o2:i.1<=27
 r:∀ j:Int,j∈iM i->0<=j/\j<32
 b:OB nT i
def SO (ss:List (Int×Int×Int)) (t s:Int):Prop:=0<=s/\s<ss.length/\(aJ (T:=xA) ss s).1=t
structure GI (nT:Nat) (ss:List (Int×Int×Int)) (t:Int) (i:IT):Prop where
 o:GO nT i
 s:SO ss t i.2.2.2.2.2
theorem Tc (l:List IT) (hl:l.length<=1000000) (h1:1<=l.length) (hb:qG l 0 (l.length-1)) (he:(iA l (l.length-1)).1=28) (k:Nat) (hk:k<l.length):pd (l,(k:Int))=af ai:=by
 obtain⟨_,ρ,hρ⟩:=hb;refine cD ?_;unfold pd bf bz jz bK aZ cP aF cF;refine pR (λx=>((l.length:Int)+1-x.2).toNat) (λx=>0<=x.2/\∃ q:Nat,x.1=(q:Int)/\q<l.length/\((if q<l.length-1 then ρ q else 0:Nat):Int)+x.2<=(l.length:Int)) ?_ ⟨by dsimp only;omega,k,rfl,hk,?_⟩
 .rintro⟨a,(n:Int)⟩ ⟨n0,q,e,hq,hr⟩;dsimp only at n0 e hr;subst e;refine fo (λ_=>?_) λg=>(by dsimp only[au] at g;omega)
  refine gu ?_;refine gu (bI (λg=>by dsimp only at g;omega) λ_=>ar ?_);refine fJ (by rw[kT];dsimp only[au];omega) ?_;refine cA (aS ?_);refine aV (ER _) ?_;refine dO (λ_=>ar rfl) λhs=>?_
  have hs:1<=(iA l q).1/\(iA l q).1<=5:=bg hs;have J:q<l.length-1:=vg λh=>by rw[show q=l.length-1 by omega] at hs;rw[he] at hs;omega
  obtain⟨r1,r2,r3,Z⟩:=hρ q (jR _) J;rw[aE J] at hr;refine cA (aS ?_);have fin:∀ I:Nat,I=l.length-1\/I<l.length-1/\ρ I<ρ q->0<=n+1/\∃ M:Nat,(I:Int)=(M:Int)/\M<l.length/\((if M<l.length-1 then ρ M else 0:Nat):Int)+(n+1)<=(l.length:Int):=λI h=>⟨by omega,I,rfl,by omega,by
   rcases h with h|⟨h,h'⟩
   .rw[aB (by omega)];omega
   .rw[aE h];omega⟩
  refine aK (λU=>?_) λU=>ar (ar ?_)
  .obtain⟨I,e,Y⟩:=r3 U;refine aR (ey _) (by dsimp only;omega) (aS (ar (ar ?_)));dsimp only;rw[ib (n:=n+1) (by omega) (by omega)];have:=fin I (Y.imp id λh=>⟨h.2.1,h.2.2⟩);rw[<- e] at this;exact⟨this,by omega⟩
  .dsimp only;have U:¬(iA l q).1=5:=U;rw[ib (n:=n+1) (by omega) (by omega),gO (by omega)];refine ⟨fin (q+1) ?_,by omega⟩;rcases Z (by omega) with h|h
   .exact .inl h
   .by_cases hb:q+1=l.length-1
    .exact .inl hb
    .exact .inr ⟨by omega,h⟩
 .dsimp only;split
  .rename_i h;have:=(hρ k (jR _) h).2.1;omega
  .omega
theorem JZ (w:WT) (I:w.1=C0):mR (w,3,2)=af ai:=by
 refine cD ?_;have h0:(0:Int)<=3:=by decide
 have h1:(3:Int)<(w.1.length:Int):=by rw[I];decide
 have J:aJ (T:=OQ) w.1 3=([113],0,2,aj,0):=by rw[I];rfl
 unfold mR bf iT bK aZ aF;refine gu (aV (rN _ _) (aK (λ_=>?_) λh=>(h ⟨h0,h1⟩).elim));dsimp only;rw[J];refine aR h0 h1 (aS (aK (λ_=>?_) λh=>(h rfl).elim));refine aR h0 h1 (aS (b8 (λ_=>?_) λh=>cZ h (by decide)));exact aR h0 h1 (aS (ar (ar rfl)))
theorem Nc {nT:Nat} (w:WT) (i:IT) (hw:WX w) (hT:w.2.2.2.2.1.length=nT) (hb:OB nT i):lA (w,i)=af ai:=by
 obtain⟨hc,hl,hd,hf,_,_,_⟩:=hw;refine cD ?_;unfold lA aX bl bw cz ef bf jz bK aZ aF;unfold OB at hb;simp only[rN,VB];refine aK (λh=>?_) λn6=>?_
 .rw[aE h] at hb;have J:(aJ (T:=OQ) w.1 i.2.2.1).2.2.1=(0:Int):=by
   rw[hc];rcases (by omega:i.2.2.1=0\/i.2.2.1=1\/i.2.2.1=2) with h|h|h<;>rw[h]<;>rfl
  have hi:0<=i.2.2.1/\i.2.2.1<(w.1.length:Int):=⟨hb.1,by rw[hc];have:=hb.2;show i.2.2.1<5;omega⟩
  exact gu (aK (λ_=>aR hi.1 hi.2 (aS (ar (ar (aQ J))))) λh=>(h hi).elim)
 rw[aB n6] at hb;refine aK (λh=>?_) λZ=>?_
 .rw[aE h] at hb;have J:(aJ (T:=OQ) w.1 i.2.1).2.2.1=(0:Int):=by
   rw[hc];rcases (by omega:i.2.1=0\/i.2.1=1\/i.2.1=2) with h|h|h<;>rw[h]<;>rfl
  have hi:0<=i.2.1/\i.2.1<(w.1.length:Int):=⟨hb.1,by rw[hc];have:=hb.2;show i.2.1<5;omega⟩
  exact gu (aK (λ_=>aR hi.1 hi.2 (aS (ar (ar (aQ J))))) λh=>(h hi).elim)
 rw[aB Z] at hb;refine aK (λh=>?_) λn7=>?_
 .rw[aE h] at hb;rw[hb.1,hb.2];exact aV (JZ w hc) (ar rfl)
 rw[aB n7] at hb;refine aK (λh=>?_) λY=>?_
 .rw[aE h] at hb;rw[hb.1,hb.2];exact aV (JZ w hc) (ar rfl)
 rw[aB Y] at hb;refine aY (λx=>x.2=(w,i)/\(x.1=ai↔i.1=11\/i.1=12)) (aK (λh=>ar ⟨rfl,λ_=>.inl h,λ_=>aQ h⟩) λh=>ar ⟨rfl,λh2=>.inr (bg h2),λh2=>aQ (h2.resolve_left h)⟩) ?_;rintro⟨b,x⟩ ⟨e,M⟩;dsimp only at e M;subst e;refine aP (λh=>?_) λh=>?_
 .rw[aE (M.1 h)] at hb;have J:(aJ (T:=F9) w.2.1 i.2.1).2=aj:=by
   rw[hl];rcases hb with h|h<;>rw[h]<;>rfl
  have hi:0<=i.2.1/\i.2.1<(w.2.1.length:Int):=⟨by omega,by rw[hl];show i.2.1<3;omega⟩
  exact gu (aK (λ_=>aR hi.1 hi.2 (aS (ar (ar (by dsimp only;rw[J];rfl))))) λh=>(h hi).elim)
 rw[aB λh2=>by rw[M.2 h2] at h;cases h] at hb;have hj:∀ {p:Prop} {b:Bool},(b=ai->p)->(p->b=ai)->b=aj->¬p:=λ_ h2 U I=>by rw[h2 I] at U;cases U
 refine aY (λx=>x.2=(w,i)/\(x.1=ai->13<=i.1/\i.1<=16)/\(13<=i.1/\i.1<=16->x.1=ai)) (aK (λh=>ar ⟨rfl,λ_=>by first|omega|(dsimp only at h;omega),λ_=>aQ h⟩) λ_=>aK (λh=>ar ⟨rfl,λ_=>by first|omega|(dsimp only at h;omega),λ_=>aQ h⟩) λ_=>aK (λh=>ar ⟨rfl,λ_=>by first|omega|(dsimp only at h;omega),λ_=>aQ h⟩) λ_=>ar ⟨rfl,λh=>by have:=bg h;first|omega|(dsimp only at this;omega),λh=>aQ (by first|omega|(dsimp only at *;omega))⟩) ?_;rintro⟨b,x⟩ ⟨e,h1,h2⟩;dsimp only at e h1 h2;subst e;refine aP (λh=>?_) λh=>?_
 .rw[aE (h1 h)] at hb;have hi:0<=i.2.1/\i.2.1<(w.2.1.length:Int):=⟨by omega,by rw[hl];show i.2.1<3;omega⟩
  exact gu (aK (λ_=>aR hi.1 hi.2 (aS (ar (ar (by dsimp only;rw[hb,hl];rfl))))) λh=>(h hi).elim)
 rw[aB (hj h1 h2 h)] at hb;refine aY (λx=>x.2=(w,i)/\(x.1=ai->21<=i.1/\i.1<=23)/\(21<=i.1/\i.1<=23->x.1=ai)) (aK (λh=>ar ⟨rfl,λ_=>by first|omega|(dsimp only at h;omega),λ_=>aQ h⟩) λ_=>aK (λh=>ar ⟨rfl,λ_=>by first|omega|(dsimp only at h;omega),λ_=>aQ h⟩) λ_=>ar ⟨rfl,λh=>by have:=bg h;first|omega|(dsimp only at this;omega),λh=>aQ (by first|omega|(dsimp only at *;omega))⟩) ?_;rintro⟨b,x⟩ ⟨e,h1,h2⟩;dsimp only at e h1 h2;subst e;refine aP (λh=>?_) λh=>?_
 .rw[aE (h1 h)] at hb;exact ar (aQ ⟨by dsimp only;omega,by dsimp only;rw[hd];show i.2.1<1;omega⟩)
 rw[aB (hj h1 h2 h)] at hb;refine aY (λx=>x.2=(w,i)/\(x.1=ai->i.1=24\/i.1=25)/\(i.1=24\/i.1=25->x.1=ai)) (aK (λh=>ar ⟨rfl,λ_=>.inl h,λ_=>aQ h⟩) λh=>ar ⟨rfl,λh2=>.inr (bg h2),λh2=>aQ (h2.resolve_left h)⟩) ?_;rintro⟨b,x⟩ ⟨e,h1,h2⟩;dsimp only at e h1 h2;subst e;refine aP (λh=>?_) λh=>?_
 .rw[aE (h1 h)] at hb;exact ar (aQ ⟨hb.1,by dsimp only;rw[hT];exact hb.2⟩)
 rw[aB (hj h1 h2 h)] at hb;refine aK (λh=>?_) λn=>?_
 .rw[aE h] at hb;exact ar (aQ ⟨by dsimp only;omega,by dsimp only;rw[hf];show i.2.1<1;omega⟩)
 rw[aB n] at hb;refine aK (λh=>?_) λn=>?_
 .rw[aE h] at hb;exact ar (aQ ⟨by dsimp only;omega,by dsimp only;rw[hf];show i.2.2.1<1;omega⟩)
 rw[aB n] at hb;by_cases I:i.1=4
 .rw[aE I] at hb;refine aK (λh=>by have h:i.1=3:=h;omega) λ_=>aK (λ_=>?_) λh=>(h I).elim
  refine gu (fo (λ_=>ar (ar (Nq.2 hb.2))) λh=>by dsimp only at h;omega)
 .rw[aB I] at hb;exact aK (λh=>(hb h).elim) λ_=>aK (λh=>(I h).elim) λ_=>ar rfl
structure GC (nT:Nat) (ss:List (Int×Int×Int)) (k:Int) (c:Int×List IT):Prop where
 r0:1<=c.1
 r1:c.1<=32
 n:1<=c.2.length
 u:c.2.length<=1000000
 e:(iA c.2 (c.2.length-1)).1=28/\(iA c.2 (c.2.length-1)).2.2.2.2.2= -1
 b:qG c.2 0 (c.2.length-1)
 i:∀ q:Nat,q<c.2.length-1->GI nT ss k (iA c.2 q)
 r:∀ q:Nat,q<c.2.length-1->(iA c.2 q).1=10->0<=(iA c.2 q).2.2.1/\(iA c.2 q).2.2.1<(c.2.length:Int)
 g:∀ q:Nat,q<c.2.length-1->∀ j:Int,j∈iM (iA c.2 q)->j<c.1
theorem DH {nT:Nat} {w:WT} {k:Int} {c:Int×List IT} (hw:WX w) (hT:w.2.2.2.2.1.length=nT) (hc:GC nT w.2.2.2.2.2 k c):ik (w,k,c)=af ai:=by
 obtain⟨r0,r1,n1,hu,he,hb,hi,hr,hg⟩:=hc;refine cD ?_;unfold ik aX bl bw cz bL cS pN bf bz iT bK aZ cP aF cF;refine aY (λx=>x.2=(w,c)/\x.1=aj) ?_ ?_
 .refine bI (λh=>by have h:c.1<0:=h;omega) λ_=>bI (λh=>by have h:32<c.1:=h;omega) λ_=>ar ⟨rfl,bH λh=>by have h:aO c.2.length=0:=h;dsimp only[au] at h;omega⟩
 rintro⟨b,x⟩ ⟨e,Y⟩;dsimp only at e Y;subst e;subst Y;refine fU ?_;refine ci c.2.length (λi x=>x.1=(i:Int)/\x.2=(w,c)) ?_ ?_ ⟨rfl,rfl⟩
 .rintro i ⟨a,x⟩ hi2 ⟨e1,e2⟩;dsimp only at e1 e2;subst e1;subst e2;have hla:=Tc c.2 hu n1 hb he.1 i hi2;have Z:∀ z:IT,z=iA c.2 i->(i<c.2.length-1->GI nT w.2.2.2.2.2 k z/\(z.1=10->0<=z.2.2.1/\z.2.2.1<(c.2.length:Int))/\(z.1=5->0<=z.2.1/\z.2.1<(c.2.length:Int))/\∀ j:Int,j∈iM z->j<c.1)/\(i=c.2.length-1->z.1=28/\z.2.2.2.2.2= -1):=λz Z=>by
   subst Z;refine ⟨λh=>⟨hi i h,hr i h,λh5=>?_,hg i h⟩,λh=>by rw[h];exact he⟩;obtain⟨_,ρ,hρ⟩:=hb;obtain⟨q',e,hq'⟩:=(hρ i (jR _) h).2.2.1 h5;rw[e];omega
  refine dv ?_;refine cA (aS ?_);generalize hzz:(aJ (T:=Bc) c.2 (i:Int))=z;obtain⟨I,J⟩:=Z z hzz.symm;have hcs:i<c.2.length-1\/i=c.2.length-1:=by omega
  have o1:1<=z.1:=by
   rcases hcs with h|h
   .exact (I h).1.o.o1
   .rw[(J h).1];decide
  have o2:z.1<=28:=by
   rcases hcs with h|h
   .exact Int.le_trans (I h).1.o.o2 (by decide)
   .rw[(J h).1];decide
  have M:z.1=28->i=c.2.length-1:=λh=>hcs.resolve_left λg=>by have:=(I g).1.o.o2;rw[h] at this;exact cZ this (by decide)
  have hob:OB nT z:=by
   rcases hcs with h|h
   .exact (I h).1.o.b
   .unfold OB;rw[(J h).1];simp
  have hrg:∀ j:Int,j∈iM z->0<=j/\j<c.1:=λj hj=>by
   rcases hcs with h|h
   .exact⟨((I h).1.o.r j hj).1,(I h).2.2.2 j hj⟩
   .unfold iM at hj;rw[(J h).1] at hj;simp at hj
  have hwr:bm .i64 (aO c.2.length-1)=((c.2.length-1:Nat):Int):=by rw[ib (by dsimp only[au];omega) (by dsimp only[au];omega)];dsimp only[au];omega
  have hcd:((decide (z.1=28)==decide ((i:Int)=bm .i64 (aO c.2.length-1))) !=ai)=aj:=by
   rw[hwr];rcases hcs with h|h
   .rw[bH λh2=>by have:=M h2;omega,bH (by omega:¬(i:Int)=((c.2.length-1:Nat):Int))];rfl
   .rw[aQ (J h).1,aQ (by omega:(i:Int)=((c.2.length-1:Nat):Int))];rfl
  refine aY (λx=>x=(aj,w,c,z)) ?_ ?_
  .refine bI (λh=>cZ h (BV.2 o1)) λ_=>bI (λh=>cZ h (BV.2 o2)) λ_=>fJ hcd ?_
   refine aV (Nc w z hw hT hob) (fJ rfl (aV hla (ar rfl)))
  rintro x rfl;refine fU (aY (λx=>x=(aj,w,c,z)) ?_ ?_)
  .simp only[rN,VB];refine aK (λh=>?_) λh=>?_
   .have h5:=(J (M h)).2;exact b8 (λg=>(g h5).elim) λ_=>b8 (λg=>(g h).elim) λ_=>ar rfl
   .have hsi:=(I (hcs.resolve_right λg=>h (J g).1)).1.s;refine b8 (λ_=>b8 (λg=>(g ⟨hsi.1,hsi.2.1⟩).elim) λg=>aR g.1 g.2 (aS (ar ?_))) λg=>(h g).elim
    rw[aQ hsi.2.2];rfl
  rintro x rfl;refine fU (aY (λx=>x=(aj,w,c,z)) ?_ ?_)
  .simp only[rN,VB];have U:z.1=5\/z.1=10->i<c.2.length-1:=λh=>hcs.resolve_right λg=>by rw[(J g).1] at h;exact cZ h (by decide)
   refine aK (λh=>?_) λh=>?_
   .have h2:=(I (U (.inl h))).2.2.1 h;refine b8 (λg=>(g h2).elim) λ_=>aK (λg=>?_) λ_=>ar rfl
    rw[h] at g;exact cZ g (by decide)
   .refine aK (λg=>ar ?_) λ_=>ar rfl
    have h2:=(I (U (.inr g))).2.1 g;rw[aQ (show 0<=z.2.2.1/\z.2.2.1<aO c.2.length from h2)];rfl
  rintro x rfl;refine fU (aV (tj z) ?_);have hrl:=Cf z;refine ci (iM z).length (λj x=>x=((j:Int),w,c)) ?_ ?_ rfl
  .rintro j x hj rfl;refine dv ?_;refine cA (aS ?_);refine aV (rN _ _) (b8 (λg=>(g (hrg _ (bG (T:=.int .i64) (xs:=iM z) (j:=(j:Int)) (by omega) (by omega)))).elim) λ_=>ar ?_);dsimp only;rw[gO (by omega)]
  .rintro x rfl;exact dc (ar ⟨gO (by omega),rfl⟩)
 .rintro⟨a,x⟩ ⟨e1,e2⟩;dsimp only at e1 e2;subst e1;subst e2;exact dc (ar rfl)
abbrev GN:Type:=List (List UInt8×Int×Int×Bool×Int)×List (List UInt8×Bool)×List (List UInt8×Int)×List (List UInt8)×List (List UInt8)×List (Int×Int×Int)×List (List UInt8)×Int×Int
theorem L8 (l:List (List UInt8×Bool)) (s:List UInt8) (hl:l.length<=1000):Ok (j_ (l,s)) λr=> -1<=r/\r<l.length/\(0<=r->(aJ (T:=F9) l r).1=s)/\(r<0->∀ c∈l,c.1≠s):=by
 unfold j_ bz bK aZ cP aF cF;refine ci l.length (λi x=>x=(i:Int)/\∀ k:Nat,k<i->(aJ (T:=F9) l (k:Int)).1≠s) ?_ ?_ ⟨rfl,λk hk=>by omega⟩
 .rintro i x hi ⟨rfl,I⟩;refine dv ?_;refine cA (aS ?_);refine aK (λh=>ar ⟨by omega,by omega,λ_=>h,λh=>by omega⟩) λh=>ar ⟨gO (by omega),λk hk=>?_⟩
  rcases bZ k i with h1|h1
  .exact I k h1
  .rw[show k=i by omega];exact h
 .rintro x ⟨rfl,I⟩;exact dc (ar ⟨by omega,by omega,λh=>by omega,λ_=>io (T:=F9) (p:=λc=>c.1≠s) I⟩)
theorem af5 {r:Int} {s:List UInt8} (h: -1<=r/\r<F5.length/\(0<=r->(aJ (T:=F9) F5 r).1=s)/\(r<0->∀ c∈F5,c.1≠s)):(s=[109]->r=0)/\(s=[110]->r=1)/\(s=[114]->r=2):=by
 obtain⟨h0,h1,h2,I⟩:=h;have h1:r<3:=h1;rcases (by omega:r= -1\/r=0\/r=1\/r=2) with rfl|rfl|rfl|rfl
 .have I:=I (by decide);exact⟨λh=>(I ([109],aj) (by decide) h.symm).elim,λh=>(I ([110],aj) (by decide) h.symm).elim,λh=>(I ([114],ai) (by decide) h.symm).elim⟩
 .have h2:[109]=s:=h2 (by decide);subst h2;exact⟨λ_=>rfl,λh=>(by cases h),λh=>(by cases h)⟩
 .have h2:[110]=s:=h2 (by decide);subst h2;exact⟨λh=>(by cases h),λ_=>rfl,λh=>(by cases h)⟩
 .have h2:[114]=s:=h2 (by decide);subst h2;exact⟨λh=>(by cases h),λh=>(by cases h),λ_=>rfl⟩
theorem zX (w:WT) (s:List UInt8) (J:w.1=C0):Ok (li (w,s)) λr=>(s∈NV->s∉L0->0<=r/\r<=2)/\(s=[113]->r=3):=by
 have hl:w.1.length=5:=by rw[J];rfl
 unfold li bz bK aZ cP aF cF;refine ci w.1.length (λi x=>x.1=(i:Int)/\x.2=w/\∀ k:Nat,k<i->(aJ (T:=OQ) w.1 (k:Int)).1≠s) ?_ ?_ ⟨rfl,rfl,λk hk=>by omega⟩
 .rintro i ⟨a,x⟩ hi ⟨e1,e2,e3⟩;dsimp only at e1 e2 e3;subst e1;have e2:=e2.symm;subst e2;refine dv ?_;refine cA (aS ?_);refine aK (λh=>ar ?_) λg=>ar ?_
  .rw[J] at h e3;rw[hl] at hi;rcases (by omega:i=0\/i=1\/i=2\/i=3\/i=4) with rfl|rfl|rfl|rfl|rfl
   .have h:[120]=s:=h;subst h;exact⟨λ_ _=>⟨by dsimp only;omega,by dsimp only;omega⟩,λh=>(by cases h)⟩
   .have h:[121]=s:=h;subst h;exact⟨λ_ _=>⟨by dsimp only;omega,by dsimp only;omega⟩,λh=>(by cases h)⟩
   .have h:[118]=s:=h;subst h;exact⟨λ_ _=>⟨by dsimp only;omega,by dsimp only;omega⟩,λh=>(by cases h)⟩
   .have h:[113]=s:=h;subst h;exact⟨λh=>cZ h (by decide),λ_=>rfl⟩
   .have h:[113]=s:=h;exact (e3 3 (by omega) h).elim
  .refine ⟨gO (by omega),rfl,λk hk=>?_⟩;rcases bZ k i with h1|h1
   .exact e3 k h1
   .rw[show k=i by omega];exact g
 .rintro⟨a,x⟩ ⟨e1,e2,e3⟩;dsimp only at e1 e2 e3;subst e1;have e2:=e2.symm;subst e2;refine dc (ar ?_);have hn:=io (T:=OQ) (p:=λc=>c.1≠s) e3;rw[J] at hn;have a1:=hn ([120],0,0,aj,0) (by decide);have a2:=hn ([121],0,0,aj,1) (by decide);have a3:=hn ([118],0,0,ai,0) (by decide);have M:=hn ([113],0,2,aj,0) (by decide);refine ⟨λh I=>?_,λh=>(M h.symm).elim⟩;simp only[bi,cu,fY,L0] at h I;rcases h with rfl|rfl|rfl|rfl|rfl
  .exact (I (.inl rfl)).elim
  .exact (I (.inr rfl)).elim
  .exact (a1 rfl).elim
  .exact (a2 rfl).elim
  .exact (a3 rfl).elim
theorem HI (i:IT) (g:GN) (out:List IT) (h:out.length<=100000000):Ok (cB (i,g,out)) λy=>y.1=g/\y.2=out++[(i.1,i.2.1,i.2.2.1,i.2.2.2.1,i.2.2.2.2.1,g.2.2.2.2.2.2.2.1)]:=by
 unfold cB aX bl bw kz bF;exact bn (by simp;omega) (by omega) (ar ⟨rfl,rfl⟩)
def VE:Nat->Nat
 |0=>0
 |d+1=>1+2*VE d
theorem Ig {l m:List IT} {k:Nat} (h:k<l.length):iA (l++m) k=iA l k:=by
 unfold iA;rw[ya,ya,ay,ay,bO h]
theorem w9 (l:List IT) (x:IT):iA (l++[x]) l.length=x:=by
 unfold iA;rw[ya,ay,b7 (bT _)];simp
structure QC (nT:Nat) (ss:List (Int×Int×Int)) (t:Int) (n:Nat) (out o:List IT):Prop where
 l:out.length<=o.length
 u:o.length<=out.length+n
 p:∀ k:Nat,k<out.length->iA o k=iA out k
 b:qG o out.length o.length
 i:∀ k:Nat,out.length<=k->k<o.length->GI nT ss t (iA o k)
 r:∀ k:Nat,out.length<=k->k<o.length->(iA o k).1=10->0<=(iA o k).2.2.1/\(iA o k).2.2.1<=(o.length:Int)
variable {nT:Nat} {ss:List (Int×Int×Int)} {t:Int}
theorem QC.nil (n:Nat) (out:List IT):QC nT ss t n out out:=⟨bT _,by omega,λ_ _=>rfl,qG.nil _ _,λk h1 h2=>by omega,λk h1 h2=>by omega⟩
theorem QC.trans {a b c:Nat} {x y z:List IT} (h:QC nT ss t a x y) (k:QC nT ss t b y z) (hc:a+b<=c):QC nT ss t c x z:=by
 obtain⟨h1,h2,h3,h4,h5,h6⟩:=h;obtain⟨k1,k2,I,k4,Z,Y⟩:=k;refine ⟨by omega,by omega,λq hq=>(I q (by omega)).trans (h3 q hq),(h4.congr λq _ hq=>I q hq).app k4,λq U M=>?_,λq U M J=>?_⟩
 .by_cases hq:q<y.length
  .rw[I q hq];exact h5 q U hq
  .exact Z q (by omega) M
 .by_cases hq:q<y.length
  .rw[I q hq] at J ⊢;have:=h6 q U hq J;omega
  .exact Y q (by omega) M J
theorem QC.one {out:List IT} {i:IT} (h:GI nT ss t i) (I:¬i.1=5/\¬i.1=10):QC nT ss t 1 out (out++[i]):=by
 have hl:(out++[i]).length=out.length+1:=by rw[bt];rfl
 refine ⟨by omega,by omega,λk hk=>Ig hk,?_,λk h1 h2=>?_,λk h1 h2 J=>?_⟩
 .rw[hl];exact qG.one (by rw[w9];exact I.1)
 .rw[show k=out.length by omega,w9];exact h
 .rw[show k=out.length by omega,w9] at J;exact (I.2 J).elim
structure GK (ss:List (Int×Int×Int)) (t:Int) (g:GN):Prop where
 c:g.1=C0
 l:g.2.2.2.2.2.2.1=L0
 s:SO ss t g.2.2.2.2.2.2.2.1
theorem Xj {nT:Nat} {op A B C N Z:Int} (h1:1<=op) (h2:op<=27) (hr:∀ j:Int,j∈iM (op,A,B,C,N,Z)->0<=j/\j<32) (hb:OB nT (op,A,B,C,N,Z)):GO nT (op,A,B,C,N,Z):=⟨h1,h2,hr,hb⟩
theorem DN {op:Int} {r:Int×Int×Int×Int×Int} {g:GN} {out:List IT} (h:out.length<=100000000) (hg:GK ss t g) (hi:GO nT (op,r)) (J:¬op=5/\¬op=10):Ok (cB ((op,r),g,out)) λy=>y.1=g/\QC nT ss t 1 out y.2:=(HI (op,r) g out h).mono λy I=>⟨I.1,by rw[I.2];exact QC.one ⟨⟨hi.o1,hi.o2,hi.r,hi.b⟩,hg.s⟩ J⟩
theorem Mf:∀ (n d:Nat),d<n->∀ (e:Xp) (k:Int) (g:GN) (out:List IT),GE d e->GK ss t g->0<=k->k+d<=31->out.length+VE d<=100000000->Ok (iH n ((e,k),g,out)) λy=>y.1=g/\QC nT ss t (VE d) out y.2
 |0,_,h,_,_,_,_,_,_,_,_,_=>by omega
 |n+1,0,_,e,_,_,_,h,_,_,_,_=>h.elim
 |n+1,d+1,hn,e,k,g,out,h,hg,k0,k1,hb=>by
  obtain⟨h1,h2,h3,h4,h5,h6⟩:=h;obtain⟨gc,gl,gs⟩:=id hg;have hv:VE (d+1)=1+2*VE d:=rfl;rw[Ai];unfold qm aX bl bw cz ef bf jz bF bK aF cF;refine aY (λy=>y.1=g/\QC nT ss t (VE (d+1)) out y.2) ?_ λx hx=>ar hx
  have fin:∀ {y:GN×List IT},(y.1=g/\QC nT ss t 1 out y.2)->y.1=g/\QC nT ss t (VE (d+1)) out y.2:=λh=>⟨h.1,(QC.nil 0 out).trans h.2 (by omega)⟩
  refine aK (λ_=>?_) λn1=>?_
  .refine ax (DN (nT:=nT) (by omega) hg (Xj (by decide) (by decide) (by simp[iM];omega) ((by decide:¬(1:Int)=3))) (by decide)) λy I=>be (by simp) (ar (fin I))
  refine aK (λZ=>?_) λZ=>?_
  .refine ax (xY _ _ (by dsimp only;rw[gl];decide)) λv hv=>fo (λg0=>?_) λg0=>?_
   .have J:=hv.2.1;dsimp only at J g0;rw[gl] at J;have J:v<2:=J;refine ax (DN (nT:=nT) (by omega) hg (Xj (by decide) (by decide) (by simp[iM];omega) ((by decide:¬(2:Int)=3))) (by decide)) λy I=>be (by simp) (ar (fin I))
   .have J:=hv.2.2.2 g0;dsimp only at J;rw[gl] at J;refine ax (zX _ _ gc) λv Y=>?_
    have v2:=Y.1 (h5 Z) J;refine ax (DN (nT:=nT) (by omega) hg (Xj (by decide) (by decide) (by simp[iM];omega) (v2)) (by decide)) λy I=>be (by simp) (ar (fin I))
  have hl:=h2 n1 Z;have hrec:∀ (j:Nat),j<e.l.length->∀ (k':Int) (o:List IT),0<=k'->k'+d<=31->o.length+VE d<=100000000->Ok (iH n ((aJ (T:=.ex) e.l (j:Int),k'),g,o)) λy=>y.1=g/\QC nT ss t (VE d) o y.2:=λj hj k' o q0 U ho=>Mf n d (by omega) _ k' g o (h4 _ (bG (T:=.ex) (xs:=e.l) (j:=(j:Int)) (by omega) (by omega))) hg q0 U ho
  refine aK (λn3=>?_) λn3=>?_
  .refine cA (aS ?_);refine ax (hrec 0 hl k out k0 (by omega) (by omega)) λy I=>?_
   obtain⟨g2,o2⟩:=y;obtain⟨U,M⟩:=I;dsimp only at U M;subst U;have q3:=M.u;refine be (by simp) ?_;refine ax (zX _ _ gc) λv Y=>?_
   have v3:=Y.2 (h1 n3);have v3:v=3:=v3;subst v3;refine aR (by decide) (by dsimp only;rw[gc];decide) (aS ?_);refine ax (DN (nT:=nT) (by omega) hg (Xj (by decide) (by decide) (by simp[iM];omega) (⟨rfl,by dsimp only;rw[gc];rfl⟩)) (by decide)) λy I=>be (by simp) (ar ⟨I.1,M.trans I.2 (by omega)⟩)
  obtain⟨h7,h8,h9⟩:=h6 n1 Z n3;refine aK (λn4=>?_) λn4=>?_
  .dsimp only[au] at n4;omega
  .have hl2:1<e.l.length:=by omega
   refine cA (aS ?_);refine ax (hrec 0 hl k out k0 (by omega) (by omega)) λy I=>?_
   obtain⟨g2,o2⟩:=y;obtain⟨U,M⟩:=I;dsimp only at U M;subst U;have q3:=M.u;refine be (by simp) ?_;refine cA (aS ?_);dsimp only;rw[ib (n:=k+1) (by omega) (by omega)];refine ax (hrec 1 hl2 _ o2 (by omega) (by omega) (by omega)) λy I=>?_
   obtain⟨g3,o3⟩:=y;obtain⟨r1,r2⟩:=I;dsimp only at r1 r2;subst r1;have r3:=r2.u;refine be (by simp) ?_;refine ax (DN (nT:=nT) (by omega) hg (Xj (by decide) (by decide) (by simp[iM];omega) (⟨h8,h9⟩)) (by decide)) λy I=>be (by simp) (ar ⟨I.1,(M.trans r2 (bT _)).trans I.2 (by omega)⟩)
theorem St (e:Xp) (k:Int) (g:GN) (out:List IT) (he:GE 4 e) (hg:GK ss t g) (I:0<=k) (k1:k<=27) (h:out.length<=99999900):Ok (iG ((e,k),g,out)) λy=>y.1=g/\QC nT ss t 15 out y.2:=Mf fuel 4 (by rw[jO];omega) e k g out he hg I (by omega) (by have:VE 4=15:=rfl;omega)
structure GB (nT:Nat) (g:GN):Prop where
 c:g.1=C0
 l:g.2.1=F5
 d:g.2.2.1=LK
 f:g.2.2.2.1=R7
 t:g.2.2.2.2.1=vE.take nT
 h:g.2.2.2.2.2.2.1=L0
structure GQ (g y:GN):Prop where
 a:y.1=g.1
 b:y.2.1=g.2.1
 c:y.2.2.1=g.2.2.1
 d:y.2.2.2.1=g.2.2.2.1
 e:y.2.2.2.2.1=g.2.2.2.2.1
 h:y.2.2.2.2.2.2.1=g.2.2.2.2.2.2.1
theorem GQ.refl (g:GN):GQ g g:=⟨rfl,rfl,rfl,rfl,rfl,rfl⟩
theorem GQ.trans {a b c:GN} (h:GQ a b) (k:GQ b c):GQ a c:=⟨k.a.trans h.a,k.b.trans h.b,k.c.trans h.c,k.d.trans h.d,k.e.trans h.e,k.h.trans h.h⟩
variable {nT:Nat} {ss:List (Int×Int×Int)} {t:Int}
theorem GB.of {g y:GN} (h:GB nT g) (q:GQ g y):GB nT y:=⟨q.a.trans h.c,q.b.trans h.l,q.c.trans h.d,q.d.trans h.f,q.e.trans h.t,q.h.trans h.h⟩
theorem GQ.site (g:GN) (x:List (Int×Int×Int)) (a b:Int):GQ g (g.1,g.2.1,g.2.2.1,g.2.2.2.1,g.2.2.2.2.1,x,g.2.2.2.2.2.2.1,a,b):=⟨rfl,rfl,rfl,rfl,rfl,rfl⟩
abbrev gS (g:GN):Int:=g.2.2.2.2.2.2.2.1
abbrev gN (g:GN):Int:=g.2.2.2.2.2.2.2.2
structure QG (nT:Nat) (ss:List (Int×Int×Int)) (t:Int) (n m:Nat) (g:GN) (out:List IT) (y:GN×List IT):Prop where
 q:GQ g y.1
 c:QC nT ss t n out y.2
 x:gN y.1=gN g+(m:Int)
theorem wT {op:Int} {r:Int×Int×Int×Int×Int} {g:GN} {out:List IT} (h:out.length<=100000000) (hg:GB nT g) (hs:SO ss t (gS g)) (hi:GO nT (op,r)) (I:¬op=5/\¬op=10):Ok (cB ((op,r),g,out)) λy=>y.1=g/\QC nT ss t 1 out y.2:=DN h ⟨hg.c,hg.h,hs⟩ hi I
theorem B5 (e:Xp) (k:Int) (g:GN) (out:List IT) (he:GE 4 e) (hg:GB nT g) (hs:SO ss t (gS g)) (I:0<=k) (k1:k<=27) (h:out.length<=99999000):Ok (iG ((e,k),g,out)) λy=>y.1=g/\QC nT ss t 15 out y.2:=St e k g out he ⟨hg.c,hg.h,hs⟩ I k1 (by omega)
theorem GB.len {g:GN} (h:GB nT g):aO (al g.2.2.2.2.2.2.1)=2:=by rw[h.h];rfl
theorem UV (s:Sx) (g:GN) (out:List IT) (h1:s.index≠[]->s.name=[113]) (h2:∀ e∈s.index,GE 4 e) (h3:GE 4 s.expr) (h4:s.index=[]->s.name∈NV) (hg:GB nT g) (hs:SO ss t (gS g)) (h:out.length<=99990000):Ok (lQ (s,g,out)) λy=>y.1=g/\QC nT ss t 40 out y.2:=by
 have hex:GE 4 (dW (Xp.op s.expr,Xp.n s.expr,Xp.name s.expr,Xp.l s.expr)):=by rw[e_];exact h3
 have e3:bm .i64 ((2:Int)+1)=3:=ib (by decide) (by decide);unfold lQ aX bl bw cz ef bz jz bF bK aZ;refine bI (λJ=>?_) λJ=>?_
 .dsimp only[au] at J;refine cA (aS ?_);refine ax (B5 _ _ g out (h2 _ (bG (T:=.ex) (xs:=s.index) (j:=0) (by omega) (by omega))) hg hs (by rw[hg.len];decide) (by rw[hg.len];decide) (by omega)) λy I=>?_
  obtain⟨g2,o2⟩:=y;obtain⟨Y,U⟩:=I;dsimp only at Y U;subst Y;have q3:=U.u;refine be (by simp) ?_;dsimp only;rw[hg.len,e3];refine ax (B5 _ _ g2 o2 hex hg hs (by decide) (by decide) (by omega)) λy I=>?_
  obtain⟨g3,o3⟩:=y;obtain⟨r1,r2⟩:=I;dsimp only at r1 r2;subst r1;have r3:=r2.u;refine be (by simp) ?_;refine ax (zX _ _ hg.c) λv hv=>?_
  have Z:=hv.2 (h1 (λh=>by rw[h] at J;simp at J));have Z:v=3:=Z;subst Z;refine aR (by decide) (by dsimp only;rw[hg.c];decide) (aS ?_);refine ax (wT (by omega) hg hs (Xj (by decide) (by decide) (by simp[iM,hg.h,L0]) (⟨rfl,by dsimp only;rw[hg.c];rfl⟩)) (by decide)) λy I=>be (by simp) (ar ⟨I.1,(U.trans r2 (bT _)).trans I.2 (by omega)⟩)
 .have hi0:s.index=[]:=gF.1 (by dsimp only[au] at J;omega);refine ax (B5 _ _ g out hex hg hs (by rw[hg.len];decide) (by rw[hg.len];decide) (by omega)) λy I=>?_
  obtain⟨g2,o2⟩:=y;obtain⟨Y,U⟩:=I;dsimp only at Y U;subst Y;have q3:=U.u;refine be (by simp) ?_;refine ax (xY _ _ (by dsimp only;rw[hg.h];decide)) λv hv=>fo (λJ=>?_) λJ=>?_
  .have M:=hv.2.1;dsimp only at M J;rw[hg.h] at M;have M:v<2:=M;refine ax (wT (by omega) hg hs (Xj (by decide) (by decide) (by simp[iM,hg.h,L0];omega) ((by decide:¬(2:Int)=3))) (by decide)) λy I=>be (by simp) (ar ⟨I.1,U.trans I.2 (by omega)⟩)
  .have M:=hv.2.2.2 J;dsimp only at M;rw[hg.h] at M;refine ax (zX _ _ hg.c) λv hv2=>?_
   have v2:=hv2.1 (h4 hi0) M;refine ax (wT (by omega) hg hs (Xj (by decide) (by decide) (by simp[iM,hg.h,L0]) (v2)) (by decide)) λy I=>be (by simp) (ar ⟨I.1,U.trans I.2 (by omega)⟩)
theorem Z3 (s:List UInt8) (g:GN) (out:List IT) (hg:GB nT g):Ok (jq (s,g,out)) λy=>y.2=(g,out)/\(s=[99]->y.1=0):=by
 have hd:g.2.2.1.length=1:=by rw[hg.d];rfl
 unfold jq aX bz bK aZ cP aF cF;refine ci 1 (λi x=>x.1=(i:Int)/\x.2=(g,out)/\(s=[99]->i=0)) ?_ ?_ ⟨rfl,rfl,λ_=>rfl⟩
 .rintro i ⟨a,x⟩ hi ⟨e1,e2,e3⟩;dsimp only at e1 e2 e3;subst e1;subst e2;refine dv ?_;refine cA (aS ?_);refine aK (λ_=>ar ⟨rfl,λ_=>by dsimp only;omega⟩) λh=>ar ⟨gO (by omega),rfl,λh2=>?_⟩
  refine (h ?_).elim;dsimp only;rw[hg.d,show i=0 by omega,h2];rfl
 .rintro⟨a,x⟩ ⟨e1,e2,e3⟩;dsimp only at e1 e2 e3;subst e1;subst e2;exact dc (ar ⟨rfl,λh=>by have:=e3 h;omega⟩)
def ME:Nat->Nat
 |0=>0
 |d+1=>50+16*ME d
def SR (ss:List (Int×Int×Int)) (t a:Int) (m:Nat):Prop:=0<=a/\a+m<=1000/\∀ i:Int,a<=i->i<a+m->SO ss t i
def SpG (nT:Nat) (ss:List (Int×Int×Int)) (t:Int) (I:Sx×GN×List IT->Option (GN×List IT)) (d:Nat):Prop:=∀ (s:Sx) (g:GN) (out:List IT),GS nT d s->GB nT g->SR ss t (gN g) (OV d s)->out.length+ME d<=90000000->Ok (I (s,g,out)) (QG nT ss t (ME d) (OV d s) g out)
def aam (nT:Nat) (ss:List (Int×Int×Int)) (t:Int) (rs:List Sx×GN×List IT->Option (GN×List IT)) (d:Nat):Prop:=∀ (l:List Sx) (g:GN) (out:List IT),l.length<=100->(∀ s∈l,GS nT d s)->GB nT g->SR ss t (gN g) (ng d l)->out.length+l.length*ME d<=90000000->Ok (rs (l,g,out)) (QG nT ss t (l.length*ME d) (ng d l) g out)
abbrev FS6:Type:=List Sx×GN×List IT->Option (GN×List IT)
abbrev FT6:Type:=Sx×GN×List IT->Option (GN×List IT)
abbrev FA6:Type:=(Sx×Int×Int×Int)×GN×List IT->Option (GN×List IT)
variable {nT:Nat} {ss:List (Int×Int×Int)} {t:Int}
def ahj (nT:Nat) (ss:List (Int×Int×Int)) (t:Int) (I:FT6) (d:Nat):Prop:=∀ (s:Sx) (g:GN) (out:List IT),s.op=2\/s.op=3->GE 4 s.expr->s.body.length<=8->s.els.length<=8->(∀ x∈s.body,GS nT d x)->(∀ x∈s.els,GS nT d x)->(¬s.op=2->s.els=[])->GB nT g->SO ss t (gS g)->SR ss t (gN g) (ng d s.body+ng d s.els)->out.length+ME (d+1)<=90000000->Ok (I (s,g,out)) (QG nT ss t (17+16*ME d) (ng d s.body+ng d s.els) g out)
def ahk (nT:Nat) (ss:List (Int×Int×Int)) (t:Int) (ra:FA6) (d:Nat):Prop:=∀ (s:Sx) (a b c:Int) (g:GN) (out:List IT),s.body.length<=8->(∀ x∈s.body,GS nT d x)->GO nT (a,c,0,0,0,0)->GO nT (b,c,0,0,0,0)->¬a=5/\¬a=10->¬b=5/\¬b=10->GB nT g->SO ss t (gS g)->SR ss t (gN g) (ng d s.body)->out.length+ME (d+1)<=90000000->Ok (ra ((s,a,b,c),g,out)) (QG nT ss t (17+16*ME d) (ng d s.body) g out)
theorem SR.sub {a b:Int} {m n:Nat} (h:SR ss t a m) (h1:a<=b) (h2:b+n<=a+m):SR ss t b n:=⟨by have:=h.1;omega,by have:=h.2.1;omega,λi J I=>h.2.2 i (by omega) (by omega)⟩
theorem T2 (rs:FS6) (U:FT6) (Z:FT6) (ra:FA6) (d:Nat) (ht:SpG nT ss t U d):aam nT ss t (qn rs U Z ra) d:=by
 intro l g out hl hs hg hso hb;unfold qn bz bF bK aZ cP aF cF;refine ci l.length (λi x=>x.1=(i:Int)/\QG nT ss t (i*ME d) (ng d (l.take i)) g out x.2) ?_ ?_ ⟨rfl,GQ.refl g,QC.nil _ _,by simp[ng]⟩
 .rintro i ⟨a,Y,o2⟩ hi ⟨e1,J,I,q3⟩;dsimp only at e1 J I q3;subst e1;have hK:(i+1)*ME d<=l.length*ME d:=cG _ (by omega);have hKs:=iP i (ME d);rw[Nat.succ_eq_add_one] at hKs;have hp:=Oi (d:=d) l (i+1);rw[wB hi] at hp;have q4:=I.u;refine dv ?_;refine cA (aS ?_);refine ax (ht _ Y o2 (hs _ (bG (T:=.sm) (xs:=l) (j:=(i:Int)) (by omega) (by omega))) (hg.of J) (hso.sub (by rw[q3];omega) (by rw[q3];dsimp only;omega)) (by omega)) λy M=>be (by simp) (ar ?_)
  rw[wB hi];exact⟨gO (by omega),J.trans M.q,I.trans M.c (by omega),by rw[M.x,q3];dsimp only;omega⟩
 .rintro⟨a,Y,o2⟩ ⟨e1,q⟩;dsimp only at e1;subst e1;rw[cR] at q;exact dc (ar q)
theorem Ql (rs:FS6) (rt:FT6) (rb:FT6) (ra:FA6) (d:Nat) (hS:aam nT ss t rs d):ahk nT ss t (oR rs rt rb ra) d:=by
 intro s a b c g out h1 h2 ga gb na nb hg hs hso hb;have hm:ME (d+1)=50+16*ME d:=rfl;have kb:s.body.length*ME d<=8*ME d:=cG _ h1;unfold oR aX bl bw cz ef kz bL pN bF;refine ax (wT (by omega) hg hs ga na) λy I=>?_
 obtain⟨Z,o2⟩:=y;obtain⟨Y,J⟩:=I;dsimp only at Y J;subst Y;have q3:=J.u;refine be (by simp) ?_;refine ax (hS s.body Z o2 (by omega) h2 hg hso (by omega)) λy I=>?_
 obtain⟨M,o3⟩:=y;obtain⟨r1,r2,r3⟩:=I;dsimp only at r1 r2 r3;have r4:=r2.u;refine be (by simp) ?_;have U:=r1.trans (GQ.site M M.2.2.2.2.2.1 Z.2.2.2.2.2.2.2.1 M.2.2.2.2.2.2.2.2);refine ax (wT (by dsimp only;omega) (hg.of U) hs gb nb) λy I=>be (by simp) (ar ⟨?_,?_,?_⟩)
 .rw[I.1];exact U
 .exact (J.trans r2 (bT _)).trans I.2 (by omega)
 .rw[I.1];exact r3
theorem yJ {l:List IT} {j k:Nat} {x:IT} (h:j<l.length):iA (cO l (j:Int) x) k=if k=j then x else iA l k:=IA (T:=Bc) l j k x h
abbrev ptB (l:List IT) (j:Nat) (b:Int):List IT:=cO l (j:Int) ((iA l j).1,(iA l j).2.1,b,(iA l j).2.2.2.1,(iA l j).2.2.2.2.1,(iA l j).2.2.2.2.2)
abbrev ptA (l:List IT) (j:Nat) (a:Int):List IT:=cO l (j:Int) ((iA l j).1,a,(iA l j).2.2.1,(iA l j).2.2.2.1,(iA l j).2.2.2.2.1,(iA l j).2.2.2.2.2)
theorem GI.pb {i:IT} {b:Int} (h:GI nT ss t i) (h1:i.1=10):GI nT ss t (i.1,i.2.1,b,i.2.2.2.1,i.2.2.2.2.1,i.2.2.2.2.2):=by
 obtain⟨Z,Y,U,M,J,I⟩:=i;dsimp only at h1;subst h1;exact⟨⟨h.o.o1,h.o.o2,h.o.r,(by decide:¬(10:Int)=3)⟩,h.s⟩
theorem QC.cbr {n m:Nat} {out o1 o2 I:List IT} {br:IT} (h1:QC nT ss t n out o1) (h2:o2=o1++[br]) (hb:GI nT ss t br) (U:br.1=10) (M:QC nT ss t m o2 I) (F:List IT) (hl:I.length<=F.length) (Y:∀ k:Nat,k<I.length->¬k=o1.length->iA F k=iA I k) (hFb:∃ b:Int,(0<=b/\b<=(F.length:Int))/\iA F o1.length=(br.1,br.2.1,b,br.2.2.2.1,br.2.2.2.2.1,br.2.2.2.2.2)):(∀ k:Nat,k<out.length->iA F k=iA out k)/\qG F out.length o1.length/\(iA F o1.length).1=10/\qG F (o1.length+1) I.length/\(∀ k:Nat,out.length<=k->k<I.length->GI nT ss t (iA F k))/\∀ k:Nat,out.length<=k->k<I.length->(iA F k).1=10->0<=(iA F k).2.2.1/\(iA F k).2.2.1<=(F.length:Int):=by
 have l2:o2.length=o1.length+1:=by rw[h2,bt];rfl
 have l1:=h1.l;have l3:=M.l;have e1:∀ k:Nat,k<o1.length->iA F k=iA o1 k:=λk hk=>by rw[Y k (by omega) (by omega),M.p k (by omega),h2,Ig hk]
 obtain⟨b,hb0,eb⟩:=hFb;refine ⟨λk hk=>(e1 k (by omega)).trans (h1.p k hk),h1.b.congr λk _ hk=>e1 k hk,by rw[eb];exact U,?_,λk g1 J=>?_,λk g1 J Z=>?_⟩
 .have:=M.b;rw[l2] at this;exact this.congr λk g1 J=>Y k J (by omega)
 .rcases MU k o1.length with hk|hk|hk
  .rw[e1 k hk];exact h1.i k g1 hk
  .rw[hk,eb];exact hb.pb U
  .rw[Y k J (by omega)];exact M.i k (by omega) J
 .rcases MU k o1.length with hk|hk|hk
  .rw[e1 k hk] at Z ⊢;have:=h1.r k g1 hk Z;omega
  .rw[hk,eb];exact hb0
  .rw[Y k J (by omega)] at Z ⊢;have:=M.r k (by omega) J Z;omega
theorem La (rs:FS6) (rt:FT6) (rb:FT6) (ra:FA6) (d:Nat) (hS:aam nT ss t rs d):ahj nT ss t (ml rs rt rb ra) d:=by
 intro s g out hop he h1 h2 h3 h4 hel hg hs hso hb;have hm:ME (d+1)=50+16*ME d:=rfl;have kb:s.body.length*ME d<=8*ME d:=cG _ h1;have ke:s.els.length*ME d<=8*ME d:=cG _ h2;have hex:GE 4 (dW (Xp.op s.expr,Xp.n s.expr,Xp.name s.expr,Xp.l s.expr)):=by rw[e_];exact he
 unfold ml aX bl bw cz ef kz pN ck bf bF aZ;refine ax (B5 _ _ g out hex hg hs (by rw[hg.len];decide) (by rw[hg.len];decide) (by omega)) λy hy=>?_
 obtain⟨Y,o1⟩:=y;obtain⟨p1,p2⟩:=hy;dsimp only at p1 p2;subst p1;have p3:=p2.u;have p4:=p2.l;refine be (by simp) ?_;refine ax (HI _ Y o1 (by omega)) λy hy=>?_
 obtain⟨J,o2⟩:=y;obtain⟨q1,q2⟩:=hy;dsimp only at q1 q2;subst q1;rw[hg.len] at q2;have hbr:GI nT ss t ((10,2,0,0,0,J.2.2.2.2.2.2.2.1):IT):=⟨Xj (by decide) (by decide) (by simp[iM]) (by decide:¬(10:Int)=3),hs⟩
 have l2:o2.length=o1.length+1:=by rw[q2,bt];rfl
 refine be (by simp) ?_;refine ax (hS s.body J o2 (by omega) h3 hg (hso.sub (eX _) (by omega)) (by omega)) λy hy=>?_
 obtain⟨U,I⟩:=y;obtain⟨r1,r2,r3⟩:=hy;dsimp only at r1 r2 r3;have r4:=r2.u;have r5:=r2.l;have ebr:iA I o1.length=(10,2,0,0,0,J.2.2.2.2.2.2.2.1):=by rw[r2.p _ (by omega),q2,w9]
 refine be (by simp) ?_;have qs:=r1.trans (GQ.site U U.2.2.2.2.2.1 J.2.2.2.2.2.2.2.1 U.2.2.2.2.2.2.2.2);refine aK (λh3w=>?_) λh3w=>?_
 .have hels:ng d s.els=0:=by rw[hel (by have h3w:s.op=3:=h3w;omega)];rfl
  rw[hels,c8];refine ax (HI _ _ I (by omega)) λy hy=>?_
  obtain⟨g4,M⟩:=y;obtain⟨w1,w2⟩:=hy;dsimp only at w1 w2;have l4:M.length=I.length+1:=by rw[w2,bt];rfl
  refine be (by simp) (aR (ey _) (by dsimp only[au];omega) (aR (ey _) (by dsimp only[au];omega) (ar ?_)));have hat:o1.length<M.length:=by omega
  have ej:iA M I.length=(5,(out.length:Int),0,0,0,J.2.2.2.2.2.2.2.1):=by rw[w2,w9];rfl
  have e43:∀ k:Nat,k<I.length->iA M k=iA I k:=λk hk=>by rw[w2,Ig hk]
  refine ⟨by dsimp only;rw[w1];exact qs,?_,by dsimp only;rw[w1];exact r3⟩;dsimp only;have eF:∀ {z:IT} {k:Nat},¬k=o1.length->iA (cO M ((o1.length:Nat):Int) z) k=iA M k:=λh=>by rw[yJ hat,aB h]
  obtain⟨f1,f2,f3,f4,f5,f6⟩:=p2.cbr q2 hbr rfl r2 (ptB M o1.length (aO M.length)) (by rw[bV];omega) (λk hk hn=>(eF hn).trans (e43 k hk)) ⟨_,⟨ey _,by rw[bV];exact eX _⟩,by rw[yJ hat,aE rfl,e43 _ (by omega),ebr];rfl⟩;show QC nT ss t _ out (ptB M o1.length (aO M.length));have ejF:iA (ptB M o1.length (aO M.length)) I.length=(5,(out.length:Int),0,0,0,J.2.2.2.2.2.2.2.1):=(eF (by omega:¬I.length=o1.length)).trans ej;refine ⟨by rw[bV];omega,by rw[bV];omega,f1,?_,λk Y J=>?_,λk Y J U=>?_⟩
  .rw[(bV _ _ _).trans l4];exact f2.whl f3 f4 (by rw[ejF]) (by rw[ejF])
  .rw[bV,l4] at J;by_cases hk:k<I.length
   .exact f5 k Y hk
   .rw[show k=I.length by omega,ejF];exact⟨Xj (by decide) (by decide) (by simp[iM]) (by decide:¬(5:Int)=3),hs⟩
  .have g2':=J;rw[bV,l4] at g2';by_cases hk:k<I.length
   .exact f6 k Y hk U
   .rw[show k=I.length by omega,ejF] at U;cases U
 refine aK (λhz=>?_) λ_=>?_
 .have hels:ng d s.els=0:=by rw[gF.1 (by dsimp only[au] at hz;omega:s.els.length=0)];rfl
  rw[hels,c8];refine aR (ey _) (by dsimp only[au];omega) (aR (ey _) (by dsimp only[au];omega) (ar ⟨qs,?_,r3⟩));dsimp only;have hat:o1.length<I.length:=by omega
  obtain⟨f1,f2,f3,f4,f5,f6⟩:=p2.cbr q2 hbr rfl r2 (ptB I o1.length (aO I.length)) (by rw[bV];omega) (λk hk hn=>by rw[yJ hat,aB hn]) ⟨_,⟨ey _,by rw[bV];exact eX _⟩,by rw[yJ hat,aE rfl,ebr];rfl⟩;show QC nT ss t _ out (ptB I o1.length (aO I.length));refine ⟨by rw[bV];omega,by rw[bV];omega,f1,?_,λk Y J=>?_,λk Y J U=>?_⟩
  .rw[bV];exact (f2.app (qG.one (by rw[f3];decide))).app f4
  .rw[bV] at J;exact f5 k Y J
  .exact f6 k Y (by rw[bV] at J;exact J) U
 .refine ax (HI _ _ I (by omega)) λy hy=>?_
  obtain⟨g4,M⟩:=y;obtain⟨w1,w2⟩:=hy;dsimp only at w1 w2;have l4:M.length=I.length+1:=by rw[w2,bt];rfl
  have qs4:GQ J g4:=by rw[w1];exact qs
  have x4:gN g4=gN J+(ng d s.body:Nat):=by rw[w1];exact r3
  have hat:o1.length<M.length:=by omega
  have ej:iA M I.length=(5,0,0,0,0,J.2.2.2.2.2.2.2.1):=by rw[w2,w9]
  have e43:∀ k:Nat,k<I.length->iA M k=iA I k:=λk hk=>by rw[w2,Ig hk]
  refine be (by simp) (aR (ey _) (by dsimp only[au];omega) (aR (ey _) (by dsimp only[au];omega) ?_));have eF:∀ {z:IT} {k:Nat},¬k=o1.length->iA (cO M ((o1.length:Nat):Int) z) k=iA M k:=λh=>by rw[yJ hat,aB h]
  refine ax (hS s.els g4 (ptB M o1.length (aO M.length)) (by omega) h4 (hg.of qs4) (hso.sub (by rw[x4];omega) (by rw[x4];omega)) (by rw[bV];omega)) λy hy=>?_
  obtain⟨g5,Z⟩:=y;obtain⟨z1,z2,z3⟩:=hy;dsimp only at z1 z2 z3;have z4:=z2.l;have z5:=z2.u;have zp:=z2.p;have zb:=z2.b;have zi:=z2.i;have zr:=z2.r;rw[bV] at z4 z5 zp zb zi zr;have hj5:I.length<Z.length:=by omega
  refine be (by simp) (aR (ey _) (by dsimp only[au];omega) (aR (ey _) (by dsimp only[au];omega) (ar ⟨qs4.trans z1,?_,by dsimp only;rw[z3,x4];omega⟩)));dsimp only;show QC nT ss t _ out (ptA Z I.length (aO Z.length));have eG:∀ {z:IT} {k:Nat},¬k=I.length->iA (cO Z ((I.length:Nat):Int) z) k=iA Z k:=λh=>by rw[yJ hj5,aB h]
  have ej5:iA Z I.length=(5,0,0,0,0,J.2.2.2.2.2.2.2.1):=by rw[zp _ (by omega),eF (by omega),ej]
  obtain⟨f1,f2,f3,f4,f5,f6⟩:=p2.cbr q2 hbr rfl r2 (ptA Z I.length (aO Z.length)) (by rw[bV];omega) (λk hk hn=>by rw[eG (by omega),zp k (by omega),eF hn,e43 k hk]) ⟨aO M.length,⟨ey _,by rw[bV];dsimp only[au];omega⟩,by rw[eG (by omega),zp _ (by omega),yJ hat,aE rfl,e43 _ (by omega),ebr]⟩;have ejF:iA (ptA Z I.length (aO Z.length)) I.length=(5,aO Z.length,0,0,0,J.2.2.2.2.2.2.2.1):=by rw[yJ hj5,aE rfl,ej5]
  refine ⟨by rw[bV];omega,by rw[bV];omega,f1,?_,λk Y J=>?_,λk Y J U=>?_⟩
  .rw[bV];refine ((f2.app (qG.one (by rw[f3];decide))).app f4).ite (by rw[ejF]) (by rw[ejF];rfl) ?_;rw[l4] at zb;exact zb.congr λk Y J=>eG (by omega)
  .rw[bV] at J;rcases MU k I.length with hk|hk|hk
   .exact f5 k Y hk
   .rw[hk,ejF];exact⟨Xj (by decide) (by decide) (by simp[iM]) (by decide:¬(5:Int)=3),hs⟩
   .rw[eG (by omega)];exact zi k (by omega) J
  .have g2':=J;rw[bV] at g2';rcases MU k I.length with hk|hk|hk
   .exact f6 k Y hk U
   .rw[hk,ejF] at U;cases U
   .rw[eG (by omega)] at U ⊢;rw[bV];exact zr k (by omega) g2' U
theorem Xi (rs:FS6) (rt:FT6) (rb:FT6) (ra:FA6) (d:Nat) (hB:ahj nT ss t rb d) (hA:ahk nT ss t ra d):SpG nT ss t (rP rs rt rb ra) (d+1):=by
 intro s g out hs hg hso hb;have hm:ME (d+1)=50+16*ME d:=rfl;obtain⟨i1,i2,i3,i4,i5,i6,i7,i8,i9,Y⟩:=hs;have hcn:OV (d+1) s=1+ng d s.body+ng d s.els:=rfl;rw[hcn] at hso ⊢;obtain⟨so0,so1,so2⟩:=id hso;have so0:0<=g.2.2.2.2.2.2.2.2:=so0;have so1:g.2.2.2.2.2.2.2.2+((1+ng d s.body+ng d s.els:Nat):Int)<=1000:=so1;have ew:bm .i64 (g.2.2.2.2.2.2.2.2+1)=g.2.2.2.2.2.2.2.2+1:=ib (by omega) (by omega);have gs:=GQ.site g g.2.2.2.2.2.1 g.2.2.2.2.2.2.2.2 (bm .i64 (g.2.2.2.2.2.2.2.2+1));unfold rP aX bl bw cz ef bL pN bf bF aZ aF cF dZ;refine aY (λx=>QG nT ss t (ME (d+1)) (1+ng d s.body+ng d s.els) g out x) ?_ λx hx=>ar hx
 dsimp only;have Z:SO ss t (gS ((g.1,g.2.1,g.2.2.1,g.2.2.2.1,g.2.2.2.2.1,g.2.2.2.2.2.1,g.2.2.2.2.2.2.1,g.2.2.2.2.2.2.2.2,bm .i64 (g.2.2.2.2.2.2.2.2+1)):GN)):=so2 _ (eX _) (by show g.2.2.2.2.2.2.2.2<g.2.2.2.2.2.2.2.2+((1+ng d s.body+ng d s.els:Nat):Int);omega);have hn1:gN ((g.1,g.2.1,g.2.2.1,g.2.2.2.1,g.2.2.2.2.1,g.2.2.2.2.2.1,g.2.2.2.2.2.2.1,g.2.2.2.2.2.2.2.2,bm .i64 (g.2.2.2.2.2.2.2.2+1)):GN)=gN g+1:=ew;revert gs Z hn1;generalize ((g.1,g.2.1,g.2.2.1,g.2.2.2.1,g.2.2.2.2.1,g.2.2.2.2.2.1,g.2.2.2.2.2.2.1,g.2.2.2.2.2.2.2.2,bm .i64 (g.2.2.2.2.2.2.2.2+1)):GN)=U;intro gs Z hn1;have M:=hg.of gs;have hso1:=hso.sub (b:=gN U) (n:=ng d s.body+ng d s.els) (by rw[hn1];omega) (by rw[hn1];omega);have fin:∀ (n m:Nat) (y:GN×List IT),QG nT ss t n m U out y->n<=ME (d+1)->m=ng d s.body+ng d s.els->QG nT ss t (ME (d+1)) (1+ng d s.body+ng d s.els) g out y:=λn m y J hn hm=>⟨gs.trans J.q,(QC.nil 0 out).trans J.c (by omega),by rw[J.x,hn1];omega⟩
 have fin0:s.op=1\/9<=s.op->∀ (n:Nat) (y:GN×List IT),y.1=U/\QC nT ss t n out y.2->n<=ME (d+1)->QG nT ss t (ME (d+1)) (1+ng d s.body+ng d s.els) g out y:=λI n y J hn=>fin n 0 y ⟨by rw[J.1];exact GQ.refl U,J.2,by rw[J.1];simp⟩ hn (by rw[Y.bo I,Y.el (by omega)];rfl)
 refine aK (λI=>?_) λ_=>?_
 .refine ax (UV (nD _) U out ?_ ?_ ?_ ?_ M Z (by omega)) λy J=>be (by simp) (ar (fin0 (.inl I) _ _ J (by omega)))
  .rw[xC];exact i1
  .rw[xC];exact i3
  .rw[xC];exact i4 (.inl I)
  .rw[xC];exact Y.vr I
 refine aY (λx=>x.2=(U,s,out)/\(x.1=ai↔s.op=2\/s.op=3)) ?_ ?_
 .exact aK (λh=>ar ⟨by dsimp only;rw[xC],λ_=>.inl h,λ_=>aQ h⟩) λh=>ar ⟨by dsimp only;rw[xC],λh2=>.inr (bg h2),λh2=>aQ (h2.resolve_left h)⟩
 rintro⟨b,x⟩ ⟨e,hb2⟩;dsimp only at e hb2;subst e;refine aP (λhb3=>?_) λhbf=>?_
 .dsimp only;rw[xC];refine ax (hB s U out (hb2.1 hb3) (i4 (by rcases hb2.1 hb3 with h|h;exact .inr (.inl h);exact .inr (.inr (.inl h)))) i6 i7 i8 i9 Y.el M Z hso1 hb) λy J=>be (by simp) (ar (fin _ _ _ J (by omega) rfl))
 have har:∀ (a b c:Int),4<=s.op->GO nT (a,c,0,0,0,0)->GO nT (b,c,0,0,0,0)->¬a=5/\¬a=10->¬b=5/\¬b=10->Ok (ra ((s,a,b,c),U,out)) λy=>QG nT ss t (ME (d+1)) (1+ng d s.body+ng d s.els) g out y:=λa b c h4 ga gb na nb=>(hA s a b c U out i6 i8 ga gb na nb M Z (hso1.sub (eX _) (by omega)) hb).mono λy J=>fin _ _ _ J (by omega) (by rw[Y.el (by omega)];rfl)
 have hput:∀ {op:Int} {r:Int×Int×Int×Int×Int},9<=s.op->GO nT (op,r)->¬op=5/\¬op=10->Ok (cB ((op,r),U,out)) (QG nT ss t (ME (d+1)) (1+ng d s.body+ng d s.els) g out):=λh9 hi h5=>(wT (by omega) M Z hi h5).mono λy J=>fin0 (.inr h9) _ _ J (by omega)
 have hlk:∀ n:List UInt8,Ok (j_ (U.2.1,n)) λr=>(n=[109]->r=0)/\(n=[110]->r=1)/\(n=[114]->r=2):=λn=>(L8 U.2.1 n (by rw[M.l];decide)).mono λr h=>af5 (by rw[M.l] at h;exact h)
 have hcond:∀ (n:List UInt8),Ok (jq (n,U,out)) λy=>y.2=(U,out)/\(n=[99]->y.1=0):=λn=>Z3 n U out M
 have hth:Ok (iW (U.2.2.2.2.1,s.name)) λr=>s.op=12\/s.op=13->0<=r/\r<(nT:Int):=(xY U.2.2.2.2.1 s.name (by rw[M.t,bE];have q4:vE.length=4:=rfl;omega)).mono λr hr I=>by
  have hn:=Y.sp I;have hl:(vE.take nT).length<=nT:=pP ..;obtain⟨_,h2,_,h4⟩:=hr;rw[M.t] at h2 h4;exact⟨BV.1 λh=>h4 h hn,by omega⟩
 have hft:∀ n:List UInt8,Ok (iW (U.2.2.2.1,n)) λr=>n=[102]->r=0:=λn=>(xY U.2.2.2.1 n (by rw[M.f];decide)).mono λr hr hn=>by
  obtain⟨h1,h2,_,h4⟩:=hr;rw[M.f] at h2 h4;have h2:r<1:=h2;have:¬r<0:=λh=>h4 h (by rw[hn];decide)
  omega
 dsimp only;rw[xC];have gor:∀ {a c:Int},1<=a->a<=27->iM (a,c,0,0,0,0)=[]->OB nT (a,c,0,0,0,0)->GO nT (a,c,0,0,0,0):=λh1 h2 h3 h4=>⟨h1,h2,by rw[h3];exact λj hj=>(by cases hj),h4⟩
 refine aK (λI=>ax (hlk _) λv hv=>ax (har _ _ _ (by have I:s.op=4:=I;omega) (gor (by decide) (by decide) rfl ?_) (gor (by decide) (by decide) rfl ?_) (by decide) (by decide)) λy J=>be (by simp) (ar J)) λ_=>?_
 .exact (Y.lk I).imp hv.1 hv.2.1
 .exact (Y.lk I).imp hv.1 hv.2.1
 refine aK (λI=>ax (hlk _) λv hv=>ax (har _ _ _ (by have I:s.op=5:=I;omega) (gor (by decide) (by decide) rfl ?_) (gor (by decide) (by decide) rfl ?_) (by decide) (by decide)) λy J=>be (by simp) (ar J)) λ_=>?_
 .exact hv.2.2 (Y.rw (.inl I))
 .exact hv.2.2 (Y.rw (.inl I))
 refine aK (λI=>ax (hlk _) λv hv=>ax (har _ _ _ (by have I:s.op=6:=I;omega) (gor (by decide) (by decide) rfl ?_) (gor (by decide) (by decide) rfl ?_) (by decide) (by decide)) λy J=>be (by simp) (ar J)) λ_=>?_
 .exact hv.2.2 (Y.rw (.inr I))
 .exact hv.2.2 (Y.rw (.inr I))
 refine aK (λI=>ax (har _ _ _ (by have I:s.op=7:=I;omega) (gor (by decide) (by decide) rfl (by decide:¬(17:Int)=3)) (gor (by decide) (by decide) rfl (by decide:¬(18:Int)=3)) (by decide) (by decide)) λy J=>be (by simp) (ar J)) λ_=>?_
 refine aK (λI=>ax (har _ _ _ (by have I:s.op=8:=I;omega) (gor (by decide) (by decide) rfl (by decide:¬(19:Int)=3)) (gor (by decide) (by decide) rfl (by decide:¬(20:Int)=3)) (by decide) (by decide)) λy J=>be (by simp) (ar J)) λ_=>?_
 refine aK (λI=>ax (hcond _) λy J=>?_) λ_=>?_
 .obtain⟨v,y2⟩:=y;obtain⟨y3,y4⟩:=J;dsimp only at y3;subst y3;exact be (by simp) (ax (hput (by have I:s.op=9:=I;omega) (gor (by decide) (by decide) rfl (y4 (Y.cn (.inl I)))) (by decide)) λy J=>be (by simp) (ar J))
 refine aK (λI=>ax (hcond _) λy J=>?_) λ_=>?_
 .obtain⟨v,y2⟩:=y;obtain⟨y3,y4⟩:=J;dsimp only at y3;subst y3;exact be (by simp) (ax (hput (by have I:s.op=10:=I;omega) (gor (by decide) (by decide) rfl (y4 (Y.cn (.inr (.inl I))))) (by decide)) λy J=>be (by simp) (ar J))
 refine aK (λI=>ax (hcond _) λy J=>?_) λ_=>?_
 .obtain⟨v,y2⟩:=y;obtain⟨y3,y4⟩:=J;dsimp only at y3;subst y3;exact be (by simp) (ax (hput (by have I:s.op=11:=I;omega) (gor (by decide) (by decide) rfl (y4 (Y.cn (.inr (.inr I))))) (by decide)) λy J=>be (by simp) (ar J))
 refine aK (λI=>ax hth λv hv=>ax (hput (by have I:s.op=12:=I;omega) (gor (by decide) (by decide) rfl (hv (.inl I))) (by decide)) λy J=>be (by simp) (ar J)) λ_=>?_
 refine aK (λI=>ax hth λv hv=>ax (hput (by have I:s.op=13:=I;omega) (gor (by decide) (by decide) rfl (hv (.inr I))) (by decide)) λy J=>be (by simp) (ar J)) λ_=>?_
 refine aK (λI=>?_) λn14=>?_
 .have hex:GE 4 (dW (Xp.op s.expr,Xp.n s.expr,Xp.name s.expr,Xp.l s.expr)):=by rw[e_];exact i4 (.inr (.inr (.inr I)))
  refine ax (B5 _ _ U out hex M Z (by rw[hg.len];decide) (by rw[hg.len];decide) (by omega)) λy J=>?_
  obtain⟨g2,o2⟩:=y;obtain⟨q1,q2⟩:=J;dsimp only at q1 q2;subst q1;have q3:=q2.u;refine be (by simp) (ax (hft _) λv hv=>?_);refine ax (wT (by omega) M Z (Xj (by decide) (by decide) (by simp[iM,hg.h,L0]) (hv (Y.se I))) (by decide)) λy J=>be (by simp) (ar (fin0 (.inr (by have I:s.op=14:=I;omega)) 16 _ ⟨J.1,q2.trans J.2 (bT _)⟩ (by omega)))
 refine aK (λI=>?_) λn15=>?_
 .refine ax (xY _ _ (by rw[M.h];decide)) λv hv=>ax (hft _) λv2 hv2=>?_
  have hge:=Y.ge I;have hl:(0:Int)<=v/\v<2:=by
   obtain⟨_,h2,_,h4⟩:=hv;rw[M.h] at h2 h4;exact⟨BV.1 λh=>h4 h (by rw[hge.1];decide),h2⟩
  exact ax (hput (by have I:s.op=15:=I;omega) (Xj (by decide) (by decide) (by simp[iM];omega) (hv2 hge.2)) (by decide)) λy J=>be (by simp) (ar J)
 .exfalso;have h1:=Y.o0;have h2:=Y.o1;have h3:¬(s.op=2\/s.op=3):=λh=>by have hbf:b=aj:=hbf;rw[hb2.2 h] at hbf;cases hbf
  omega
variable {nT:Nat} {ss:List (Int×Int×Int)} {t:Int}
theorem VY:∀ (n:Nat),(∀ d:Nat,3*d<n->SpG nT ss t (eK n) d)/\(∀ d:Nat,3*d+1<n->aam nT ss t (dI n) d)/\(∀ d:Nat,3*d+2<n->ahj nT ss t (c_ n) d)/\(∀ d:Nat,3*d+2<n->ahk nT ss t (dE n) d)
 |0=>⟨λd h=>by omega,λd h=>by omega,λd h=>by omega,λd h=>by omega⟩
 |n+1=>by
  obtain⟨J,I,M,hA⟩:=VY n;refine ⟨λd h=>?_,λd h=>?_,λd h=>?_,λd h=>?_⟩
  .cases d with
   |zero=>exact λs g out hs=>hs.elim
   |succ d=>exact Xi (dI n) (eK n) (c_ n) (dE n) d (M d (by omega)) (hA d (by omega))
  .exact T2 (dI n) (eK n) (c_ n) (dE n) d (J d (by omega))
  .exact La (dI n) (eK n) (c_ n) (dE n) d (I d (by omega))
  .exact Ql (dI n) (eK n) (c_ n) (dE n) d (I d (by omega))
theorem NP (d:Nat) (hd:d<=100):aam nT ss t tS d:=(VY fuel).2.1 d (by rw[jO];omega)
structure SL (t k:Int) (m:Nat) (S:List (Int×Int×Int)):Prop where
 l:S.length=m
 v:∀ i:Nat,i<m->(aJ (T:=xA) S (i:Int)).1=t/\(aJ (T:=xA) S (i:Int)).2.1=k+i
theorem IC {T:Ty} {l m:List T.den} {k:Nat} (h:k<l.length):aJ (l++m) (k:Int)=aJ l (k:Int):=by
 rw[ya,ya,ay,ay,bO h]
theorem IB {T:Ty} {l m:List T.den} {k:Nat} (h:l.length<=k):aJ (l++m) (k:Int)=aJ m ((k-l.length:Nat):Int):=by
 rw[ya,ya,ay,ay,b7 h]
theorem SL.nil (t k:Int):SL t k 0 []:=⟨rfl,λi h=>by omega⟩
theorem SL.one (t k z:Int):SL t k 1 [(t,k,z)]:=⟨rfl,λi h=>by rw[show i=0 by omega];exact⟨rfl,by show k=k+((0:Nat):Int);omega⟩⟩
theorem SL.app {k k':Int} {a b:Nat} {S S':List (Int×Int×Int)} (h:SL t k a S) (h':SL t k' b S') (hk:k'=k+a):SL t k (a+b) (S++S'):=by
 obtain⟨h1,h2⟩:=h;obtain⟨J,I⟩:=h';refine ⟨by rw[bt];omega,λi hi=>?_⟩;by_cases hl:i<S.length
 .rw[IC (T:=xA) hl];exact h2 i (by omega)
 .rw[IB (T:=xA) (by omega)];have:=I (i-S.length) (by omega);exact⟨this.1,this.2.trans (show k'+((i-S.length:Nat):Int)=k+(i:Int) by omega)⟩
theorem Ek:∀ (n d:Nat),d<n->∀ (t k:Int) (l:List Sx) (out:List (Int×Int×Int)),l.length<=100->(∀ s∈l,GT d s)->0<=k->k+ng d l<=100000000->out.length+ng d l<=100000000->Ok (pm n ((t,k,l),out)) λy=>y.1=k+ng d l/\∃ S,y.2=out++S/\SL t k (ng d l) S
 |0,_,h,_,_,_,_,_,_,_,_,_=>by omega
 |n+1,d,hn,t,k,l,out,hl,hs,k0,hkb,hb=>by
  rw[Gq];unfold xc bz vI bF aZ cP aF cF;refine ci l.length (λi x=>x.1.2=(i:Int)/\x.1.1=k+ng d (l.take i)/\∃ S,x.2=out++S/\SL t k (ng d (l.take i)) S) ?_ ?_ ⟨rfl,by simp[ng],[],by simp,by simp[ng];exact SL.nil t k⟩
  .rintro i ⟨⟨a,b⟩,o⟩ hi ⟨e1,e2,S,e3,e4⟩;dsimp only at e1 e2 e3;subst e1;subst e2;subst e3;have hp:=Oi (d:=d) l (i+1);rw[wB hi] at hp;rw[wB hi];refine dv ?_;have hin:((i:Nat):Int)<(l.length:Int):=by omega
   have hm:=hs _ (bG (T:=.sm) (xs:=l) (j:=(i:Int)) (by omega) (by omega));have hSl:=e4.l;cases d with
   |zero=>exact hm.elim
   |succ d=>
    obtain⟨_,_,_,g4,g5,g6,g7⟩:=hm;have hc:OV (d+1) (aJ (T:=.sm) l (i:Int))=1+ng d (Sx.body (aJ (T:=.sm) l (i:Int)))+ng d (Sx.els (aJ (T:=.sm) l (i:Int))):=rfl;rw[hc] at hp ⊢;dsimp only;refine aR (by omega) hin (aS (bn (by simp;omega) (by omega) (aR (by omega) hin (aS ?_))));rw[ib (n:=k+(ng (d+1) (l.take i):Nat)+1) (by omega) (by omega)];refine ax (Ek n d (by omega) _ _ _ _ (by omega) g6 (by omega) (by omega) (by simp;omega)) λy I=>be (by simp) ?_
    obtain⟨a2,o2⟩:=y;obtain⟨Z,S2,Y,U⟩:=I;dsimp only at Z Y;subst Z;subst Y;have hSl2:=U.l;refine aR (by omega) hin (aS ?_);refine ax (Ek n d (by omega) _ _ _ _ (by omega) g7 (by omega) (by omega) (by simp;omega)) λy I=>be (by simp) (ar ?_)
    obtain⟨a3,o3⟩:=y;obtain⟨M,S3,J,z3⟩:=I;dsimp only at M J;subst M;subst J;refine ⟨gO (by omega),by dsimp only;omega,S++([_]++(S2++S3)),by simp only[iw];rfl,?_⟩;refine e4.app ?_ rfl;rw[sA];exact (SL.one t _ _).app (U.app z3 rfl) (by simp)
  .rintro⟨⟨a,b⟩,o⟩ ⟨e1,e2,e3⟩;dsimp only at e1 e2 e3;subst e1;subst e2;rw[cR] at e3 ⊢;exact dc (ar ⟨rfl,e3⟩)
theorem Vi {T k' U k:Int} {l S:List (Int×Int×Int)} {m:Nat} (h:Kr T l=af (k',U)) (Y:SL t k m S) (hk:(k'=t/\U=k)\/(k'<t/\t<T/\k=0)):∀ i:Nat,i<=m->Kr T (l++S.take i)=af (if i=0 then (k',U) else (t,k+i))
 |0,_=>by rw[List.take_zero,jT,aE rfl];exact h
 |i+1,hi=>by
  have ih:=Vi h Y hk i (by omega);rw[nQ (T:=xA) (xs:=S) (i:=i) (by rw[Y.l];omega),<-iw,Vk,ih];obtain⟨I,M⟩:=Y.v i (by omega);rw[aB (Nat.succ_ne_zero i)];by_cases J:i=0
  .subst J;rw[aE rfl];unfold Sm;dsimp only;rcases hk with ⟨h1,h2⟩|⟨h1,h2,Z⟩
   .rw[aE ⟨by rw[I,h1],by rw[M,h2];simp⟩,h1,h2];simp
   .rw[aB (λh=>by rw[I] at h;omega),aE ⟨by rw[I];exact h1,by rw[I];exact h2,by rw[M,Z];rfl⟩,I,Z];simp
  .rw[aB J];unfold Sm;dsimp only;rw[aE ⟨I,M⟩];congr 2;omega
abbrev CE6:Type:=List UInt8×Int×Int×Bool×Int
abbrev W4T:Type:=List CE6×List (List UInt8×Bool)×List (List UInt8×Int)×List (List UInt8)
def ceD (z:DT):List CE6:=(eS (aU (ko z.2.2.2.1 1))).map λ(k:Nat)=>(z.2.2.1,(k:Int),z.2.2.2.1,decide (z.1=2),z.2.2.2.2.1)
def adD (y:W4T) (z:DT):W4T:=
 if z.1=1\/z.1=2 then (y.1++ceD z,y.2) else if z.1=3\/z.1=4 then (y.1,y.2.1++[(z.2.2.1,decide (z.1=4))],y.2.2) else if z.1=5 then (y.1,y.2.1,y.2.2.1++[(z.2.2.1,0)],y.2.2.2) else (y.1,y.2.1,y.2.2.1,y.2.2.2++[z.2.2.1])
def W4 (i:Nat):W4T:=(D0.take i).foldl adD ([],[],[],[])
theorem W4_9:W4 9=(C0,F5,LK,R7):=rfl
theorem W4_s {i:Nat} (hi:i<9):W4 (i+1)=adD (W4 i) (aJ (T:=tDc) D0 (i:Int)):=by
 unfold W4;rw[nQ (T:=tDc) (xs:=D0) hi,fB];rfl
theorem D0_c:∀ i:Nat,i<9->(aJ (T:=tDc) D0 (i:Int)).1=5->i=7:=by decide
theorem akf:∀ i:Nat,i<9->(W4 i).1.length<=5/\(W4 i).2.1.length<=3/\(W4 i).2.2.1.length<=1/\(W4 i).2.2.2.length<=1/\ko (aJ (T:=tDc) D0 (i:Int)).2.2.2.1 1<=2/\1<=ko (aJ (T:=tDc) D0 (i:Int)).2.2.2.1 1:=by decide
def bsN (p:PG) (i:Nat):Nat:=((p.2.take i).map λt=>ng 5 t.2.2.2).sum
def boN (p:PG) (i:Nat):Nat:=ng 5 (aJ (T:=yk) p.2 (i:Int)).2.2.2
theorem afd {p:PG} {i:Nat} (hi:i<p.2.length):bsN p (i+1)=bsN p i+boN p i:=by
 unfold bsN boN;rw[nQ (T:=yk) hi,cQ,EY];simp
theorem UQ {p:PG} (i:Nat) (h:(p.2.map λt=>ng 5 t.2.2.2).sum<=60):bsN p i<=60:=by
 refine dj ?_ h
 conv=>rhs;rw[<- AZ i p.2]
 unfold bsN;rw[cQ,EY];omega
structure SW (p:PG) (i:Nat) (S:List (Int×Int×Int)):Prop where
 l:S.length=bsN p i
 f:∃ a b,Kr p.2.length S=af (a,b)/\(a<i\/a=0/\b=0)
 s:∀ j:Nat,j<i->SR S (j:Int) (bsN p j:Nat) (boN p j)
structure WW (p:PG) (w:WT):Prop where
 x:WX w
 t:w.2.2.2.2.1=vE.take p.2.length
 s:∀ j:Nat,j<p.2.length->SR w.2.2.2.2.2 (j:Int) (bsN p j:Nat) (boN p j)
theorem SO.app {S S':List (Int×Int×Int)} {t s:Int} (h:SO S t s):SO (S++S') t s:=by
 obtain⟨h0,h1,h2⟩:=h;obtain⟨s,rfl⟩:∃ n:Nat,s=(n:Int):=⟨s.toNat,by omega⟩
 exact⟨h0,by rw[bt];omega,by rw[IC (T:=xA) (by omega)];exact h2⟩
theorem UY (p:PG) (hp:PJ p) (r:Int×Int) (hr:fd p=af r) (h0:r.1=0) (hc:(p.2.map λt=>ng 5 t.2.2.2).sum<=60):Ok (tU p) (WW p):=by
 have hpt:=hp.t;unfold tU aX bl bw cz ef bL dw cS fc ky bf bz iT bF bK aZ cP aF cF;refine aV hr (b8 (λh=>(h h0).elim) λ_=>?_);have hD:p.1=D0:=hp.d;have hlen:p.1.length=9:=by rw[hD];rfl
 refine ci 9 (λi x=>x.1=(i:Int)/\x.2.1=p/\x.2.2=W4 i) ?_ ?_ ⟨rfl,rfl,rfl⟩
 .rintro i ⟨a,p',y⟩ hi ⟨e1,e2,e3⟩;dsimp only at e1 e2 e3;subst e1;have e2:=e2.symm;subst e2;obtain⟨b1,b2,b3,b4,b5,b6⟩:=akf i hi;rw[<- e3] at b1 b2 b3 b4;have hW:=W4_s hi;rw[<- e3] at hW;have hcd:=D0_c i hi;have hlk:i=7->y.2.1=F5/\(aJ (T:=tDc) D0 (i:Int)).2.2.2.2.2=[109]:=λh=>by subst h;rw[e3];exact⟨rfl,rfl⟩
  refine dv ?_;refine cA (aS ?_);dsimp only;rw[hD];revert hW hcd hlk b5 b6;generalize (aJ (T:=tDc) D0 (i:Int))=z;intro b5 b6 hW hcd hlk;refine aY (λx=>x=(p,W4 (i+1))) ?_ ?_
  .rw[hW];unfold adD;refine aY (λx=>x.2=(p,z,y)/\(x.1=ai↔(z.1=1\/z.1=2))) ?_ ?_
   .exact aK (λh=>ar ⟨rfl,λ_=>.inl h,λ_=>aQ h⟩) λh=>ar ⟨rfl,λh2=>.inr (bg h2),λh2=>aQ (h2.resolve_left h)⟩
   rintro⟨b,x⟩ ⟨e,hb⟩;dsimp only at e hb;subst e;refine aP (λI=>?_) λI=>?_
   .rw[aE (hb.1 I)];unfold ceD;obtain⟨m,hm⟩:∃ m:Nat,ko z.2.2.2.1 1=(m:Int):=⟨(ko z.2.2.2.1 1).toNat,by omega⟩
    rw[hm,gB];refine ci m (λk x=>x=((k:Int),p,z,y.1++(eS k).map (λ(k:Nat)=>(z.2.2.1,(k:Int),z.2.2.2.1,decide (z.1=2),z.2.2.2.2.1)),y.2)) ?_ ?_ (by simp)
    .rintro k x hk rfl;refine bI (λ_=>?_) λg=>(by dsimp only at g;rw[hm] at g;omega)
     refine bn (by simp;omega) (by omega) (ar ?_);dsimp only;rw[gO (by omega),List.range_succ,cQ,<-iw];rfl
    .rintro x rfl;exact bI (λg=>(by dsimp only at g;rw[hm] at g;omega)) λ_=>ar rfl
   rw[aB λh=>by have I:b=aj:=I;rw[hb.2 h] at I;cases I];refine aY (λx=>x.2=(p,z,y)/\(x.1=ai↔(z.1=3\/z.1=4))) ?_ ?_
   .exact aK (λh=>ar ⟨rfl,λ_=>.inl h,λ_=>aQ h⟩) λh=>ar ⟨rfl,λh2=>.inr (bg h2),λh2=>aQ (h2.resolve_left h)⟩
   rintro⟨c,x⟩ ⟨e,U⟩;dsimp only at e U;subst e;refine aP (λh=>?_) λh=>?_
   .rw[aE (U.1 h)];exact bn (by simp;omega) (by omega) (ar rfl)
   rw[aB λh2=>by have h:c=aj:=h;rw[U.2 h2] at h;cases h];refine aK (λh5=>?_) λh5=>?_
   .obtain⟨l1,l2⟩:=hlk (hcd h5);rw[aE h5];refine ax (L8 _ _ (by dsimp only;rw[l1];decide)) λv hv=>?_
    have hv:=(af5 (by dsimp only at hv;rw[l1] at hv;exact hv)).1 l2;subst hv;exact bn (by simp;omega) (by omega) (ar rfl)
   .rw[aB h5];exact bn (by simp;omega) (by omega) (ar rfl)
  rintro x rfl;exact ar ⟨gO (by omega),rfl,rfl⟩
 .rintro⟨a,p',y⟩ ⟨e1,e2,j⟩;dsimp only at e1 e2 j;subst e1;have e2:=e2.symm;subst e2;rw[W4_9] at j;subst j;refine dc ?_;refine ax (P:=WW p) ?_ λr hr=>ar hr
  refine ci p.2.length (λi x=>x.1=(i:Int)/\x.2.1=p/\x.2.2.1=C0/\x.2.2.2.1=F5/\x.2.2.2.2.1=LK/\x.2.2.2.2.2.1=R7/\x.2.2.2.2.2.2.1=vE.take i/\SW p i x.2.2.2.2.2.2.2) ?_ ?_ ⟨rfl,rfl,rfl,rfl,rfl,rfl,rfl,rfl,⟨0,0,rfl,.inr ⟨rfl,rfl⟩⟩,λj hj=>by omega⟩
  .rintro i ⟨a,p2,c2,l2,d2,f2,t2,s2⟩ hi ⟨e1,e2,e3,e4,e5,e6,Z,M,⟨fa,fb,f8,f9⟩,J⟩;dsimp only at e1 e2 e3 e4 e5 e6 Z M f8 J;subst e1;have e2:=e2.symm;subst e2;have hb8:=UQ (i+1) hc;have hbs:=afd hi;refine dv ?_;have hin:((i:Nat):Int)<(p.2.length:Int):=by omega
   have hm:=hp.m _ (bG (T:=yk) (xs:=p.2) (j:=(i:Int)) (by omega) hin);have hnm:(aJ (T:=yk) p.2 (i:Int)).1=aJ (T:=.str) vE (i:Int):=by
    have h1:=nQ (T:=yk) hi;have h2:=gG (List.map Prod.fst) h1;rw[cQ,kC,kC,hp.n,List.take_take,List.take_take,sw (by omega),sw (by omega),nQ (T:=.str) (xs:=vE) (i:=i) (by have q4:vE.length=4:=rfl;omega)] at h2;exact ((List.cons.inj (List.append_cancel_left h2)).1).symm
   have htl:t2.length=i:=by rw[Z,bE];have q4:vE.length=4:=rfl;omega
   dsimp only;refine aR (by omega) hin (aS (bn (by simp;omega) (by omega) (aR (by omega) hin (aS ?_))));refine ax (Ek fuel 5 (by rw[jO];omega) _ _ _ s2 (by have:=hm.b;omega) (λs hs=>((hm.s s hs).le (by omega:3<=5)).t) (eX _) ?_ ?_) λy hy=>be (by simp) (ar ?_)
   .show (0:Int)+(boN p i:Nat)<=_;omega
   .show s2.length+boN p i<=_;omega
   obtain⟨_,S,h2,Y⟩:=hy;have Y:SL (i:Int) 0 (boN p i) S:=Y;refine ⟨gO (by omega),rfl,e3,e4,e5,e6,?_,?_⟩
   .dsimp only;rw[Z,hnm,<-nQ (T:=.str) (xs:=vE) (i:=i) (by have q4:vE.length=4:=rfl;omega)]
   .dsimp only;rw[h2];refine ⟨by rw[bt,Y.l,M,hbs],?_,λj hj=>?_⟩
    .have hr:=Vi f8 Y (by rcases f9 with h|⟨h,h'⟩;exact .inr ⟨h,by omega,rfl⟩;rcases Km i with hi0|hi0;exact .inl ⟨by omega,h'⟩;exact .inr ⟨by omega,by omega,rfl⟩) (boN p i) (bT _);rw[<- Y.l,cR] at hr;rw[hr];split
     .exact⟨_,_,rfl,f9.imp (λh=>by omega) id⟩
     .exact⟨_,_,rfl,.inl (by omega)⟩
    .rcases bZ j i with h1|h1
     .obtain⟨g1,g2,g3⟩:=J j h1;exact⟨g1,g2,λq q1 q2=>(g3 q q1 q2).app⟩
     .have hj:j=i:=by omega
      subst hj;refine ⟨by omega,by omega,λq q1 q2=>?_⟩;obtain⟨q,rfl⟩:∃ n:Nat,q=(n:Int):=⟨q.toNat,by omega⟩
      refine ⟨by omega,by rw[bt,Y.l];omega,?_⟩;rw[IB (T:=xA) (by omega)];exact (Y.v _ (by omega)).1
  .rintro⟨a,p2,c2,l2,d2,f2,t2,s2⟩ ⟨e1,e2,e3,e4,e5,e6,Z,M,⟨fa,fb,f8,f9⟩,J⟩;dsimp only at e1 e2 e3 e4 e5 e6 Z M f8 J;subst e1;have e2:=e2.symm;subst e2;subst e3;subst e4;subst e5;subst e6;subst Z;refine dc (ar ?_);have hb8:=UQ p.2.length hc;refine ⟨⟨rfl,rfl,rfl,rfl,⟨p.2.length,hp.t0,hp.t,rfl⟩,by dsimp only;omega,?_⟩,rfl,J⟩;unfold SV0;have hTl:(vE.take p.2.length).length=p.2.length:=by rw[bE];have q4:vE.length=4:=rfl;omega
   dsimp only;rw[hTl,f8];simp
def X_:List (List UInt8):=[[120],[121],[118],[113],[109],[110],[114],[99],[102]]
set_option maxHeartbeats 20000000 in
theorem Zd (t:List (List UInt8)) (ht:t.length<=4) (s:List (Int×Int×Int)):pa (C0,F5,LK,R7,t,s)=af (X_++t,ai):=by
 refine cD ?_;unfold pa aX bl bw cz dw ky bf bz iT bF bK aZ cP aF cF;with_reducible repeat' first|exact ar rfl|refine Vy ?_|refine Vx ?_|refine Vw ?_|refine Vu ?_|refine ac7 ?_|refine aS ?_|refine fA rfl ?_|refine fJ rfl ?_|refine be rfl ?_|refine Vv ?_|refine Pu ?_|refine Pt ?_
 refine bn (by show 9+t.length<=1073741824;omega) (by decide) ?_;with_reducible repeat' first|exact ar rfl|refine Vy ?_|refine Vx ?_|refine Vw ?_|refine Vu ?_|refine ac7 ?_|refine aS ?_|refine fA rfl ?_|refine fJ rfl ?_|refine be rfl ?_|refine Vv ?_|refine Pu ?_|refine Pt ?_
theorem R5:∀ x∈X_++vE,Ok (eZ x) λb=>b=ai:=by
 intro x I;simp only[X_,vE,gi,lM,bi,cu,fY] at I;rcases I with rfl|rfl|rfl|rfl|rfl|rfl|rfl|rfl|rfl|rfl|rfl|rfl|rfl;all_goals with_reducible repeat' first|exact ar rfl|refine Vy ?_|refine Vx ?_|refine Vw ?_|refine Vu ?_|refine Pt ?_|refine ac7 ?_|refine aS ?_|refine fA rfl ?_|refine fJ rfl ?_|refine be rfl ?_|refine Vv ?_|refine Pu ?_|refine c7 (eZ.eq_1 ..) ?_|refine c7 (jE.eq_1 ..) ?_|refine c7 (kl.eq_1 ..) ?_|refine c7 (lj.eq_1 ..) ?_|refine c7 (pf.eq_1 ..) ?_|refine c7 (rh.eq_1 ..) ?_
theorem GT.up:∀ {d:Nat} {s:Sx},GT d s->GT (d+1) s
 |0,_,h=>h.elim
 |_+1,_,⟨a,b,c,e,f,g,i⟩=>⟨a,b,c,e,f,λx I=>GT.up (g x I),λx I=>GT.up (i x I)⟩
theorem ags {l:List Sx} (h:∀ s∈l,GT 3 s):ng 5 l=ng 3 l:=by
 unfold ng;rw[pO λx I=>(Oh (GT.up (h x I))).trans (Oh (h x I))]
theorem ahn:∀ i:Nat,i<13->∀ r:Nat,r<i->aJ (T:=.str) (X_++vE) (r:Int)≠aJ (T:=.str) (X_++vE) (i:Int):=by decide
theorem Pb (T:Int):∀ l:List (Int×Int×Int),l.foldl (Sm T) ah=ah
 |[]=>rfl
 |_::r=>Pb T r
theorem Vj {T:Int} {l:List (Int×Int×Int)} (h:Kr T l≠ah) (i:Nat):Kr T (l.take i)≠ah:=λhn=>h (by
 unfold Kr at hn ⊢;rw[<- AZ i l,fB,hn,Pb])
theorem YT {T t n:Int} {z:Int×Int×Int} (h:Sm T (af (t,n)) z≠ah):Sm T (af (t,n)) z=af (z.1,z.2.1+1)/\(z.1=t/\z.2.1=n\/t<z.1/\z.1<T/\z.2.1=0):=by
 unfold Sm at h ⊢;dsimp only at h ⊢;by_cases h1:z.1=t/\z.2.1=n
 .rw[aE h1];exact⟨by rw[h1.1,h1.2],.inl h1⟩
 .rw[aB h1] at h ⊢;by_cases h2:t<z.1/\z.1<T/\z.2.1=0
  .rw[aE h2];exact⟨by rw[h2.2.2];rfl,.inr h2⟩
  .rw[aB h2] at h;exact (h rfl).elim
theorem Bl {R:Type} {a b:Int} {t f:Option R} {Q:R->Prop} (h:b<=a) (hf:Ok f Q):Ok (bcase (fO a b) t f) Q:=fJ (f_.2 h) hf
theorem GJ {w:WT} (hx:WX w):hP w=af ai:=by
 obtain⟨w1,w2,w3,w4,I,J⟩:=w;obtain⟨hc,hl,hd,hf,⟨n,n1,n4,ht⟩,hs,hv⟩:=hx;dsimp only at hc hl hd hf ht hs;subst hc;subst hl;subst hd;subst hf;have hT:I.length=n:=by rw[ht,bE];have q4:vE.length=4:=rfl;omega
 have hv:Kr I.length J≠ah:=hv;refine cD ?_;unfold hP aX bl bw cz cS fc bf bz jz iT bF bK aZ cP aF cF;refine aY (λx=>x=(aj,C0,F5,LK,R7,I,J)) ?_ ?_
 .refine Bl (show (5:Int)<=12 by decide) (Bl (show (3:Int)<=4 by decide) (Bl (show (1:Int)<=2 by decide) (Bl (show (1:Int)<=2 by decide) (Bl (show (1:Int)<=(I.length:Int) by omega) (Bl (show (I.length:Int)<=4 by omega) (ar ?_))))));dsimp only[au];rw[f_.2 (show (J.length:Int)<=60 by omega)]
 rintro x rfl;refine fU (aV (Zd I (by omega) J) (fJ rfl ?_));have hN:X_++I=(X_++vE).take (9+n):=by rw[ht];rcases (by omega:n=1\/n=2\/n=3\/n=4) with rfl|rfl|rfl|rfl<;>rfl
 have hNl:(X_++I).length=9+n:=by rw[bt,hT];rfl
 have hNg:∀ i:Nat,i<9+n->aJ (T:=.str) (X_++I) (i:Int)=aJ (T:=.str) (X_++vE) (i:Int):=λi hi=>by
  rw[hN,ya,ya,ay,ay,List.getElem?_take_of_lt hi]
 refine ci (9+n) (λi x=>x=((i:Int),C0,F5,LK,R7,I,J)) ?_ ?_ rfl
 .rintro i x hi rfl;refine bI (λ_=>?_) λg=>(by dsimp only[au] at g;rw[hNl] at g;omega)
  refine aY (λx=>x=(aj,C0,F5,LK,R7,I,J)) ?_ ?_
  .refine aR (by dsimp only;omega) (by dsimp only;rw[hNl];omega) (aS ?_);have hmem:aJ (T:=.str) (X_++I) (i:Int)∈X_++vE:=by rw[hNg i hi];exact bG (T:=.str) (by omega) (by have:(X_++vE).length=13:=rfl;omega)
   refine ax (R5 _ hmem) λb hb=>?_
   refine fJ (by rw[hb];rfl) (dt (eH (by dsimp only;omega) (eH (by dsimp only;rw[hNl];omega) ?_)));refine aR (by dsimp only;omega) (by dsimp only;rw[hNl];omega) (aS ?_);refine ax (xY _ _ (by dsimp only;rw[bE,hNl];omega)) λr hr=>ar ?_
   obtain⟨_,h2,Z,_⟩:=hr;dsimp only at h2 Z;rw[bE,hNl] at h2;have hr0:¬0<=r:=λh0=>by
    have Z:=Z h0;obtain⟨r,rfl⟩:∃ m:Nat,r=(m:Int):=⟨r.toNat,by omega⟩
    rw[ya,ay,List.getElem?_take_of_lt (by omega),<-ay,<-ya (T:=.str),hNg r (by omega),hNg i hi] at Z;exact ahn i (by omega) r (by omega) Z
   rw[kT.2 (by omega)]
  .rintro x rfl;exact fU (ar (by dsimp only;rw[gO (by omega)]))
 rintro x rfl;refine bI (λg=>(by dsimp only[au] at g;rw[hNl] at g;omega)) λ_=>?_
 refine ax (P:=λb=>b=ai) ?_ λy hy=>ar hy
 refine ci 1 (λi x=>x=((i:Int),C0,F5,LK,R7,I,J)) ?_ ?_ rfl
 .rintro i x hi rfl;have hi0:i=0:=by omega
  subst hi0;refine fA rfl (be rfl (aS (aY (λx=>x=(aj,C0,F5,LK,R7,I,J)) ?_ ?_)))
  .exact fJ rfl (fJ rfl (be rfl (aS (ar rfl))))
  .rintro x rfl;exact fU (ar (by dsimp only;rw[gO (by omega)]))
 rintro x rfl;refine bI (λg=>(by have g:(1:Int)<1:=g;omega)) λ_=>?_
 refine ax (P:=λb=>b=ai) ?_ λy hy=>ar hy
 refine ci J.length (λi x=>x=((i:Int),C0,F5,LK,R7,I,J)/\∃ t k:Int,Kr I.length (J.take i)=af (t,k)/\0<=t/\t<(I.length:Int)/\(i=0->t=0/\k=0)/\(¬i=0->(aJ (T:=xA) J ((i-1:Nat):Int)).1=t/\(aJ (T:=xA) J ((i-1:Nat):Int)).2.1+1=k/\0<k/\k<=i)) ?_ ?_ ⟨rfl,0,0,rfl,by omega,by omega,λ_=>⟨rfl,rfl⟩,λh=>(h rfl).elim⟩
 .rintro i x hi ⟨rfl,t,k,hF,t0,tT,hz,hp⟩;have hw:¬(i:Int)=0->bm .i64 ((i:Int)-1)=((i-1:Nat):Int):=λh=>by rw[ib (by omega) (by omega)];omega
  have hnx:=HC (T:=I.length) hi;have hne:=Vj hv (i+1);rw[hnx,hF] at hne;obtain⟨hs1,M⟩:=YT hne;rw[hF,hs1] at hnx;refine dv ?_;refine aY (λx=>x=(C0,F5,LK,R7,I,J)) ?_ ?_
  .refine cA (aS ?_);revert M;generalize (aJ (T:=xA) J (i:Int))=z;obtain⟨(U:Int),(z2:Int),z3⟩:=z;intro M;dsimp only at M;refine aY (λx=>x=(aj,(C0,F5,LK,R7,I,J),U,z2,z3)) ?_ ?_
   .refine Bl (show (0:Int)<=U by omega) (ar ?_);dsimp only[au];rw[kT.2 (show U<(I.length:Int) by omega)]
   rintro x rfl;refine fU (aY (λx=>x.2=((C0,F5,LK,R7,I,J),U,z2,z3)/\(x.1=ai->i=0\/¬t=U)/\(x.1=aj->¬i=0/\t=U)) ?_ ?_)
   .refine aK (λh=>ar ⟨rfl,λ_=>.inl (by have h:((i:Nat):Int)=0:=h;omega),λh=>(by cases h)⟩) λh=>?_
    have h:¬((i:Nat):Int)=0:=h;dsimp only;rw[hw h];have hq:=(hp (by omega)).1;exact aR (by omega) (by first|omega|(dsimp only;omega)) (aS (ar ⟨rfl,λh2=>.inr (by rw[<- hq];simpa using h2),λh2=>⟨by omega,by rw[<- hq];simpa using h2⟩⟩))
   rintro⟨c,x⟩ ⟨e,Y,hc⟩;dsimp only at e Y hc;subst e;refine aP (λhct=>?_) λhcf=>?_
   .have hz2:z2=0:=by
     rcases Y hct with h|h
     .have:=hz h;omega
     .omega
    refine aY (λx=>x=(aj,C0,F5,LK,R7,I,J)) ?_ ?_
    .refine b8 (λh=>(h hz2).elim) λ_=>bI (λh=>?_) λ_=>ar rfl
     have h:(0:Int)<((i:Nat):Int):=h;dsimp only;rw[hw (by omega)];have hq:=(hp (by omega)).1;refine aR (by omega) (by first|omega|(dsimp only;omega)) (aS (ar ?_));dsimp only;rw[hq,f_.2 (show t<=U by omega)]
    rintro x rfl;exact fU (ar rfl)
   .obtain⟨h1,h2⟩:=hc hcf;obtain⟨_,p2,p3,p4⟩:=hp h1;dsimp only;rw[hw (by omega)];refine aR (by omega) (by first|omega|(dsimp only;omega)) (aS ?_);refine b8 (λh=>(h ?_).elim) λ_=>ar rfl
    try dsimp only
    rw[p2,ib (by omega) (by omega)];omega
  .rintro x rfl;refine ar ⟨by dsimp only;rw[gO (by omega)],_,_,hnx,?_⟩;revert M;rw[show i+1-1=i by omega];generalize (aJ (T:=xA) J (i:Int))=z;obtain⟨(U:Int),(z2:Int),z3⟩:=z;intro M;dsimp only at M ⊢;refine ⟨by omega,by omega,λh=>by omega,λ_=>⟨rfl,rfl,?_,?_⟩⟩
   .by_cases h0:i=0
    .have:=hz h0;omega
    .have:=hp h0;omega
   .by_cases h0:i=0
    .have:=hz h0;omega
    .have:=hp h0;omega
 .rintro x ⟨rfl,_⟩;exact dc (ar rfl)
theorem U0 {c:CT} (I:WX c.1) (hl:c.2.length=c.1.2.2.2.2.1.length) (h:∀ k:Nat,k<c.2.length->GC c.2.length c.1.2.2.2.2.2 (k:Int) (aJ (T:=vD) c.2 (k:Int))):jC c=af ai:=by
 obtain⟨w,l⟩:=c;dsimp only at I hl h;have M:l.length<=4:=by
  obtain⟨n,_,J,ht⟩:=I.t;rw[hl,ht,bE];omega
 refine cD ?_;unfold jC bw bz bK aZ cP aF cF;refine aY (λx=>x=(aj,w,l)) ?_ ?_
 .refine aV (GJ I) (fJ rfl (ar ?_));dsimp only;rw[hl];simp
 rintro x rfl;refine fU (ci l.length (λi x=>x=((i:Int),w,l)) ?_ ?_ rfl)
 .rintro i x hi rfl;refine dv ?_;refine cA (aS (aV (DH I hl.symm (h i hi)) (fJ rfl (ar ?_))));dsimp only;rw[gO (by omega)]
 .rintro x rfl;exact dc (ar rfl)
theorem OG (p:PG) (hp:PJ p) (hr4:∃ r,fd p=af r/\r.1=0):Ok (qf p) λy=>CB y.1:=by
 have hpt:=hp.t;obtain⟨r,hr,h0⟩:=hr4;obtain⟨r',hr',Y⟩:=Dw p hp.x;rw[hr] at hr';cases hr';have Y:=Y h0;unfold qf aX bl bw cz ef bL cS fc pN bz iT bF bK kZ aZ cP aF cF;refine aV hr (b8 (λh=>(h h0).elim) λ_=>?_);refine ax (UY p hp r hr h0 Y) λw M=>?_
 have hwT:w.2.2.2.2.1.length=p.2.length:=by rw[M.t,bE];have q4:vE.length=4:=rfl;omega
 refine ci p.2.length (λi x=>x.1.1=((bsN p i:Nat):Int)/\x.1.2=(i:Int)/\x.2.1=p/\x.2.2.1=w/\x.2.2.2.length=i/\∀ j:Nat,j<i->GC p.2.length w.2.2.2.2.2 (j:Int) (aJ (T:=vD) x.2.2.2 (j:Int))) ?_ ?_ ⟨rfl,rfl,rfl,rfl,rfl,λj hj=>by omega⟩
 .rintro i ⟨⟨a,b⟩,p2,w2,cs⟩ hi ⟨e0,e1,e2,e3,Z,e5⟩;dsimp only at e0 e1 e2 e3 Z e5;subst e0;subst e1;have e2:=e2.symm;subst e2;have e3:=e3.symm;subst e3;have hin:((i:Nat):Int)<(p.2.length:Int):=by omega
  refine dv ?_;have hm:=hp.m _ (bG (T:=yk) (xs:=p.2) (j:=(i:Int)) (by omega) hin);have hsr:=M.s i hi;have hbs:=afd hi;have hb1:=UQ (i+1) Y;have hbo:boN p i=ng 3 (aJ (T:=yk) p.2 (i:Int)).2.2.2:=ags λs hs=>(hm.s s hs).t
  rw[hbo] at hsr hbs;dsimp only;refine aR (by omega) hin (aS (aR (by omega) hin (aS ?_)));revert hm hsr hbs;generalize (aJ (T:=yk) p.2 (i:Int))=t;intro hm hsr hbs;have hk:ME 3=50+16*(50+16*50):=rfl;have hle:=cG (ME 3) hm.b;rw[hk] at hle;have hll:t.2.2.1.length=2:=by rw[hm.l];rfl
  refine ax (NP (nT:=p.2.length) (ss:=w.2.2.2.2.2) (t:=(i:Int)) 3 (by omega) _ _ [] (by have:=hm.b;omega) hm.s ⟨M.x.c,M.x.l,M.x.d,M.x.f,M.t,hm.l⟩ hsr (by rw[hk,jS];omega)) λy hy=>be (by simp) ?_
  obtain⟨g2,o2⟩:=y;obtain⟨q1,q2,q3⟩:=hy;dsimp only at q1 q2 q3;have q4:=q2.u;rw[hk,jS] at q4;refine ax (HI _ _ o2 (by omega)) λy hy=>be (by simp) ?_
  obtain⟨g3,I⟩:=y;obtain⟨hg3,U⟩:=hy;dsimp only at hg3 U;have hL:aO (al g3.2.2.2.2.2.2.1)=2:=by
   rw[hg3];show aO (al g2.2.2.2.2.2.2.1)=2;rw[q1.h];show aO (al t.2.2.1)=2;rw[hll];rfl
  have l3:I.length=o2.length+1:=by rw[U,bt];rfl
  have J:I.length-1=o2.length:=by omega
  have iq:∀ q:Nat,q<o2.length->iA I q=iA o2 q:=λq hq=>by rw[U,Ig hq]
  have iend:iA I o2.length=(28,0,0,0,0,-1):=by rw[U,w9]
  have hreg:∀ q:Nat,q<I.length->∀ j:Int,j∈iM (iA I q)->0<=j/\j<32:=λq hq j hj=>by
   by_cases h:q<o2.length
   .rw[iq q h] at hj;exact (q2.i q (jR _) h).o.r j hj
   .rw[show q=o2.length by omega,iend] at hj;simp[iM] at hj
  dsimp only;rw[hL];refine ci I.length (λk x=>∃ rg:Int,x=((k:Int),p,w,g3,rg,cs,I)/\2<=rg/\rg<=32/\∀ q:Nat,q<k->∀ j:Int,j∈iM (iA I q)->j<rg) ?_ ?_ ⟨2,rfl,by omega,by omega,λq hq=>by omega⟩
  .rintro k x hk2 ⟨rg,rfl,r0,r1,r2⟩;refine dv ?_;dsimp only;refine cA (cA (aS (aV (tj _) ?_)));have hrk:=hreg k hk2;have hrl:=Cf (iA I k);revert hrk hrl;generalize hins:(aJ (T:=Bc) I (k:Int))=ins;rw[show iA I k=ins from hins];intro hrk hrl;refine ci (iM ins).length (λj x=>∃ rg':Int,x=((j:Int),p,w,g3,rg',cs,I)/\rg<=rg'/\rg'<=32/\∀ q:Nat,q<j->rg'>aJ (T:=.int .i64) (iM ins) (q:Int)) ?_ ?_ ⟨rg,rfl,eX _,r1,λq hq=>by omega⟩
   .rintro j x hj ⟨rg',rfl,s0,s1,s2⟩;refine dv ?_;refine cA (aS (ar ?_));have hz:=hrk _ (bG (T:=.int .i64) (xs:=iM ins) (j:=(j:Int)) (by omega) (by omega));dsimp only;obtain⟨z,hzj⟩:∃ z:Int,aJ (T:=.int .i64) (iM ins) (j:Int)=z:=⟨_,rfl⟩
    rw[hzj] at hz ⊢;have hz0:(0:Int)<=z:=hz.1;have hz1:(32:Int)>z:=hz.2;rw[gO (by omega),ib (n:=z+1) (by omega) (by omega)];have him:rg'<=ko rg' (z+1)/\z+1<=ko rg' (z+1)/\ko rg' (z+1)<=32:=by
     unfold ko;split
     .rename_i h;have h:=s8.1 h;omega
     .rename_i h;have h:=f_.1 (MW.2 h);omega
    refine ⟨_,rfl,by omega,him.2.2,λq hq=>?_⟩;rcases bZ q j with h1|h1
    .have:=s2 q h1;omega
    .rw[show q=j by omega,hzj];exact Int.lt_of_lt_of_le (show z<z+1 by omega) him.2.1
   .rintro x ⟨rg',rfl,s0,s1,s2⟩;refine dc (ar ?_);refine ⟨rg',by dsimp only;rw[gO (by omega)],by omega,s1,λq hq j hj=>?_⟩;rcases bZ q k with h1|h1
    .have:=r2 q h1 j hj;omega
    .rw[show q=k by omega,show iA I k=ins from hins] at hj;exact io (T:=.int .i64) (p:=λc=>rg'>c) s2 j hj
  .rintro x ⟨rg,rfl,r0,r1,r2⟩;refine dc (Pu (bn (by simp;omega) (by omega) (Pt (ar ?_))));dsimp only;have q3':(g2.2.2.2.2.2.2.2.2:Int)=(bsN p i:Nat)+(ng 3 t.2.2.2:Nat):=q3;refine ⟨by rw[q3',hbs];omega,gO (by omega),rfl,rfl,by simp;omega,λj hj=>?_⟩;rcases bZ j i with h1|h1
   .rw[IC (T:=vD) (by rw[Z];exact h1)];exact e5 j h1
   .rw[show j=i by omega,IB (T:=vD) (by rw[Z];omega),Z,GY];refine ⟨show (1:Int)<=rg by omega,r1,show 1<=I.length by omega,show I.length<=1000000 by omega,?_,?_,?_,?_,?_⟩
    .show (iA I (I.length-1)).1=28/\(iA I (I.length-1)).2.2.2.2.2= -1;rw[J,iend];exact⟨rfl,rfl⟩
    .show qG I 0 (I.length-1);rw[J];exact q2.b.congr λq _ hq=>iq q hq
    .show ∀ q:Nat,q<I.length-1->GI p.2.length w.2.2.2.2.2 (i:Int) (iA I q);rw[J];exact λq hq=>by rw[iq q hq];exact q2.i q (jR _) hq
    .show ∀ q:Nat,q<I.length-1->(iA I q).1=10->0<=(iA I q).2.2.1/\(iA I q).2.2.1<(I.length:Int)
     rw[J];intro q hq h10;rw[iq q hq] at h10 ⊢;have:=q2.r q (jR _) hq h10;omega
    .exact λq hq j hj=>r2 q (show q<I.length by have hq:q<I.length-1:=hq;omega) j hj
 .rintro⟨⟨a,b⟩,p2,w2,cs⟩ ⟨e0,e1,e2,e3,Z,e5⟩;dsimp only at e0 e1 e2 e3 Z e5;subst e1;subst e2;subst e3;refine dc (ar ?_);have hgc:∀ t∈cs,∃ k:Nat,GC p2.2.length w2.2.2.2.2.2 (k:Int) t:=io (T:=vD) λk hk=>⟨k,e5 k (by omega)⟩
  refine ⟨by dsimp only;omega,λt ht=>?_,λt ht=>?_,M.x,U0 M.x ?_ ?_⟩
  .obtain⟨k,hk⟩:=hgc t ht;exact hk.u
  .obtain⟨k,hk⟩:=hgc t ht;exact hk.r0
  .dsimp only;rw[Z,hwT]
  .dsimp only;rw[Z];exact e5
theorem KE (a b:List Int) (M:a.length<=9223372036854775807) (J:∀ z∈a,0<=z/\z<=255) (hb:b.length<=1000000):Ok (r9 (a,b)) TR:=by
 unfold r9;refine ax (P:=CB) ?_ λc hc=>ax (U_ b hb) λl hl=>?_
 .unfold wY;exact ax (Gb a M J) λp hp=>ax (OG p hp.1 hp.2) λy I=>ar I
 .exact ax (ahl c l hc (by omega)) λy I=>ar I
theorem OF (a b c:List Int) (n:Int) (n0:0<=n) (n1:n<=1000000) (M:a.length<=9223372036854775807) (J:∀ z∈a,0<=z/\z<=255) (hc:c.length<=9223372036854775807) (I:∀ z∈c,0<=z/\z<=255):Ok (kR ((a,b,c),n)) TR:=by
 unfold kR bz bF aZ;refine bI (λ_=>ax (HE c n hc I) λy h=>ar h) λ_=>?_
 have h0:0<=Gh (aO b.length) n/\Gh (aO b.length) n<=(b.length:Int)/\Gh (aO b.length) n<=n:=by
  unfold Gh;split
  .rename_i h;rw[s8] at h;dsimp only[au] at h;exact⟨n0,by omega,eX _⟩
  .rename_i h;have h:=f_.1 (MW.2 h);dsimp only[au] at h ⊢;exact⟨by omega,eX _,h⟩
 refine dt (eH h0.1 (eH h0.2.1 ?_));have h1:(dM (aU (Gh (aO b.length) n)) b).length<=1000000:=by rw[bE];have:=h0.1;have:=h0.2.2;omega
 exact ax (KE a _ M J h1) λy h=>ar h
def HS.zero (w:ut):HS:=⟨aG w.2.2.2.2.1.length [],aG w.2.2.2.2.1.length [],aG w.2.1.length [],aG w.2.1.length [],aG w.1.length [],aG w.2.2.2.1.length [],[],aG w.2.2.2.2.1.length [],aG w.2.2.2.2.1.length (-1)⟩
theorem HS.zero_ok {w:ut} (h1:w.1.length<=1000) (h2:w.2.1.length<=1000) (J:w.2.2.2.1.length<=1000) (I:w.2.2.2.2.1.length<=1000):Sp 0 (HS.zero w):=by
 have z:(0:Int)<=0:=by omega
 exact⟨z,by omega,AX.repl z _,AX.repl z _,AX.repl z _,AX.repl z _,AX.repl z _,AX.repl z _,En.nil z,AX.repl z _,by simpa[HS.zero] using I,by simp[HS.zero],by simp[HS.zero],by simp[HS.zero],by simpa[HS.zero] using h2,by simp[HS.zero],by simpa[HS.zero] using h1,by simpa[HS.zero] using J⟩
structure Fit (w:ut) (h:HS):Prop where
 T:h.T.length=w.2.2.2.2.1.length
 L:h.L.length=w.2.1.length
 C:h.C.length=w.1.length
 F:h.F.length=w.2.2.2.1.length
theorem Fit.zero (w:ut):Fit w (HS.zero w):=⟨by simp[HS.zero],by simp[HS.zero],by simp[HS.zero],by simp[HS.zero]⟩
theorem Fit.ent {w:ut} {h:HS} (f:Fit w h) (e:EV) (x:List Int):Fit w (jm w h e x):=by
 obtain⟨a,b,c,d,g,i,j,k⟩:=Fl w h e x;exact⟨a.trans f.T,c.trans f.L,g.trans f.C,i.trans f.F⟩
theorem Fit.step {w:ut} {h:HS} (f:Fit w h) (e:EV):Fit w (O4 w h e).1:=f.ent e _
def evP (e:ET):EV:=⟨e.1.toNat,e.2.1.toNat,e.2.2.1.toNat,e.2.2.2.1⟩
theorem ak2 {w:WT} {e:ET} (f:EvF w e):EvT (evP e) e:=by
 obtain⟨⟨k1,k2,ce,lk,cd,th,fu⟩,t0,_,_⟩:=f;refine ⟨(F8 t0).symm,(F8 (by omega)).symm,λh=>(F8 ?_).symm,rfl⟩;unfold evP at h;simp only[bi,cu,fY] at h;by_cases h1:e.2.1=3\/e.2.1=4
 .exact (ce h1).1
 by_cases h2:6<=e.2.1/\e.2.1<=11
 .exact (lk h2).1
 by_cases M:16<=e.2.1/\e.2.1<=19
 .exact (cd M).1
 by_cases J:e.2.1=20\/e.2.1=21
 .exact (th J).1
 by_cases I:e.2.1=22\/e.2.1=23
 .exact (fu I).1
 omega
theorem ZS {w:WT} {e:ET} (f:EvF w e) (wb:WB w) {h:HS} (I:Fit w h):EOK w h (evP e):=by
 obtain⟨⟨k1,k2,ce,lk,cd,th,fu⟩,t0,t1,J⟩:=f;have Z:=wb.t;have Y:=I.T;have U:=I.L;have M:=I.C;have f4:=I.F;unfold evP;refine ⟨by dsimp only;omega,by dsimp only;omega,by dsimp only;omega,by dsimp only;omega,λq=>?_,λq=>?_,λq=>?_,λq=>?_,λq=>?_⟩<;>dsimp only at q ⊢
 .have:=th (by omega);omega
 .have:=lk (by omega);omega
 .have g:=cd (by omega);have hl:e.2.2.1.toNat<w.2.2.1.length:=by omega
  have hm:=J (w.2.2.1.getD e.2.2.1.toNat ([],0)) (by rw[ay,aA hl];exact uH hl);refine ⟨hl,hm.1,?_⟩;unfold Ks;have:=hm.2;have:=hm.1;omega
 .have:=ce (by omega);omega
 .have:=fu (by omega);omega
theorem iz {σ R:Type} {f:σ->Option (σ⊕R)} {Q:R->Prop} (n:Nat) (hn:n<=1000000) (I:Nat->σ->Prop) (h0:∀ i x,i<n->I i x->Ok (f x) λr=>match r with|.inl y=>I (i+1) y|.inr r=>Q r) (h1:∀ x,I n x->Ok (f x) λr=>match r with|.inl _=>False|.inr r=>Q r) {x:σ} (U:I 0 x):Ok (gk f x) Q:=by
 have key:∀ m i x,i+m=n->I i x->∃ r,iterN f (m+1) x=af r/\Q r:=by
  intro m;induction m with
  |zero=>
   intro i x hi U;have:i=n:=by omega
   subst this;obtain⟨r,M,J⟩:=h1 x U;cases r with
   |inl y=>exact J.elim
   |inr r=>exact⟨r,by rw[iterN,M],J⟩
  |succ m Y=>
   intro i x hi U;obtain⟨r,M,J⟩:=h0 i x (by omega) U;cases r with
   |inl y=>
    obtain⟨r,g3,Z⟩:=Y (i+1) y (by omega) J;exact⟨r,by rw[iterN,M];exact g3,Z⟩
   |inr r=>exact⟨r,yH (n:=1) (by rw[iterN,M]) (by omega),J⟩
 obtain⟨r,M,J⟩:=key n 0 x (by omega) U;exact⟨r,yH M (by omega),J⟩
theorem MY (a b:Int):eU (a,b)=af (decide (0<=a/\a<b)):=by
 refine cD ?_;unfold eU jz aF;with_reducible repeat' first|(refine OS.ok ?_;constructor)|refine IM.mk λ_=>?_
 .by_cases h:a<b<;>simp[*,fO]
 .simp;omega
theorem Sh (l:List Int) (t:Int) (hl:l.length<=1000):kn (l,t)=af (l.contains t):=by
 refine cD ?_;unfold kn rm xk bf bz bK aZ cP aF cF;refine ax (P:=λy:Int=>0<=y↔t∈l) ?_ λy I=>ar ?_
 .refine iz l.length (by omega) (λi x=>x=(i:Int)/\∀ j,j<i->¬l.getD j 0=t) ?_ ?_ ⟨rfl,λj hj=>by omega⟩
  .rintro i x hi ⟨rfl,hn⟩;refine dv ?_;refine cA (aS (aK (λh=>ar ?_) λh=>ar ?_))
   .refine ⟨λ_=>?_,λ_=>by omega⟩;have h:t=aJ (T:=.int .i64) l (i:Int):=h;rw[h];exact bG (T:=.int .i64) (xs:=l) (by omega) (by omega)
   .refine ⟨gO (by omega),λj hj=>?_⟩;have h:¬t=l.getD i 0:=h;by_cases e:j=i
    .subst e;exact λg=>h g.symm
    .exact hn j (by omega)
  .rintro x ⟨rfl,hn⟩;refine dc (ar ?_);refine ⟨λg=>(by omega),λg=>?_⟩;obtain⟨j,hj,e⟩:=List.getElem_of_mem g;exact (hn j hj (by rw[ay,aA hj];exact e)).elim
 .by_cases h:t∈l
  .have:=I.2 h;simp[c5,h,this]
  .have:¬0<=y:=λg=>h (I.1 g)
   simp[c5,h,this]
theorem afx (w:WT) (s:SY) (I:w.2.2.1.length<=1000) (cd:∀ c∈w.2.2.1,0<=c.2/\c.2<w.2.1.length) (e1:s.1.length=w.2.1.length) (e2:s.2.2.1.length=w.2.2.2.1.length) (e3:s.2.2.2.length=w.2.2.2.2.1.length):kc (w,s)=af ai:=by
 refine cD ?_;unfold kc s9 aX bl bw dw bz iT bK aZ cP aF cF;refine aY (λx=>x=(aj,w)) ?_ ?_
 .refine b8 (λh=>(h (by dsimp only[au];omega)).elim) λ_=>b8 (λh=>(h (by dsimp only[au];omega)).elim) λ_=>ar ?_
  dsimp only[au];rw[e3];simp
 rintro x rfl;refine fU (iz w.2.2.1.length (by omega) (λi x=>x=((i:Int),w)) ?_ ?_ rfl)
 .rintro i x hi rfl;refine dv ?_;refine cA (aS (aV (MY _ _) (b8 (λh=>(h ?_).elim) λ_=>ar ?_)))
  .exact cd _ (bG (T:=O2) (xs:=w.2.2.1) (j:=(i:Int)) (by omega) (by omega))
  .dsimp only;rw[gO (by omega)]
 .rintro x rfl;exact dc (ar rfl)
theorem aa9 (w:WT) (k o:Int) (h:NM w k o):lU (w,k,o)=af ai:=by
 refine cD ?_;obtain⟨k1,k2,ce,lk,cn,th,fu,no,mu,rw_⟩:=h;unfold lU aX bl bw cz bf bK aZ aF;rcases @Ib k with rfl|rfl|rfl|rfl|rfl|rfl|rfl|rfl|rfl|rfl|rfl|rfl|rfl|rfl|rfl|rfl|rfl|rfl|rfl|rfl|rfl|rfl|rfl|⟨hk,I⟩
 case inr.inr.inr.inr.inr.inr.inr.inr.inr.inr.inr.inr.inr.inr.inr.inr.inr.inr.inr.inr.inr.inr.inr=>omega
 all_goals simp only[aT,bp,sP,MY]
 all_goals with_reducible repeat' first|(refine OS.ok ?_;constructor)|refine IM.mk λ_=>?_
 all_goals try simp only[au,qL] at*
 all_goals first|omega|exact rw_ ⟨by decide,by decide⟩|(simp only[*,Bool.not_false,cJ];done)
theorem ag8 {n:Nat} (w:WT) (s:SY) (hs:SB n s) (hn:n<=1000) (t k o:Int) (he:EN w s t k o) (hr:So w s t k o):oz (w,s,t,k,o)=af ai:=by
 refine cD ?_;obtain⟨nm,t0,t1,cd,e1,e2,e3⟩:=id he;obtain⟨_,_,ce,lk,cn,th,fu,no,mu,rw_⟩:=nm;obtain⟨_,_,_,aq,wr,ra,rl,rr,xb,xe,ab,ae,nt,sp,jo,se,ge⟩:=hr;have hm:16<=k/\k<=19->0<=(aJ (T:=O2) w.2.2.1 o).2/\(aJ (T:=O2) w.2.2.1 o).2<w.2.1.length:=λh=>cd _ (bG (cn h).1 (cn h).2)
 have M:6<=k/\k<=11->kn ((aJ (T:=zH) s.1 o).2,t)=af ((aJ (T:=zH) s.1 o).2.contains t):=λh=>Sh _ _ (by
  have:=hs.rd _ (bG (T:=zH) (lk h).1 (by have:=(lk h).2;omega));omega)
 have lk1:6<=k/\k<=11->0<=o/\o<(s.1.length:Int):=λh=>by have:=lk h;omega
 have J:t<(s.2.2.2.length:Int):=by omega
 have fu1:k=22\/k=23->0<=o/\o<(s.2.2.1.length:Int):=λh=>by have:=fu h;omega
 have th1:k=20\/k=21->0<=o/\o<(s.2.2.2.length:Int):=λh=>by have:=th h;omega
 have I:∀ {p:Prop} [Decidable p],p->decide p=ai:=λh=>aQ h
 unfold oz aX bl bw dw cS bf iT bK aZ aF;refine aK (λh=>?_) λn6=>?_
 .have h:k=6:=h;exact aR (lk1 (by omega)).1 (lk1 (by omega)).2 (aS (ar (I (aq (.inl h)))))
 refine aK (λh=>?_) λU=>?_
 .have h:k=10:=h;refine gu (aR (lk1 (by omega)).1 (lk1 (by omega)).2 (aS (aK (λ_=>?_) λg=>(g (aq (.inr (.inr h)))).elim)));refine aR (lk1 (by omega)).1 (lk1 (by omega)).2 (aS (ar (ar (I ?_))));have:=wr h;dsimp only[au] at this ⊢;omega
 refine aK (λh=>?_) λZ=>?_
 .have h:k=8:=h;refine gu (aR (lk1 (by omega)).1 (lk1 (by omega)).2 (aS (aK (λ_=>?_) λg=>(g (aq (.inr (.inl h)))).elim)));refine aR (lk1 (by omega)).1 (lk1 (by omega)).2 (aS (aV (M (by omega)) (ar (ar ?_))));rw[ra h];rfl
 refine aY (λx=>x.2=(w,s)/\(x.1=ai↔k=7\/k=11)) (aK (λh=>ar ⟨rfl,λ_=>.inl h,λ_=>I h⟩) λh=>ar ⟨rfl,λh2=>.inr (bg h2),λh2=>I (h2.resolve_left h)⟩) ?_;rintro⟨b,x⟩ ⟨e,hb⟩;dsimp only at e hb;subst e;refine aP (λh=>?_) λ_=>?_
 .have h:=hb.1 h;exact aR (lk1 (by omega)).1 (lk1 (by omega)).2 (aS (ar (I (rl h))))
 refine aK (λh=>?_) λY=>?_
 .have h:k=9:=h;refine aR (lk1 (by omega)).1 (lk1 (by omega)).2 (aS (aV (M (by omega)) (ar (rr h))))
 refine aK (λh=>ar (I (xb h))) λ_=>aK (λh=>ar (I (xe h))) λ_=>?_
 refine aK (λh=>aR t0 J (aS (ar (by have:=ab h;dsimp only at this ⊢;rw[this];rfl)))) λ_=>aK (λh=>aR t0 J (aS (ar (ae h)))) λ_=>?_
 refine aY (λx=>x.2=(w,s)/\(x.1=ai->k=16\/k=18\/k=19)) (aK (λh=>ar ⟨rfl,λ_=>.inl h⟩) λ_=>aK (λh=>ar ⟨rfl,λ_=>.inr (.inl h)⟩) λ_=>ar ⟨rfl,λh=>.inr (.inr (bg h))⟩) ?_;rintro⟨c,x⟩ ⟨e,hc⟩;dsimp only at e hc;subst e;refine aP (λh=>?_) λ_=>?_
 .have h:=hc h;have hq:=hm (by omega);exact aR (cn (by omega)).1 (cn (by omega)).2 (aS (aR hq.1 (by rw[e1];exact hq.2) (aS (ar (I (nt h))))))
 refine aK (λh=>?_) λ_=>?_
 .have h:k=20:=h;exact gu (b8 (λ_=>aR (th1 (.inl h)).1 (th1 (.inl h)).2 (aS (ar (ar (I (sp h).2))))) λg=>((sp h).1 g).elim)
 refine aK (λh=>?_) λ_=>?_
 .have h:k=21:=h;exact gu (b8 (λ_=>aR (th1 (.inr h)).1 (th1 (.inr h)).2 (aS (ar (ar (I (jo h).2))))) λg=>((jo h).1 g).elim)
 refine aK (λh=>aR (fu1 (.inl h)).1 (fu1 (.inl h)).2 (aS (ar (by have:=se h;dsimp only at this ⊢;rw[this];rfl)))) λ_=>aK (λh=>aR (fu1 (.inr h)).1 (fu1 (.inr h)).2 (aS (ar (ge h)))) λ_=>ar rfl
theorem Dz {n:Nat} (w:WT) (s:SY) (hs:SB n s) (hn:n<=1000) (U:w.2.2.1.length<=1000) (t k o:Int) (he:EN w s t k o) (hr:So w s t k o):i_ (w,s,t,k,o)=af ai:=by
 refine cD ?_;obtain⟨nm,t0,t1,cd,e1,e2,e3⟩:=id he;have hrd:=ag8 w s hs hn t k o he hr;have M:t<(s.2.2.2.length:Int):=by omega
 unfold i_ aX bl bw bL dw cS bf bK aZ aF;refine aY (λx=>x=(aj,w,s)) ?_ ?_
 .refine aV (afx w s U cd e1 e2 e3) (fJ rfl (aV (MY _ _) ?_));refine b8 (λh=>(h ⟨t0,t1⟩).elim) λ_=>aV (aa9 w k o nm) (ar rfl)
 rintro x rfl;refine fU (aR t0 M (aS ?_));refine aK (λh=>ar (aQ (hr.b h))) λn1=>?_
 refine aK (λh=>?_) λn17=>?_
 .have h:k=17:=h;obtain⟨a1,a2,a3⟩:=hr.wk h;obtain⟨J,I⟩:=nm.cd (by omega);have hq:=cd _ (bG (T:=O2) (xs:=w.2.2.1) (j:=o) J I);refine gu (aK (λ_=>aK (λ_=>?_) λg=>(g a2).elim) λg=>(g a1).elim);exact aR J I (aS (aR hq.1 (by rw[e1];exact hq.2) (aS (ar (ar (aQ a3))))))
 refine gu (aK (λ_=>aV hrd (ar (ar rfl))) λg=>(g (hr.r n1 n17)).elim)
theorem ac5 (w:WT) (e:ET) (h1:e.2.1=1\/e.2.1=2->e.2.2.2.2.1= -1) (h2:¬(e.2.1=1\/e.2.1=2)->0<=e.2.2.2.2.1/\e.2.2.2.2.1<w.2.2.2.2.2.length/\(aJ (T:=xA) w.2.2.2.2.2 e.2.2.2.2.1).1=e.1):jA (w,e)=af ai:=by
 refine cD ?_;unfold jA aX ef cS bf bz jz bK aZ aF;refine aY (λx=>x.2=(w,e)/\(x.1=ai↔e.2.1=1\/e.2.1=2)) (aK (λh=>ar ⟨rfl,λ_=>.inl h,λ_=>rfl⟩) λh=>ar ⟨rfl,λh2=>.inr (bg h2),λh2=>aQ (h2.resolve_left h)⟩) ?_;rintro⟨b,x⟩ ⟨e1,hb⟩;dsimp only at e1 hb;subst e1;refine aP (λh=>ar (aQ (h1 (hb.1 h)))) λh=>?_
 obtain⟨a1,a2,a3⟩:=h2 λg=>by rw[hb.2 g] at h;cases h
 exact gu (fo (λ_=>dv (aR a1 a2 (aS (ar (ar (aQ a3)))))) λg=>(by dsimp only at g;omega))
theorem aa7 {l:List Int} (h:GR l) (i:Nat) (hi:i<l.length):∀ z∈l.drop (i+1),l.getD i 0<z:=by
 induction l generalizing i with
 |nil=>cases hi
 |cons a l I=>
  cases i with
  |zero=>exact λz J=>h.1 z (by simpa using J)
  |succ i=>exact I h.2 i (by simpa using hi)
theorem QN (w:WT) (s:SN) (e:ET) (ce:e.2.1=3\/e.2.1=4->0<=e.2.2.1/\e.2.2.1<w.1.length) (de:0<e.2.2.2.2.2.1.length->e.2.1=5\/(e.2.1=3\/e.2.1=4)/\¬(aJ (T:=OQ) w.1 e.2.2.1).2.2.1=0) (fr:0<e.2.2.2.2.2.2.length->e.2.1=4\/e.2.1=22) (t0:0<=e.1) (t1:e.1<s.2.2.2.length) (nd:AN (aJ (T:=.int .i64) s.2.2.2 e.1) e.2.2.2.2.2.1) (nf:AN (aJ (T:=.int .i64) s.2.2.2 e.1) e.2.2.2.2.2.2) (ld:e.2.2.2.2.2.1.length<=1000000) (lf:e.2.2.2.2.2.2.length<=1000000):eQ (w,s,e)=af ai:=by
 refine cD ?_;unfold eQ jk aX bl bw cz bL dw fc bf bz jz bF bK aZ cP aF cF;refine aY (λx=>x.2=(s,e)/\((e.2.1=3\/e.2.1=4)/\¬(aJ (T:=OQ) w.1 e.2.2.1).2.2.1=0->x.1=ai)) ?_ ?_
 .refine aK (λh=>?_) λn3=>aK (λh=>?_) λn4=>?_
  .exact aR (ce (.inl h)).1 (ce (.inl h)).2 (aS (ar ⟨rfl,λg=>by simpa using g.2⟩))
  .exact aR (ce (.inr h)).1 (ce (.inr h)).2 (aS (ar ⟨rfl,λg=>by simpa using g.2⟩))
  .exact ar ⟨rfl,λg=>(g.1.elim n3 n4).elim⟩
 rintro⟨b,x⟩ ⟨e1,hb⟩;dsimp only at e1 hb;subst e1;refine aY (λx=>x.1=s/\x.2.1=e/\(0<e.2.2.2.2.2.1.length->x.2.2.1=ai)/\(0<e.2.2.2.2.2.2.length->x.2.2.2=ai)) ?_ ?_
 .refine aK (λZ=>aK (λI=>ar ⟨rfl,rfl,λ_=>rfl,λ_=>rfl⟩) λI=>ar ⟨rfl,rfl,λ_=>rfl,λg=>?_⟩) λZ=>aK (λI=>ar ⟨rfl,rfl,λg=>?_,λ_=>rfl⟩) λI=>ar ⟨rfl,rfl,λg=>?_,λg=>?_⟩
  .exact aQ ((fr g).resolve_left I)
  .exact hb ((de g).resolve_left Z)
  .exact hb ((de g).resolve_left Z)
  .exact aQ ((fr g).resolve_left I)
 rintro⟨s',e',a,b'⟩ ⟨e1,e2,h1,h2⟩;dsimp only at e1 e2 h1 h2;subst e1;subst e2;have key:∀ (r:List Int),r.length<=1000000->AN (aJ (T:=.int .i64) s'.2.2.2 e'.1) r->∀ j:Nat,j<r.length->∀ z∈r.drop (j+1),aJ (T:=.int .i64) r (j:Int)<z:=λr _ h j hj z U=>aa7 h.a j hj z U
 refine iz 2 (by omega) (λi x=>x=((i:Int),s',e',a,b')) ?_ ?_ rfl
 .rintro i x hi rfl;refine dv ?_;refine dt (eH (by dsimp only;omega) (zL (by dsimp only;omega) (aS ?_)));have hr:∃ r:List Int,aJ (T:=.sl (.int .i64)) [e'.2.2.2.2.2.1,e'.2.2.2.2.2.2] (i:Int)=r/\AN (aJ (T:=.int .i64) s'.2.2.2 e'.1) r/\r.length<=1000000/\(0<r.length->aJ (T:=.bool) [a,b'] (i:Int)=ai):=by
   match i,hi with
   |0,_=>exact⟨_,rfl,nd,ld,h1⟩
   |1,_=>exact⟨_,rfl,nf,lf,h2⟩
  obtain⟨r,er,hA,hl,Y⟩:=hr;have er':aJ (T:=.sl aN) [e'.2.2.2.2.2.1,e'.2.2.2.2.2.2] (i:Int)=r:=er;dsimp only at er' ⊢;rw[er'];refine aY (λx=>x=(aj,s',e',a,b')) ?_ ?_
  .refine bI (λg=>?_) λ_=>ar rfl
   have g':0<r.length:=by dsimp only[au] at g;omega
   refine dt (eH (by omega) (zL (by omega) (cA (aS (ar ?_)))));rw[Y g'];rfl
  rintro x rfl;refine fU ?_;refine iz r.length (by omega) (λj x=>x.1.2=(j:Int)/\x.2=(s',e',a,b')/\∀ z∈r.drop j,x.1.1<z) ?_ ?_ ⟨rfl,rfl,λz U=>?_⟩
  .rintro j ⟨⟨la,ix⟩,x⟩ hj ⟨M,J,g3⟩;dsimp only at M J g3;subst M;subst J;have m:aJ (T:=.int .i64) r (j:Int)∈r:=bG (T:=.int .i64) (xs:=r) (by omega) (by omega);have m2:aJ (T:=.int .i64) r (j:Int)∈r.drop j:=by
    have:aJ (T:=.int .i64) r (j:Int)=r[j]:=by
     show r.getD j 0=_;rw[ay,aA hj];rfl
    rw[this,List.drop_eq_getElem_cons hj];exact dz
   refine dv ?_;refine cA (aS (aY (λx=>x=(aj,s',e',a,b')) ?_ ?_))
   .refine fo (λg=>?_) λ_=>aR t0 t1 (aS (ar ?_))
    .have q1:=g3 _ m2;exact cZ q1 (by dsimp only at g;exact λq=>cZ (Int.lt_of_lt_of_le q g) (Int.lt_irrefl _))
    .have:=(hA.m _ m).2;rw[kT.2 (show aJ (T:=.int .i64) r (j:Int)<aJ (T:=.int .i64) s'.2.2.2 e'.1 from this)]
   rintro x rfl;exact fU (ar ⟨gO (by omega),rfl,key r hl hA j hj⟩)
  .rintro⟨⟨la,ix⟩,x⟩ ⟨M,J,_⟩;dsimp only at M J;subst M;subst J;exact dc (ar (gG (·,s',e',a,b') (gO (by omega))))
  .have:=(hA.m z (by simpa using U)).1;dsimp only;omega
 .rintro x rfl;exact dc (ar rfl)
theorem ak0 (w:WT) (s:SN) (I:w.2.2.1.length<=1000) (t k o:Int) (he:EN w s.1 t k o) (hf:F16 w s):kO (w,s)=af ai:=by
 obtain⟨_,_,_,cd,e1,e2,e3⟩:=he;obtain⟨U,M,J⟩:=hf;refine cD ?_;unfold kO aX bl bw dw bf aZ aF;refine gu (aV (afx w s.1 I cd e1 e2 e3) (Y_ (aK (λ_=>aK (λ_=>ar (ar (aQ ?_))) λg=>(g ?_).elim) λg=>(g ?_).elim)));all_goals dsimp only[au];omega
theorem G1 (th:List (Int×Int×Bool)) (c:Int) (i:Nat):wl th c (i+1)=if Hq c (aJ (T:=jy) th (i:Int)) then wl th c i++[(i:Int)] else wl th c i:=rfl
theorem abr {n:Nat} (w:WT) (s:SN) (hs:SB n s.1) (e:ET) (hf:F16 w s) (he:EN w s.1 e.1 e.2.1 e.2.2.1) (va:VA w s.1 s.2.1 s.2.2.1 e.1 e.2.1 e.2.2.1 e.2.2.2.1):gp (s,e)=af ai:=by
 refine cD ?_;obtain⟨t,k,o,v,si,de,fr⟩:=e;obtain⟨s1,s2,s3,s4⟩:=s;obtain⟨nm,t0,t1,cd,e1,e2,e3⟩:=he;obtain⟨_,_,ce,lk,cn,th,fu,_,_,_⟩:=nm;obtain⟨f1,f2,f3⟩:=hf;have hth:=hs.th;obtain⟨v3,Y,v5,vel⟩:=va;dsimp only at*
 unfold gp lE aX bl bw cz bL bf bz bK aZ cP aF cF;refine aK (λh=>?_) λn3=>?_
 .have h:k=3:=h;obtain⟨c0,c1⟩:=ce (.inl h);exact aR c0 (by rw[f1];exact c1) (aS (ar (aQ (v3 h))))
 refine aK (λh=>?_) λZ=>?_
 .have h:k=23:=h;obtain⟨c0,c1⟩:=fu (.inr h);exact aR c0 (by rw[f2];exact c1) (aS (ar (aQ (Y h))))
 refine aK (λh=>?_) λn5=>?_
 .have h:k=5:=h;exact gu (aK (λ_=>ar (ar rfl)) λg=>ar (ar (aQ ((v5 h).resolve_left g))))
 refine aY (λx=>x.2=((s1,s2,s3,s4),t,k,o,v,si,de,fr)/\(x.1=aj->¬k=4/\¬k=22)) (aK (λh=>ar ⟨rfl,λh2=>(by rw[aQ h] at h2;cases h2)⟩) λh=>ar ⟨rfl,λh2=>⟨h,Ba h2⟩⟩) ?_;rintro⟨b,x⟩ ⟨e,hb⟩;dsimp only at e hb;subst e;refine aP (λh=>ar rfl) λh=>?_
 obtain⟨n4,n22⟩:=hb h;have vel:=vel n3 Z n5 n4 n22;have hWl:=vh s1.2.2.2 o s1.2.2.2.length;refine aK (λh=>?_) λn18=>?_
 .have h:k=18:=h;subst h;rw[EM] at vel;refine iz s1.2.2.2.length (by omega) (λi x=>x.1.2.2=(i:Int)/\x.2=(t,18,o,v,si,de,fr)/\x.1.1=((wl s1.2.2.2 o i).length:Int)/\(x.1.2.1=ai↔v∈wl s1.2.2.2 o i)) ?_ ?_ ⟨rfl,rfl,rfl,by simp[wl]⟩
  .rintro i ⟨⟨c,hit,ix⟩,x⟩ hi ⟨J,I,M,U⟩;dsimp only at J I M U;subst J;subst I;subst M;have hl:=vh s1.2.2.2 o i;refine dv ?_;refine aY (λx=>x.2=(t,18,o,v,si,de,fr)/\x.1.1=((wl s1.2.2.2 o (i+1)).length:Int)/\(x.1.2=ai↔v∈wl s1.2.2.2 o (i+1))) ?_ ?_
   .refine cA (aS (aY (λx=>x=(Hq o (aJ (T:=jy) s1.2.2.2 (i:Int)),t,18,o,v,si,de,fr)) ?_ ?_))
    .unfold Hq;refine aK (λh=>ar ?_) λh=>ar ?_
     .dsimp only at h ⊢;rw[h];rfl
     .dsimp only at h ⊢;rw[bH h];rfl
    rintro x rfl;rw[G1];dsimp only;cases hw:Hq o (aJ (T:=jy) s1.2.2.2 (i:Int)) with
    |true=>
     refine Y_ (aP (λh=>ar ⟨rfl,?_,?_⟩) λh=>ar ⟨rfl,?_,?_⟩)
     .dsimp only;rw[gO (by omega)];simp
     .simp[U.1 h]
     .dsimp only;rw[gO (by omega)];simp
     .have:¬v∈wl s1.2.2.2 o i:=λg=>by rw[U.2 g] at h;cases h
      simp[this]
    |false=>exact fU (ar ⟨rfl,rfl,U⟩)
   rintro⟨⟨c,hit'⟩,x⟩ ⟨J,I,M⟩;dsimp only at J I M;subst J;subst I;exact ar ⟨gO (by omega),rfl,rfl,M⟩
  .rintro⟨⟨c,hit,ix⟩,x⟩ ⟨J,I,M,U⟩;dsimp only at J I M U;subst J;subst I;subst M;refine dc (ax (P:=λy=>y=ai) (gu (aP (λ_=>ar (ar rfl)) λh=>?_)) λy hy=>ar hy);have hn:¬v∈wl s1.2.2.2 o s1.2.2.2.length:=λg=>by rw[U.2 g] at h;cases h
   by_cases h0:(wl s1.2.2.2 o s1.2.2.2.length).length=0
   .rw[aE h0] at vel;refine aK (λ_=>ar (ar (aQ vel))) λg=>(g (by dsimp only;omega)).elim
   .rw[aB h0] at vel;have vel:v=AS (wl s1.2.2.2 o s1.2.2.2.length) v:=vel;exact (hn (vel▸Hj v h0)).elim
 refine aK (λh=>?_) λn19=>?_
 .have h:k=19:=h;subst h;rw[ah1] at vel;refine iz s1.2.2.2.length (by omega) (λi x=>x.1.2=(i:Int)/\x.2=(t,19,o,v,si,de,fr)/\x.1.1=((wl s1.2.2.2 o i).length:Int)) ?_ ?_ ⟨rfl,rfl,rfl⟩
  .rintro i ⟨⟨c,ix⟩,x⟩ hi ⟨J,I,M⟩;dsimp only at J I M;subst J;subst I;subst M;have hl:=vh s1.2.2.2 o i;refine dv ?_;refine aY (λx=>x.2=(t,19,o,v,si,de,fr)/\x.1=((wl s1.2.2.2 o (i+1)).length:Int)) ?_ ?_
   .refine cA (aS (aY (λx=>x=(Hq o (aJ (T:=jy) s1.2.2.2 (i:Int)),t,19,o,v,si,de,fr)) ?_ ?_))
    .unfold Hq;refine aK (λh=>ar ?_) λh=>ar ?_
     .dsimp only at h ⊢;rw[h];rfl
     .dsimp only at h ⊢;rw[bH h];rfl
    rintro x rfl;rw[G1];dsimp only;cases hw:Hq o (aJ (T:=jy) s1.2.2.2 (i:Int)) with
    |true=>
     refine Y_ (ar ⟨rfl,?_⟩);dsimp only;rw[gO (by omega)];simp
    |false=>exact fU (ar ⟨rfl,rfl⟩)
   rintro⟨c,x⟩ ⟨J,I⟩;dsimp only at J I;subst J;subst I;exact ar ⟨gO (by omega),rfl,rfl⟩
  .rintro⟨⟨c,ix⟩,x⟩ ⟨J,I,M⟩;dsimp only at J I M;subst J;subst I;subst M;exact dc (ar (aQ vel))
 exact ar (aQ (by rw[afh _ _ _ _ _ _ n18 n19] at vel;exact vel))
theorem YF (x:Int×Int×Bool) (c:Int):me (x,c)=af (Hq c x):=by
 refine cD ?_;unfold me Hq bf aF;refine gu (aK (λh=>ar (ar ?_)) λh=>ar (ar ?_))
 .have h:x.1=3:=h;rw[h];rfl
 .have h:¬x.1=3:=h;rw[bH h];rfl
theorem Z5 {n:Nat} (s:SY) (hs:SB n s):km s=af (s.2.1,s.1,s.2.2.1,s.2.2.2):=by
 refine cD ?_;obtain⟨s1,s2,J,I⟩:=s;have hn:=hs.n1;have hlk:=hs.lk;have hdn:=hs.dn;have hth:=hs.th;have hrd:=hs.rd;dsimp only at hlk hdn hth hrd;unfold km rQ aX bL ck bz bF bK aZ cP cF;dsimp only[au];refine dt (dt (eH (by omega) (eH (by omega) (bn (by simp;omega) (by omega) ?_))));refine iz s1.length (by omega) (λi x=>∃ c d,x=((i:Int),(s1,s2,J,I),c,d)/\d.length=s1.length/\∀ j,j<i->d.getD j (0,[])=s1.getD j (0,[])) ?_ ?_ ⟨_,_,rfl,by simp,λj hj=>by omega⟩
 .rintro i x hi ⟨c,d,rfl,hd,he⟩;have hr:=hrd _ (bG (T:=zH) (xs:=s1) (j:=(i:Int)) (by omega) (by omega));refine dv ?_;refine cA (aS (aV (x:=(aJ (T:=zH) s1 (i:Int)).2) (cD ?_) ?_))
  .exact bn (by dsimp only;omega) (by omega) (ar rfl)
  refine cA (cA (ar ⟨c,d.set i (aJ (T:=zH) s1 (i:Int)),?_,by simp[hd],λj hj=>?_⟩))
  .dsimp only;rw[gO (by omega)];rfl
  .by_cases e:i=j
   .subst e;rw[ay,List.getElem?_set_self (by omega)];rfl
   .rw[ay,List.getElem?_set_ne e,<-ay];exact he j (by omega)
 .rintro x ⟨c,d,rfl,hd,he⟩;have:d=s1:=by
   refine dA hd λj Y M=>?_
   have:=he j M;rw[ay,ay,aA Y,aA M] at this;exact this
  subst this;refine dc (ax (P:=λy=>y=(s2,d,J,I)) ?_ λy U=>ar U);refine aV (x:=J) (cD (bn (by dsimp only;omega) (by omega) (ar rfl))) (aV (x:=I) (cD (bn (by dsimp only;omega) (by omega) (ar rfl))) (ar rfl))
theorem Wc (l:List Int) (i u:Int):AS (l++[i]) u=if l.length=0 then i else if i=u then i else AS l u:=by
 unfold AS;cases l with
 |nil=>
  by_cases h:u=i
  .subst h;simp
  .simp[h];rfl
 |cons a r=>
  have e1:¬(a::r++[i]).length=0:=by simp
  have e2:¬(a::r).length=0:=by simp
  simp only[aB e1,aB e2];by_cases h:i=u
  .subst h;simp
  .have h':¬u=i:=λg=>h g.symm
   rw[aB h];have:(a::r++[i]).contains u=(a::r).contains u:=by simp[h']
   rw[this];rfl
theorem Oq {th:List (Int×Int×Bool)} {c u:Int} {i:Nat} (h:¬(wl th c i).length=0):0<=AS (wl th c i) u/\AS (wl th c i) u<i:=by
 have:=qT.1 (Hj u h);exact⟨this.1,this.2.1⟩
theorem JP {l:List Int} {u:Int} (h:l.length=0):AS l u= -1:=by unfold AS;rw[aE h]
theorem acb (s:SY) (o u:Int) (hs:s.2.2.2.length<=1000):jF ((s.2.1,o,u),s.1,s.2.2.1,s.2.2.2)=af (AS (wl s.2.2.2 o s.2.2.2.length) u,s.1,s.2.2.1,if (wl s.2.2.2 o s.2.2.2.length).length=0 then s.2.2.2 else xB s.2.2.2 (AS (wl s.2.2.2 o s.2.2.2.length) u) 4):=by
 refine cD ?_;obtain⟨s1,s2,J,I⟩:=s;dsimp only at hs ⊢;unfold jF qp aX bl bL ck bz jz kZ aZ cP aF cF;dsimp only[au];refine iz I.length (by omega) (λi x=>x=((AS (wl I o i) u,(i:Int)),s1,J,I,s2)) ?_ ?_ rfl
 .rintro i x hi rfl;refine dv ?_;refine aY (λx=>x=(AS (wl I o (i+1)) u,s1,J,I,s2)) ?_ ?_
  .refine cA (cA (aS ?_));refine aY (λx=>x=(decide (Hq o (aJ (T:=jy) I (i:Int))=ai/\((wl I o i).length=0\/(i:Int)=u)),s1,J,I,s2)) ?_ ?_
   .refine aV (YF _ _) (aP (λh=>?_) λh=>ar ?_)
    .have h:Hq o (aJ (T:=jy) I (i:Int))=ai:=h;refine bI (λg=>ar ?_) λg=>ar ?_
     .have:(wl I o i).length=0:=vg λq=>by have:=(Oq (u:=u) q).1;dsimp only at g;omega
      simp[h,this]
     .have:¬(wl I o i).length=0:=λq=>by have:=JP (u:=u) q;dsimp only at g;omega
      simp[h,this]
    .have h:Hq o (aJ (T:=jy) I (i:Int))=aj:=h;simp[h]
   rintro x rfl;rw[G1];refine aK (λh=>ar ?_) λh=>ar ?_
   .rw[aE h.1,Wc];rcases h.2 with g|g
    .rw[aE g]
    .rw[aE g];simp
   .by_cases g:Hq o (aJ (T:=jy) I (i:Int))=ai
    .rw[aE g,Wc,aB λq=>h ⟨g,.inl q⟩,aB λq=>h ⟨g,.inr q⟩]
    .rw[aB g]
  rintro x rfl;exact ar (by dsimp only;rw[gO (by omega)])
 .rintro x rfl;refine dc (ax (P:=λy=>y=(AS (wl I o I.length) u,s1,J,if (wl I o I.length).length=0 then I else xB I (AS (wl I o I.length) u) 4)) ?_ λy M=>ar M);refine aY (λx=>x=(s1,J,if (wl I o I.length).length=0 then I else xB I (AS (wl I o I.length) u) 4)) ?_ ?_
  .refine fo (λg=>?_) λg=>ar ?_
   .have h0:¬(wl I o I.length).length=0:=λq=>by have:=JP (u:=u) q;dsimp only at g;omega
    have hp:=Oq (u:=u) h0;refine aR hp.1 hp.2 (aR hp.1 hp.2 (ar ?_));rw[aB h0];rfl
   .have:(wl I o I.length).length=0:=vg λq=>by have:=(Oq (u:=u) q).1;dsimp only at g;omega
    rw[aE this]
  rintro x rfl;exact ar rfl
theorem acg (th:List (Int×Int×Bool)) (l:List Int) (i:Int):Cm th (l++[i])=xB (Cm th l) i 4:=by unfold Cm;rw[fB];rfl
theorem acf (l:List Int):∀ (th:List (Int×Int×Bool)) (j:Int),0<=j->(∀ z∈l,0<=z/\z<th.length/\¬z=j)->aJ (T:=jy) (Cm th l) j=aJ (T:=jy) th j:=by
 induction l with
 |nil=>intro th j _ _;rfl
 |cons x r J=>
  intro th j hj h;have I:=h x (by simp);refine (J (xB th x 4) j hj λz M=>?_).trans ?_
  .have:=h z (by simp[M]);unfold xB;rw[bV];exact this
  .unfold xB;rw[ry (T:=jy) th x j _ I.1 I.2.1 hj,aB λq=>I.2.2 q.symm]
theorem S9 (s:SY) (o:Int) (hs:s.2.2.2.length<=1000):gQ ((s.2.1,o),s.1,s.2.2.1,s.2.2.2)=af (((wl s.2.2.2 o s.2.2.2.length).length:Int),s.1,s.2.2.1,Cm s.2.2.2 (wl s.2.2.2 o s.2.2.2.length)):=by
 refine cD ?_;obtain⟨s1,s2,J,I⟩:=s;dsimp only at hs ⊢;unfold gQ mm aX bl bL dw ck bz kZ aZ cP aF cF;dsimp only[au];refine iz I.length (by omega) (λi x=>x=((((wl I o i).length:Int),(i:Int)),s1,J,Cm I (wl I o i),s2)) ?_ ?_ rfl
 .rintro i x hi rfl;have hl:=vh I o i;have hg:aJ (T:=jy) (Cm I (wl I o i)) (i:Int)=aJ (T:=jy) I (i:Int):=acf _ _ _ (by omega) λz M=>by have:=qT.1 M;exact⟨this.1,by omega,by omega⟩
  have hq:=G8 (wl I o i) I;refine dv ?_;refine aY (λx=>x=(((wl I o (i+1)).length:Int),s1,J,Cm I (wl I o (i+1)),s2)) ?_ ?_
  .refine cA (cA (aS (aV (YF _ _) ?_)));rw[G1];refine aP (λh=>?_) λh=>ar ?_
   .have h:Hq o (aJ (T:=jy) I (i:Int))=ai:=hg▸h;refine cA (cA (ar ?_));rw[aE h,acg];dsimp only;rw[gO (by omega)];simp only[bt,bY,jS];rfl
   .have h:Hq o (aJ (T:=jy) I (i:Int))=aj:=hg▸h;rw[h];rfl
  rintro x rfl;exact ar (by dsimp only;rw[gO (by omega)])
 .rintro x rfl;exact dc (ar rfl)
theorem aep {n:Nat} (w:WT) (s:SY) (hs:SB n s) (hn:n<=1000) (U:w.2.2.1.length<=1000) (t k o u:Int) (he:EN w s t k o) (hr:So w s t k o) (J:¬k=8) (I:¬k=9):gR (w,s,t,k,o,u)=af ((oG w s t k o u).1,(oG w s t k o u).2,ai):=by
 refine cD ?_;unfold gR aX bl bw cz ef bL dw cS fc ky ck bf bF bK kZ aF;refine aV (Dz w s hs hn U t k o he hr) (fJ rfl (aV (Z5 s hs) ?_));suffices hmain:Ok _ _ from aY (λx=>((x.2.2.2.1,x.2.1,x.2.2.2.2),x.1)=oG w s t k o u) hmain λx M=>ar (by rw[<- M])
 obtain⟨nm,t0,t1,cd,e1,e2,e3⟩:=id he;obtain⟨_,_,ce,lk,cn,th,fu⟩:=nm;have hm:16<=k/\k<=19->0<=(aJ (T:=O2) w.2.2.1 o).2/\(aJ (T:=O2) w.2.2.1 o).2<w.2.1.length:=λh=>cd _ (bG (cn h).1 (cn h).2)
 rcases @Ib k with rfl|rfl|rfl|rfl|rfl|rfl|rfl|rfl|rfl|rfl|rfl|rfl|rfl|rfl|rfl|rfl|rfl|rfl|rfl|rfl|rfl|rfl|rfl|⟨hk,Y⟩
 case inr.inr.inr.inr.inr.inr.inr.inr.inr.inr.inr.inr.inr.inr.inr.inr.inr.inr.inr.inr.inr.inr.inr=>omega
 all_goals first|exact (J rfl).elim|exact (I rfl).elim|skip
 all_goals simp only[aT,bp,sP]
 all_goals with_reducible repeat' first|(refine OS.ok ?_;constructor)|refine IM.mk λ_=>?_
 all_goals try simp only[au,qL] at*
 all_goals try rw[bV]
 all_goals first|omega|exact (hm ⟨by decide,by decide⟩).1|exact e1▸(hm ⟨by decide,by decide⟩).2|exact rfl|skip
 .refine aV (acb s o u hs.th) (be ?_ (ar ?_))
  .have:al (if (wl s.2.2.2 o s.2.2.2.length).length=0 then s.2.2.2 else xB s.2.2.2 (AS (wl s.2.2.2 o s.2.2.2.length) u) 4)=s.2.2.2.length:=by
    split
    .rfl
    .exact bV ..
   dsimp only;rw[this];simp
  .rw[EM];by_cases h:(wl s.2.2.2 o s.2.2.2.length).length=0
   .rw[aE h,aE h,JP h]
   .rw[aB h,aB h]
 .refine aV (S9 s o hs.th) (be ?_ (ar rfl));dsimp only;rw[G8];simp
def Ao:Nat->List (List Int)
 |0=>[[]]
 |m+1=>Ao m++(Ao m).map ((3-(m:Int))::·)
theorem LP:∀ m,[]∈Ao m
 |0=>by simp[Ao]
 |m+1=>by simp[Ao,LP m]
theorem DJ:∀ (m:Nat) (l:List Int),GR l->(∀ z∈l,4-(m:Int)<=z/\z<4)->l∈Ao m
 |m,[],_,_=>LP m
 |0,a::r,_,h=>by have:=h a (by simp);omega
 |m+1,a::r,hA,h=>by
  have J:=h a (by simp);rw[Ao,bP];by_cases e:a=3-(m:Int)
  .refine .inr (dk.2 ⟨r,DJ m r hA.2 λz I=>?_,by rw[e]⟩);have:=h z (by simp[I]);have:=hA.1 z I;omega
  .refine .inl (DJ m (a::r) hA λz I=>?_);have:=h z I;rcases bi.1 I with rfl|I
   .omega
   .have:=hA.1 z I;omega
theorem aev {l:List Int} (h:GR l) (h2:∀ z∈l,0<=z/\z<4):l∈Ao 4:=DJ 4 l h λz I=>by have:=h2 z I;omega
def in4:List Int:=[0,1,2,3]
theorem VM {t:Int} (h0:0<=t) (h1:t<4):t∈in4:=by
 have:t=0\/t=1\/t=2\/t=3:=by omega
 rcases this with rfl|rfl|rfl|rfl<;>simp[in4]
def aji (l:List Int) (t:Int):Bool:=l.contains t||((vU (l++[t])==af (wN l [t]))&&(lD (wN l [t])==af (wN l [t]))&&aC (wN l [t]).length (l++[t]).length)
def akb (l:List Int) (t:Int):Bool:= !l.contains t||(ja (l,t)==af (t,wo l t))
theorem abv:((Ao 4).all λl=>in4.all λt=>aji l t)=ai:=by kernel_rfl
theorem ad5:((Ao 4).all λl=>in4.all λt=>akb l t)=ai:=by kernel_rfl
theorem srt8 {l:List Int} {t:Int} (h:GR l) (h2:∀ z∈l,0<=z/\z<4) (h0:0<=t) (h1:t<4) (hn:¬t∈l):vU (l++[t])=af (wN l [t])/\lD (wN l [t])=af (wN l [t])/\(wN l [t]).length=(l++[t]).length:=by
 have:=gj.1 (gj.1 abv l (aev h h2)) t (VM h0 h1);unfold aji at this;have hc:l.contains t=aj:=by simp[hn]
 rw[hc,Bool.false_or,av,av] at this;exact⟨eq_of_beq this.1.1,eq_of_beq this.1.2,aw this.2⟩
theorem del8 {l:List Int} {t:Int} (h:GR l) (h2:∀ z∈l,0<=z/\z<4) (h0:0<=t) (h1:t<4) (hn:l.contains t=ai):ja (l,t)=af (t,wo l t):=by
 have:=gj.1 (gj.1 ad5 l (aev h h2)) t (VM h0 h1);unfold akb at this;rw[hn,Bool.not_true,Bool.false_or] at this;exact eq_of_beq this
theorem ade (a0 a1 a2:Int) (r0 r1 r2:List Int) (h:Int) (d:List Bool) (th:List (Int×Int×Bool)) (h0:r0.length<=1000) (h1:r1.length<=1000) (h2:r2.length<=1000) (hd:d.length<=1000) (ht:th.length<=1000):mS ([(a0,r0),(a1,r1),(a2,r2)],h,d,th)=af ((h,d,th),(a0,a1,a2),r0,r1,r2):=by
 refine cD ?_;have I:∀ l:List Int,l.length<=1000->oP l=af l:=λl hl=>cD (bn (by omega) (by omega) (ar rfl))
 unfold mS aX bL bz bF bK aZ aF;refine be rfl (aY (λx=>x=(([(a0,r0),(a1,r1),(a2,r2)],h,d,th),0,(a0,a1,a2),r0,r1,r2)) ?_ ?_)
 .exact fA rfl (be rfl (aS (aV (I _ h0) (fA rfl (be rfl (aS (aV (I _ h1) (fA rfl (be rfl (aS (aV (I _ h2) (fJ rfl (ar rfl)))))))))))))
 rintro x rfl;refine aV (x:=d) (cD (bn (by dsimp only;omega) (by omega) (ar rfl))) (aV (x:=th) (cD (bn (by dsimp only;omega) (by omega) (ar rfl))) (ar rfl))
theorem aeq {n:Nat} (w:WT) (s:SY) (hs:SB n s) (hn:n<=1000) (I:w.2.2.1.length<=1000) (t k o u:Int) (he:EN w s t k o) (hr:So w s t k o) (hk:k=8\/k=9):gR (w,s,t,k,o,u)=ah:=by
 have h1:=Dz w s hs hn I t k o he hr;have h2:=Z5 s hs;rcases hk with rfl|rfl
 .unfold gR aX bl bw cz ef bL dw cS fc ky ck bf bF bK kZ aF;simp only[h1,h2,aT,bp,sP];cases fI o (al s.1)<;>rfl
 .unfold gR aX bl bw cz ef bL dw cS fc ky ck bf bF bK kZ aF;simp only[h1,h2,aT,bp,sP];cases fI o (al s.1)<;>rfl
theorem aeo {n:Nat} (w:WT) (s:SY) (hs:SB n s) (hn:n<=900) (Y:w.2.2.1.length<=1000) (t k u:Int) (he:EN w s t k 2) (hr:So w s t k 2) (hk:k=8\/k=9) (Z:s.1.length=3) (hA:GR (aJ (T:=zH) s.1 2).2) (I:∀ z∈(aJ (T:=zH) s.1 2).2,0<=z/\z<4) (M:t<4):kS (w,s,t,k,2,u)=af ((oG w s t k 2 u).1,(oG w s t k 2 u).2,ai):=by
 have h1:=Dz w s hs (by omega) Y t k 2 he hr;have t0:=he.t0;have ra:=hr.ra;have rr:=hr.rr;have hrd:=hs.rd;have hdn:=hs.dn;have hth:=hs.th;obtain⟨s1,h,d,th⟩:=s
 match s1,Z with
 |[(a0,r0),(a1,r1),(a2,r2)],_=>
  have g0:r0.length<=n:=hrd (a0,r0) (by simp);have g1:r1.length<=n:=hrd (a1,r1) (by simp);have g2:r2.length<=n:=hrd (a2,r2) (by simp);have hA:GR r2:=hA;have I:∀ z∈r2,0<=z/\z<4:=I;dsimp only at hdn hth;have hc:=ade a0 a1 a2 r0 r1 r2 h d th (by omega) (by omega) (by omega) hdn hth;refine cD ?_;unfold kS aX bl bw cz ef kz dw cS fc pN bf vI bF aF;rcases hk with rfl|rfl
  .have ra:r2.contains t=aj:=ra rfl;obtain⟨J,U,q3⟩:=srt8 hA I t0 M (by simpa using ra);simp only[h1,hc,aT,bp,sP];refine aY (λx=>x=(0,(h,d,th),0,(((a0,r0),(a1,r1),a2)),ai,wN r2 [t])) ?_ ?_
   .refine bn (by simp;omega) (by omega) (aV J (be ?_ (aV U (be ?_ (ar ?_)))))
    .rw[q3];simp
    .simp
    .rfl
   rintro x rfl;exact ar rfl
  .have rr:r2.contains t=ai:=rr rfl;have J:=del8 hA I t0 M rr;simp only[h1,hc,aT,bp,sP];refine aY (λx=>x=(0,(h,d,th),0,(((a0,r0),(a1,r1),a2)),aj,wo r2 t)) ?_ ?_
   .exact aV J (be (by simp) (ar rfl))
   rintro x rfl;exact ar rfl
theorem aiz {n:Nat} (w:WT) (s:SY) (hs:SB n s) (hn:n<=900) (I:w.2.2.1.length<=1000) (t k o u:Int) (he:EN w s t k o) (hr:So w s t k o) (h2:k=8\/k=9->o=2) (M:s.1.length=3) (hA:∀ l∈s.1,GR l.2/\∀ z∈l.2,0<=z/\z<4) (J:t<4):rL (w,s,t,k,o,u)=af ((oG w s t k o u).1,(oG w s t k o u).2,ai):=by
 unfold rL;by_cases hk:k=8\/k=9
 .have:=h2 hk;subst this;have hg:=hA _ (bG (T:=zH) (xs:=s.1) (j:=2) (by omega) (by omega));rw[aeq w s hs (by omega) I t k 2 u he hr hk,aeo w s hs hn I t k u he hr hk M hg.1 hg.2 J];rfl
 .rw[aep w s hs (by omega) I t k o u he hr (λh=>hk (.inl h)) λh=>hk (.inr h)];rfl
theorem V_ (l:List Int) (h:l.length<=100000):yD l=af l:=cD (bn (by omega) (by omega) (ar rfl))
theorem adf (l:List Int) (h:l.length<=100000):oP l=af l:=cD (bn (by omega) (by omega) (ar rfl))
theorem akz {n:Nat} (w:WT) (s:SN) (e:ET) (hs:NB n s) (hn:n<=900) (U:w.2.2.1.length<=1000) (Y:F16 w s) (J:EN w s.1 e.1 e.2.1 e.2.2.1) (hS:S16 w s e) (ld:e.2.2.2.2.2.1.length<=1000000) (lf:e.2.2.2.2.2.2.length<=1000000) (h2:e.2.1=8\/e.2.1=9->e.2.2.1=2) (h3:s.1.1.length=3) (hA:∀ l∈s.1.1,GR l.2/\∀ z∈l.2,0<=z/\z<4) (t4:e.1<4):fG (w,s,e)=af (nxP w s e,ai):=by
 refine cD ?_;obtain⟨rd,q1,q2,de,fr,nd,nf,va⟩:=id hS;obtain⟨nm,t0,t1,cd,e1,e2,e3⟩:=id J;obtain⟨k1,k2,ce,lk,cn,th,fu,_,_,_⟩:=nm;obtain⟨f1,f2,f3⟩:=id Y;have hsc:=hs.c;have hsf:=hs.f;have hsk:=hs.k;unfold fG aX bl bw bL dw cS ck bf bz jz kZ aZ aF cF;refine aY (λx=>x=(aj,w,s,e,0)) ?_ ?_
 .refine aV (ak0 w s U _ _ _ J Y) (fJ rfl (dc (fo (λg=>(by dsimp only[au] at g;omega)) λ_=>dc (ar ?_))));rw[f_.2 (show e.2.1<=23 by omega)]
 rintro x rfl;refine fU (aY (λx=>x=(aj,w,s,e,0)) ?_ ?_)
 .exact aV (Dz w s.1 hs.sb (by omega) U _ _ _ J rd) (fJ rfl (aV (ac5 w e q1 q2) (fJ rfl (aV (QN w s e (λh=>ce h) de fr t0 (by rw[f3];exact t1) nd nf ld lf) (fJ rfl (aV (abr w s hs.sb e Y J va) (ar rfl)))))))
 rintro x rfl;refine fU (aY (λx=>x.2=(w,s,e,0)/\oG w s.1 e.1 e.2.1 e.2.2.1 x.1=oG w s.1 e.1 e.2.1 e.2.2.1 e.2.2.2.1) ?_ ?_)
 .exact aK (λ_=>ar ⟨rfl,rfl⟩) λh=>ar ⟨rfl,Wm _ _ _ _ _ _ _ h⟩
 rintro⟨u,x⟩ ⟨Z,hu⟩;dsimp only at Z hu;subst Z;refine aV (aiz w s.1 hs.sb hn U _ _ _ u J rd h2 h3 hA t4) (fJ rfl (aV (V_ _ (by dsimp only;omega)) (aV (V_ _ (by dsimp only;omega)) (aV (adf _ (by dsimp only;omega)) ?_))));rw[hu];refine aY (λx=>x.1=e/\x.2.2.1=(oG w s.1 e.1 e.2.1 e.2.2.1 e.2.2.2.1).1/\x.2.2.2.1=XN s.2.1 e/\x.2.2.2.2.1=YA s.2.2.1 e/\x.2.2.2.2.2=s.2.2.2) ?_ ?_
 .unfold XN YA;refine aK (λh=>?_) λh=>aK (λh'=>?_) λh'=>ar ⟨rfl,rfl,(aB h).symm,(aB h').symm,rfl⟩
  .have h:e.2.1=4:=h;have I:=ce (.inr h);exact aR I.1 (by rw[f1];exact I.2) (aR I.1 (by rw[f1];exact I.2) (ar ⟨rfl,rfl,(aE h).symm,(aB (by omega)).symm,rfl⟩))
  .have h:e.2.1=22:=h';have I:=fu (.inl h);exact aR I.1 (by rw[f2];exact I.2) (aR I.1 (by rw[f2];exact I.2) (ar ⟨rfl,rfl,(aB (by omega)).symm,(aE h).symm,rfl⟩))
 rintro⟨x1,x2,x3,x4,x5,x6⟩ ⟨h1,h2,h4,h5,h6⟩;simp only at h1 h2 h4 h5 h6;subst h1;subst h2;subst h4;subst h5;subst h6;have M:x1.1<(s.2.2.2.length:Int):=by rw[f3];exact t1
 exact aR t0 M (aR t0 M (aS (aR t0 M (aR t0 M (ar rfl)))))
theorem XR (r:List Bool) (e:ET) (h1:∀ y∈e.2.2.2.2.2.1,0<=y/\r.getD y.toNat aj=ai) (h2:∀ y∈e.2.2.2.2.2.2,0<=y/\r.getD y.toNat aj=ai) (ld:e.2.2.2.2.2.1.length<=1000000) (I:e.2.2.2.2.2.2.length<=1000000):cg (r,e)=af ai:=by
 refine cD ?_;unfold cg kg ef ky bz jz bF bK aZ cP aF cF;refine iz 2 (by omega) (λi x=>x=(i:Int)) ?_ ?_ rfl
 .rintro i x hi rfl;refine bI (λ_=>?_) λg=>(by omega)
  refine dt (eH (by omega) (zL (by omega) (aS ?_)));have hr:∃ l:List Int,aJ (T:=.sl (.int .i64)) [e.2.2.2.2.2.1,e.2.2.2.2.2.2] (i:Int)=l/\(∀ y∈l,0<=y/\r.getD y.toNat aj=ai)/\l.length<=1000000:=by
   match i,hi with
   |0,_=>exact⟨_,rfl,h1,ld⟩
   |1,_=>exact⟨_,rfl,h2,I⟩
  obtain⟨l,J,hA,hl⟩:=hr;have er':aJ (T:=.sl aN) [e.2.2.2.2.2.1,e.2.2.2.2.2.2] (i:Int)=l:=J;dsimp only at er' ⊢;rw[er'];refine iz l.length (by omega) (λj x=>x=(j:Int)) ?_ ?_ rfl
  .rintro j x hj rfl;refine dv ?_;have m:=hA _ (bG (T:=.int .i64) (xs:=l) (j:=(j:Int)) (by omega) (by omega));refine cA (aS (aY (λx=>x=aj) ?_ ?_))
   .revert m;generalize aJ (T:=.int .i64) l (j:Int)=z;intro m;have M:z.toNat<r.length:=by
     rcases bZ z.toNat r.length with g|g
     .exact g
     .have:=m.2;rw[ay,bQ g] at this;cases this
    refine bI (λg=>(by have:=m.1;omega)) λ_=>fo (λg=>(by have:=m.1;dsimp only[au] at g;omega)) λ_=>aR m.1 (by have:=m.1;omega) (aS (ar ?_))
    have:aJ (T:=.bool) r z=ai:=m.2;show (!aJ (T:=.bool) r z)=aj;rw[this];rfl
   rintro x rfl;exact fU (ar (gO (by omega)))
  .rintro x rfl;exact dc (ar (gO (by omega)))
 .rintro x rfl;exact bI (λg=>(by omega)) λ_=>ar rfl
abbrev W8 (n:Nat) (s:List (Int×Int×Int)):WT:=(C0,F5,LK,R7,vE.take n,s)
theorem WX.w8 {w:WT} (U:WX w):∃ n,(n=1\/n=2\/n=3\/n=4)/\w=W8 n w.2.2.2.2.2:=by
 obtain⟨h1,h2,M,J,⟨n,n1,Y,I⟩,_,_⟩:=U;obtain⟨c,l,d,f,t,s⟩:=w;dsimp only at h1 h2 M J I;subst h1;subst h2;subst M;subst J;subst I;exact⟨n,by omega,rfl⟩
abbrev sn8 (w:WT):SN:=(OR w,Z9 w,fu0 w,aG w.2.2.2.2.1.length 0)
theorem HB (s:List (Int×Int×Int)):dg (W8 1 s)=af (sn8 (W8 1 s)):=by kernel_rfl
theorem YR (s:List (Int×Int×Int)):dg (W8 2 s)=af (sn8 (W8 2 s)):=by kernel_rfl
theorem st3 (s:List (Int×Int×Int)):dg (W8 3 s)=af (sn8 (W8 3 s)):=by kernel_rfl
theorem st4 (s:List (Int×Int×Int)):dg (W8 4 s)=af (sn8 (W8 4 s)):=by kernel_rfl
theorem BQ {w:WT} (I:WX w):dg w=af (sn8 w):=by
 obtain⟨n,hn,e⟩:=I.w8;rw[e];rcases hn with rfl|rfl|rfl|rfl
 .exact HB _
 .exact YR _
 .exact st3 _
 .exact st4 _
abbrev VN4:List (List UInt8):=[[120],[121],[118],[113]]
theorem vc8:gX C0=af (VN4,ai):=by kernel_rfl
theorem vn1 (s:List (Int×Int×Int)):dK (W8 1 s,VN4)=af ai:=by kernel_rfl
theorem vn2 (s:List (Int×Int×Int)):dK (W8 2 s,VN4)=af ai:=by kernel_rfl
theorem vn3 (s:List (Int×Int×Int)):dK (W8 3 s,VN4)=af ai:=by kernel_rfl
theorem vn4 (s:List (Int×Int×Int)):dK (W8 4 s,VN4)=af ai:=by kernel_rfl
theorem vs8 {w:WT} (M:WX w) (hb:VL w):fQ w=af ai:=by
 have hv:=M.v;have hs:=M.s;have ht:=hb.t0;unfold SV0 at hv;refine cD ?_;unfold fQ kF aX bl cz cS bz iT bK aZ cP aF cF;refine iz w.2.2.2.2.2.length (by omega) (λi x=>∃ t n:Int,x=((t,n,(i:Int)),w)/\Kr w.2.2.2.2.1.length (w.2.2.2.2.2.take i)=af (t,n)/\0<=t/\t<w.2.2.2.2.1.length/\0<=n/\n<=i) ?_ ?_ ⟨0,0,rfl,rfl,by omega,by omega,by omega,by omega⟩
 .rintro i x hi ⟨t,n,rfl,h1,t0,t1,n0,n1⟩;refine dv ?_;refine cA (aS ?_);have h2:=Vj hv (i+1);have I:Kr w.2.2.2.2.1.length (w.2.2.2.2.2.take (i+1))=Sm w.2.2.2.2.1.length (af (t,n)) (aJ (T:=xA) w.2.2.2.2.2 (i:Int)):=by rw[HC hi,h1]
  rw[I] at h2;dsimp only;revert h2 I;change _->_->Ok _ _;generalize aJ (T:=xA) w.2.2.2.2.2 (i:Int)=z;intro h2 I;obtain⟨(a:Int),(b:Int),(c:Int)⟩:=z;have Y:(a=t/\b=n)\/(t<a/\a<w.2.2.2.2.1.length/\b=0):=by
   simp only[Sm] at h2;split at h2
   .rename_i h;exact .inl h
   .split at h2
    .rename_i h;exact .inr h
    .exact (h2 rfl).elim
  refine aY (λx=>x=(aj,w,a,b,c)) ?_ ?_
  .refine dc (ar ?_);dsimp only;rw[kT.2 (by dsimp only[au];omega)]
  rintro x rfl;refine fU ?_;rcases Y with ⟨rfl,rfl⟩|⟨U,J,rfl⟩
  .refine aY (λx=>x=((a,b),w,a,b,c)) (dc (ar rfl)) ?_;rintro x rfl;refine b8 (λg=>(g rfl).elim) λ_=>ar ⟨a,b+1,?_,?_,t0,t1,by omega,by omega⟩
   .dsimp only;rw[ib (n:=b+1) (by omega) (by omega),gO (by omega)]
   .rw[I];simp[Sm]
  .refine aY (λx=>x=((a,0),w,a,0,c)) (dv (ar rfl)) ?_;rintro x rfl;refine b8 (λg=>(g rfl).elim) λ_=>ar ⟨a,1,?_,?_,by omega,J,by omega,by omega⟩
   .dsimp only;rw[ib (n:=0+1) (by omega) (by omega),gO (by omega)];rfl
   .rw[I];show (if a=t/\(0:Int)=n then af (t,n+1) else if t<a/\a<_/\(0:Int)=0 then af (a,1) else ah)=af (a,1);rw[aB (by omega),aE ⟨U,J,rfl⟩]
 .rintro x ⟨t,n,rfl,_⟩;exact dc (ar rfl)
theorem VW8 {w:WT} (M:WX w) (hb:VL w):dL w=af ai:=by
 have hs:=vs8 M hb;have hvn:dK (w,VN4)=af ai:=by
  obtain⟨n,hn,e⟩:=M.w8;rw[e];rcases hn with rfl|rfl|rfl|rfl
  .exact vn1 _
  .exact vn2 _
  .exact vn3 _
  .exact vn4 _
 have hc:=M.c;have hd:=M.d;have hl:=M.l;obtain⟨w1,w2,w3,U,J,I⟩:=w;obtain⟨b1,b2,b3,b4,b0,Z,Y⟩:=hb;dsimp only at hc hd hl b1 b2 b3 b4 Z Y b0;subst hc;subst hd;subst hl;refine cD ?_;unfold dL kG aX bl cz cS bz bK aZ cP aF cF;have f:∀ n m:Nat,n<=m->fO (m:Int) (aO n)=aj:=λn m h=>f_.2 (by dsimp only[au];omega)
 refine aY (λx=>x=(aj,C0,F5,LK,U,J,I)) ?_ ?_
 .refine fJ rfl (fJ rfl (fJ rfl (fJ (f _ 2 b4) (ar ?_))));rw[show fO 60 (aO (al I))=aj from f _ 60 Y]
 rintro x rfl;refine fU (aY (λx=>x=(aj,C0,F5,LK,U,J,I)) ?_ ?_)
 .refine fJ (f_.2 (by dsimp only[au];omega)) (ar ?_);rw[show fO 4 (aO (al J))=aj from f _ 4 Z]
 rintro x rfl;refine fU (aV vc8 (aY (λx=>x=(aj,C0,F5,LK,U,J,I)) ?_ ?_))
 .exact fU (aV hvn (ar rfl))
 rintro x rfl;refine fU (iz 1 (by omega) (λi x=>x=((i:Int),C0,F5,LK,U,J,I)) ?_ ?_ rfl)
 .rintro i x hi rfl;have:i=0:=by omega
  subst this;refine fA rfl (be rfl (aS (aV (x:=ai) ?_ (fU (ar rfl)))));rfl
 .rintro x rfl;exact fJ rfl (aV (x:=ai) (by rw[hs];rfl) (ar rfl))
abbrev eN (l:List ET) (i:Nat):ET:=aJ (T:=tE) l (i:Int)
theorem I1 {l:List ET} {i:Nat} (h:i<l.length):eN l i∈l:=bG (T:=tE) (by omega) (by omega)
theorem agp {l:List ET} {e:ET} {i:Nat} (h:i<l.length):eN (l++[e]) i=eN l i:=by
 unfold eN;rw[ya,ya,ay,ay,bO h]
theorem ad4 (l:List ET) (e:ET):eN (l++[e]) l.length=e:=by
 unfold eN;rw[ya,ay,b7 (bT _),GY];rfl
def J5 (w:WT) (l:List ET):SY×List Int×List Int:=l.foldl (λs e=>((oG w s.1 e.1 e.2.1 e.2.2.1 e.2.2.2.1).1,XN s.2.1 e,YA s.2.2 e)) (OR w,Z9 w,fu0 w)
theorem J4 (w:WT) {l:List ET} {i:Nat} (h:i<l.length):J5 w (l.take (i+1))=((oG w (J5 w (l.take i)).1 (eN l i).1 (eN l i).2.1 (eN l i).2.2.1 (eN l i).2.2.2.1).1,XN (J5 w (l.take i)).2.1 (eN l i),YA (J5 w (l.take i)).2.2 (eN l i)):=by
 rw[nQ (T:=tE) h];unfold J5;rw[fB];rfl
theorem Acw.all {w:WT} {l:List ET} {sy:SY} {ce fu:List Int} (h:Acw w l sy ce fu):J5 w l=(sy,ce,fu)/\∀ i,i<l.length->SCx w (l.take i) (J5 w (l.take i)).1 (J5 w (l.take i)).2.1 (J5 w (l.take i)).2.2 (eN l i):=by
 induction h with
 |nil=>exact⟨rfl,λi hi=>cZ hi (wL _)⟩
 |snoc h hs I=>
  rename_i l sy ce fu e;obtain⟨h1,h2⟩:=I;refine ⟨by unfold J5 at h1 ⊢;rw[fB,h1];rfl,λi hi=>?_⟩;rw[bt,eD] at hi;rcases bZ i l.length with g|g
  .rw[kX (by omega),agp g];exact h2 i g
  .have:i=l.length:=by omega
   subst this;rw[kX (bT _),cR,ad4,h1];exact hs
theorem TR.sc {w:WT} {l:List ET} (I:TR (w,l)) {i:Nat} (h:i<l.length):SCx w (l.take i) (J5 w (l.take i)).1 (J5 w (l.take i)).2.1 (J5 w (l.take i)).2.2 (eN l i):=by
 obtain⟨sy,ce,fu,ac⟩:=I.ac;exact ac.all.2 i h
def BX (w:WT) (l:List ET):HS:=l.foldl (λh e=>(O4 w h (evP e)).1) (HS.zero w)
def dC (l:List ET) (i:Nat):EV:=evP (eN l i)
def ux (w:WT) (l:List ET) (i:Nat):List Int:=Gz w (BX w (l.take i)) (dC l i)
theorem yK (w:WT) {l:List ET} {i:Nat} (h:i<l.length):BX w (l.take (i+1))=jm w (BX w (l.take i)) (dC l i) (ux w l i):=by
 rw[nQ (T:=tE) h];unfold BX;rw[fB];rfl
theorem Nw {w:WT} {l:List ET} (I:TR (w,l)):∀ i:Nat,i<=l.length->Sp (i:Int) (BX w (l.take i))/\Fit w (BX w (l.take i))
 |0,_=>by
  have wb:=I.wb;dsimp only at wb;exact⟨HS.zero_ok (by have:=wb.c;omega) (by have:=wb.l;omega) (by have:=wb.f;omega) (by have:=wb.t;omega),Fit.zero w⟩
 |i+1,h=>by
  obtain⟨o,J⟩:=Nw I i (by omega);have hl:=I.len;dsimp only at hl;have ok:=ZS (I.ev _ (I1 (l:=l) (i:=i) (by omega))) I.wb J;rw[yK w (by omega)];exact⟨YP (w:=w) (e:=dC l i) o (by omega) ok.th4,J.step (dC l i)⟩
theorem yT {w:WT} {l:List ET} (I:TR (w,l)) {i:Nat} (h:i<l.length):EOK w (BX w (l.take i)) (dC l i):=ZS (I.ev _ (I1 h)) I.wb (Nw I i (by omega)).2
theorem wg {w:WT} {l:List ET} (I:TR (w,l)) {i:Nat} (h:i<l.length):EvT (dC l i) (eN l i):=ak2 (I.ev _ (I1 h))
def LE (a b:List Int):Prop:=a.length<=b.length/\∀ k,a.getD k 0<=b.getD k 0
theorem LE.refl (a:List Int):LE a a:=⟨bT _,λ_=>eX _⟩
theorem LE.trans {a b c:List Int} (h:LE a b) (g:LE b c):LE a c:=⟨dj h.1 g.1,λk=>Int.le_trans (h.2 k) (g.2 k)⟩
theorem LE.jl {a b:List Int} (h:LE a b):jl a b=b:=L9 (by rw[vX];have:=h.1;omega) λi=>by rw[Bx,vZ];have:=h.2 i;omega
theorem aik (a b:List Int):LE a (jl a b):=⟨by rw[vX];omega,λk=>by rw[Bx,vZ];omega⟩
theorem aee (a b:List Int):LE b (jl a b):=⟨by rw[vX];omega,λk=>by rw[Bx,vZ];omega⟩
theorem ab0 (a:List Int) (t:Nat):LE a (tk a t):=⟨by rw[LO];omega,λk=>by rw[Hy];split<;>(try subst k)<;>omega⟩
theorem Ho:∀ (l:List (List Int)) (c:List Int),LE c (l.foldl jl c)
 |[],c=>LE.refl c
 |x::r,c=>(aik c x).trans (Ho r _)
theorem ab1:∀ (l:List (List Int)) (c x:List Int),x∈l->LE x (l.foldl jl c)
 |y::r,c,x,h=>by
  rcases bi.1 h with rfl|h
  .exact (aee c x).trans (Ho r _)
  .exact ab1 r _ x h
theorem Wa (w:ut) (h:HS) (e:EV):LE (h.T.getD e.th []) (Gz w h e):=(Ho _ _).trans (ab0 _ _)
theorem adg {w:ut} {h:HS} {e:EV} {x:List Int} (I:x∈yl w h e):LE x (Gz w h e):=(ab1 _ _ _ I).trans (ab0 _ _)
theorem lY {α:Type} (l:List α) (i j:Nat) (x d:α):(l.set i x).getD j d=if i=j/\i<l.length then x else l.getD j d:=by
 rw[ay,oK];by_cases e:i=j
 .subst e;by_cases g:i<l.length
  .rw[aE rfl,aE g,aE ⟨rfl,g⟩];rfl
  .rw[aE rfl,aB g,aB λq=>g q.2,ay,bQ (by omega)]
 .rw[aB e,aB λq=>e q.1,ay]
structure og (P:List Int->Prop) (h:HS):Prop where
 T:∀ u,P (h.T.getD u [])
 S:∀ u,P (h.S.getD u [])
 L:∀ u,P (h.L.getD u [])
 R:∀ u,P (h.R.getD u [])
 C:∀ u,P (h.C.getD u [])
 F:∀ u,P (h.F.getD u [])
 X:P h.X
 N:∀ u,P (h.N.getD u [])
theorem og.mono {P Q:List Int->Prop} {h:HS} (a:og P h) (g:∀ x,P x->Q x):og Q h:=⟨λu=>g _ (a.T u),λu=>g _ (a.S u),λu=>g _ (a.L u),λu=>g _ (a.R u),λu=>g _ (a.C u),λu=>g _ (a.F u),g _ a.X,λu=>g _ (a.N u)⟩
theorem og.set {P:List Int->Prop} {l:List (List Int)} {c:List Int} (h:∀ u,P (l.getD u [])) (hc:P c) (i:Nat):∀ u,P ((l.set i c).getD u []):=λu=>by
 rw[lY];split
 .exact hc
 .exact h u
theorem og.repl {P:List Int->Prop} (h:P []) (n:Nat):∀ u,P ((aG n []).getD u []):=λu=>by
 rw[ay,lq];split<;>exact h
theorem og.zero {P:List Int->Prop} (h:P []) (w:ut):og P (HS.zero w):=⟨og.repl h _,og.repl h _,og.repl h _,og.repl h _,og.repl h _,og.repl h _,h,og.repl h _⟩
theorem og.step {P:List Int->Prop} (hj:∀ a b,P a->P b->P (jl a b)) {w:ut} {h:HS} (a:og P h) (e:EV) {c:List Int} (hc:P c):og P (jm w h e c):=by
 have b:og P {h with T:=h.T.set e.th c}:={a with T:=og.set a.T hc _}
 unfold jm;simp only[];repeat' split
 .exact {b with S:=og.set a.S hc _}
 .exact {b with L:=og.set a.L (hj _ _ (a.L _) hc) _}
 .exact {b with R:=og.set a.R (hj _ _ (a.R _) hc) _}
 .exact {b with L:=og.set a.L (hj _ _ (a.L _) hc) _}
 .exact {b with C:=og.set a.C (hj _ _ (a.C _) hc) _}
 .exact b
 .exact {b with F:=og.set a.F (hj _ _ (a.F _) hc) _}
 .exact {b with X:=hj _ _ a.X hc}
 .exact {b with N:=og.set a.N hc _}
 .exact b
 .refine {b with N:=λu=>?_};have:=a.N u;simp only[B4];rw[ay] at this ⊢;rw[DE];cases I:h.N[u]? with
  |none=>rw[I] at this;exact this
  |some x=>
   rw[I] at this;simp only[ca,uE];split
   .exact hc
   .exact this
 .exact b
theorem og.src {P:List Int->Prop} {w:ut} {h:HS} (a:og P h) (e:EV):∀ x∈yl w h e,P x:=by
 intro c hc;unfold yl at hc;repeat' (split at hc)
 all_goals simp only[bi,cu,fY] at hc
 .subst hc;exact a.S _
 .subst hc;exact a.T _
 .rcases hc with rfl|rfl
  .exact a.L _
  .exact a.R _
 .subst hc;exact a.L _
 .rcases hc with rfl|rfl|rfl
  .exact a.L _
  .exact a.R _
  .exact a.N _
 .subst hc;exact a.C _
 .subst hc;exact a.F _
 .subst hc;exact a.X
theorem ZP {P:List Int->Prop} (hj:∀ a b,P a->P b->P (jl a b)):∀ (l:List (List Int)) (c:List Int),P c->(∀ x∈l,P x)->P (l.foldl jl c)
 |[],_,hc,_=>hc
 |x::r,_,hc,h=>ZP hj r _ (hj _ _ hc (h x (dz ..))) λy I=>h y (cM _ I)
theorem QE (w:ut) (h:HS) (e:EV) (c:List Int):(jm w h e c).T=h.T.set e.th c:=by
 unfold jm;simp only[];repeat' split
 all_goals rfl
def Dm (l:List ET) (u:Nat):Nat->Nat
 |0=>0
 |i+1=>if (dC l i).th=u then Dm l u i+1 else Dm l u i
theorem Rv (l:List ET) (u i:Nat):∀ j,Dm l u i<=Dm l u (i+j)
 |0=>bT _
 |j+1=>by
  have:=Rv l u i j;show Dm l u i<=Dm l u (i+j+1);rw[Dm];split<;>omega
theorem Uz (l:List ET) (u:Nat) {i j:Nat} (h:i<=j):Dm l u i<=Dm l u j:=by
 obtain⟨k,rfl⟩:∃ k,j=i+k:=⟨j-i,by omega⟩
 exact Rv l u i k
theorem Hi (l:List ET) (i:Nat):Dm l (dC l i).th (i+1)=Dm l (dC l i).th i+1:=by rw[Dm,aE rfl]
structure Gd (w:WT) (l:List ET) (i:Nat) (x:List Int):Prop where
 le:∀ u,x.getD u 0<=(Dm l u i:Int)
 dn:∀ k,k<i->(Dm l (dC l k).th k:Int)+1<=x.getD (dC l k).th 0->LE (ux w l k) x
theorem Gd.nil (w:WT) (l:List ET) (i:Nat):Gd w l i []:=⟨λu=>by simp,λk _ h=>by simp at h;omega⟩
theorem Gd.jl {w:WT} {l:List ET} {i:Nat} (a b:List Int) (I:Gd w l i a) (hb:Gd w l i b):Gd w l i (jl a b):=by
 refine ⟨λu=>?_,λk hk h=>?_⟩
 .rw[Bx,vZ];have:=I.le u;have:=hb.le u;omega
 .rw[Bx,vZ] at h;by_cases g:(Dm l (dC l k).th k:Int)+1<=a.getD (dC l k).th 0
  .exact (I.dn k hk g).trans (aik _ _)
  .exact (hb.dn k hk (by omega)).trans (aee _ _)
theorem Gd.succ {w:WT} {l:List ET} {i:Nat} {x:List Int} (h:Gd w l i x):Gd w l (i+1) x:=by
 refine ⟨λu=>?_,λk hk g=>?_⟩
 .have:=h.le u;have:=Uz l u (show i<=i+1 by omega);omega
 .by_cases e:k=i
  .subst e;have:=h.le (dC l k).th;omega
  .exact h.dn k (by omega) g
structure GS1 (w:WT) (l:List ET) (i:Nat) (h:HS):Prop where
 a:og (Gd w l i) h
 t:∀ u,(h.T.getD u []).getD u 0=(Dm l u i:Int)
theorem On {w:WT} {l:List ET} {i:Nat} (g:GS1 w l i (BX w (l.take i))):Gd w l (i+1) (ux w l i)/\(ux w l i).getD (dC l i).th 0=(Dm l (dC l i).th i:Int)+1:=by
 have J:Gd w l i ((yl w (BX w (l.take i)) (dC l i)).foldl AI.jl ((BX w (l.take i)).T.getD (dC l i).th [])):=ZP Gd.jl _ _ (g.a.T _) (g.a.src (w:=w) _);have M:=g.t (dC l i).th;have hL:=Ho (yl w (BX w (l.take i)) (dC l i)) ((BX w (l.take i)).T.getD (dC l i).th []);have U:=(g.a.T (dC l i).th).dn;have I:=Wa w (BX w (l.take i)) (dC l i);have e:(ux w l i).getD (dC l i).th 0=(Dm l (dC l i).th i:Int)+1:=by
  unfold ux Gz;rw[Hy,aE rfl];have:=hL.2 (dC l i).th;have:=J.le (dC l i).th;omega
 refine ⟨⟨λu=>?_,λk hk h=>?_⟩,e⟩
 .by_cases hu:(dC l i).th=u
  .subst hu;rw[e,Hi];omega
  .have:=J.le u;unfold ux Gz;rw[Hy,aB λq=>hu q.symm,Dm,aB hu];exact this
 .by_cases hki:k=i
  .subst hki;exact LE.refl _
  have hk:k<i:=by omega
  by_cases hu:(dC l k).th=(dC l i).th
  .refine (U k hk ?_).trans I;rw[hu,M];have:=Uz l (dC l k).th (show k+1<=i from hk);rw[Hi,hu] at this;omega
  .refine (J.dn k hk ?_).trans (ab0 _ _);unfold ux Gz at h;rw[Hy,aB hu] at h;exact h
theorem Ii {w:WT} {l:List ET} (I:TR (w,l)):∀ i:Nat,i<=l.length->GS1 w l i (BX w (l.take i))
 |0,_=>⟨og.zero (Gd.nil w l 0) w,λu=>by have:=og.repl (P:=λx=>x.getD u 0=0) (by simp) w.2.2.2.2.1.length u;exact this⟩
 |i+1,h=>by
  have g:=Ii I i (by omega);obtain⟨M,J⟩:=On g;have ht:=(yT I (show i<l.length by omega)).th;rw[yK w (by omega)];refine ⟨og.step Gd.jl (g.a.mono λx h=>h.succ) _ M,λu=>?_⟩;rw[QE,lY];by_cases hu:(dC l i).th=u
  .subst hu;rw[aE ⟨rfl,ht⟩,J,Hi];omega
  .rw[aB λq=>hu q.1,g.t u,Dm,aB hu]
theorem Wb {w:WT} {l:List ET} (I:TR (w,l)) {i:Nat} (h:i<l.length):(ux w l i).getD (dC l i).th 0=(Dm l (dC l i).th i:Int)+1:=(On (Ii I i (by omega))).2
theorem Z6 {w:WT} {l:List ET} (I:TR (w,l)) {i:Nat} (h:i<l.length):Gd w l (i+1) (ux w l i):=(On (Ii I i (by omega))).1
def Wu (w:WT) (l:List ET) (k j:Nat):Prop:=(Dm l (dC l k).th k:Int)+1<=(ux w l j).getD (dC l k).th 0
theorem Wu.le {w:WT} {l:List ET} (I:TR (w,l)) {k j:Nat} (hk:k<=j) (hj:j<l.length) (h:Wu w l k j):LE (ux w l k) (ux w l j):=(Z6 I hj).dn k (by omega) h
theorem Wu.of {w:WT} {l:List ET} (I:TR (w,l)) {k j:Nat} (hk:k<l.length) (h:LE (ux w l k) (ux w l j)):Wu w l k j:=by
 have:=h.2 (dC l k).th;rw[Wb I hk] at this;exact this
theorem Wu.own {w:WT} {l:List ET} (I:TR (w,l)) {k j:Nat} (hk:k<j) (hj:j<l.length) (h:(dC l k).th=(dC l j).th):Wu w l k j:=by
 unfold Wu;rw[h,Wb I hj];have:=Uz l (dC l k).th (show k+1<=j from hk);rw[Hi,h] at this;omega
theorem Wu.trans {w:WT} {l:List ET} (I:TR (w,l)) {i j k:Nat} (hi:i<=j) (hj:j<=k) (hk:k<l.length) (h:Wu w l i j) (g:Wu w l j k):Wu w l i k:=Wu.of I (by omega) ((h.le I hi (by omega)).trans (g.le I hj hk))
def Q8 (r:List Int):Prop:=GR r/\∀ z∈r,0<=z/\z<4
def P8 (s:List (Int×List Int)):Prop:=∀ x∈s,Q8 x.2
theorem P8.get {s:List (Int×List Int)} (h:P8 s) (o:Int):Q8 (aJ (T:=zH) s o).2:=by
 unfold aJ;rw[ay];cases e:s[o.toNat]? with
 |none=>exact⟨trivial,λz I=>by cases I⟩
 |some x=>exact h x (ba e)
theorem P8.set {s:List (Int×List Int)} (h:P8 s) (o a:Int) {r:List Int} (hr:Q8 r):P8 (cO s o (a,r)):=λx I=>by
 rcases B_ I with I|rfl
 .exact h x I
 .exact hr
theorem BP (p:Int->Bool):∀ {l:List Int},GR l->GR (l.filter p)
 |[],_=>trivial
 |x::r,h=>by
  rw[List.filter_cons];split
  .exact⟨λy I=>h.1 y ((EZ.1 I).1),BP p h.2⟩
  .exact BP p h.2
theorem P8.ite {c:Prop} [Decidable c] {a b:SY×Int} (I:P8 a.1.1) (hb:P8 b.1.1):P8 (if c then a else b).1.1:=by by_cases h:c<;>simp[h,I,hb]
theorem P8.ap {w:WT} {s:SY} (h:P8 s.1) {t:Int} (k o v:Int) (t0:0<=t) (J:t<4):P8 (oG w s t k o v).1.1:=by
 have ow:∀ a b,P8 (owP s.1 a b):=λa b=>h.set a b (h.get a)
 have un:P8 (rdP s.1 o (wN (aJ (T:=zH) s.1 o).2 [t])):=h.set _ _ ⟨O1 _ _,λz I=>by
  rcases Hx.1 I with I|I
  .exact (h.get o).2 z I
  .rw[aL] at I;subst I;exact⟨t0,J⟩⟩
 have wt:P8 (rdP s.1 o (wo (aJ (T:=zH) s.1 o).2 t)):=h.set _ _ ⟨BP _ (h.get o).1,λz I=>(h.get o).2 z (EZ.1 I).1⟩;unfold oG;exact P8.ite h (P8.ite h (P8.ite (ow _ _) (P8.ite (ow _ _) (P8.ite un (P8.ite wt (P8.ite h (P8.ite h (P8.ite h (P8.ite h (P8.ite (ow _ _) (P8.ite (ow _ _) (P8.ite (P8.ite h h) (P8.ite h (P8.ite h (P8.ite h h)))))))))))))))
def iy (w:WT) (l:List ET):SN:=l.foldl (nxP w) (sn8 w)
theorem LR (w:WT) {l:List ET} {i:Nat} (h:i<l.length):iy w (l.take (i+1))=nxP w (iy w (l.take i)) (eN l i):=by
 rw[nQ (T:=tE) h];unfold iy;rw[fB];rfl
structure K8 (w:WT) (l:List ET) (i:Nat) (s:SN):Prop where
 a:(s.1,s.2.1,s.2.2.1)=J5 w (l.take i)
 r:P8 s.1.1
 c:s.2.1.length=w.1.length
 f:s.2.2.1.length=w.2.2.2.1.length
 k:s.2.2.2.length=w.2.2.2.2.1.length
 n:CN (l.take i) s.2.2.2
theorem Vg {w:WT} {l:List ET} (I:TR (w,l)):∀ i:Nat,i<=l.length->K8 w l i (iy w (l.take i))
 |0,_=>⟨rfl,λx M=>by rw[pq M];exact⟨trivial,λz J=>by cases J⟩,by simp[iy,Z9],by simp[iy,fu0],by simp[iy],λt t0 t1=>by
   have:(aG w.2.2.2.2.1.length (0:Int)).getD t.toNat 0=0:=by rw[ay,lq];split<;>rfl
   exact this⟩
 |i+1,h=>by
  obtain⟨a,r,c,f,k,n⟩:=Vg I i (by omega);have sc:=I.sc (i:=i) (by omega);have hl:=I.len;have ht:=I.wb.t;dsimp only at hl ht;have en:=sc.en;have e1:=en.t1;have htk:=pP i l;rw[LR w (by omega)];refine ⟨?_,r.ap _ _ _ en.t0 (by omega),?_,?_,?_,?_⟩
  .rw[J4 w (by omega),<-a];rfl
  .unfold nxP XN;dsimp only;split
   .rw[bV];exact c
   .exact c
  .unfold nxP YA;dsimp only;split
   .rw[bV];exact f
   .exact f
  .unfold nxP;rw[bV];exact k
  .have:=n.next (eN l i) en.t0 (by rw[k];exact e1) (by omega);rw[nQ (T:=tE) (show i<l.length by omega)];exact this
theorem M6 {w:WT} {l:List ET} (I:TR (w,l)) {i:Nat} (hi:i<l.length):fG (w,iy w (l.take i),eN l i)=af (iy w (l.take (i+1)),ai):=by
 obtain⟨a,r,c,f,k,n⟩:=Vg I i (by omega);have sc:=I.sc hi;have J:=I.wx;have ht:=I.wb.t;have hls:=I.ls _ (I1 hi);dsimp only at J ht hls;rw[LR w hi];rw[<- a] at sc;generalize iy w (l.take i)=s at*
 generalize eN l i=e at*
 have en:=sc.en;have e1:=en.t1;have l3:w.2.1.length=3:=by rw[J.l];rfl
 have M:=n e.1 en.t0 (by rw[k];exact e1);have b1:=I.wb.c;have b4:=I.wb.f;have b3:=I.wb.d;dsimp only at b1 b4 b3;have Z:=en.e1;have Y:=en.e2;have q3:=en.e3;dsimp only at Z Y q3;refine akz (n:=4) w s e ⟨⟨by omega,by omega,λx U=>?_,by omega,by omega⟩,by omega,by omega,by omega⟩ (by omega) (by omega) ⟨c,f,k⟩ en ⟨sc.rd,sc.s1,sc.s2,sc.de,sc.fr,by rw[M];exact sc.nd,by rw[M];exact sc.nf,sc.va⟩ hls.1 hls.2 (λh=>?_) (by omega) r (by omega)
 .have:=Oy x.2 0 4 (r x U).1 (r x U).2;omega
 .have o1:=en.nm.lk (by omega);have o2:=en.nm.rw (by omega);generalize e.2.2.1=o at o1 o2;rw[J.l] at o1 o2;have:o=0\/o=1\/o=2:=by have:F5.length=3:=rfl;omega
  rcases this with rfl|rfl|rfl
  .cases o2
  .cases o2
  .rfl
abbrev fN (l:List ET) (i:Nat) (t:Int):List Bool:=fl (l.take i) t
theorem NU {l:List ET} {i:Nat} (h:i<l.length) {t:Int} (e:(eN l i).1=t):fN l (i+1) t=fN l i t++[sW (eN l i)]:=by
 unfold fN;rw[nQ (T:=tE) h,uh,yQ e]
theorem NX {l:List ET} {i:Nat} (h:i<l.length) {t:Int} (e:¬(eN l i).1=t):fN l (i+1) t=fN l i t:=by
 unfold fN;rw[nQ (T:=tE) h,uh,wa e,jT]
theorem G4 {w:WT} {l:List ET} (I:TR (w,l)) {i:Nat} (hi:i<l.length) {t:Int} (e:(eN l i).1=t):cg (fN l i t,eN l i)=af ai:=by
 have sc:=I.sc hi;have hls:=I.ls _ (I1 hi);subst e;exact XR _ _ sc.rd1 sc.rd2 hls.1 hls.2
theorem NY (l:List ET) (i:Nat) (t:Int):(fN l i t).length<=l.length:=dj (VV _ _) (List.length_take_le' ..)
theorem ab8 {w:WT} {l:List ET} (I:TR (w,l)) (hn:w.2.2.2.2.1.length=4):d_ (w,l)=af (0,0):=by
 have hl:=I.len;dsimp only at hl;refine cD ?_;unfold d_ jI aX bl bw cz ef kz bL fc ky pN bf bz bF bK aZ cP aF cF;refine fJ (f_.2 (by dsimp only[au];omega)) (aV (VW8 I.wx I.vl) (fU (aV (BQ I.wx) (be (by show (c5 0 (aO w.2.2.2.2.1.length)&&c5 (aO w.2.2.2.2.1.length) (aO w.2.2.2.2.1.length)&&bd (aU (aO w.2.2.2.2.1.length)) 24&&decide ((aO w.2.2.2.2.1.length:Int)=4))=ai;rw[hn];rfl) ?_))));refine iz l.length (by omega) (λi x=>x=((i:Int),(w,l),iy w (l.take i),fN l i 0,fN l i 1,fN l i 2,fN l i 3)) ?_ ?_ rfl
 .rintro i x hi rfl;have e1:=(I.sc hi).en.t1;have e0:=(I.sc hi).en.t0;have st:=M6 I hi;have fa:=λt=>NY l i t
  have rd:=λt=>G4 I hi (t:=t)
  have own:=λt=>NU hi (t:=t)
  have oth:=λt=>NX hi (t:=t)
  refine dv ?_;refine cA (aS ?_);have ht:(eN l i).1=0\/(eN l i).1=1\/(eN l i).1=2\/(eN l i).1=3:=by omega
  have hg:aJ (T:=tE) l (i:Int)=eN l i:=rfl;dsimp only;rw[hg];generalize eN l i=e at*
  refine aV st ?_;obtain⟨(t:Int),e⟩:=e;dsimp only at ht;rcases ht with rfl|rfl|rfl|rfl
  .refine aY (λx=>x=(aj,(w,l),iy w (l.take i),(0,e),iy w (l.take (i+1)),fN l i 0,fN l i 1,fN l i 2,fN l i 3)) ?_ ?_
   .simp only[aT,bp,sP];exact aV (rd 0 rfl) (ar rfl)
   rintro x rfl;refine fU (aY (λx=>x=((w,l),iy w (l.take i),iy w (l.take (i+1)),fN l (i+1) 0,fN l (i+1) 1,fN l (i+1) 2,fN l (i+1) 3)) ?_ ?_)
   .simp only[aT,bp,sP];rw[own 0 rfl,oth 1 (by show ¬(0:Int)=1;decide),oth 2 (by show ¬(0:Int)=2;decide),oth 3 (by show ¬(0:Int)=3;decide)];have:=fa 0;refine aK (λh=>bn (by simp;omega) (by omega) (ar ?_)) λh=>bn (by simp;omega) (by omega) (ar ?_)
    .have:sW (0,e)=ai:=by unfold sW;rw[aQ h];rfl
     rw[this]
    .have:sW (0,e)=decide (e.1=23):=by unfold sW;rw[bH h];rfl
     rw[this]
   rintro x rfl;exact ar (by rw[gO (by omega)])
  .refine aY (λx=>x=(aj,(w,l),iy w (l.take i),(1,e),iy w (l.take (i+1)),fN l i 0,fN l i 1,fN l i 2,fN l i 3)) ?_ ?_
   .simp only[aT,bp,sP];exact aV (rd 1 rfl) (ar rfl)
   rintro x rfl;refine fU (aY (λx=>x=((w,l),iy w (l.take i),iy w (l.take (i+1)),fN l (i+1) 0,fN l (i+1) 1,fN l (i+1) 2,fN l (i+1) 3)) ?_ ?_)
   .simp only[aT,bp,sP];rw[own 1 rfl,oth 0 (by show ¬(1:Int)=0;decide),oth 2 (by show ¬(1:Int)=2;decide),oth 3 (by show ¬(1:Int)=3;decide)];have:=fa 1;refine aK (λh=>bn (by simp;omega) (by omega) (ar ?_)) λh=>bn (by simp;omega) (by omega) (ar ?_)
    .have:sW (1,e)=ai:=by unfold sW;rw[aQ h];rfl
     rw[this]
    .have:sW (1,e)=decide (e.1=23):=by unfold sW;rw[bH h];rfl
     rw[this]
   rintro x rfl;exact ar (by rw[gO (by omega)])
  .refine aY (λx=>x=(aj,(w,l),iy w (l.take i),(2,e),iy w (l.take (i+1)),fN l i 0,fN l i 1,fN l i 2,fN l i 3)) ?_ ?_
   .simp only[aT,bp,sP];exact aV (rd 2 rfl) (ar rfl)
   rintro x rfl;refine fU (aY (λx=>x=((w,l),iy w (l.take i),iy w (l.take (i+1)),fN l (i+1) 0,fN l (i+1) 1,fN l (i+1) 2,fN l (i+1) 3)) ?_ ?_)
   .simp only[aT,bp,sP];rw[own 2 rfl,oth 0 (by show ¬(2:Int)=0;decide),oth 1 (by show ¬(2:Int)=1;decide),oth 3 (by show ¬(2:Int)=3;decide)];have:=fa 2;refine aK (λh=>bn (by simp;omega) (by omega) (ar ?_)) λh=>bn (by simp;omega) (by omega) (ar ?_)
    .have:sW (2,e)=ai:=by unfold sW;rw[aQ h];rfl
     rw[this]
    .have:sW (2,e)=decide (e.1=23):=by unfold sW;rw[bH h];rfl
     rw[this]
   rintro x rfl;exact ar (by rw[gO (by omega)])
  .refine aY (λx=>x=(aj,(w,l),iy w (l.take i),(3,e),iy w (l.take (i+1)),fN l i 0,fN l i 1,fN l i 2,fN l i 3)) ?_ ?_
   .simp only[aT,bp,sP];exact aV (rd 3 rfl) (ar rfl)
   rintro x rfl;refine fU (aY (λx=>x=((w,l),iy w (l.take i),iy w (l.take (i+1)),fN l (i+1) 0,fN l (i+1) 1,fN l (i+1) 2,fN l (i+1) 3)) ?_ ?_)
   .simp only[aT,bp,sP];rw[own 3 rfl,oth 0 (by show ¬(3:Int)=0;decide),oth 1 (by show ¬(3:Int)=1;decide),oth 2 (by show ¬(3:Int)=2;decide)];have:=fa 3;refine aK (λh=>bn (by simp;omega) (by omega) (ar ?_)) λh=>bn (by simp;omega) (by omega) (ar ?_)
    .have:sW (3,e)=ai:=by unfold sW;rw[aQ h];rfl
     rw[this]
    .have:sW (3,e)=decide (e.1=23):=by unfold sW;rw[bH h];rfl
     rw[this]
   rintro x rfl;exact ar (by rw[gO (by omega)])
 .rintro x rfl;exact dc (ar rfl)
theorem EX {w:WT} {l:List ET} (I:TR (w,l)) (hn:¬w.2.2.2.2.1.length=4):d_ (w,l)=ah:=by
 have hl:=I.len;dsimp only at hl;unfold d_ jI aX bl bw cz ef kz bL fc ky pN bf bz bF bK aZ cP aF cF;rw[show fO 400 (aO (al (w,l).2))=aj from f_.2 (by dsimp only[au];omega)];simp only[aT,bp,sP];rw[VW8 I.wx I.vl];simp only[aT,bp,sP];rw[BQ I.wx];simp only[aT,bp,sP];rw[show decide ((aO w.2.2.2.2.1.length:Int)=4)=aj from bH (by dsimp only[au];omega),Bool.and_false];rfl
theorem ab9 {w:WT} {l:List ET} (I:TR (w,l)) (hn:w.2.2.2.2.1.length=3):dH (w,l)=af (0,0):=by
 have hl:=I.len;dsimp only at hl;refine cD ?_;unfold dH jJ aX bl bw cz ef bL cS fc ky bf bz bF bK aZ cP aF cF;refine fJ (f_.2 (by dsimp only[au];omega)) (aV (VW8 I.wx I.vl) (fU (aV (BQ I.wx) (be (by show (c5 0 (aO w.2.2.2.2.1.length)&&c5 (aO w.2.2.2.2.1.length) (aO w.2.2.2.2.1.length)&&bd (aU (aO w.2.2.2.2.1.length)) 24&&decide ((aO w.2.2.2.2.1.length:Int)=3))=ai;rw[hn];rfl) ?_))));refine iz l.length (by omega) (λi x=>x=((i:Int),(w,l),iy w (l.take i),fN l i 0,fN l i 1,fN l i 2)) ?_ ?_ rfl
 .rintro i x hi rfl;have e1:=(I.sc hi).en.t1;have e0:=(I.sc hi).en.t0;have st:=M6 I hi;have fa:=λt=>NY l i t
  have rd:=λt=>G4 I hi (t:=t)
  have own:=λt=>NU hi (t:=t)
  have oth:=λt=>NX hi (t:=t)
  refine dv ?_;refine cA (aS ?_);have ht:(eN l i).1=0\/(eN l i).1=1\/(eN l i).1=2:=by omega
  have hg:aJ (T:=tE) l (i:Int)=eN l i:=rfl;dsimp only;rw[hg];generalize eN l i=e at*
  refine aV st ?_;obtain⟨(t:Int),e⟩:=e;dsimp only at ht;rcases ht with rfl|rfl|rfl
  .refine aY (λx=>x=(aj,(w,l),iy w (l.take i),(0,e),iy w (l.take (i+1)),fN l i 0,fN l i 1,fN l i 2)) ?_ ?_
   .simp only[aT,bp,sP];exact aV (rd 0 rfl) (ar rfl)
   rintro x rfl;refine fU (aY (λx=>x=((w,l),iy w (l.take i),iy w (l.take (i+1)),fN l (i+1) 0,fN l (i+1) 1,fN l (i+1) 2)) ?_ ?_)
   .simp only[aT,bp,sP];rw[own 0 rfl,oth 1 (by show ¬(0:Int)=1;decide),oth 2 (by show ¬(0:Int)=2;decide)];have:=fa 0;refine aK (λh=>bn (by simp;omega) (by omega) (ar ?_)) λh=>bn (by simp;omega) (by omega) (ar ?_)
    .have:sW (0,e)=ai:=by unfold sW;rw[aQ h];rfl
     rw[this]
    .have:sW (0,e)=decide (e.1=23):=by unfold sW;rw[bH h];rfl
     rw[this]
   rintro x rfl;exact ar (by rw[gO (by omega)])
  .refine aY (λx=>x=(aj,(w,l),iy w (l.take i),(1,e),iy w (l.take (i+1)),fN l i 0,fN l i 1,fN l i 2)) ?_ ?_
   .simp only[aT,bp,sP];exact aV (rd 1 rfl) (ar rfl)
   rintro x rfl;refine fU (aY (λx=>x=((w,l),iy w (l.take i),iy w (l.take (i+1)),fN l (i+1) 0,fN l (i+1) 1,fN l (i+1) 2)) ?_ ?_)
   .simp only[aT,bp,sP];rw[own 1 rfl,oth 0 (by show ¬(1:Int)=0;decide),oth 2 (by show ¬(1:Int)=2;decide)];have:=fa 1;refine aK (λh=>bn (by simp;omega) (by omega) (ar ?_)) λh=>bn (by simp;omega) (by omega) (ar ?_)
    .have:sW (1,e)=ai:=by unfold sW;rw[aQ h];rfl
     rw[this]
    .have:sW (1,e)=decide (e.1=23):=by unfold sW;rw[bH h];rfl
     rw[this]
   rintro x rfl;exact ar (by rw[gO (by omega)])
  .refine aY (λx=>x=(aj,(w,l),iy w (l.take i),(2,e),iy w (l.take (i+1)),fN l i 0,fN l i 1,fN l i 2)) ?_ ?_
   .simp only[aT,bp,sP];exact aV (rd 2 rfl) (ar rfl)
   rintro x rfl;refine fU (aY (λx=>x=((w,l),iy w (l.take i),iy w (l.take (i+1)),fN l (i+1) 0,fN l (i+1) 1,fN l (i+1) 2)) ?_ ?_)
   .simp only[aT,bp,sP];rw[own 2 rfl,oth 0 (by show ¬(2:Int)=0;decide),oth 1 (by show ¬(2:Int)=1;decide)];have:=fa 2;refine aK (λh=>bn (by simp;omega) (by omega) (ar ?_)) λh=>bn (by simp;omega) (by omega) (ar ?_)
    .have:sW (2,e)=ai:=by unfold sW;rw[aQ h];rfl
     rw[this]
    .have:sW (2,e)=decide (e.1=23):=by unfold sW;rw[bH h];rfl
     rw[this]
   rintro x rfl;exact ar (by rw[gO (by omega)])
 .rintro x rfl;exact dc (ar rfl)
theorem MS {w:WT} {l:List ET} (I:TR (w,l)) (hn:¬w.2.2.2.2.1.length=3):dH (w,l)=ah:=by
 have hl:=I.len;dsimp only at hl;unfold dH jJ aX bl bw cz ef bL cS fc ky bf bz bF bK aZ cP aF cF;rw[show fO 400 (aO (al (w,l).2))=aj from f_.2 (by dsimp only[au];omega)];simp only[aT,bp,sP];rw[VW8 I.wx I.vl];simp only[aT,bp,sP];rw[BQ I.wx];simp only[aT,bp,sP];rw[show decide ((aO w.2.2.2.2.1.length:Int)=3)=aj from bH (by dsimp only[au];omega),Bool.and_false];rfl
theorem aba {w:WT} {l:List ET} (I:TR (w,l)) (hn:w.2.2.2.2.1.length=2):dh (w,l)=af (0,0):=by
 have hl:=I.len;dsimp only at hl;refine cD ?_;unfold dh jK aX bl bw cz bL dw fc bf bz bF bK aZ cP aF cF;refine fJ (f_.2 (by dsimp only[au];omega)) (aV (VW8 I.wx I.vl) (fU (aV (BQ I.wx) (be (by show (c5 0 (aO w.2.2.2.2.1.length)&&c5 (aO w.2.2.2.2.1.length) (aO w.2.2.2.2.1.length)&&bd (aU (aO w.2.2.2.2.1.length)) 24&&decide ((aO w.2.2.2.2.1.length:Int)=2))=ai;rw[hn];rfl) ?_))));refine iz l.length (by omega) (λi x=>x=((i:Int),(w,l),iy w (l.take i),fN l i 0,fN l i 1)) ?_ ?_ rfl
 .rintro i x hi rfl;have e1:=(I.sc hi).en.t1;have e0:=(I.sc hi).en.t0;have st:=M6 I hi;have fa:=λt=>NY l i t
  have rd:=λt=>G4 I hi (t:=t)
  have own:=λt=>NU hi (t:=t)
  have oth:=λt=>NX hi (t:=t)
  refine dv ?_;refine cA (aS ?_);have ht:(eN l i).1=0\/(eN l i).1=1:=by omega
  have hg:aJ (T:=tE) l (i:Int)=eN l i:=rfl;dsimp only;rw[hg];generalize eN l i=e at*
  refine aV st ?_;obtain⟨(t:Int),e⟩:=e;dsimp only at ht;rcases ht with rfl|rfl
  .refine aY (λx=>x=(aj,(w,l),iy w (l.take i),(0,e),iy w (l.take (i+1)),fN l i 0,fN l i 1)) ?_ ?_
   .simp only[aT,bp,sP];exact aV (rd 0 rfl) (ar rfl)
   rintro x rfl;refine fU (aY (λx=>x=((w,l),iy w (l.take i),iy w (l.take (i+1)),fN l (i+1) 0,fN l (i+1) 1)) ?_ ?_)
   .simp only[aT,bp,sP];rw[own 0 rfl,oth 1 (by show ¬(0:Int)=1;decide)];have:=fa 0;refine aK (λh=>bn (by simp;omega) (by omega) (ar ?_)) λh=>bn (by simp;omega) (by omega) (ar ?_)
    .have:sW (0,e)=ai:=by unfold sW;rw[aQ h];rfl
     rw[this]
    .have:sW (0,e)=decide (e.1=23):=by unfold sW;rw[bH h];rfl
     rw[this]
   rintro x rfl;exact ar (by rw[gO (by omega)])
  .refine aY (λx=>x=(aj,(w,l),iy w (l.take i),(1,e),iy w (l.take (i+1)),fN l i 0,fN l i 1)) ?_ ?_
   .simp only[aT,bp,sP];exact aV (rd 1 rfl) (ar rfl)
   rintro x rfl;refine fU (aY (λx=>x=((w,l),iy w (l.take i),iy w (l.take (i+1)),fN l (i+1) 0,fN l (i+1) 1)) ?_ ?_)
   .simp only[aT,bp,sP];rw[own 1 rfl,oth 0 (by show ¬(1:Int)=0;decide)];have:=fa 1;refine aK (λh=>bn (by simp;omega) (by omega) (ar ?_)) λh=>bn (by simp;omega) (by omega) (ar ?_)
    .have:sW (1,e)=ai:=by unfold sW;rw[aQ h];rfl
     rw[this]
    .have:sW (1,e)=decide (e.1=23):=by unfold sW;rw[bH h];rfl
     rw[this]
   rintro x rfl;exact ar (by rw[gO (by omega)])
 .rintro x rfl;exact dc (ar rfl)
theorem Yw {w:WT} {l:List ET} (I:TR (w,l)) (hn:¬w.2.2.2.2.1.length=2):dh (w,l)=ah:=by
 have hl:=I.len;dsimp only at hl;unfold dh jK aX bl bw cz bL dw fc bf bz bF bK aZ cP aF cF;rw[show fO 400 (aO (al (w,l).2))=aj from f_.2 (by dsimp only[au];omega)];simp only[aT,bp,sP];rw[VW8 I.wx I.vl];simp only[aT,bp,sP];rw[BQ I.wx];simp only[aT,bp,sP];rw[show decide ((aO w.2.2.2.2.1.length:Int)=2)=aj from bH (by dsimp only[au];omega),Bool.and_false];rfl
theorem abb {w:WT} {l:List ET} (I:TR (w,l)) (hn:w.2.2.2.2.1.length=1):ec (w,l)=af (0,0):=by
 have hl:=I.len;dsimp only at hl;refine cD ?_;unfold ec lG aX bl bw bL cS bf bz bF bK aZ cP aF cF;refine fJ (f_.2 (by dsimp only[au];omega)) (aV (VW8 I.wx I.vl) (fU (aV (BQ I.wx) (be (by show (c5 0 (aO w.2.2.2.2.1.length)&&c5 (aO w.2.2.2.2.1.length) (aO w.2.2.2.2.1.length)&&bd (aU (aO w.2.2.2.2.1.length)) 24&&decide ((aO w.2.2.2.2.1.length:Int)=1))=ai;rw[hn];rfl) ?_))));refine iz l.length (by omega) (λi x=>x=((i:Int),(w,l),iy w (l.take i),fN l i 0)) ?_ ?_ rfl
 .rintro i x hi rfl;have e1:=(I.sc hi).en.t1;have e0:=(I.sc hi).en.t0;have st:=M6 I hi;have fa:=λt=>NY l i t
  have rd:=λt=>G4 I hi (t:=t)
  have own:=λt=>NU hi (t:=t)
  have oth:=λt=>NX hi (t:=t)
  refine dv ?_;refine cA (aS ?_);have ht:(eN l i).1=0:=by omega
  have hg:aJ (T:=tE) l (i:Int)=eN l i:=rfl;dsimp only;rw[hg];generalize eN l i=e at*
  refine aV st ?_;obtain⟨(t:Int),e⟩:=e;dsimp only at ht;subst ht
  .refine aY (λx=>x=(aj,(w,l),iy w (l.take i),(0,e),iy w (l.take (i+1)),fN l i 0)) ?_ ?_
   .simp only[aT,bp,sP];exact aV (rd 0 rfl) (ar rfl)
   rintro x rfl;refine fU (aY (λx=>x=((w,l),iy w (l.take i),iy w (l.take (i+1)),fN l (i+1) 0)) ?_ ?_)
   .simp only[aT,bp,sP];rw[own 0 rfl];have:=fa 0;refine aK (λh=>bn (by simp;omega) (by omega) (ar ?_)) λh=>bn (by simp;omega) (by omega) (ar ?_)
    .have:sW (0,e)=ai:=by unfold sW;rw[aQ h];rfl
     rw[this]
    .have:sW (0,e)=decide (e.1=23):=by unfold sW;rw[bH h];rfl
     rw[this]
   rintro x rfl;exact ar (by rw[gO (by omega)])
 .rintro x rfl;exact dc (ar rfl)
theorem aiy {w:WT} {l:List ET} (I:TR (w,l)):mi (w,l)=af (0,0):=by
 have h1:=I.vl.t0;have J:=I.vl.t;dsimp only at h1 J;unfold mi;have:w.2.2.2.2.1.length=4\/w.2.2.2.2.1.length=3\/w.2.2.2.2.1.length=2\/w.2.2.2.2.1.length=1:=by omega
 rcases this with h|h|h|h
 .rw[ab8 I h];rfl
 .rw[EX I (by omega),ab9 I h];rfl
 .rw[EX I (by omega),MS I (by omega),aba I h];rfl
 .rw[EX I (by omega),MS I (by omega),Yw I (by omega),abb I h];rfl
theorem YQ {w:WT} {l:List ET} (I:TR (w,l)):pB w=af (HS.zero w).t:=by
 have wb:=I.wb;dsimp only at wb;exact aal w (by have:=wb.c;unfold ye;omega) (by have:=wb.l;unfold ye;omega) (by have:=wb.f;unfold ye;omega) (by have:=wb.t;unfold ye;omega)
theorem abu {w:WT} {l:List ET} (I:TR (w,l)) {i:Nat} (hi:i<l.length):r_ (w,(BX w (l.take i)).t,eN l i)=af ((BX w (l.take (i+1))).t,ux w l i):=by
 have hl:=I.len;dsimp only at hl;have:=ae1 (Nw I i (by omega)).1 (by omega) (yT I hi) (wg I hi);rw[yK w hi];exact this
def tA {α:Type} (n:Nat) (f:Nat->α) (z:α) (i:Nat):List α:=(eS n).map λk=>if k<i then f k else z
theorem M3 {α:Type} (n:Nat) (f:Nat->α) (z:α) (i:Nat):(tA n f z i).length=n:=by simp[tA]
theorem YN {α:Type} {n:Nat} {f:Nat->α} {z:α} {i:Nat} (h:i<n):(tA n f z i).set i (f i)=tA n f z (i+1):=by
 unfold tA;apply dA
 .simp
 intro k h1 h2;simp only[sx,cf,lm] at h1;rw[uG];simp only[qH,m_];by_cases e:i=k
 .subst e;rw[aE rfl,aE (by omega)]
 .rw[aB e];by_cases g:k<i
  .rw[aE g,aE (by omega)]
  .rw[aB g,aB (by omega)]
theorem Vc {α:Type} (n:Nat) (f:Nat->α) (z:α):tA n f z 0=aG n z:=by unfold tA;simp[List.map_const']
theorem YO {α:Type} (n:Nat) (f:Nat->α) (z:α):tA n f z n=(eS n).map f:=pO λk hk=>by rw[aE (m8.1 hk)]
abbrev csN (w:WT) (l:List ET):List (List Int):=(eS l.length).map (ux w l)
theorem ad7 {w:WT} {l:List ET} {i:Nat} (h:i<l.length):(csN w l).getD i []=ux w l i:=by
 rw[ay,bc,F7 h];rfl
theorem ZX {w:WT} {l:List ET} {i:Nat} (h:i<l.length):aJ (T:=.sl (.int .i64)) (csN w l) (i:Int)=ux w l i:=by rw[rz];exact ad7 h
theorem Yv {w:WT} {l:List ET} (I:TR (w,l)):pj (w,l)=af (csN w l,0):=by
 have hl:=I.len;dsimp only at hl;refine cD ?_;unfold pj xg aX bL ck bz iT bF bK aZ cP aF cF;refine aV (aiy I) (fU (aV (YQ I) (dt (dt (eH (by dsimp only[au];omega) (eH (by omega) (bn (by simp;omega) (by omega) ?_)))))));refine iz l.length (by omega) (λi x=>x=((i:Int),(w,l),(BX w (l.take i)).t,tA l.length (ux w l) [] i)) ?_ ?_ ?_
 .rintro i x hi rfl;refine dv ?_;refine cA (aS ?_);refine aV (abu I hi) ?_;refine aR (by dsimp only;omega) (by dsimp only;rw[M3];omega) (aR (by dsimp only;omega) (by dsimp only;rw[M3];omega) (ar ?_));dsimp only;rw[gO (by omega),fZ,YN hi]
 .rintro x rfl;refine dc (ar ?_);dsimp only;rw[YO]
 .show _=_;rw[Vc];rfl
abbrev Ke0:Ty:=(.st (.pr Dy (.pr Dy Dy)))
def uL (x:Int×Int×Int×Int×Int×(List Int)×List Int):Option (Bool):=
 (jn (α:=Bool) (bf x.2.1 3 (aF ai) (aF (decide ((x.2.1:Int)=4)))) λI=>(af I))
def mf (x:(dJ×List gH)×Int×Int):Option (Bool):=
 (iter (σ:=Int×dJ×List gH) (λI=>(jz 0 I.1 (jn (α:=dJ×List gH) (bK iL I.2.2 I.1 λY=>(bK iL I.2.2 x.2.2 λU=>(iT Y.1 U.1 (aF I.2) (bK iL I.2.2 I.1 λM=>(obind (oy (I.2.1,M)) λy6=>(bf y6.1 x.2.1 (cP (bW ai)) (bK iL I.2.2 I.1 λJ=>(obind (ox (I.2.1,J)) λZ=>(bf Z.1 x.2.1 (cP (bW aj)) (aF I.2)))))))))) λx2=>(cP ((bm .i64 (I.1-1)),x2))) (aF aj))) ((bm .i64 (x.2.2-1)),x.1))
def oD (x:(List Int)×(List Int)×List Int):Option (Bool):=
 (obind (kR (x,40)) λy1=>(obind (nF y1) λU=>(iT U.2 0 (af aj) (iter (σ:=Int×dJ×List gH) (λM=>(bz M.1 (aZ U.1) (bK iE U.1 M.1 λJ=>(jn (α:=Bool×(dJ×List gH)×Int×Int) (bz J.1 0 (aF (ai,M.2,J)) (jz J.2 J.1 (aF (ai,M.2,J)) (aF ((c5 (aZ M.2.2) J.2),M.2,J)))) λx5=>(bcase x5.1 (aF aj) (iter (σ:=Int×(dJ×List gH)×Int×Int) (λI=>(bz I.1 (aZ x5.2.1.1.2.1) (jn (α:=Bool×(dJ×List gH)×Int×Int) (bK qD I.2.1.1.2.1 I.1 λz8=>(bcase (!z8.2) (obind (mf (I.2.1,I.1,I.p2)) λy9=>(bcase y9 (obind (mf (I.2.1,I.1,I.q3)) λZ=>(aF (Z,I.2))) (aF (aj,I.2)))) (aF (aj,I.2)))) λx7=>(bcase x7.1 (aF (bW aj)) (cP ((cF I.1),x7.2)))) (aF (nh ((cF M.1),I.2.1))))) (0,x5.2))))) (obind (obind (sZ ()) λY=>(af Y)) λr=>af (bW r)))) (0,y1)))))
theorem L5 (k j v:Int):∀ m:List (Int×Int),vS (K:=.int .i64) (V:=.int .i64) j (DX (K:=.int .i64) (V:=.int .i64) k v m)=if j=k then af v else vS (K:=.int .i64) (V:=.int .i64) j m
 |[]=>by
  show (if decide (j=k)=ai then af v else ah)=_;by_cases h:j=k<;>simp[h,vS]
 |(a,b)::r=>by
  have I:=L5 k j v r;show vS (K:=.int .i64) (V:=.int .i64) j (if decide (k=a)=ai then (k,v)::r else (a,b)::DX (K:=.int .i64) (V:=.int .i64) k v r)=if j=k then af v else if decide (j=a)=ai then af b else vS (K:=.int .i64) (V:=.int .i64) j r
  by_cases h:k=a
  .subst h;rw[aE (aQ rfl)];show (if decide (j=k)=ai then af v else vS (K:=.int .i64) (V:=.int .i64) j r)=_;by_cases g:j=k<;>simp[g]
  .rw[aB (by simpa using h)];show (if decide (j=a)=ai then af b else vS (K:=.int .i64) (V:=.int .i64) j (DX (K:=.int .i64) (V:=.int .i64) k v r))=_;rw[I];by_cases g:j=a
   .subst g;rw[aE (aQ rfl),aB λq=>h q.symm,aE (aQ rfl)]
   .simp only[g,cr,cw,dY]
theorem L4 (k j v d:Int) (m:List (Int×Int)):vR (K:=.int .i64) (V:=.int .i64) j (DX (K:=.int .i64) (V:=.int .i64) k v m) d=if j=k then v else vR (K:=.int .i64) (V:=.int .i64) j m d:=by
 unfold vR;rw[L5];by_cases h:j=k<;>simp[h]
def epN (l:List ET) (i:Nat):Int×Int:=((Dm l (dC l i).th i:Int)+1,((dC l i).th:Int))
theorem Rw (l:List ET) (u:Nat):∀ i,Dm l u i<=i
 |0=>bT _
 |i+1=>by have:=Rw l u i;rw[Dm];split<;>omega
theorem Xq {w:WT} {l:List ET} (I:TR (w,l)):pi l=af ((eS l.length).map (epN l)):=by
 have hl:=I.len;dsimp only at hl;refine cD ?_;unfold pi xd ck bz bF bK aZ cP aF cF;refine dt (dt (eH (by dsimp only[au];omega) (eH (by omega) (bn (by simp;omega) (by omega) ?_))));refine iz l.length (by omega) (λi x=>x.1=(i:Int)/\(∀ u:Nat,vR (K:=.int .i64) (V:=.int .i64) (u:Int) x.2.1 0=(Dm l u i:Int))/\x.2.2=tA l.length (epN l) (0,0) i) ?_ ?_ ⟨rfl,λu=>rfl,by rw[Vc];rfl⟩
 .rintro i ⟨x,m,r⟩ hi ⟨e1,hm,e2⟩;dsimp only at e1 hm e2;subst e1;subst e2;refine dv ?_;refine cA (aS ?_);have et:=wg I hi;refine aR (by dsimp only;omega) (by dsimp only;rw[M3];omega) (aR (by dsimp only;omega) (by dsimp only;rw[M3];omega) (ar ?_));have hc:=Rw l (dC l i).th i;have J:(aJ (T:=tE) l (i:Int)).1=((dC l i).th:Int):=et.th;have M:bm .i64 (vR (K:=.int .i64) (V:=.int .i64) ((dC l i).th:Int) m 0+1)=(Dm l (dC l i).th i:Int)+1:=by rw[hm];exact ib (by omega) (by omega)
  dsimp only;refine ⟨gO (by omega),λu=>?_,?_⟩
  .rw[J,M,L4,Dm];by_cases q:(dC l i).th=u
   .subst q;rw[aE rfl,aE rfl];rfl
   .rw[aB (by omega),aB q];exact hm u
  .rw[J,M,L4,aE rfl,fZ];exact YN (f:=epN l) hi
 .rintro⟨x,m,r⟩ ⟨e1,hm,e2⟩;dsimp only at e1 hm e2;subst e1;subst e2;refine dc (ar ?_);dsimp only;rw[YO]
theorem ZU {l:List ET} {i:Nat} (h:i<l.length):aJ (T:=.st (.pr (.int .i64) (.int .i64))) ((eS l.length).map (epN l)) (i:Int)=epN l i:=by
 rw[ya,ay,bc,F7 h];rfl
theorem U9 (c:List Int) (a:Int) (u:Nat):oE (c,a,(u:Int))=af (decide (a<=c.getD u 0)):=by
 unfold oE;dsimp only;rw[Kl];rfl
theorem RU (w:ut) (o:Nat) (h:o<w.2.2.1.length) (h0:0<=(w.2.2.1.getD o ([],0)).2):qW (w,(o:Int))=af ((Ks w.2.2.1 o:Nat):Int):=by
 have e1:(w.2.2.1.getD o ([],0)).2=((Ks w.2.2.1 o:Nat):Int):=by unfold Ks;omega
 unfold qW aX bl bw cS bz vI aZ aF;simp only[];rw[xD (by omega)];simp only[c4,ju];rw[VN (by simp;omega)];simp only[c4];rw[cE (c9 h),Hb,e1]
def OD (w:ut) (e:EV):Int×Bool:=if e.k=6\/e.k=10 then ((e.ob:Int),aj) else if e.k=8 then ((e.ob:Int),ai) else if e.k=17 then ((Ks w.2.2.1 e.ob:Nat),aj) else (-1,aj)
def wR (w:ut) (e:EV):Int×Bool:=if e.k=7\/e.k=11 then ((e.ob:Int),aj) else if e.k=9 then ((e.ob:Int),ai) else if e.k=16 then ((Ks w.2.2.1 e.ob:Nat),aj) else (-1,aj)
theorem aj0 {w:ut} {h:HS} {e:EV} (ok:EOK w h e) {x:ETp} (hx:EvT e x):oy (w,x)=af (OD w e):=by
 obtain⟨x1,x2,x3,x4,x5,x6,x7⟩:=x;obtain⟨w1,w2,Z,Y,U,M⟩:=w;obtain⟨th,k,ob,va⟩:=e;obtain⟨J,I,q3,q4⟩:=hx;simp only at J I q3 q4;subst J q4;unfold oy aX bl bw cz ef cS ky bf aF;rcases G9 I ok.k1 ok.k2 with ⟨e,e'⟩|⟨e,e'⟩|⟨e,e'⟩|⟨e,e'⟩|⟨e,e'⟩|⟨e,e'⟩|⟨e,e'⟩|⟨e,e'⟩|⟨e,e'⟩|⟨e,e'⟩|⟨e,e'⟩|⟨e,e'⟩|⟨e,e'⟩|⟨e,e'⟩|⟨e,e'⟩|⟨e,e'⟩|⟨e,e'⟩|⟨e,e'⟩|⟨e,e'⟩|⟨e,e'⟩|⟨e,e'⟩|⟨e,e'⟩|⟨e,e'⟩<;>clear I<;>subst e<;>subst e'
 case inr.inr.inr.inr.inr.inl=>
  obtain rfl:=q3 (by decide);simp only[aT,cr,cJ,cX,c4,ju,cW];rfl
 case inr.inr.inr.inr.inr.inr.inr.inr.inr.inl=>
  obtain rfl:=q3 (by decide);simp only[aT,cr,cJ,cX,c4,ju,cW];rfl
 case inr.inr.inr.inr.inr.inr.inr.inl=>
  obtain rfl:=q3 (by decide);simp only[aT,cr,cJ,cX,c4,ju,cW];rfl
 case inr.inr.inr.inr.inr.inr.inr.inr.inr.inr.inr.inr.inr.inr.inr.inr.inl=>
  obtain rfl:=q3 (by decide);obtain⟨d1,d2,d3⟩:=ok.cd (.inr rfl);have mu:=RU (w1,w2,Z,Y,U,M) ob d1 d2;simp only[aT,cr,cJ,cX,c4,ju,cW,mu];rfl
 all_goals
  simp only[aT,cr,cJ,cX,c4,ju,cW];rfl
theorem ahm {w:ut} {h:HS} {e:EV} (ok:EOK w h e) {x:ETp} (hx:EvT e x):ox (w,x)=af (wR w e):=by
 obtain⟨x1,x2,x3,x4,x5,x6,x7⟩:=x;obtain⟨w1,w2,Z,Y,U,M⟩:=w;obtain⟨th,k,ob,va⟩:=e;obtain⟨J,I,q3,q4⟩:=hx;simp only at J I q3 q4;subst J q4;unfold ox aX bl bw cz ef cS ky bf aF;rcases G9 I ok.k1 ok.k2 with ⟨e,e'⟩|⟨e,e'⟩|⟨e,e'⟩|⟨e,e'⟩|⟨e,e'⟩|⟨e,e'⟩|⟨e,e'⟩|⟨e,e'⟩|⟨e,e'⟩|⟨e,e'⟩|⟨e,e'⟩|⟨e,e'⟩|⟨e,e'⟩|⟨e,e'⟩|⟨e,e'⟩|⟨e,e'⟩|⟨e,e'⟩|⟨e,e'⟩|⟨e,e'⟩|⟨e,e'⟩|⟨e,e'⟩|⟨e,e'⟩|⟨e,e'⟩<;>clear I<;>subst e<;>subst e'
 case inr.inr.inr.inr.inr.inr.inl=>
  obtain rfl:=q3 (by decide);simp only[aT,cr,cJ,cX,c4,ju,cW];rfl
 case inr.inr.inr.inr.inr.inr.inr.inr.inr.inr.inl=>
  obtain rfl:=q3 (by decide);simp only[aT,cr,cJ,cX,c4,ju,cW];rfl
 case inr.inr.inr.inr.inr.inr.inr.inr.inl=>
  obtain rfl:=q3 (by decide);simp only[aT,cr,cJ,cX,c4,ju,cW];rfl
 case inr.inr.inr.inr.inr.inr.inr.inr.inr.inr.inr.inr.inr.inr.inr.inl=>
  obtain rfl:=q3 (by decide);obtain⟨d1,d2,d3⟩:=ok.cd (.inl rfl);have mu:=RU (w1,w2,Z,Y,U,M) ob d1 d2;simp only[aT,cr,cJ,cX,c4,ju,cW,mu];rfl
 all_goals
  simp only[aT,cr,cJ,cX,c4,ju,cW];rfl
def JC (c:Nat->List Int) (p:Nat->Bool):Nat->List Int
 |0=>[]
 |i+1=>if p i=ai then jl (JC c p i) (c i) else JC c p i
theorem ab2 (c:Nat->List Int) (p:Nat->Bool):∀ i,(∀ k,k<i->p k=aj)->JC c p i=[]
 |0,_=>rfl
 |i+1,h=>by rw[JC,h i (by omega),aB (by simp)];exact ab2 c p i λk hk=>h k (by omega)
theorem R4 {c:Nat->List Int} {p:Nat->Bool} {i:Nat} (h:p i=ai):JC c p (i+1)=jl (JC c p i) (c i):=by rw[JC,aE h]
theorem EU {c:Nat->List Int} {p:Nat->Bool} {i:Nat} (h:p i=aj):JC c p (i+1)=JC c p i:=by rw[JC,aB (by rw[h];simp)]
theorem ak6 (w:ut) (h:HS) (e:EV) (c:List Int):(jm w h e c).S=if e.k=20 then h.S.set e.ob c else h.S:=by
 unfold jm;simp only[];repeat' split
 all_goals first|rfl|omega
theorem ZW (w:ut) (h:HS) (e:EV) (c:List Int):(jm w h e c).L=if (e.k=7\/e.k=11) then jat h.L e.ob c else if e.k=16 then jat h.L (Ks w.2.2.1 e.ob) c else h.L:=by
 unfold jm;simp only[];repeat' split
 all_goals first|rfl|omega
theorem ak7 (w:ut) (h:HS) (e:EV) (c:List Int):(jm w h e c).R=if e.k=9 then jat h.R e.ob c else h.R:=by
 unfold jm;simp only[];repeat' split
 all_goals first|rfl|omega
theorem aka (w:ut) (h:HS) (e:EV) (c:List Int):(jm w h e c).C=if e.k=4/\Hu w.1 e.ob=ai then jat h.C e.ob c else h.C:=by
 unfold jm;simp only[];repeat' split
 all_goals first|rfl|omega|(rename_i h1 h2;exact cZ ⟨by assumption,by assumption⟩ h2)|(rename_i h1 h2;exact cZ h2.2 h1)|(rename_i h1;exact cZ h1.1 (by assumption))
theorem ak9 (w:ut) (h:HS) (e:EV) (c:List Int):(jm w h e c).F=if e.k=22 then jat h.F e.ob c else h.F:=by
 unfold jm;simp only[];repeat' split
 all_goals first|rfl|omega
theorem ak4 (w:ut) (h:HS) (e:EV) (c:List Int):(jm w h e c).X=if e.k=13 then jl h.X c else h.X:=by
 unfold jm;simp only[];repeat' split
 all_goals first|rfl|omega
theorem w7 (l:List (List Int)) (i:Nat) (c:List Int) (o:Nat) (h:i<l.length):(jat l i c).getD o []=if i=o then jl (l.getD o []) c else l.getD o []:=by
 unfold jat;rw[lY];by_cases e:i=o
 .subst e;rw[aE ⟨rfl,h⟩,aE rfl]
 .rw[aB λq=>e q.1,aB e]
abbrev pT (l:List ET) (u k:Nat):Bool:=decide ((dC l k).th=u)
abbrev pS (l:List ET) (u k:Nat):Bool:=decide ((dC l k).k=20/\(dC l k).ob=u)
abbrev pL (w:WT) (l:List ET) (x:Int×Bool) (k:Nat):Bool:=decide (wR w (dC l k)=x)
abbrev pC (w:WT) (l:List ET) (o k:Nat):Bool:=decide ((dC l k).k=4/\(dC l k).ob=o/\Hu w.1 o=ai)
abbrev pF (l:List ET) (o k:Nat):Bool:=decide ((dC l k).k=22/\(dC l k).ob=o)
abbrev pX (l:List ET) (k:Nat):Bool:=decide ((dC l k).k=13)
structure IN (w:WT) (l:List ET) (i:Nat) (h:HS):Prop where
 T:∀ u,h.T.getD u []=JC (ux w l) (pT l u) i
 S:∀ u,h.S.getD u []=JC (ux w l) (pS l u) i
 L:∀ o:Nat,h.L.getD o []=JC (ux w l) (pL w l ((o:Int),aj)) i
 R:∀ o:Nat,h.R.getD o []=JC (ux w l) (pL w l ((o:Int),ai)) i
 C:∀ o,h.C.getD o []=JC (ux w l) (pC w l o) i
 F:∀ o,h.F.getD o []=JC (ux w l) (pF l o) i
 X:h.X=JC (ux w l) (pX l) i
theorem YX {w:ut} {e:EV} (h:e.k=7\/e.k=11):wR w e=((e.ob:Int),aj):=by unfold wR;rw[aE h]
theorem SM {w:ut} {e:EV} (h:e.k=9):wR w e=((e.ob:Int),ai):=by unfold wR;rw[aB (by omega),aE h]
theorem Vn {w:ut} {e:EV} (h:e.k=16):wR w e=((Ks w.2.2.1 e.ob:Int),aj):=by unfold wR;rw[aB (by omega),aB (by omega),aE h]
theorem ag7 {w:ut} {e:EV} (h:¬(e.k=7\/e.k=11)) (h1:¬e.k=9) (h2:¬e.k=16):wR w e=(-1,aj):=by unfold wR;rw[aB h,aB h1,aB h2]
theorem IN.zero (w:WT) (l:List ET):IN w l 0 (HS.zero w):=
 have r:∀ n:Nat,∀ u,(aG n ([]:List Int)).getD u []=[]:=λn=>og.repl (P:=λx=>x=[]) rfl n
 ⟨r _,r _,λ_=>r _ _,λ_=>r _ _,r _,r _,rfl⟩
theorem IN.step {w:WT} {l:List ET} {i:Nat} {h:HS} (a:IN w l i h) (n:Int) (o:Sp n h) (hh:h=BX w (l.take i)) (hi:i<l.length) (ok:EOK w h (dC l i)) (J:(dC l i).k=20->∀ k,k<i->pS l (dC l i).ob k=aj):IN w l (i+1) (jm w h (dC l i) (ux w l i)):=by
 have hcT:LE (h.T.getD (dC l i).th []) (ux w l i):=by rw[hh];exact Wa w _ _
 have hc:En (n+1) (ux w l i):=by unfold ux;rw[<- hh];exact UD o ok.th4
 refine ⟨λu=>?_,λu=>?_,λx=>?_,λx=>?_,λx=>?_,λx=>?_,?_⟩
 .rw[QE,lY];by_cases e:(dC l i).th=u
  .rw[aE ⟨e,ok.th⟩,R4 (by simpa using e),<-a.T u,LE.jl (by rw[<- e];exact hcT)]
  .rw[aB λq=>e q.1,EU (by simpa using e)];exact a.T u
 .rw[ak6];by_cases k:(dC l i).k=20
  .rw[aE k,lY];by_cases e:(dC l i).ob=u
   .rw[aE ⟨e,by rw[o.lS];exact ok.sp (.inl k)⟩,R4 (by simp[k,e]),ab2 _ _ i (by rw[<- e];exact J k),agc hc]
   .rw[aB λq=>e q.1,EU (by simp[e])];exact a.S u
  .rw[aB k,EU (by simp[k])];exact a.S u
 .rw[ZW];by_cases k:(dC l i).k=7\/(dC l i).k=11
  .rw[aE k,w7 _ _ _ _ (ok.lk (by omega))];by_cases e:(dC l i).ob=x
   .rw[aE e,R4 (by simp[YX k,e]),<-a.L x]
   .rw[aB e,EU (by simp[YX k];omega)];exact a.L x
  rw[aB k];by_cases k2:(dC l i).k=16
  .rw[aE k2,w7 _ _ _ _ (ok.cd (.inl k2)).2.2];by_cases e:Ks w.2.2.1 (dC l i).ob=x
   .rw[aE e,R4 (by simp[Vn k2,e]),<-a.L x]
   .rw[aB e,EU (by simp[Vn k2];omega)];exact a.L x
  rw[aB k2,EU]
  .exact a.L x
  .by_cases I:(dC l i).k=9
   .simp[SM I]
   .simp[ag7 k I k2]
 .rw[ak7];by_cases k:(dC l i).k=9
  .rw[aE k,w7 _ _ _ _ (by rw[o.lR];exact ok.lk (by omega))];by_cases e:(dC l i).ob=x
   .rw[aE e,R4 (by simp[SM k,e]),<-a.R x]
   .rw[aB e,EU (by simp[SM k];omega)];exact a.R x
  rw[aB k,EU]
  .exact a.R x
  .unfold pL wR;repeat' split
   all_goals first|omega|simp
 .rw[aka];by_cases k:(dC l i).k=4/\Hu w.1 (dC l i).ob=ai
  .rw[aE k,w7 _ _ _ _ (ok.ce (.inr k.1)).1];by_cases e:(dC l i).ob=x
   .rw[aE e,R4 (by simp[k.1,e];rw[<- e];exact k.2),<-a.C x]
   .rw[aB e,EU (by simp[e])];exact a.C x
  .rw[aB k,EU]
   .exact a.C x
   .refine bH λq=>k ⟨q.1,by rw[q.2.1];exact q.2.2⟩
 .rw[ak9];by_cases k:(dC l i).k=22
  .rw[aE k,w7 _ _ _ _ (ok.fu (.inl k))];by_cases e:(dC l i).ob=x
   .rw[aE e,R4 (by simp[k,e]),<-a.F x]
   .rw[aB e,EU (by simp[e])];exact a.F x
  .rw[aB k,EU (by simp[k])];exact a.F x
 .rw[ak4];by_cases k:(dC l i).k=13
  .rw[aE k,R4 (by simp[k]),<-a.X]
  .rw[aB k,EU (by simp[k])];exact a.X
abbrev gT (th:List (Int×Int×Bool)) (u:Int):Int×Int×Bool:=aJ (T:=jy) th u
theorem v9 {T:Ty} (xs:List T.den) (j k:Int) (x:T.den) (hj:0<=j) (hk:0<=k) (h2:k<xs.length):aJ (cO xs j x) k=if k=j then x else aJ xs k:=by
 by_cases h:j<xs.length
 .exact ry xs j k x hj h hk
 .rw[aB (by omega)];unfold aJ cO;rw[ay,ay,oK,aB (by omega)]
theorem wO {th:List (Int×Int×Bool)} {t u:Int} (s:Int) (t0:0<=t) (J:0<=u) (I:u<th.length):gT (xB th t s) u=if u=t then (s,(gT th u).2) else gT th u:=by
 unfold xB gT;rw[v9 _ _ _ _ t0 J I];split
 .rename_i h;subst h;rfl
 .rfl
theorem Wd {th:List (Int×Int×Bool)} {t u:Int} (s:Int) (t0:0<=t) (J:0<=u) (I:u<th.length):gT (cdP th t s) u=if u=t then ((gT th u).1,s,(gT th u).2.2) else gT th u:=by
 unfold cdP gT;rw[v9 _ _ _ _ t0 J I];split
 .rename_i h;subst h;rfl
 .rfl
theorem Wh {th:List (Int×Int×Bool)} {t u:Int} (s:Bool) (t0:0<=t) (J:0<=u) (I:u<th.length):gT (atP th t s) u=if u=t then ((gT th u).1,(gT th u).2.1,s) else gT th u:=by
 unfold atP gT;rw[v9 _ _ _ _ t0 J I];split
 .rename_i h;subst h;rfl
 .rfl
theorem ajr {u:Int} (I:0<=u):∀ (l:List Int) (th:List (Int×Int×Bool)),(∀ x∈l,0<=x)->u<th.length->gT (Cm th l) u=if u∈l then (4,(gT th u).2) else gT th u
 |[],th,_,_=>by simp[Cm]
 |x::r,th,h,h2=>by
  have e:Cm th (x::r)=Cm (xB th x 4) r:=rfl;rw[e,ajr I r _ (λy J=>h y (cM _ J)) (by unfold xB;rw[bV];exact h2),wO 4 (h x (dz ..)) I h2];by_cases a:u=x
  .subst a;simp
  .simp[a]
structure TH1 (k o v t u:Int) (g g':Int×Int×Bool):Prop where
 a:u=t->g.1≠0/\g.1≠3/\(k=16->g'.1=3/\g'.2.1=o)/\(k≠16->g'.1≠0/\g'.1≠3/\g'.1≠4)/\(k≠1->k≠17->g.1=2)
 b:u≠t->k=18->v=u->g.1=3/\g.2.1=o/\g'.1=4/\g'.2.1=o
 c:u≠t->k=19->g.1=3->g.2.1=o->g'.1=4/\g'.2.1=o
 d:u≠t->¬(k=18/\v=u)->¬(k=19/\g.1=3/\g.2.1=o)->g'.2.1=g.2.1/\(g'.1=g.1\/k=20/\o=u/\g.1=0/\g'.1=1)
 e:k=20->o=u->g'.1≠0
theorem TH1.same {k o v t u:Int} {g g':Int×Int×Bool} (h2:k≠1->k≠17->u=t->g.1=2) (e1:g'.1=g.1) (e2:g'.2.1=g.2.1) (n1:k≠1) (Y:k≠17) (n3:k≠16) (J:k≠20) (U:k=18->v=u->u=t) (M:k=19->g.1=3->g.2.1=o->u=t):TH1 k o v t u g g':=
 ⟨λh=>(by have:=h2 n1 Y h;rw[e1];omega),λh h1 I=>(h (U h1 I)).elim,λh h1 I Z=>(h (M h1 I Z)).elim,λ_ _ _=>⟨e2,.inl e1⟩,λh=>(J h).elim⟩
theorem agy (w:WT) (s:SY) (t k o v:Int) (en:EN w s t k o) (rd:So w s t k o) (va:k=18->v=(oG w s t k o v).2) (u:Int) (J:0<=u) (I:u<s.2.2.2.length):TH1 k o v t u (gT s.2.2.2 u) (gT (oG w s t k o v).1.2.2.2 u):=by
 have t0:=en.t0;have r2:k≠1->k≠17->u=t->(gT s.2.2.2 u).1=2:=λh1 h2 Y=>by subst Y;exact rd.r h1 h2
 have nm:=en.nm;have k1:=nm.k1;have k2:=nm.k2;obtain⟨s1,s2,M,th⟩:=s;dsimp only at I r2;change TH1 k o v t u (gT th u) (gT (oG w (s1,s2,M,th) t k o v).1.2.2.2 u);by_cases a1:k=1
 .subst a1;have e:gT (oG w (s1,s2,M,th) t 1 o v).1.2.2.2 u=if u=t then (2,(gT th u).2) else gT th u:=wO 2 t0 J I
  rw[e];refine ⟨λh=>?_,λ_ h=>by omega,λ_ h=>by omega,λh _ _=>by rw[aB h];exact⟨rfl,.inl rfl⟩,λh=>by omega⟩;have b:=rd.b rfl;rw[aE h];subst h;have b:(gT th u).1=1:=b;dsimp only;omega
 by_cases a2:k=2
 .subst a2;have e:gT (oG w (s1,s2,M,th) t 2 o v).1.2.2.2 u=if u=t then (5,(gT th u).2) else gT th u:=wO 5 t0 J I
  rw[e];refine ⟨λh=>?_,λ_ h=>by omega,λ_ h=>by omega,λh _ _=>by rw[aB h];exact⟨rfl,.inl rfl⟩,λh=>by omega⟩;have:=r2 (by omega) (by omega) h;rw[aE h];dsimp only;omega
 by_cases a14:k=14\/k=15
 .have e:∃ b,gT (oG w (s1,s2,M,th) t k o v).1.2.2.2 u=if u=t then ((gT th u).1,(gT th u).2.1,b) else gT th u:=by
   rcases a14 with rfl|rfl
   .exact⟨ai,Wh ai t0 J I⟩
   .exact⟨aj,Wh aj t0 J I⟩
  obtain⟨b,e⟩:=e;rw[e];refine TH1.same r2 (by split<;>rfl) (by split<;>rfl) a1 (by omega) (by omega) (by omega) (λh=>by omega) λh=>by omega
 by_cases a16:k=16
 .subst a16;have e:gT (oG w (s1,s2,M,th) t 16 o v).1.2.2.2 u=if u=t then (3,o,(gT th u).2.2) else gT th u:=by
   have:gT (cdP (xB th t 3) t o) u=_:=Wd o t0 J (by unfold xB;rw[bV];exact I);refine Eq.trans this ?_;rw[wO 3 t0 J I];split<;>rfl
  rw[e];refine ⟨λh=>?_,λ_ h=>by omega,λ_ h=>by omega,λh _ _=>by rw[aB h];exact⟨rfl,.inl rfl⟩,λh=>by omega⟩;have:=r2 (by omega) (by omega) h;rw[aE h];exact⟨by omega,by omega,λ_=>⟨rfl,rfl⟩,λh=>(h rfl).elim,λ_ _=>this⟩
 by_cases a17:k=17
 .subst a17;have e:gT (oG w (s1,s2,M,th) t 17 o v).1.2.2.2 u=if u=t then (2,0,(gT th u).2.2) else gT th u:=by
   have:gT (cdP (xB th t 2) t 0) u=_:=Wd 0 t0 J (by unfold xB;rw[bV];exact I);refine Eq.trans this ?_;rw[wO 2 t0 J I];split<;>rfl
  rw[e];refine ⟨λh=>?_,λ_ h=>by omega,λ_ h=>by omega,λh _ _=>by rw[aB h];exact⟨rfl,.inl rfl⟩,λh=>by omega⟩;have b:=(rd.wk rfl).1;rw[aE h];subst h;have b:(gT th u).1=4:=b;dsimp only;omega
 by_cases a18:k=18
 .subst a18;have va:=va rfl;rw[EM] at va ⊢;dsimp only at va ⊢;by_cases hl:(wl th o th.length).length=0
  .rw[aE hl] at va ⊢;dsimp only at va ⊢;exact TH1.same r2 rfl rfl a1 (by omega) (by omega) (by omega) (λ_ h=>by omega) λh=>by omega
  .rw[aB hl] at va ⊢;dsimp only at va ⊢;have hv:v∈wl th o th.length:=by
    unfold AS at va;rw[aB hl] at va;split at va
    .rename_i h;simpa using h
    .rw[va];exact bG (T:=.int .i64) (by omega) (by omega)
   rw[<- va];obtain⟨v0,v1,U⟩:=qT.1 hv;unfold Hq at U;simp only[av,bR] at U;rw[wO 4 v0 J I];refine ⟨λh=>?_,λh _ h2=>?_,λ_ h=>by omega,λh h2 _=>?_,λh=>by omega⟩
   .have:=r2 (by omega) (by omega) h;rw[aB (λq=>by rw[q] at this;exact cZ (this.symm.trans U.1) (by decide))];omega
   .subst h2;rw[aE rfl];exact⟨U.1,U.2,rfl,U.2⟩
   .rw[aB λq=>h2 ⟨rfl,q.symm⟩];exact⟨rfl,.inl rfl⟩
 by_cases a19:k=19
 .subst a19;have e:gT (oG w (s1,s2,M,th) t 19 o v).1.2.2.2 u=if u∈wl th o th.length then (4,(gT th u).2) else gT th u:=ajr J _ th (λx hx=>(qT.1 hx).1) I
  rw[e];have hm:u∈wl th o th.length↔(gT th u).1=3/\(gT th u).2.1=o:=by
   rw[qT];unfold Hq;simp only[av,bR];exact⟨λh=>h.2.2,λh=>⟨J,I,h⟩⟩
  refine ⟨λh=>?_,λ_ h=>by omega,λh _ Y h4=>?_,λh _ Y=>?_,λh=>by omega⟩
  .have:=r2 (by omega) (by omega) h;rw[aB (λq=>by have:=(hm.1 q).1;omega)];omega
  .rw[aE (hm.2 ⟨Y,h4⟩)];exact⟨rfl,h4⟩
  .rw[aB λq=>Y ⟨rfl,hm.1 q⟩];exact⟨rfl,.inl rfl⟩
 by_cases Z:k=20
 .subst Z;have sp:=rd.sp rfl;have o0:=(nm.th (.inl rfl)).1;have e:gT (oG w (s1,s2,M,th) t 20 o v).1.2.2.2 u=if u=o then (1,(gT th u).2) else gT th u:=wO 1 o0 J I
  rw[e];refine ⟨λh=>?_,λ_ h=>by omega,λ_ h=>by omega,λh _ _=>?_,λ_ h=>?_⟩
  .have:=r2 (by omega) (by omega) h;rw[aB (λq=>sp.1 (by omega))];omega
  .by_cases q:u=o
   .subst q;rw[aE rfl];exact⟨rfl,.inr ⟨rfl,rfl,sp.2,rfl⟩⟩
   .rw[aB q];exact⟨rfl,.inl rfl⟩
  .rw[aE h.symm];show (1:Int)≠0;omega
 have e:(oG w (s1,s2,M,th) t k o v).1.2.2.2=th:=by
  unfold oG;rw[aB a1,aB a2];repeat' split
  all_goals first|rfl|omega
 rw[e];exact TH1.same r2 rfl rfl a1 a17 a16 Z (λh=>(a18 h).elim) λh=>(a19 h).elim
def pvN (l:List ET) (u:Nat):Nat->Int
 |0=> -1
 |i+1=>if (dC l i).th=u then (i:Int) else pvN l u i
def mtN (l:List ET) (u i:Nat) (p:Int):Prop:=0<=p/\(dC l p.toNat).k=16/\((dC l i).k=18/\(dC l i).va=u\/(dC l i).k=19/\(dC l i).ob=(dC l p.toNat).ob)
def OP (l:List ET) (u:Nat):Nat->Int
 |0=> -1
 |i+1=>if (dC l i).th=u then -1 else if 0<=OP l u i then OP l u i else @ite _ (mtN l u i (pvN l u i)) (Classical.propDecidable _) (i:Int) (-1)
theorem abn {l:List ET} {u i:Nat} (h:(dC l i).th=u):OP l u (i+1)= -1:=by rw[OP,aE h]
theorem abo {l:List ET} {u i:Nat} (h:¬(dC l i).th=u) (g:0<=OP l u i):OP l u (i+1)=OP l u i:=by rw[OP,aB h,aE g]
theorem abq {l:List ET} {u i:Nat} (h:¬(dC l i).th=u) (g:OP l u i= -1) (m:mtN l u i (pvN l u i)):OP l u (i+1)=i:=by rw[OP,aB h,aB (by omega),aE m]
theorem abp {l:List ET} {u i:Nat} (h:¬(dC l i).th=u) (g:OP l u i= -1) (m:¬mtN l u i (pvN l u i)):OP l u (i+1)= -1:=by rw[OP,aB h,aB (by omega),aB m]
theorem Fj {α:Type} (l:List α) (f:Nat->α->α) (u:Nat) (d:α) (h:u<l.length):(l.mapIdx f).getD u d=f u (l.getD u d):=by
 rw[ay,DE,aA h,ay,aA h];rfl
theorem ak5 (w:ut) (h:HS) (e:EV) (c:List Int) (u:Nat) (hu:u<h.W.length) (U:h.N.length=h.W.length):(jm w h e c).W.getD u 0=if e.k=16/\e.th=u then (e.ob:Int) else if e.k=18/\e.va=u\/e.k=19/\h.W.getD u 0=e.ob then -1 else h.W.getD u 0:=by
 obtain⟨th,k,ob,va⟩:=e;dsimp only;by_cases I:k=16
 .subst I;have e:(jm w h ⟨th,16,ob,va⟩ c).W=h.W.set th ob:=rfl;rw[e,lY];by_cases q:th=u
  .rw[aE ⟨q,by omega⟩,aE ⟨rfl,q⟩]
  .rw[aB λx=>q x.1,aB λx=>q x.2,aB (by omega)]
 rw[aB λx=>I x.1];by_cases M:k=18
 .subst M;have e:jm w h ⟨th,18,ob,va⟩ c=if 0<=va/\va<h.N.length then {h with T:=h.T.set th c,N:=h.N.set va.toNat c,W:=h.W.set va.toNat (-1)} else {h with T:=h.T.set th c}:=rfl
  rw[e];split
  .show (h.W.set va.toNat (-1)).getD u 0=_;rw[lY];by_cases q:va=u
   .rw[aE ⟨by omega,by omega⟩,aE (.inl ⟨rfl,q⟩)]
   .rw[aB (by omega),aB (by omega)]
  .rw[aB (by omega)]
 by_cases J:k=19
 .subst J;have e:(jm w h ⟨th,19,ob,va⟩ c).W=h.W.mapIdx λu x=>if decide (h.W.getD u 0=(ob:Int))=ai then -1 else x:=rfl
  rw[e,Fj _ _ _ _ hu];by_cases q:h.W.getD u 0=ob
  .rw[aE (aQ q),aE (.inr ⟨rfl,q⟩)]
  .rw[aB (by simpa using q),aB (by omega)]
 rw[aB (by omega)];have e:(jm w h ⟨th,k,ob,va⟩ c).W=h.W:=by
  unfold jm;simp only[];repeat' split
  all_goals first|rfl|omega
 rw[e]
theorem ak8 (w:ut) (h:HS) (e:EV) (c:List Int) (u:Nat) (hu:u<h.N.length):(jm w h e c).N.getD u []=if e.k=18/\e.va=u\/e.k=19/\h.W.getD u 0=e.ob then c else h.N.getD u []:=by
 obtain⟨th,k,ob,va⟩:=e;dsimp only;by_cases J:k=18
 .subst J;have e:jm w h ⟨th,18,ob,va⟩ c=if 0<=va/\va<h.N.length then {h with T:=h.T.set th c,N:=h.N.set va.toNat c,W:=h.W.set va.toNat (-1)} else {h with T:=h.T.set th c}:=rfl
  rw[e];split
  .show (h.N.set va.toNat c).getD u []=_;rw[lY];by_cases q:va=u
   .rw[aE ⟨by omega,by omega⟩,aE (.inl ⟨rfl,q⟩)]
   .rw[aB (by omega),aB (by omega)]
  .rw[aB (by omega)]
 by_cases I:k=19
 .subst I;have e:(jm w h ⟨th,19,ob,va⟩ c).N=h.N.mapIdx λu x=>if decide (h.W.getD u 0=(ob:Int))=ai then c else x:=rfl
  rw[e,Fj _ _ _ _ hu];by_cases q:h.W.getD u 0=ob
  .rw[aE (aQ q),aE (.inr ⟨rfl,q⟩)]
  .rw[aB (by simpa using q),aB (by omega)]
 rw[aB (by omega)];have e:(jm w h ⟨th,k,ob,va⟩ c).N=h.N:=by
  unfold jm;simp only[];repeat' split
  all_goals first|rfl|omega
 rw[e]
abbrev ZN (w:WT) (l:List ET) (i u:Nat):Int×Int×Bool:=gT (J5 w (l.take i)).1.2.2.2 (u:Int)
structure WI (w:WT) (l:List ET) (i:Nat) (h:HS) (u:Nat) (g:Int×Int×Bool):Prop where
 W:h.W.getD u 0=if g.1=3 then g.2.1 else -1
 p:g.1=3\/g.1=4->0<=pvN l u i/\(dC l (pvN l u i).toNat).k=16/\((dC l (pvN l u i).toNat).ob:Int)=g.2.1
 a:g.1=3->OP l u i= -1
 n:g.1=4->0<=OP l u i/\h.N.getD u []=ux w l (OP l u i).toNat
 s:g.1=0->∀ k,k<i->pS l u k=aj
theorem ag5:∀ n,∀ x∈Wy n,x.1=0\/x.1=1
 |0,x,h=>by cases h
 |n+1,x,h=>by
  rcases bi.1 h with rfl|h
  .exact .inr rfl
  .rw[pq h];exact .inl rfl
theorem WI.zero (w:WT) (l:List ET) (u:Nat) (hu:u<w.2.2.2.2.1.length):WI w l 0 (HS.zero w) u (ZN w l 0 u):=by
 have h1:(ZN w l 0 u).1=0\/(ZN w l 0 u).1=1:=ag5 _ _ (bG (T:=jy) (xs:=Wy w.2.2.2.2.1.length) (j:=(u:Int)) (by omega) (by rw[G2];omega));have hW:(HS.zero w).W.getD u 0= -1:=by
  have:(aG w.2.2.2.2.1.length (-1:Int)).getD u 0= -1:=by rw[ay,lq,aE hu];rfl
  exact this
 exact⟨by rw[hW,aB (by omega)],λh=>by omega,λh=>by omega,λh=>by omega,λ_ k hk=>by omega⟩
theorem WI.step {w:WT} {l:List ET} {i:Nat} {h:HS} {u:Nat} (a:WI w l i h u (ZN w l i u)) (hi:i<l.length) (sc:SCx w (l.take i) (J5 w (l.take i)).1 (J5 w (l.take i)).2.1 (J5 w (l.take i)).2.2 (eN l i)) (et:EvT (dC l i) (eN l i)) (hu:u<w.2.2.2.2.1.length) (h1:h.W.length=w.2.2.2.2.1.length) (h2:h.N.length=w.2.2.2.2.1.length):WI w l (i+1) (jm w h (dC l i) (ux w l i)) u (ZN w l (i+1) u):=by
 have en:=sc.en;have eg:ZN w l (i+1) u=gT (oG w (J5 w (l.take i)).1 (eN l i).1 (eN l i).2.1 (eN l i).2.2.1 (eN l i).2.2.2.1).1.2.2.2 (u:Int):=by unfold ZN;rw[J4 w hi]
 have T1:TH1 (eN l i).2.1 (eN l i).2.2.1 (eN l i).2.2.2.1 (eN l i).1 (u:Int) (ZN w l i u) (ZN w l (i+1) u):=by
  rw[eg];exact agy w (J5 w (l.take i)).1 (eN l i).1 (eN l i).2.1 (eN l i).2.2.1 (eN l i).2.2.2.1 en sc.rd (λh=>sc.va.el (by omega) (by omega) (by omega) (by omega) (by omega)) (u:Int) (by omega) (by rw[en.e3];omega)
 clear eg;have eW:=ak5 w h (dC l i) (ux w l i) u (by omega) (by omega);have eN9:=ak8 w h (dC l i) (ux w l i) u (by omega);have qt:=et.th;have Z:=et.k;have qv:=et.va;have Y:(dC l i).k=16\/(dC l i).k=19\/(dC l i).k=20->(eN l i).2.2.1=((dC l i).ob:Int):=λh=>et.ob (by rcases h with h|h|h<;>rw[h]<;>decide)
 have pv':pvN l u (i+1)=if (dC l i).th=u then (i:Int) else pvN l u i:=rfl
 have ps:pS l u i=decide ((dC l i).k=20/\(dC l i).ob=u):=rfl;clear en sc;obtain⟨aW,ap,aa,an,as'⟩:=a;obtain⟨ta,tb,tc,td,te⟩:=T1;generalize ZN w l (i+1) u=g' at*
 generalize ZN w l i u=g at*
 by_cases I:(dC l i).th=u
 .obtain⟨b1,b2,b3,b4,_⟩:=ta (by rw[qt,I]);have w0:OP l u (i+1)= -1:=abn I;have hW':h.W.getD u 0= -1:=by rw[aW,aB b2]
  by_cases J:(dC l i).k=16
  .obtain⟨c1,c2⟩:=b3 (by rw[Z,J];rfl);refine ⟨by rw[eW,aE ⟨J,I⟩,aE c1,c2,Y (.inl J)],λ_=>?_,λ_=>w0,λh=>by omega,λh=>by omega⟩;rw[pv',aE I,gB];exact⟨by omega,J,by rw[c2,Y (.inl J)]⟩
  .obtain⟨c1,c2,c3⟩:=b4 (by rw[Z];omega);refine ⟨?_,λh=>by omega,λh=>by omega,λh=>by omega,λh=>by omega⟩;rw[eW,aB (λx=>J x.1),aB c2,hW'];split<;>rfl
 have hut:(u:Int)≠(eN l i).1:=by rw[qt];omega
 rw[aB I] at pv';rw[aB (λx=>I x.2)] at eW;by_cases A:(dC l i).k=18/\(dC l i).va=u\/(dC l i).k=19/\h.W.getD u 0=(dC l i).ob
 .have B:g.1=3/\g'.1=4/\g'.2.1=g.2.1/\((dC l i).k=19->g.2.1=(dC l i).ob):=by
   rcases A with ⟨k,v⟩|⟨k,v⟩
   .obtain⟨U,M,d3,d4⟩:=tb hut (by rw[Z,k];rfl) (by rw[qv,v]);exact⟨U,d3,by rw[M,d4],λq=>by omega⟩
   .have g3:g.1=3:=by
     rw[aW] at v;split at v
     .assumption
     .omega
    rw[aW,aE g3] at v;obtain⟨U,M⟩:=tc hut (by rw[Z,k];rfl) g3 (by rw[v,Y (.inr (.inl k))]);exact⟨g3,U,by rw[M,v,Y (.inr (.inl k))],λ_=>v⟩
  obtain⟨U,M,d3,d4⟩:=B;obtain⟨p1,p2,p3⟩:=ap (.inl U);have hw:=abq I (aa U) ⟨p1,p2,by
   rcases A with A|⟨k,_⟩
   .exact .inl A
   .exact .inr ⟨k,by have:=d4 k;omega⟩⟩
  rw[aE A] at eW eN9;refine ⟨by rw[eW,aB (by omega)],λ_=>by rw[pv',d3];exact⟨p1,p2,p3⟩,λh=>by omega,λ_=>by rw[hw,gB];exact⟨by omega,eN9⟩,λh=>by omega⟩
 rw[aB A] at eW eN9;have nv:¬((eN l i).2.1=18/\(eN l i).2.2.2.1=(u:Int)):=λq=>A (.inl ⟨by omega,by rw[<- qv];exact q.2⟩)
 have nw:¬((eN l i).2.1=19/\g.1=3/\g.2.1=(eN l i).2.2.1):=λq=>A (.inr ⟨by omega,by rw[aW,aE q.2.1,q.2.2,Y (.inr (.inl (by omega)))]⟩)
 obtain⟨U,M⟩:=td hut nv nw;have nm:g.1=3->¬mtN l u i (pvN l u i):=λq ⟨_,_,m⟩=>by
  obtain⟨_,_,p3⟩:=ap (.inl q);rcases m with m|⟨k,m⟩
  .exact A (.inl m)
  .exact nw ⟨by omega,q,by rw[Y (.inr (.inl k)),m,p3]⟩
 refine ⟨?_,λq=>?_,λq=>?_,λq=>?_,λq k hk=>?_⟩
 .rw[eW,aW,U];rcases M with M|M
  .rw[M]
  .rw[aB (by omega),aB (by omega)]
 .rw[pv',U];exact ap (by omega)
 .have q:g.1=3:=by omega
  exact abp I (aa q) (nm q)
 .have q:g.1=4:=by omega
  obtain⟨n1,n2⟩:=an q;rw[abo I n1,eN9];exact⟨n1,n2⟩
 .have q0:g.1=0:=by omega
  by_cases e:k=i
  .subst e;rw[ps];exact bH λr=>te (by rw[Z,r.1];rfl) (by rw[Y (.inr (.inr r.1)),r.2]) q
  .exact as' q0 k (by omega)
theorem M2 {w:WT} {l:List ET} (I:TR (w,l)) {a b:Nat} (J:a<l.length) (hb:b<l.length):(eN l a).1=(eN l b).1↔(dC l a).th=(dC l b).th:=by
 have:=(wg I J).th;have:=(wg I hb).th;omega
theorem Yz (x:ET):uL x=af (decide (x.2.1=3\/x.2.1=4)):=by
 refine cD ?_;unfold uL bf aF;refine gu (aK (λh=>ar (ar ?_)) λh=>ar (ar ?_))
 .exact (aQ (.inl h)).symm
 .by_cases q:x.2.1=4<;>simp[h,q]
def acB (e:EV):Bool:=decide (e.k=3\/e.k=4)
theorem Sl {w:WT} {l:List ET} (I:TR (w,l)) {j:Nat} (hj:j<l.length):uL (eN l j)=af (acB (dC l j)):=by
 rw[Yz,(wg I hj).k];unfold acB;congr 1;rw[decide_eq_decide];omega
def fL (p:Nat->Bool) (i:Nat):List Int:=((eS i).filter p).map aO
theorem UU:sZ ()=af ai:=by kernel_rfl
theorem fm {φ:PM} {O:Nat->Prop} {w:World} {v u:Value} (h:cL φ O w (.f (.raw v)) u):u=v:=by
 cases h with
 |f h=>cases h;rfl
theorem tJ (h:HF) (nw:HF):eO h [] nw=h:=by funext t;simp[eO]
theorem F0:∀ {l:List Value},JQ l=ai->∀ v∈l,v.oneCell'=ai
 |[],_,v,hv=>by cases hv
 |x::r,h,v,hv=>by
  simp only[JQ,av] at h;rcases bi.1 hv with rfl|hv
  .exact h.1
  .exact F0 h.2 v hv
theorem Ux {φ:PM} {O:Nat->Prop} {w:World} (v:Value):cL φ O w (ED v) v:=by
 unfold ED;split
 .rename_i vs;split
  .rename_i h1;refine cL.agg (vs:=vs.toList) (by simp) (λx I=>?_) (λj x v I hv=>?_)
   .obtain⟨u,hu,rfl⟩:=dk.1 I;exact F0 h1 u hu
   .rw[bc,hv] at I;simp only[ca,ak] at I;subst I;exact .f (.raw _)
  .exact .f (.raw _)
 .exact .f (.raw _)
theorem tf {φ:PM} {E:Nat->Prop} {h':HF} {w:World} {e:zA} {a:Act} {xs:Array Operand} (hrep:qP φ E h' w) (h:∀ t,.tmp t∈xs->∀ y,e.get t=af y->cL φ (tot E φ h') w y (a.tmps.getD t undef)) {x:Operand} {y:AV} (J:x∈xs) (I:my e x=af y):cL φ (tot E φ h') w y (a.eval x):=by
 cases x with
 |tmp t=>exact h t J y I
 |const v=>simp only[my,ak] at I;subst I;exact Ux v
 |func g=>
  simp only[my,ak] at I;subst I;exact cL.clo (vs:=[]) (g:=g) (cells:=[]) rfl (by intro j x v J;simp at J)
 |global g=>
  simp only[my] at I;cases hg:G g with
  |none=>rw[hg] at I;cases I
  |some cells=>rw[hg] at I;simp only[ak] at I;subst I;exact .f (hrep.gl g cells hg)
abbrev U4 (φ:PM) (E:Nat->Prop) (h':HF) (w:World) (a:Act) (e:zA) (o:Oper):Prop:=∀ x y,x∈o.op.operands->my e x=af y->cL φ (tot E φ h') w y (a.eval x)
theorem gK.reads {P:Program} {o:Oper} {e:zA} {h:HF} {val:AV} {rd:List Nat} {nw:HF}
 (hv:∀ (φ:PM) (E:Nat->Prop) (h':HF) (w:World) (a:Act),(∀ i∈rd,h' i=h i)->U4 φ E h' w a e o->qP φ E h' w->
   ∃ v,(execOp a.eval o).run P w= .ok (.value v) w/\cL φ (tot E φ h') w val v):gK P o e.get h ⟨val,rd,[],nw,[]⟩:=by
 intro φ E h' w a h1 h2 U I Y;obtain⟨v,r,rel⟩:=hv φ E h' w a h1 (λx y M J=>tf I U M J) I;unfold GW;rw[r];refine ⟨v,φ,rfl,?_,λ_ _ h=>.inl h,?_,?_⟩<;>rw[tJ]
 .exact iY.refl _ _ _
 .exact I
 .exact rel
theorem dx {x:AV} {R:BR} (h:rv x=af R):R=⟨x,[],[],[],[]⟩:=by simp only[rv,ak] at h;exact h.symm
section pure
variable {P:Program} {o:Oper} {e:zA} {h:nP} {nx:Nat} {R:BR}
theorem akl {x:Operand} (I:o.op= .move x\/o.op= .assign x) (J:eL (.mv x) e h nx=af R):gK P o e.get h.get R.eff:=by
 simp only[eL] at J;split at J
 .rename_i v hv;rw[dx J];exact gK.reads λφ E h' w a _ hop _=>⟨a.eval x,by unfold execOp;rcases I with I|I<;>rw[I]<;>rfl,hop x v (by rcases I with I|I<;>rw[I]<;>simp[Op.operands]) hv⟩
 .cases J
theorem ah9 {c x y:Operand} (J:o.op= .pick c x y) (I:eL (.pick c x y) e h nx=af R):gK P o e.get h.get R.eff:=by
 simp only[eL] at I;split at I
 .rename_i t hc;split at I
  .rename_i v hv;rw[dx I];refine gK.reads λφ E h' w a _ hop _=>?_
   have hcv:=fm (hop c _ (by rw[J];simp[Op.operands]) hc);refine ⟨a.eval (if t then x else y),?_,hop _ v (by rw[J];cases t<;>simp[Op.operands]) hv⟩;unfold execOp;rw[J];simp only[hcv];cases t<;>rfl
  .cases I
 .cases I
theorem aha {x:Operand} (I:o.op= .nilCheck x) (J:eL (.nilc x) e h nx=af R):gK P o e.get h.get R.eff:=by
 simp only[eL] at J;split at J
 .rename_i id off U;rw[dx J];refine gK.reads λφ E h' w a _ hop _=>?_
  have h1:=hop x _ (by rw[I];simp[Op.operands]) U;generalize M:a.eval x=z at h1;cases h1 with
  |ptr hφ=>exact⟨_,by unfold execOp;rw[I];simp only[M];rfl,.ptr hφ⟩
 .rename_i cells off U;rw[dx J];refine gK.reads λφ E h' w a _ hop _=>?_
  have h1:=hop x _ (by rw[I];simp[Op.operands]) U;generalize M:a.eval x=z at h1;cases h1 with
  |f h1=>
   have h2:=h1;cases h2 with
   |ptr _ _ b base us hO hb hcl hu hr=>exact⟨_,by unfold execOp;rw[I];simp only[M];rfl,.f h1⟩
 .rename_i g cap U;rw[dx J];refine gK.reads λφ E h' w a _ hop _=>?_
  have h1:=hop x _ (by rw[I];simp[Op.operands]) U;generalize M:a.eval x=z at h1;cases h1 with
  |clo hl hr=>exact⟨_,by unfold execOp;rw[I];simp only[M];rfl,.clo hl hr⟩
 .cases J
theorem akj {x:Operand} {t:TypeId} (J:o.op= .unOp .not t x) (I:eL (.not x) e h nx=af R):gK P o e.get h.get R.eff:=by
 simp only[eL] at I;split at I
 .rename_i b M;rw[dx I];refine gK.reads λφ E h' w a _ hop _=>?_
  have h1:=fm (hop x _ (by rw[J];simp[Op.operands]) M);exact⟨_,by unfold execOp;rw[J];simp only[h1];rfl,.f (.raw _)⟩
 .cases I
theorem yi (k:IntKind) (n:Int):bm k n=k.wrap n:=by
 rw[G0];unfold LL;split
 .split
  .rename_i h;simp only[c5,av,bR] at h;have:oL .i64 n=if n%18446744073709551616≥9223372036854775808 then n%18446744073709551616-18446744073709551616 else n%18446744073709551616:=by
    simp[oL,IntKind.bits,IntKind.signed]
   rw[this];split<;>omega
  .rfl
 .split
  .rename_i h;simp only[c5,av,bR] at h;have:oL .u8 n=n%256:=by
    simp[oL,IntKind.bits,IntKind.signed]
   rw[this];omega
  .rfl
 .rfl
theorem ahi {x:Operand} {s d:TypeId} {k k':IntKind} (J:o.op= .convert s d x) (hs:P.underlying s=af (.int k')) (hd:P.underlying d=af (.int k)) (I:eL (.conv k x) e h nx=af R):gK P o e.get h.get R.eff:=by
 simp only[eL] at I;split at I
 .rename_i U n M;rw[dx I];refine gK.reads λφ E h' w a _ hop _=>?_
  have h1:=fm (hop x _ (by rw[J];simp[Op.operands]) M);refine ⟨_,?_,.f (.raw _)⟩;unfold execOp;rw[J];simp[h1,convert,run_underlying hs,run_underlying hd,Conv.intToInt,yi]
 .cases I
theorem Ow (a:ByteArray):a.toList=a.data.toList:=by
 first|exact ByteArray.toList_eq a|simp[ByteArray.toList]|rfl
theorem YV {op:BinOp} {t:TypeId} {u v r:Value} (hr:uz op u v=af r) (x y:Operand) (w:World):
 (do eqGuard op t x y u v;binOp op t u v:Sem Value).run P w= .ok r w:=by
 unfold uz at hr;split at hr
 .rename_i k a k' b;split at hr
  .rename_i hk;have I:k=k':=by simpa using hk
   subst I;split at hr<;>first|(simp only[ak] at hr;subst hr;simp[eqGuard,binOp,Op.intCmp,Op.intArith,yi,c5,fO];done)|(split at hr<;>first|(cases hr;done)|(rename_i hb;simp only[ak] at hr;subst hr;simp[eqGuard,binOp,Op.intDiv,yi,show b≠0 from by simpa using hb];done))|(cases hr;done)
  .cases hr
 .rename_i a b;split at hr<;>first|(simp only[ak] at hr;subst hr;simp[eqGuard,binOp,Op.stringOp,rT,Ow];done)|(cases hr;done)
 .cases hr
theorem aez {s:Sem Value} {r:Value} {w w':World} (hs:s.run P w= .ok r w'):(do let x<-s;pure (Next.value x):Sem Next).run P w= .ok (.value r) w':=by
 simp[hs]
theorem afm {op:BinOp} {x y:Operand} {t t':TypeId} (J:o.op= .binOp op t x y t') (I:eL (.bin op x y) e h nx=af R):gK P o e.get h.get R.eff:=by
 simp only[eL] at I;split at I
 .rename_i u v U M;split at I
  .rename_i r hr;rw[dx I];refine gK.reads λφ E h' w a _ hop _=>?_
   have h1:=fm (hop x _ (by rw[J];simp[Op.operands]) U);have h2:=fm (hop y _ (by rw[J];simp[Op.operands]) M);refine ⟨r,?_,.f (.raw _)⟩;unfold execOp;rw[J];simp only[h1,h2];exact aez (YV (P:=P) (t:=t) hr x y w)
  .cases I
 .cases I
theorem T4 {t:TypeId} (hu:P.underlying t=af .bool) (u v:Bool) (w:World):(Op.equal t (.bool u) (.bool v)).run P w= .ok (u==v) w:=by
 have key:∀ d,(Op.equalIn (d+1) t (.bool u) (.bool v)).run P w= .ok (u==v) w:=λd=>by simp[Op.equalIn,run_underlying hu]
 exact key 9999
theorem Qy {t el:TypeId} (hu:P.underlying t=af (.slice el)) (A:Option Addr) (n c:Nat) (w:World):(Op.equal t (.slice A n c) (.slice ah 0 0)).run P w= .ok A.isNone w:=by
 have key:∀ d,(Op.equalIn (d+1) t (.slice A n c) (.slice ah 0 0)).run P w= .ok A.isNone w:=λd=>by cases A<;>simp[Op.equalIn,run_underlying hu]
 exact key 9999
theorem afl {neg:Bool} {op:BinOp} {x y:Operand} {t t':TypeId} (J:o.op= .binOp op t x y t') (hop:op=if neg then .neq else .eql) (hu:P.underlying t=af .bool) (I:eL (.eqb neg x y) e h nx=af R):gK P o e.get h.get R.eff:=by
 simp only[eL] at I;split at I
 .rename_i u v U M;rw[dx I];refine gK.reads λφ E h' w a _ hp _=>?_
  have h1:=fm (hp x _ (by rw[J];simp[Op.operands]) U);have h2:=fm (hp y _ (by rw[J];simp[Op.operands]) M);refine ⟨_,?_,.f (.raw _)⟩;unfold execOp;rw[J];simp only[h1,h2];subst hop;cases neg<;>simp[eqGuard,binOp,T4 hu]
 .cases I
theorem Wp {neg:Bool} {op:BinOp} {x y:Operand} {t t' el:TypeId} (U:o.op= .binOp op t x y t') (hop:op=if neg then .neq else .eql) (Y:y= .const (.slice ah 0 0)) (hu:P.underlying t=af (.slice el)) (J:eL (.isnil neg x) e h nx=af R):gK P o e.get h.get R.eff:=by
 have key:∀ (v:Value) (w:World) (ρ:Operand->Value) (A:Option Addr) (n c:Nat),ρ x= .slice A n c->ρ y= .slice ah 0 0->(execOp ρ o).run P w= .ok (.value (.bool (A.isNone !=neg))) w:=by
  intro v w ρ A n c h1 h2;unfold execOp;rw[U];simp only[h1,h2];subst hop;cases neg<;>simp[eqGuard,binOp,Qy hu]
 have hyv:∀ a:Act,a.eval y= .slice ah 0 0:=λa=>by rw[Y];rfl
 simp only[eL] at J;split at J
 .rename_i id sz n I;rw[dx J];refine gK.reads λφ E h' w a _ hp _=>?_
  have h1:=hp x _ (by rw[U];simp[Op.operands]) I;generalize M:a.eval x=z at h1;cases h1 with
  |row hφ hn hc hs=>exact⟨_,key (.bool ai) w a.eval _ _ _ M (hyv a),by simpa[raw] using cL.f (.raw _)⟩
 .rename_i id off n I;rw[dx J];refine gK.reads λφ E h' w a _ hp _=>?_
  have h1:=hp x _ (by rw[U];simp[Op.operands]) I;generalize M:a.eval x=z at h1;cases h1 with
  |sl hφ hn hc=>exact⟨_,key (.bool ai) w a.eval _ _ _ M (hyv a),by simpa[raw] using cL.f (.raw _)⟩
 .rename_i cells n I;rw[dx J];refine gK.reads λφ E h' w a _ hp _=>?_
  have h1:=hp x _ (by rw[U];simp[Op.operands]) I;generalize M:a.eval x=z at h1;cases h1 with
  |f h1=>
   cases h1 with
   |sl=>exact⟨_,key (.bool ai) w a.eval _ _ _ M (hyv a),by simpa[raw] using cL.f (.raw _)⟩
 .rename_i cells I;rw[dx J];refine gK.reads λφ E h' w a _ hp _=>?_
  have h1:=hp x _ (by rw[U];simp[Op.operands]) I;generalize M:a.eval x=z at h1;cases h1 with
  |f h1=>
   cases h1 with
   |nil=>exact⟨_,key (.bool ai) w a.eval _ _ _ M (hyv a),.anyb⟩
   |sl=>exact⟨_,key (.bool ai) w a.eval _ _ _ M (hyv a),.anyb⟩
 .rename_i I;rw[dx J];refine gK.reads λφ E h' w a _ hp _=>?_
  have h1:=hp x _ (by rw[U];simp[Op.operands]) I;generalize M:a.eval x=z at h1;cases h1 with
  |emp=>exact⟨_,key (.bool ai) w a.eval _ _ _ M (hyv a),.anyb⟩
 .rename_i v I;split at J
  .rename_i hv;rw[dx J];refine gK.reads λφ E h' w a _ hp _=>?_
   have h1:=fm (hp x _ (by rw[U];simp[Op.operands]) I);unfold zO at hv;split at hv
   .exact⟨_,key (.bool ai) w a.eval _ _ _ h1 (hyv a),by simpa[raw] using cL.f (.raw _)⟩
   .cases hv
  .cases J
 .cases J
theorem gr {t:TypeId} {sz:Nat} (hs:fg P t=af sz) (w:World):(sizeOf t).run P w= .ok sz w:=by
 unfold fg at hs;cases hi:P.info? t with
 |none=>rw[hi] at hs;cases hs
 |some i=>rw[hi] at hs;simp at hs;simp[sizeOf,typeInfo,program,hi,nj,hs]
theorem Pf {t:TypeId} {ag:Bool} (hs:Du P t=af ag) (w:World):(isAgg t).run P w= .ok ag w:=by
 unfold Du at hs;cases hi:P.underlying t with
 |none=>rw[hi] at hs;cases hs
 |some d=>
  rw[hi] at hs;simp only[ca,ak] at hs;rw[<- hs];simp only[isAgg,eB,run_underlying hi,cI];cases d<;>rfl
theorem kW (b off i:Nat):(⟨b,off,ah⟩:Addr).add i=⟨b,off+i,ah⟩:=by
 unfold Addr.add;split<;>simp_all
theorem Pe {s:TypeId} {fs:Array Field} {k:Nat} {f:Field} {sz:Nat} (hu:P.underlying s=af (.struct fs)) (hf:fs[k]? =af f) (hs:fg P f.type=af sz) (h0:sz≠0) (w:World) (b i:Nat):
 (Instr.fieldAt s (.pointer (af ⟨b,i,ah⟩)) k).run P w= .ok (.pointer (af ⟨b,i+f.offset,ah⟩)) w:=by
 have h1:=gr hs w;simp[Instr.fieldAt,run_underlying hu,hf,Instr.sureAddr,fieldPlace,h1,h0,kW]
theorem akt {s:TypeId} {fs:Array Field} {k:Nat} {f:Field} {sz:Nat} {x:Operand} (U:o.op= .fieldAddr s x k) (hu:P.underlying s=af (.struct fs)) (hf:fs[k]? =af f) (hs:fg P f.type=af sz) (h0:sz≠0) (I:eL (.fad f.offset x) e h nx=af R):gK P o e.get h.get R.eff:=by
 have key:∀ (w:World) (ρ:Operand->Value) (b i:Nat),ρ x= .pointer (af ⟨b,i,ah⟩)->(execOp ρ o).run P w= .ok (.value (.pointer (af ⟨b,i+f.offset,ah⟩))) w:=by
  intro w ρ b i h1;unfold execOp;rw[U];simp only[h1];exact aez (Pe hu hf hs h0 w b i)
 simp only[eL] at I;split at I
 .rename_i id off M;rw[dx I];refine gK.reads λφ E h' w a _ hp _=>?_
  have h1:=hp x _ (by rw[U];simp[Op.operands]) M;generalize J:a.eval x=z at h1;cases h1 with
  |ptr hφ=>exact⟨_,key w a.eval _ _ J,.ptr hφ⟩
 .rename_i cells off M;rw[dx I];refine gK.reads λφ E h' w a _ hp _=>?_
  have h1:=hp x _ (by rw[U];simp[Op.operands]) M;generalize J:a.eval x=z at h1;cases h1 with
  |f h1=>
   cases h1 with
   |ptr _ _ b base us hO hb hcl hu hr=>
    refine ⟨_,key w a.eval _ _ J,.f ?_⟩;rw[sA];exact .ptr cells _ b base us hO hb hcl hu hr
 .cases I
theorem IQ {t el:TypeId} {x y:Operand} {sz b off n c:Nat} {k:IntKind} {i:Int} {ρ:Operand->Value} {w:World} (M:o.op= .indexAddr t x y) (hu:P.underlying t=af (.slice el)) (hs:fg P el=af sz) (J:ρ x= .slice (af ⟨b,off,ah⟩) n c) (I:ρ y= .int k i) (h0:0<=i) (h1:i<n):
 (execOp ρ o).run P w= .ok (.value (.pointer (af ⟨b,off+i.toNat*sz,ah⟩))) w:=by
 have h2:=gr hs w;unfold execOp;rw[M];simp[J,I,Instr.indexAt,asIntOf,run_underlying hu,h2,h0,h1,kW]
theorem akr {t el:TypeId} {x y:Operand} {sz:Nat} (J:o.op= .indexAddr t x y) (hu:P.underlying t=af (.slice el)) (hs:fg P el=af sz) (I:eL (.iad sz x y) e h nx=af R):gK P o e.get h.get R.eff:=by
 simp only[eL] at I;split at I
 .rename_i v k j Y hy;have hyv:∀ {φ:PM} {E:Nat->Prop} {h':HF} {w:World} {a:Act},U4 φ E h' w a e o->a.eval y= .int k j:=λhp=>fm (hp y _ (by rw[J];simp[Op.operands]) hy)
  split at I
  .split at I
   .rename_i id sz' n hc;simp only[c5,fO,av,bR,cV] at hc;obtain⟨⟨rfl,h0⟩,h1⟩:=hc;rw[dx I];refine gK.reads λφ E h' w a _ hp _=>?_
    have hr:=hp x _ (by rw[J];simp[Op.operands]) Y;generalize M:a.eval x=z at hr;cases hr with
    |row hφ hn U hsh=>
     refine ⟨_,IQ J hu hs M (hyv hp) h0 h1,?_⟩;rw[bN];exact .ptr hφ
   .cases I
  .split at I
   .rename_i id off n hc;simp only[c5,fO,av,bR] at hc;obtain⟨h0,h1⟩:=hc;rw[dx I];refine gK.reads λφ E h' w a _ hp _=>?_
    have hr:=hp x _ (by rw[J];simp[Op.operands]) Y;generalize M:a.eval x=z at hr;cases hr with
    |sl hφ hn U=>exact⟨_,IQ J hu hs M (hyv hp) h0 h1,.ptr hφ⟩
   .cases I
  .split at I
   .rename_i cells n hc;simp only[c5,fO,av,bR] at hc;obtain⟨h0,h1⟩:=hc;rw[dx I];refine gK.reads λφ E h' w a _ hp _=>?_
    have hr:=hp x _ (by rw[J];simp[Op.operands]) Y;generalize M:a.eval x=z at hr;cases hr with
    |f hr=>
     cases hr with
     |nil=>omega
     |sl _ _ c b base us hn U hO hb hcl Z hr'=>exact⟨_,IQ J hu hs M (hyv hp) h0 h1,.f (.ptr cells _ b base us hO hb hcl Z hr')⟩
   .cases I
  .cases I
 .cases I
theorem ahg {t el:TypeId} {x y:Operand} {n sz:Nat} (J:o.op= .indexAddr t x y) (hu:P.underlying t=af (.array n el)) (hs:fg P el=af sz) (I:eL (.iada n sz x y) e h nx=af R):gK P o e.get h.get R.eff:=by
 have key:∀ (w:World) (ρ:Operand->Value) (b off:Nat) (k:IntKind) (i:Int),ρ x= .pointer (af ⟨b,off,ah⟩)->ρ y= .int k i->0<=i->i<n->(execOp ρ o).run P w= .ok (.value (.pointer (af ⟨b,off+i.toNat*sz,ah⟩))) w:=by
  intro w ρ b off k i h1 h2 h3 h4;have h5:=gr hs w;unfold execOp;rw[J];simp[h1,h2,Instr.indexAt,asIntOf,run_underlying hu,h5,h3,h4,kW,Instr.sureAddr]
 simp only[eL] at I;split at I
 .rename_i v k j hx Z;split at I
  .rename_i hc;simp only[c5,fO,av,bR] at hc;obtain⟨h0,h1⟩:=hc;split at I
   .rw[dx I];refine gK.reads λφ E h' w a _ hp _=>?_
    have hr:=hp x _ (by rw[J];simp[Op.operands]) hx;have hyv:=fm (hp y _ (by rw[J];simp[Op.operands]) Z);generalize M:a.eval x=z at hr;cases hr with
    |ptr hφ=>exact⟨_,key w a.eval _ _ k j M hyv h0 h1,.ptr hφ⟩
   .rw[dx I];refine gK.reads λφ E h' w a _ hp _=>?_
    have hr:=hp x _ (by rw[J];simp[Op.operands]) hx;have hyv:=fm (hp y _ (by rw[J];simp[Op.operands]) Z);generalize M:a.eval x=z at hr;cases hr with
    |f hr=>
     cases hr with
     |ptr _ _ b base us hO hb hcl U Y=>
      refine ⟨_,key w a.eval _ _ k j M hyv h0 h1,.f ?_⟩;rw[sA];exact .ptr _ _ b base us hO hb hcl U Y
   .cases I
  .cases I
 .cases I
theorem aku {x:Operand} {i:Nat} (J:o.op= .extract x i) (I:eL (.ext x i) e h nx=af R):gK P o e.get h.get R.eff:=by
 simp only[eL] at I;split at I
 .rename_i l U;split at I
  .rename_i v hv;rw[dx I];refine gK.reads λφ E h' w a _ hp _=>?_
   have hr:=hp x _ (by rw[J];simp[Op.operands]) U;generalize M:a.eval x=z at hr;cases hr with
   |@tup _ vs hl hrr=>
    have hlt:i<vs.length:=by
     rw[hl];exact (bk.1 hv).1
    refine ⟨vs[i],?_,hrr i v _ hv (aA hlt)⟩;unfold execOp;rw[J];simp[M,Instr.extract,hlt]
  .cases I
 .cases I
theorem akp {x y:Operand} {M:Array TypeId} (J:o.op= .call {callee:=.builtin .max,args:=#[x,y],argTypes:=M}) (I:eL (.max x y) e h nx=af R):gK P o e.get h.get R.eff:=by
 simp only[eL] at I;split at I
 .rename_i k a b k' Y U;rw[dx I];refine gK.reads λφ E h' w a _ hp _=>?_
  have h1:=fm (hp x _ (by rw[J];simp[Op.operands,eM]) Y);have h2:=fm (hp y _ (by rw[J];simp[Op.operands,eM]) U);refine ⟨_,?_,.f (.raw _)⟩;unfold execOp;rw[J];simp[resolve,invoke,builtin,Builtin.max_,Builtin.max2,h1,h2,fO]
 .cases I
theorem ako {x y:Operand} {M:Array TypeId} (J:o.op= .call {callee:=.builtin .min,args:=#[x,y],argTypes:=M}) (I:eL (.min x y) e h nx=af R):gK P o e.get h.get R.eff:=by
 simp only[eL] at I;split at I
 .rename_i k a b k' Y U;rw[dx I];refine gK.reads λφ E h' w a _ hp _=>?_
  have h1:=fm (hp x _ (by rw[J];simp[Op.operands,eM]) Y);have h2:=fm (hp y _ (by rw[J];simp[Op.operands,eM]) U);refine ⟨_,?_,.f (.raw _)⟩;unfold execOp;rw[J];simp[resolve,invoke,builtin,Builtin.min_,Builtin.min2,h1,h2,fO]
 .cases I
theorem akk {x:Operand} {t:TypeId} {k:IntKind} (J:o.op= .unOp .neg t x) (I:eL (.bin .sub (.const (.int k 0)) x) e h nx=af R):gK P o e.get h.get R.eff:=by
 simp only[eL,my,ED] at I;split at I
 .rename_i u v hu M;cases hu;split at I
  .rename_i r hb;rw[dx I];refine gK.reads λφ E h' w a _ hop _=>?_
   have h1:=fm (hop x _ (by rw[J];simp[Op.operands]) M);refine ⟨r,?_,.f (.raw _)⟩;unfold execOp;rw[J];cases v<;>simp only[uz] at hb<;>try (cases hb;done)
   split at hb
   .rename_i hk;have hk:=eq_of_beq hk;subst hk;simp only[ak] at hb;subst hb;simp[h1,Op.unary,Op.intArith,yi]
   .cases hb
  .cases I
 .cases I
theorem ah8 {x i:Operand} {t:TypeId} (J:o.op= .index t x i) (hu:P.underlying t=af .string) (I:eL (.sidx x i) e h nx=af R):gK P o e.get h.get R.eff:=by
 simp only[eL] at I;split at I
 .rename_i s k j M hi;split at I
  .rename_i h0;simp only[c5,bR] at h0;split at I
   .rename_i b hb;rw[dx I];refine gK.reads λφ E h' w a _ hop _=>?_
    have h1:=fm (hop x _ (by rw[J];simp[Op.operands]) M);have h2:=fm (hop i _ (by rw[J];simp[Op.operands]) hi);refine ⟨_,?_,.f (.raw _)⟩;have hs:s[j.toNat]? =af b:=by
     rw[cH] at hb;obtain⟨hl,he⟩:=cC.1 hb;exact getElem?_pos s j.toNat hl▸gG af he
    unfold execOp;rw[J];simp[Instr.index,run_underlying hu,h1,h2,asIntOf,h0,hs]
   .cases I
  .cases I
 .cases I
theorem akn {f:FuncId} {caps:Array Operand} (Y:o.op= .makeFunc (.func f) #[] caps) (M:eL (.mkf f caps.toList) e h nx=af R):gK P o e.get h.get R.eff:=by
 simp only[eL] at M;split at M
 .rename_i l hl;rw[dx M];refine gK.reads λφ E h' w a _ hp _=>?_
  refine ⟨_,by unfold execOp;rw[Y];rfl,?_⟩;have key:∀ (xs:List Operand) (I:List AV),(∀ x∈xs,x∈o.op.operands)->V0 e xs=af I->I.length=xs.length/\∀ (j:Nat) x v,I[j]? =af x->(xs.map a.eval)[j]? =af v->cL φ (tot E φ h') w x v:=by
   intro xs;induction xs with
   |nil=>intro I _ h;simp only[V0,ak] at h;subst h;exact⟨rfl,λj x v J=>by simp at J⟩
   |cons x xs Z=>
    intro I hm h;simp only[V0] at h;split at h
    .rename_i y hy;split at h
     .rename_i ys' hys;simp only[ak] at h;subst h;obtain⟨h1,h2⟩:=Z ys' (λx J=>hm x (cM _ J)) hys;refine ⟨by simp[h1],λj z v U hv=>?_⟩;cases j with
      |zero=>simp at U hv;subst U;subst hv;exact hp x _ (hm x (dz ..)) hy
      |succ j=>exact h2 j z v (by simpa using U) (by simpa using hv)
     .cases h
    .cases h
  obtain⟨h1,h2⟩:=key caps.toList l (λx J=>by rw[Y];simpa[Op.operands] using J) hl;have h3:(caps.map a.eval)=(caps.toList.map a.eval).toArray:=by
   apply Ko;simp
  have h4:(#[]:Array Operand).map a.eval=#[]:=by simp
  rw[h4,h3];exact .clo (by simp[h1]) h2
 .cases M
end pure
section
variable {P:Program} {o:Oper} {e:zA} {h:nP} {nx:Nat} {R:BR}
theorem Ve {α:Type} {l cs:List α} {off sz:Nat} (h:off+sz<=l.length) (he:(l.drop off).take sz=cs):cs.length=sz/\∀ (j:Nat) x,cs[j]? =af x->l[off+j]? =af x:=by
 subst he;constructor
 .simp;omega
 .intro j x I;rw[cN] at I;split at I
  .rw[gV] at I;exact I
  .cases I
theorem xi (f:Nat->Value) (n j:Nat) (v:Value) (h:((eS n).map f)[j]? =af v):v=f j/\j<n:=by
 rw[bc] at h;rcases bZ j n with hj|hj
 .rw[F7 hj] at h;simp at h;exact⟨h.symm,hj⟩
 .rw[bQ (by simpa using hj)] at h;cases h
def xz (φ:PM) (O:Nat->Prop) (w:World) (c:BC) (f:Nat->Option Value):Prop:=∀ j x,c.get j=af x->x.isCell=ai/\∃ v,f j=af v/\cL φ O w x v
theorem Vd {φ:PM} {O:Nat->Prop} {w:World} {c:BC} {off sz:Nat} {ag:Bool} {val:AV} (hs:c.sub? off sz ag=af val) {f:Nat->Option Value} (hc:xz φ O w c f):
 ∃ cs:List Value,cs.length=sz/\(∀ (j:Nat) v,cs[j]? =af v->f (off+j)=af v)/\(ag=aj->sz=1)/\cL φ O w val (if ag then .agg cs.toArray else cs.getD 0 undef):=by
 cases ag with
 |false=>
  simp only[BC.sub?] at hs;split at hs
  .obtain⟨h0,v,h1,h2⟩:=hc off val hs;exact⟨[v],rfl,λj u hu=>by cases j with|zero=>simp at hu;subst hu;exact h1|succ j=>simp at hu,λ_=>rfl,by simpa using h2⟩
  .cases hs
 |true=>
  have fin:∀ (g:Nat->Option AV),(∀ j,j<sz->∃ x,g j=af x/\c.get (off+j)=af x)->
   ∃ cs:List Value,cs.length=sz/\(∀ (j:Nat) v,cs[j]? =af v->f (off+j)=af v)/\∀ (j:Nat) x v,g j=af x->cs[j]? =af v->cL φ O w x v:=by
   intro g hg;refine ⟨(eS sz).map λj=>(f (off+j)).getD undef,by simp,λj v hv=>?_,λj x v I hv=>?_⟩
   .obtain⟨rfl,hj⟩:=xi _ _ _ _ hv;obtain⟨x,_,h2⟩:=hg j hj;obtain⟨_,v,J,_⟩:=hc _ _ h2;rw[J];rfl
   .obtain⟨rfl,hj⟩:=xi _ _ _ _ hv;obtain⟨U,h1,h2⟩:=hg j hj;rw[I] at h1;cases h1;obtain⟨_,v,J,M⟩:=hc _ _ h2;rw[J];exact M
  simp only[BC.sub?] at hs;split at hs
  .rename_i l;split at hs
   .rename_i hle;simp only[ak] at hs;subst hs;obtain⟨hl,hg⟩:=Ve (a_ hle) (rfl:(l.drop off).take sz=_);obtain⟨cs,h1,h2,J⟩:=fin (λj=>(((l.drop off).take sz)[j]?).map AV.f) (λj hj=>by
     have hlt:j<((l.drop off).take sz).length:=by rw[hl];exact hj
     refine ⟨.f ((l.drop off).take sz)[j],by simp only[aA hlt,ca],?_⟩;simp only[BC.get,hg j _ (aA hlt),ca])
    refine ⟨cs,h1,h2,(λh=>by cases h),.f (.agg _ _ (by rw[h1,hl]) ?_ ?_)⟩
    .intro x I;obtain⟨j,hj⟩:=eV I;exact (hc (off+j) (.f x) (by simp only[BC.get,hg j x hj,ca])).1
    .intro j x v I hv;have:=J j (.f x) v (by simp only[I,ca]) hv;cases this with
     |f h=>exact h
   .cases hs
  .rename_i l;split at hs
   .rename_i hle;simp only[ak] at hs;subst hs;obtain⟨hl,hg⟩:=Ve (a_ hle) (rfl:(l.drop off).take sz=_);obtain⟨cs,h1,h2,J⟩:=fin (λj=>(((l.drop off).take sz)[j]?)) (λj hj=>by
     have hlt:j<((l.drop off).take sz).length:=by rw[hl];exact hj
     exact⟨_,aA hlt,hg j _ (aA hlt)⟩)
    refine ⟨cs,h1,h2,(λh=>by cases h),.agg (by rw[h1,hl]) ?_ ?_⟩
    .intro x I;obtain⟨j,hj⟩:=eV I;exact (hc (off+j) x (hg j x hj)).1
    .intro j x v I hv;exact J j x v I hv
   .cases hs
  .cases hs
theorem M_ {t:TypeId} {sz:Nat} {ag:Bool} (hs:fg P t=af sz) (I:Du P t=af ag) (w:World) (b off:Nat) (cs:List Value) (hl:cs.length=sz) (hc:∀ (j:Nat) v,cs[j]? =af v->w.cell? ⟨b,off+j,ah⟩=af v) (h1:ag=aj->sz=1):
 (loadVar t ⟨b,off,ah⟩).run P w= .ok (if ag then .agg cs.toArray else cs.getD 0 undef) w:=by
 unfold loadVar;simp only[eB,Pf I w,cI];cases ag with
 |true=>
  simp only[bD,eB,gr hs w,cI];rw[<- hl,run_loadCells_list (P:=P) w ⟨b,off,ah⟩ cs (λj v hv=>by rw[kW];exact hc j v hv)];rfl
 |false=>
  have h1:=h1 rfl;cases cs with
  |nil=>simp at hl;omega
  |cons v r=>
   have:=hc 0 v rfl;simp only[c8] at this;simp[load,nj,this]
theorem H9 {φ:PM} {O:Nat->Prop} {w:World} {t:TypeId} {sz:Nat} {ag:Bool} (hs:fg P t=af sz) (I:Du P t=af ag) {c:BC} {b base off:Nat} {val:AV} (hv:c.sub? off sz ag=af val)
 (hc:xz φ O w c λj=>w.cell? ⟨b,base+j,ah⟩):∃ v,(loadVar t ⟨b,base+off,ah⟩).run P w= .ok v w/\cL φ O w val v:=by
 obtain⟨cs,h1,h2,M,J⟩:=Vd hv hc;exact⟨_,M_ hs I w b (base+off) cs h1 (λj v hj=>by rw[sA];exact h2 j v hj) M,J⟩
theorem Rz {φ:PM} {E:Nat->Prop} {h':HF} {w:World} (hrep:qP φ E h' w) {id k:Nat} {b:wK} (hb:h' id=af b) (hk:φ id=af k) (hc:b.c.isCells=ai):xz φ (tot E φ h') w b.c λj=>w.cell? ⟨k,0+j,ah⟩:=by
 obtain⟨k',h1,_,h2⟩:=hrep.at_ id b hb;rw[hk] at h1;cases h1;obtain⟨arr,M,h4,J⟩:=h2.cells hc;intro j x I;obtain⟨Z,v,Y,U⟩:=J j x I;exact⟨Z,v,by simp[MT,M,Y],U⟩
theorem UM {φ:PM} {O:Nat->Prop} {w:World} {cells:List FV} {b base:Nat} {us:Nat->Value} (hcl:∀ x∈cells,x.isCell=ai) (hu:∀ j,j<cells.length->w.cell? ⟨b,base+j,ah⟩=af (us j)) (hr:∀ (j:Nat) x,cells[j]? =af x->m6 O w x (us j)):
 xz φ O w (.fz cells) λj=>w.cell? ⟨b,base+j,ah⟩:=by
 intro j y I;simp only[BC.get] at I;cases hc:cells[j]? with
 |none=>rw[hc] at I;cases I
 |some q=>
  rw[hc] at I;simp at I;subst I;have hj:j<cells.length:=(bk.1 hc).1;exact⟨hcl q (ba hc),us j,hu j hj,.f (hr j q hc)⟩
theorem O3 {c:BC} {off sz:Nat} {ag:Bool} {v:AV} (h:c.sub? off sz ag=af v):c.isCells=ai:=by
 cases c with
 |fz=>rfl
 |mx=>rfl
 |mp es=>cases ag<;>simp only[BC.sub?,BC.get] at h<;>(try split at h)<;>cases h
 |it s p=>cases ag<;>simp only[BC.sub?,BC.get] at h<;>(try split at h)<;>cases h
theorem RI {t:TypeId} {sz:Nat} {ag:Bool} (hs:fg P t=af sz) (hag:Du P t=af ag) {p:AV} (I:Dt h sz ag p=af R):
 R.wr=[]/\R.nw=[]/\R.N=[]/\∀ (φ:PM) (E:Nat->Prop) (h':HF) (w:World) (pv:Value),(∀ i∈R.rd,h' i=h.get i)->qP φ E h' w->cL φ (tot E φ h') w p pv->
  ∃ J v,pv= .pointer (af J)/\(loadVar t J).run P w= .ok v w/\cL φ (tot E φ h') w R.val v:=by
 unfold Dt at I;split at I
 .rename_i id off;split at I
  .rename_i b hb;split at I
   .rename_i v hv;simp only[ak] at I;subst I;refine ⟨rfl,rfl,rfl,λφ E h' w pv hrd hrep hr=>?_⟩;have hh:h' id=af b:=by rw[hrd id (by simp)];exact hb
    cases hr with
    |@ptr _ _ k hφ=>
     obtain⟨u,h1,h2⟩:=H9 hs hag (w:=w) (b:=k) (base:=0) hv (Rz hrep hh hφ (O3 hv));rw[bN] at h1;exact⟨_,u,rfl,h1,h2⟩
   .cases I
  .cases I
 .rename_i cells off;split at I
  .rename_i v hv;rw[dx I];refine ⟨rfl,rfl,rfl,λφ E h' w pv hrd hrep hr=>?_⟩;cases hr with
   |f hr=>
    cases hr with
    |ptr _ _ b base us hO hb hcl hu hr=>
     obtain⟨u,h1,h2⟩:=H9 (φ:=φ) (O:=tot E φ h') hs hag (w:=w) (b:=b) (base:=base) hv (UM hcl hu hr);exact⟨_,u,rfl,h1,h2⟩
  .cases I
 .cases I
theorem ahc {t:TypeId} {x:Operand} {sz:Nat} {ag:Bool} (J:o.op= .load t x) (hs:fg P t=af sz) (hag:Du P t=af ag) (I:eL (.load sz ag x) e h nx=af R):gK P o e.get h.get R.eff:=by
 simp only[eL] at I;split at I
 .rename_i p Y;obtain⟨h1,h2,U,M⟩:=RI hs hag I;obtain⟨val,rd,wr,nw,N⟩:=R;simp only at h1 h2 U M;subst h1;subst h2;subst U;refine gK.reads λφ E h' w a hrd hp hrep=>?_
  obtain⟨ad,v,h5,h6,Z⟩:=M φ E h' w _ hrd hrep (hp x _ (by rw[J];simp[Op.operands]) Y);refine ⟨v,?_,Z⟩;unfold execOp;rw[J];simp[Instr.loadAt,h5,Instr.sureAddr,h6]
 .cases I
theorem Vr {φ:PM} {O:Nat->Prop} {w:World} {t:TypeId} {sz:Nat} {ag:Bool} (hs:fg P t=af sz) (hag:Du P t=af ag) {c:BC} {off:Nat} {val:AV} (hv:c.sub? off sz ag=af val) {vs:List Value}
 (hc:xz φ O w c λj=>vs[j]?):∃ v,(part t vs.toArray off).run P w= .ok v w/\cL φ O w val v:=by
 obtain⟨cs,h1,h2,J,I⟩:=Vd hv hc;refine ⟨_,?_,I⟩;unfold part;simp only[eB,Pf hag w,cI];cases ag with
 |true=>
  simp only[bD,eB,gr hs w,cI];have:vs.toArray.extract off (off+sz)=cs.toArray:=by
   apply Ko;simp only[Array.toList_extract,List.extract_eq_take_drop];apply List.ext_getElem?;intro j;rw[show off+sz-off=sz from by omega,cN,gV];rcases bZ j sz with hj|hj
   .rw[aE hj];have:=h2 j _ (aA (by omega:j<cs.length));rw[this,aA (by omega:j<cs.length)]
   .rw[aB (by omega),bQ (by omega)]
  rw[this];rfl
 |false=>
  have M:=J rfl;cases cs with
  |nil=>simp at h1;omega
  |cons v r=>
   have:=h2 0 v rfl;simp only[c8] at this;simp[this]
theorem RA {φ:PM} {O:Nat->Prop} {w:World} {l:List AV} {vs:List Value} (hl:vs.length=l.length) (hcl:∀ x∈l,x.isCell=ai) (hr:∀ (j:Nat) x v,l[j]? =af x->vs[j]? =af v->cL φ O w x v):xz φ O w (.mx l) λj=>vs[j]? :=by
 intro j x I;simp only[BC.get] at I;have hj:j<vs.length:=by rw[hl];exact (bk.1 I).1
 exact⟨hcl x (ba I),vs[j],aA hj,hr j x _ I (aA hj)⟩
theorem Ot {φ:PM} {O:Nat->Prop} {w:World} {l:List FV} {vs:List Value} (hl:vs.length=l.length) (hcl:∀ x∈l,x.isCell=ai) (hr:∀ (j:Nat) x v,l[j]? =af x->vs[j]? =af v->m6 O w x v):xz φ O w (.fz l) λj=>vs[j]? :=by
 intro j x I;simp only[BC.get] at I;cases hc:l[j]? with
 |none=>rw[hc] at I;cases I
 |some q=>
  rw[hc] at I;simp at I;subst I;have hj:j<vs.length:=by rw[hl];exact (bk.1 hc).1
  exact⟨hcl q (ba hc),vs[j],aA hj,.f (hr j q _ hc (aA hj))⟩
theorem J2 {φ:PM} {O:Nat->Prop} {w:World} {t:TypeId} {sz:Nat} {ag:Bool} (hs:fg P t=af sz) (hag:Du P t=af ag) {x:AV} {z:Value} (hr:cL φ O w x z) {off:Nat} {val:AV}
 (hv:(∃ l,x= .agg l/\(BC.mx l).sub? off sz ag=af val)\/(∃ l,x= .f (.agg l)/\(BC.fz l).sub? off sz ag=af val)):∃ cs v,z= .agg cs/\(part t cs off).run P w= .ok v w/\cL φ O w val v:=by
 rcases hv with ⟨l,rfl,hv⟩|⟨l,rfl,hv⟩
 .cases hr with
  |agg hl hcl hr=>
   obtain⟨v,h1,h2⟩:=Vr hs hag hv (RA hl hcl hr);exact⟨_,v,rfl,h1,h2⟩
 .cases hr with
  |f hr=>
   cases hr with
   |agg _ vs hl hcl hr=>
    obtain⟨v,h1,h2⟩:=Vr (φ:=φ) hs hag hv (Ot hl hcl hr);exact⟨_,v,rfl,h1,h2⟩
theorem aks {s:TypeId} {fs:Array Field} {k:Nat} {f:Field} {sz:Nat} {ag:Bool} {x:Operand} (M:o.op= .field s x k) (hu:P.underlying s=af (.struct fs)) (hf:fs[k]? =af f) (hs:fg P f.type=af sz) (hag:Du P f.type=af ag) (I:eL (.fld f.offset sz ag x) e h nx=af R):gK P o e.get h.get R.eff:=by
 have fin:∀ (y:AV) (val:AV),my e x=af y->((∃ l,y= .agg l/\(BC.mx l).sub? f.offset sz ag=af val)\/(∃ l,y= .f (.agg l)/\(BC.fz l).sub? f.offset sz ag=af val))->rv val=af R->gK P o e.get h.get R.eff:=by
  intro y val J hv U;rw[dx U];refine gK.reads λφ E h' w a _ hp _=>?_
  obtain⟨cs,v,h1,h2,Y⟩:=J2 hs hag (hp x _ (by rw[M];simp[Op.operands]) J) hv;refine ⟨v,?_,Y⟩;unfold execOp;rw[M];simp[Instr.field,run_underlying hu,hf,h1,asAgg,h2]
 simp only[eL] at I;split at I
 .rename_i l J;split at I
  .rename_i v hv;exact fin _ v J (.inl ⟨l,rfl,hv⟩) I
  .cases I
 .rename_i l J;split at I
  .rename_i v hv;exact fin _ v J (.inr ⟨l,rfl,hv⟩) I
  .cases I
 .cases I
theorem akq {t el:TypeId} {n sz:Nat} {ag:Bool} {x y:Operand} (J:o.op= .index t x y) (hu:P.underlying t=af (.array n el)) (hs:fg P el=af sz) (hag:Du P el=af ag) (I:eL (.idx n sz ag x y) e h nx=af R):gK P o e.get h.get R.eff:=by
 simp only[eL] at I;split at I
 .rename_i v0 k j U M;split at I
  .rename_i hc;simp only[c5,fO,av,bR] at hc;obtain⟨h0,h1⟩:=hc;have fin:∀ (val:AV),((∃ l,v0= .agg l/\(BC.mx l).sub? (j.toNat*sz) sz ag=af val)\/(∃ l,v0= .f (.agg l)/\(BC.fz l).sub? (j.toNat*sz) sz ag=af val))->rv val=af R->gK P o e.get h.get R.eff:=by
    intro val hv Y;rw[dx Y];refine gK.reads λφ E h' w a _ hp _=>?_
    have hyv:=fm (hp y _ (by rw[J];simp[Op.operands]) M);obtain⟨cs,v,h3,h4,h5⟩:=J2 hs hag (hp x _ (by rw[J];simp[Op.operands]) U) hv;refine ⟨v,?_,h5⟩;have Z:=gr hs w;unfold execOp;rw[J];simp[Instr.index,run_underlying hu,hyv,asIntOf,h3,h0,h1,Z,h4]
   split at I
   .rename_i l;split at I
    .rename_i v hv;exact fin v (.inl ⟨l,rfl,hv⟩) I
    .cases I
   .rename_i l;split at I
    .rename_i v hv;exact fin v (.inr ⟨l,rfl,hv⟩) I
    .cases I
   .cases I
  .cases I
 .cases I
theorem ahf {t el:TypeId} {x:Operand} (M:o.op= .call {callee:=.builtin .len,args:=#[x],argTypes:=#[t]}) (hu:P.underlying t=af (.slice el)) (I:eL (.len x) e h nx=af R):gK P o e.get h.get R.eff:=by
 simp only[eL] at I;split at I
 .rename_i y U;split at I
  .rename_i n hn;rw[dx I];refine gK.reads λφ E h' w a _ hp _=>?_
   have hr:=hp x _ (by rw[M];simp[Op.operands,eM]) U;refine ⟨_,?_,.f (.raw _)⟩;have J:∃ A c,a.eval x= .slice A n c:=by
    generalize a.eval x=z at hr;unfold AV.slen at hn;split at hn<;>try (simp only[ak] at hn;subst hn)
    .cases hr with
     |f hr=>cases hr with
      |nil=>exact⟨_,_,rfl⟩
      |sl=>exact⟨_,_,rfl⟩
    .cases fm hr;exact⟨_,_,rfl⟩
    .cases hr;exact⟨_,_,rfl⟩
    .cases hr;exact⟨_,_,rfl⟩
    .cases hr;exact⟨_,_,rfl⟩
    .cases hn
   obtain⟨A,c,J⟩:=J;unfold execOp;rw[M];simp[resolve,invoke,builtin,Builtin.len_,run_underlying hu,J,goInt]
  .cases I
 .cases I
theorem ahe {t:TypeId} {x:Operand} (J:o.op= .call {callee:=.builtin .len,args:=#[x],argTypes:=#[t]}) (hu:P.underlying t=af .string) (I:eL (.lens x) e h nx=af R):gK P o e.get h.get R.eff:=by
 simp only[eL] at I;split at I
 .rename_i s M;rw[dx I];refine gK.reads λφ E h' w a _ hp _=>?_
  have hr:=fm (hp x _ (by rw[J];simp[Op.operands,eM]) M);refine ⟨_,?_,.f (.raw _)⟩;unfold execOp;rw[J];simp[resolve,invoke,builtin,Builtin.len_,run_underlying hu,hr,goInt]
 .cases I
theorem ahd {t k v:TypeId} {x:Operand} (J:o.op= .call {callee:=.builtin .len,args:=#[x],argTypes:=#[t]}) (hu:P.underlying t=af (.map k v)) (I:eL (.lenm x) e h nx=af R):gK P o e.get h.get R.eff:=by
 simp only[eL] at I;split at I
 .rename_i id U;split at I
  .rename_i ty es hid;simp only[ak] at I;subst I;refine gK.reads λφ E h' w a hrd hp hrep=>?_
   have hr:=hp x _ (by rw[J];simp[Op.operands,eM]) U;have hh:h' id=af ⟨ty,.mp es⟩:=by rw[hrd id (by simp)];exact hid
   generalize M:a.eval x=z at hr;cases hr with
   |@mp _ b hφ=>
    obtain⟨b',h1,_,ob,h2,h3⟩:=hrep.at_ id _ hh;rw[hφ] at h1;cases h1;obtain⟨ents,clock,rfl,Z,_⟩:=h3;have Y:ents.size=es.length:=by have:=gG al Z;simpa using this
    refine ⟨_,?_,.f (.raw _)⟩;unfold execOp;rw[J];simp[resolve,invoke,builtin,Builtin.len_,run_underlying hu,M,goInt,getObj,nj,h2,Y]
  .cases I
 .cases I
end
structure EP (w w':World) (k:Nat) (ob:Obj):Prop where
 os:w'.os=w.os
 tape:w'.tape=w.tape
 output:w'.output=w.output
 size:w'.heap.size=w.heap.size
 at_:w'.heap[k]? =af ob
 other:∀ j,j≠k->w'.heap[j]? =w.heap[j]?
 shp:∀ j,w'.shape? j=w.shape? j
structure RN (w w':World) (ob:Obj):Prop where
 os:w'.os=w.os
 tape:w'.tape=w.tape
 output:w'.output=w.output
 size:w'.heap.size=w.heap.size+1
 at_:w'.heap[w.heap.size]? =af ob
 other:∀ j,j<w.heap.size->w'.heap[j]? =w.heap[j]?
theorem qP.wset {φ:PM} {E:Nat->Prop} {h:HF} {w w':World} (r:qP φ E h w) {id k:Nat} {b b':wK} {ob:Obj} (hb:h id=af b) (hk:φ id=af k) (I:EP w w' k ob) (hob:js φ (tot E φ h) w b' ob) (nw:HF) (hnw:nw id=af b'):
 iY φ φ h (eO h [id] nw) w w'/\qP φ E (eO h [id] nw) w':=by
 have hdom:∀ i,(∃ x,eO h [id] nw i=af x)↔∃ x,h i=af x:=λi=>by
  unfold eO;by_cases hi:i=id
  .subst hi;simp[hnw,hb]
  .simp[hi]
 have hown:∀ j,own φ (eO h [id] nw) j↔own φ h j:=λj=>by
  constructor
  .rintro⟨i,x,h1,h2⟩;obtain⟨y,M⟩:=(hdom i).1 ⟨x,h1⟩;exact⟨i,y,M,h2⟩
  .rintro⟨i,x,h1,h2⟩;obtain⟨y,M⟩:=(hdom i).2 ⟨x,h1⟩;exact⟨i,y,M,h2⟩
 have m:iY φ φ h (eO h [id] nw) w w':=by
  refine ⟨λ_ _ h=>h,⟨I.os,I.tape,I.output,by rw[I.size];exact bT _,λj hj ho=>?_,λj _=>I.shp j⟩,λj _ h=>(hown j).1 h⟩;exact I.other j (λe=>ho (e▸⟨id,b,hb,hk⟩))
 refine ⟨m,⟨λi j x y kk hi hj h1 h2=>?_,λi x hi=>?_,λk hk=>dy (r.el k hk) m.ext.size,λg cells hg=>m.keepF (r.gl g cells hg)⟩⟩
 .obtain⟨x',U⟩:=(hdom i).1 ⟨x,hi⟩;obtain⟨Z,J⟩:=(hdom j).1 ⟨y,hj⟩;exact r.inj i j x' Z kk U J h1 h2
 .by_cases hid:i=id
  .subst hid;have:x=b':=by unfold eO at hi;simp[hnw] at hi;exact hi.symm
   subst this;obtain⟨k',h1,h2,_⟩:=r.at_ i b hb;rw[hk] at h1;cases h1;exact⟨k,hk,h2,ob,I.at_,hob.mono λ_ _ h=>m.keep h⟩
  .have Y:h i=af x:=by unfold eO at hi;simpa[hid] using hi
   obtain⟨k',h1,h2,ob',h3,h4⟩:=r.at_ i x Y;have hne:k'≠k:=λe=>hid (r.inj i id x b k Y hb (e▸h1) hk)
   exact⟨k',h1,h2,ob',by rw[I.other k' hne];exact h3,h4.mono λ_ _ h=>m.keep h⟩
theorem qP.wnew {φ:PM} {E:Nat->Prop} {h:HF} {w w':World} (r:qP φ E h w) {id:Nat} (hid:φ id=ah) {b:wK} {ob:Obj} (M:RN w w' ob) (hob:js φ (tot E φ h) w b ob) (del:List Nat) (nw:HF) (hnw:nw id=af b) (hdel:∀ i∈del,i≠id->nw i=ah):
 ∃ φ',φ' id=af w.heap.size/\iY φ φ' h (eO h (id::del) nw) w w'/\(∀ i k,φ' i=af k->φ i=af k\/i∈[id])/\qP φ' E (eO h (id::del) nw) w':=by
 have hsub:∀ i x,eO h (id::del) nw i=af x->i≠id->h i=af x/\i∉del:=λi x U hi=>by
  unfold eO at U;by_cases hd:i∈del
  .rw[aE (by simp[hd]),hdel i hd hi] at U;cases U
  .rw[aB (by simp[hi,hd])] at U;exact⟨U,hd⟩
 have hlt:∀ i x k,h i=af x->φ i=af k->k<w.heap.size:=λi x k hi hk=>by
  obtain⟨k',h1,_,ob',Y,_⟩:=r.at_ i x hi;rw[hk] at h1;cases h1;exact (cC.1 Y).1
 have hφ:∀ i,i≠id->(if i=id then af w.heap.size else φ i)=φ i:=λi hi=>by simp[hi]
 have m:iY φ (λi=>if i=id then af w.heap.size else φ i) h (eO h (id::del) nw) w w':=by
  refine ⟨λi k hk=>?_,⟨M.os,M.tape,M.output,by rw[M.size];omega,λj hj _=>M.other j hj,λj hj=>?_⟩,?_⟩
  .have:i≠id:=λe=>by rw[e,hid] at hk;cases hk
   rw[hφ i this];exact hk
  .unfold rF;rw[M.other j hj]
  .rintro j hj ⟨i,x,h1,h2⟩;by_cases hi:i=id
   .simp[hi] at h2;omega
   .have Y:φ i=af j:=by simpa[hi] using h2
    exact⟨i,x,(hsub i x h1 hi).1,Y⟩
 refine ⟨_,by simp,m,λi k hk=>?_,⟨λi j x y k hi hj h1 h2=>?_,λi x hi=>?_,λk hk=>dy (r.el k hk) m.ext.size,λg cells hg=>m.keepF (r.gl g cells hg)⟩⟩
 .by_cases hi:i=id
  .right;simp[hi]
  .left;rw[hφ i hi] at hk;exact hk
 .by_cases I:i=id
  .by_cases J:j=id
   .rw[I,J]
   .exfalso;rw[hφ j J] at h2;have:=hlt j y k (hsub j y hj J).1 h2;simp[I] at h1;omega
  .rw[hφ i I] at h1;have hix:=(hsub i x hi I).1;by_cases J:j=id
   .exfalso;have:=hlt i x k hix h1;simp[J] at h2;omega
   .rw[hφ j J] at h2;exact r.inj i j x y k hix (hsub j y hj J).1 h1 h2
 .by_cases I:i=id
  .subst I;have:x=b:=by unfold eO at hi;simp[hnw] at hi;exact hi.symm
   subst this;refine ⟨w.heap.size,by simp,λhe=>?_,ob,M.at_,hob.mono λ_ _ h=>m.keep h⟩;have:=r.el _ he;omega
  .obtain⟨k,h1,h2,ob',Y,Z⟩:=r.at_ i x (hsub i x hi I).1;refine ⟨k,by rw[hφ i I];exact h1,h2,ob',?_,Z.mono λ_ _ h=>m.keep h⟩;rw[M.other k (hlt i x k (hsub i x hi I).1 h1)];exact Y
theorem qS (w:World) (ob:Obj):RN w {w with heap:=w.heap.push ob} ob:=by
 refine ⟨rfl,rfl,rfl,by simp,by simp,λj hj=>?_⟩;rw[Array.getElem?_push,aB (by omega)]
theorem RN.drawn {w w':World} {ob:Obj} (d:Nat) (h:RN {w with drawn:=d} w' ob):RN w w' ob:=⟨h.os,h.tape,h.output,h.size,h.at_,h.other⟩
theorem gK.makes {P:Program} {o:Oper} {e:zA} {h:HF} {rd:List Nat} {nx:Nat} {b:wK} {val:AV}
 (hv:∀ (φ:PM) (E:Nat->Prop) (h':HF) (w:World) (a:Act),(∀ i∈rd,h' i=h i)->U4 φ E h' w a e o->qP φ E h' w->
   ∃ v w' ob,(execOp a.eval o).run P w= .ok (.value v) w'/\RN w w' ob/\js φ (tot E φ h') w b ob/\∀ φ' O,φ' nx=af w.heap.size->cL φ' O w' val v):
 gK P o e.get h ⟨val,rd,[nx],jb [(nx,b)],[nx]⟩:=by
 intro φ E h' w a h1 h2 Z I Y;obtain⟨v,w',ob,hrun,U,hob,hval⟩:=hv φ E h' w a h1 (λx y M J=>tf I Z M J) I;obtain⟨φ',g1,g2,g3,g4⟩:=I.wnew (id:=nx) (Y nx (by simp)) U hob [] (jb [(nx,b)]) (by simp[jb]) (by simp);unfold GW;rw[hrun];exact⟨v,φ',rfl,g2,g3,g4,hval φ' _ g1⟩
theorem gK.writes {P:Program} {o:Oper} {e:zA} {h:HF} {rd:List Nat} {id:Nat} {b b':wK} {val:AV} (hb:h id=af b)
 (hv:∀ (φ:PM) (E:Nat->Prop) (h':HF) (w:World) (a:Act),(∀ i∈rd,h' i=h i)->h' id=af b->U4 φ E h' w a e o->qP φ E h' w->
   ∃ r w' k ob,(execOp a.eval o).run P w= .ok r w'/\φ id=af k/\EP w w' k ob/\js φ (tot E φ h') w b' ob/\(∃ v,(r= .value v\/r= .skip/\v=undef)/\cL φ (tot E φ (eO h' [id] (jb [(id,b')]))) w' val v)):
 gK P o e.get h ⟨val,rd,[id],jb [(id,b')],[]⟩:=by
 intro φ E h' w a h1 h2 h3 I h5;obtain⟨r,w',k,ob,hrun,hk,Z,hob,v,hr,hval⟩:=hv φ E h' w a h1 (by rw[h2 id (by simp)];exact hb) (λx y Y U=>tf I h3 Y U) I;obtain⟨M,J⟩:=I.wset (id:=id) (by rw[h2 id (by simp)];exact hb) hk Z hob (jb [(id,b')]) (by simp[jb]);unfold GW;rw[hrun];rcases hr with rfl|⟨rfl,rfl⟩
 .exact⟨v,φ,rfl,M,λ_ _ h=>.inl h,J,hval⟩
 .exact⟨undef,φ,rfl,M,λ_ _ h=>.inl h,J,hval⟩
theorem lI {l:List AV} (h:gD l=ai):∀ x∈l,x.isCell=ai:=by
 induction l with
 |nil=>intro x I;cases I
 |cons y l J=>
  simp only[gD,av] at h;intro x I;rcases bi.1 I with rfl|I
  .exact h.1
  .exact J h.2 x I
theorem pG:∀ {l:List AV} {fs:List FV},xx l=af fs->l=fs.map .f
 |[],fs,h=>by simp only[xx,ak] at h;subst h;rfl
 |.f x::r,fs,h=>by
  simp only[xx] at h;split at h
  .rename_i l hl;simp only[ak] at h;subst h;rw[pG hl];rfl
  .cases h
 |.ptr _ _::_,_,h=>by simp[xx] at h
 |.sl _ _ _::_,_,h=>by simp[xx] at h
 |.row _ _ _::_,_,h=>by simp[xx] at h
 |.mp _::_,_,h=>by simp[xx] at h
 |.emp::_,_,h=>by simp[xx] at h
 |.agg _::_,_,h=>by simp[xx] at h
 |.tup _::_,_,h=>by simp[xx] at h
 |.clo _ _::_,_,h=>by simp[xx] at h
def Cs (φ:PM) (O:Nat->Prop) (w:World) (l:List AV) (vs:List Value):Prop:=vs.length=l.length/\(∀ x∈l,x.isCell=ai)/\∀ (j:Nat) x v,l[j]? =af x->vs[j]? =af v->cL φ O w x v
theorem BC.get_toMx {c:BC} (hc:c.isCells=ai) (j:Nat):c.get j=c.toMx[j]? :=by
 cases c with
 |fz l=>simp[BC.get,BC.toMx]
 |mx l=>rfl
 |mp _=>cases hc
 |it _ _=>cases hc
theorem BC.len_toMx {c:BC} (hc:c.isCells=ai):c.len=c.toMx.length:=by
 cases c with
 |fz l=>simp[BC.len,BC.toMx]
 |mx l=>rfl
 |mp _=>cases hc
 |it _ _=>cases hc
theorem nE (l:List AV):(ph l).toMx=l/\(ph l).isCells=ai:=by
 unfold ph;cases h:xx l with
 |none=>exact⟨rfl,rfl⟩
 |some fs=>exact⟨(pG h).symm,rfl⟩
theorem pV {φ:PM} {O:Nat->Prop} {w:World} {ty:TypeId} {c:BC} (hc:c.isCells=ai) {arr:Array Value} (hl:c.toMx.length<=arr.size)
 (h:∀ (j:Nat) x,c.toMx[j]? =af x->x.isCell=ai/\∃ v,arr[j]? =af v/\cL φ O w x v):js φ O w ⟨ty,c⟩ (.cells arr ty (0,0)):=by
 have h2:ve φ O w c arr:=⟨by rw[BC.len_toMx hc];exact hl,λj x I=>h j x (by rw[<- BC.get_toMx hc];exact I)⟩
 unfold js;cases hb:c with
 |fz l=>rw[hb] at h2;exact⟨arr,rfl,h2⟩
 |mx l=>rw[hb] at h2;exact⟨arr,rfl,h2⟩
 |mp _=>rw[hb] at hc;cases hc
 |it _ _=>rw[hb] at hc;cases hc
theorem HV {φ:PM} {O:Nat->Prop} {w:World} {ty:TypeId} {l:List AV} {vs:List Value} (h:Cs φ O w l vs):js φ O w ⟨ty,ph l⟩ (.cells vs.toArray ty (0,0)):=by
 obtain⟨h1,h2⟩:=nE l;refine pV h2 (by rw[h1];simp[h.1]) λj x I=>?_
 rw[h1] at I;have hj:j<vs.length:=by rw[h.1];exact (bk.1 I).1
 exact⟨h.2.1 x (ba I),vs[j],by simp[hj],h.2.2 j x _ I (aA hj)⟩
theorem T7 {φ:PM} {O:Nat->Prop} {w:World} {x:AV} {v:Value} (h:cL φ O w x v) (hc:gD x.cs=ai):Cs φ O w x.cs v.cells.toList:=by
 have one:x.cs=[x]->v.cells=#[v]->Cs φ O w x.cs v.cells.toList:=λh1 h2=>by
  rw[h1] at hc ⊢;rw[h2];exact⟨rfl,lI hc,λj y u I hu=>by cases j with|zero=>simp at I hu;subst I;subst hu;exact h|succ j=>simp at I⟩
 cases h with
 |ptr h=>exact one rfl rfl
 |sl h _ _=>exact one rfl rfl
 |row h _ _ _=>exact one rfl rfl
 |emp=>exact one rfl rfl
 |anyb=>exact one rfl rfl
 |mp h=>exact one rfl rfl
 |clo _ _=>exact one rfl rfl
 |tup _ _=>exact cZ hc (by simp[AV.cs,gD,AV.isCell])
 |@agg l vs hl hcl hr=>exact⟨hl,hcl,hr⟩
 |@f y u hf=>
  cases hf with
  |raw v=>
   have hv:v.oneCell'=ai:=by
    have:(AV.f (.raw v)).cs=[.f (.raw v)]:=rfl;rw[this] at hc;simpa[gD,AV.isCell,FV.isCell] using hc
   refine one rfl ?_;cases v<;>first|rfl|simp[Value.oneCell'] at hv
  |nil=>exact one rfl rfl
  |sl=>exact one rfl rfl
  |ptr=>exact one rfl rfl
  |agg l vs hl hcl hr=>
   refine ⟨by simp[AV.cs,Value.cells,hl],lI hc,λj y u I hu=>?_⟩;simp only[AV.cs,bc] at I;cases hq:l[j]? with
   |none=>rw[hq] at I;cases I
   |some q=>rw[hq] at I;simp at I;subst I;exact .f (hr j q u hq (by simpa[Value.cells] using hu))
theorem m6.one {O:Nat->Prop} {w:World} {x:FV} {v:Value} (h:m6 O w x v) (hc:x.isCell=ai):v.oneCell'=ai:=by
 cases h with
 |raw v=>exact hc
 |nil=>rfl
 |sl=>rfl
 |ptr=>rfl
 |agg=>cases hc
theorem cL.one {φ:PM} {O:Nat->Prop} {w:World} {x:AV} {v:Value} (h:cL φ O w x v) (hc:x.isCell=ai):v.oneCell'=ai:=by
 cases h with
 |f h=>exact h.one hc
 |ptr=>rfl
 |sl=>rfl
 |row=>rfl
 |emp=>rfl
 |anyb=>rfl
 |mp=>rfl
 |agg=>cases hc
 |tup=>cases hc
 |clo=>rfl
theorem Cs.one {φ:PM} {O:Nat->Prop} {w:World} {l:List AV} {vs:List Value} (h:Cs φ O w l vs):∀ v∈vs,v.oneCell'=ai:=by
 intro v hv;obtain⟨j,hj⟩:=eV hv;have hlt:j<l.length:=by rw[<- h.1];exact (bk.1 hj).1
 exact (h.2.2 j _ v (aA hlt) hj).one (h.2.1 _ (uH hlt))
theorem Cs.append {φ:PM} {O:Nat->Prop} {w:World} {l J:List AV} {vs vs':List Value} (h:Cs φ O w l vs) (h':Cs φ O w J vs'):Cs φ O w (l++J) (vs++vs'):=by
 refine ⟨by simp[h.1,h'.1],λx I=>(bP.1 I).elim (h.2.1 x) (h'.2.1 x),λj x v I hv=>?_⟩;rcases bZ j l.length with hj|hj
 .rw[bO hj] at I;rw[bO (by rw[h.1];exact hj)] at hv;exact h.2.2 j x v I hv
 .rw[b7 hj] at I;rw[b7 (by rw[h.1];exact hj),h.1] at hv;exact h'.2.2 _ x v I hv
theorem Cs.take {φ:PM} {O:Nat->Prop} {w:World} {l:List AV} {vs:List Value} (h:Cs φ O w l vs) (n:Nat):Cs φ O w (l.take n) (vs.take n):=by
 refine ⟨by simp[h.1],λx I=>h.2.1 x (jg I),λj x v I hv=>?_⟩;rw[cN] at I hv;split at I
 .rename_i hj;rw[aE hj] at hv;exact h.2.2 j x v I hv
 .cases I
theorem Cs.drop {φ:PM} {O:Nat->Prop} {w:World} {l:List AV} {vs:List Value} (h:Cs φ O w l vs) (n:Nat):Cs φ O w (l.drop n) (vs.drop n):=by
 refine ⟨by simp[h.1],λx I=>h.2.1 x (List.mem_of_mem_drop I),λj x v I hv=>?_⟩;rw[gV] at I hv;exact h.2.2 _ x v I hv
theorem Cs.splice {φ:PM} {O:Nat->Prop} {w:World} {l I:List AV} {vs vs':List Value} (h:Cs φ O w l vs) (h':Cs φ O w I vs') (off:Nat):Cs φ O w (splice l off I) (splice vs off vs'):=by
 unfold AI.splice;rw[h'.1];exact ((h.take off).append h').append (h.drop _)
theorem Cs.raws {φ:PM} {O:Nat->Prop} {w:World} (z:List Value) (J:mr z=ai):Cs φ O w (z.map raw) z:=by
 refine ⟨by simp,λx I=>?_,λj x v I hv=>?_⟩
 .obtain⟨v,hv,rfl⟩:=dk.1 I;exact gj.1 J v hv
 .rw[bc] at I;rw[hv] at I;simp at I;subst I;exact .f (.raw v)
theorem Cs.mono {φ φ':PM} {O O':Nat->Prop} {w w':World} {l:List AV} {vs:List Value} (h:Cs φ O w l vs) (hk:∀ x v,cL φ O w x v->cL φ' O' w' x v):Cs φ' O' w' l vs:=⟨h.1,h.2.1,λj x v I hv=>hk _ _ (h.2.2 j x v I hv)⟩
theorem EP.setRow {w:World} {k:Nat} {arr arr':Array Value} {ty:TypeId} (I:w.heap[k]? =af (.cells arr ty (0,0))) (hs:arr'.size=arr.size):EP w (w.setRow k arr') k (.cells arr' ty (0,0)):=by
 refine ⟨rfl,rfl,rfl,by simp,setRow_heap w k arr arr' ty (0,0) I,λj hj=>setRow_other w k j arr' hj,λj=>?_⟩;unfold rF;by_cases hj:j=k
 .subst hj;rw[setRow_heap w j arr arr' ty (0,0) I,I];simp[hs]
 .rw[setRow_other w k j arr' hj]
section
variable {P:Program} {o:Oper} {e:zA} {h:nP} {nx:Nat} {R:BR}
theorem tu {t:TypeId} {z:List Value} (I:sO P t=af z) (w:World):∃ v,(zeroValue t).run P w= .ok v w/\v.cells.toList=z/\∃ i,P.info? t=af i/\i.zero=af v:=by
 unfold sO at I;cases hi:P.info? t with
 |none=>rw[hi] at I;cases I
 |some i=>
  rw[hi] at I;simp only[aH] at I;cases hv:i.zero with
  |none=>rw[hv] at I;cases I
  |some v=>
   rw[hv] at I;simp only[ca,ak] at I;exact⟨v,by simp[zeroValue,typeInfo,hi,hv],I,i,rfl,hv⟩
theorem ae0 {t:TypeId} {z:List Value} (Y:o.op= .alloc t) (U:sO P t=af z) (hc:mr z=ai) (M:eL (.alloc t z) e h nx=af R):gK P o e.get h.get R.eff:=by
 simp only[eL,ak] at M;subst M;refine gK.makes λφ E h' w a _ _ _=>?_
 obtain⟨v,h1,h2,_⟩:=tu U w;refine ⟨.pointer (af ⟨w.heap.size,0,ah⟩),{w with heap:=w.heap.push (.cells v.cells t)},.cells v.cells t (0,0),?_,qS w _,?_,λφ' O hφ=>.ptr hφ⟩
 .unfold execOp;rw[Y];simp[Instr.alloc,h1,newVar,newRow,newObj,nj]
 .have I:BC.toMx (.fz (z.map .raw))=z.map raw:=by simp[BC.toMx,raw]
  refine pV rfl (by rw[I,<-h2];simp) λj x J=>?_
  rw[I] at J;have cs:=Cs.raws (φ:=φ) (O:=tot E φ h') (w:=w) z hc;have hj:j<z.length:=by have:=(bk.1 J).1;simpa using this
  refine ⟨cs.2.1 x (ba J),z[j],?_,cs.2.2 j x _ J (aA hj)⟩;have:v.cells.toList[j]? =af z[j]:=by rw[h2];exact aA hj
  simpa using this
theorem akx {t:TypeId} {x:Operand} (J:o.op= .box t x) (I:eL (.box t x) e h nx=af R):gK P o e.get h.get R.eff:=by
 simp only[eL] at I;split at I
 .rename_i v M;split at I
  .rename_i hc;simp only[ak] at I;subst I;refine gK.makes λφ E h' w a _ hp _=>?_
   have hr:=T7 (hp x _ (by rw[J];simp[Op.operands]) M) hc;refine ⟨.pointer (af ⟨w.heap.size,0,ah⟩),{w with heap:=w.heap.push (.cells (a.eval x).cells t)},.cells (a.eval x).cells t (0,0),?_,qS w _,?_,λφ' O hφ=>.ptr hφ⟩
   .unfold execOp;rw[J];simp[Instr.box,newVar,newRow,newObj,nj]
   .have:=HV (ty:=t) hr;simpa using this
  .cases I
 .cases I
theorem mz {α:Type} {l vs:List α} {off:Nat} (hle:off+vs.length<=l.length) (j:Nat):(splice l off vs)[j]? =if j<off then l[j]? else if j<off+vs.length then vs[j-off]? else l[j]? :=by
 unfold splice;rw[iw];have h1:(l.take off).length=off:=by simp;omega
 by_cases hj:j<off
 .rw[aE hj,bO (by rw[h1];exact hj),cN,aE hj]
 .rw[aB hj,b7 (by omega),h1];by_cases I:j<off+vs.length
  .rw[aE I,bO (by omega)]
  .rw[aB I,b7 (by omega),gV];congr 1;omega
theorem ol {α:Type} {l vs:List α} {off:Nat} (hle:off+vs.length<=l.length):(splice l off vs).length=l.length:=by
 unfold splice;simp;omega
theorem Qr (off:Nat):∀ (vs:List Value) (k:Nat) (arr:Array Value),off+k+vs.length<=arr.size->∀ j:Nat,
 ((vs.zipIdx k).foldl (λcs (p:Value×Nat)=>cs.setIfInBounds (off+p.2) p.1) arr)[j]? =if j<off+k then arr[j]? else if j<off+k+vs.length then vs[j-(off+k)]? else arr[j]?
 |[],k,arr,_,j=>by
  simp only[List.zipIdx_nil,List.foldl_nil,jS,c8];split<;>rfl
 |v::vs,k,arr,hle,j=>by
  simp only[bY] at hle;rw[List.zipIdx_cons,E0,Qr off vs (k+1) _ (by simp;omega) j];simp only[bY];by_cases h1:j<off+k
  .rw[aE (by omega),aE h1,pI (by omega)]
  .by_cases h2:j=off+k
   .subst h2;rw[aE (by omega),aB (by omega),aE (by omega)];simp[show off+k<arr.size by omega]
   .rw[aB (by omega),aB h1];by_cases I:j<off+k+(vs.length+1)
    .rw[aE (by omega),aE I,show j-(off+k)=(j-(off+(k+1)))+1 from by omega];simp
    .rw[aB (by omega),aB I,pI (by omega)]
theorem Qq (off:Nat) (c:Array Value) (l:List Value) (hle:off+c.size<=l.length):(c.zipIdx.foldl (λcs (p:Value×Nat)=>cs.setIfInBounds (off+p.2) p.1) l.toArray)=(splice l off c.toList).toArray:=by
 rw[<- Array.foldl_toList,Array.toList_zipIdx];apply Array.ext_getElem?;intro j;rw[Qr off c.toList 0 l.toArray (by simpa using hle) j];simp only[c8,ki];rw[mz (by simpa using hle)]
theorem NT {φ:PM} {E:Nat->Prop} {h':HF} {w:World} {a:Act} (hp:U4 φ E h' w a e o) {place:Nat->Option (Nat×Nat)}:∀ (ps:List (Nat×Operand)) (ps':List (Nat×Nat×Operand)) (cells cs:List AV) (vs:List Value),
 (ps'.length=ps.length)->(∀ (j:Nat) i x,ps[j]? =af (i,x)->∃ of sz,ps'[j]? =af (of,sz,x)/\place i=af (of,sz))->(∀ p∈ps,p.2∈o.op.operands)->Cs φ (tot E φ h') w cells vs->yR cells e ps'=af cs->
 ∃ vs',Instr.fill place vs.toArray (ps.map λp=>(p.1,a.eval p.2))=af vs'.toArray/\Cs φ (tot E φ h') w cs vs'
 |[],ps',cells,cs,vs,hl,_,_,hcs,hf=>by
  cases ps' with
  |nil=>simp only[yR,ak] at hf;subst hf;exact⟨vs,rfl,hcs⟩
  |cons _ _=>simp at hl
 |(i,x)::ps,ps',cells,cs,vs,hl,hpl,hm,hcs,hf=>by
  obtain⟨of,sz,h1,h2⟩:=hpl 0 i x rfl;cases ps' with
  |nil=>simp at h1
  |cons p ps'=>
   simp at h1;subst h1;simp only[yR] at hf;split at hf
   .rename_i v hv;split at hf
    .rename_i hc;simp only[av,cV] at hc;obtain⟨⟨M,J⟩,I⟩:=hc;have hr:=T7 (hp x v (hm _ (dz ..)) hv) I;have hsz:(a.eval x).cells.size=sz:=by have:=hr.1;simp at this;omega
     have hle:of+sz<=vs.length:=by rw[hcs.1];exact a_ J
     obtain⟨vs',Y,U⟩:=NT hp ps ps' _ cs _ (by simpa using hl) (λj i x hj=>by have:=hpl (j+1) i x (by simpa using hj);simpa using this) (λp hp=>hm p (cM _ hp)) (hcs.splice hr of) hf;refine ⟨vs',?_,U⟩;simp only[gh,Instr.fill,h2];have hcd:((decide ((a.eval x).cells.size≠sz))||decide (of+(a.eval x).cells.size>vs.toArray.size))=aj:=by
      rw[hsz];simp;omega
     rw[aB (by rw[hcd];simp)];have:=Qq of (a.eval x).cells vs (by rw[hsz];exact hle);rw[<- Y,<-this]
    .cases hf
   .cases hf
theorem DQ {t:TypeId}:∀ (ps:List (Nat×Operand)) (ps':List (Nat×Nat×Operand)),wU P t ps=af ps'->ps'.length=ps.length/\∀ (j:Nat) i x,ps[j]? =af (i,x)->∃ of sz,ps'[j]? =af (of,sz,x)/\Bf P t i=af (of,sz)
 |[],ps',h=>by simp only[wU,ak] at h;subst h;exact⟨rfl,λj i x M=>by simp at M⟩
 |(i,x)::ps,ps',h=>by
  simp only[wU] at h;split at h
  .rename_i of sz l h1 h2;simp only[ak] at h;subst h;obtain⟨Y,U⟩:=DQ ps l h2;refine ⟨by simp[Y],λj J I hj=>?_⟩;cases j with
   |zero=>simp at hj;obtain⟨rfl,rfl⟩:=hj;exact⟨of,sz,rfl,h1⟩
   |succ j=>simpa using U j J I (by simpa using hj)
  .cases h
theorem H0 (w:World):∀ (fs:List Field),(fs.all λf=>(fg P f.type).isSome)=ai->(fs.mapM (λf=>do pure (f.offset,<-sizeOf f.type)):Sem (List (Nat×Nat))).run P w= .ok (fs.map λf=>(f.offset,(fg P f.type).getD 0)) w
 |[],_=>by simp
 |f::fs,h=>by
  simp only[List.all_cons,av] at h;obtain⟨sz,hs⟩:=iK.1 h.1;have h1:=gr hs w;have I:=H0 w fs h.2;simp only[List.mapM_cons,eB,h1,cI,oI,I,gh,hs,uE]
theorem Wq {t:TypeId} {ps:Array (Nat×Operand)} {z:List Value} {ps':List (Nat×Nat×Operand)} (M:o.op= .build t ps) (hz:sO P t=af z) (hc:mr z=ai) (hps:wU P t ps.toList=af ps')
 (hu:(∃ fs,P.underlying t=af (.struct fs)/\(fs.toList.all λf=>(fg P f.type).isSome)=ai)\/∃ n el sz,P.underlying t=af (.array n el)/\fg P el=af sz) (I:eL (.build z ps') e h nx=af R):gK P o e.get h.get R.eff:=by
 simp only[eL] at I;split at I
 .rename_i cs hf;rw[dx I];refine gK.reads λφ E h' w a _ hp _=>?_
  obtain⟨v,h1,h2,_⟩:=tu hz w;have hcells:v.cells=z.toArray:=by rw[<- h2]
  obtain⟨g1,g2⟩:=DQ ps.toList ps' hps;have hops:∀ p∈ps.toList,p.2∈o.op.operands:=λp hp=>by
   rw[M];simp only[Op.operands,List.mem_toArray,dk];exact⟨p,hp,rfl⟩
  have hmap:(ps.map λx:Nat×Operand=>(x.1,a.eval x.2)).toList=ps.toList.map λp=>(p.1,a.eval p.2):=by simp
  have fin:∀ place:Nat->Option (Nat×Nat),(∀ i,Bf P t i≠ah->place i=Bf P t i)->∃ vs':List Value,Instr.fill place v.cells (ps.map λx:Nat×Operand=>(x.1,a.eval x.2)).toList=af vs'.toArray/\cL φ (tot E φ h') w (L3 cs) (.agg vs'.toArray):=by
   intro place hpl;obtain⟨vs',k1,k2⟩:=NT (place:=place) hp ps.toList ps' _ cs z g1 (λj i x hj=>by
    obtain⟨of,sz,Z,Y⟩:=g2 j i x hj;exact⟨of,sz,Z,by rw[hpl i (by rw[Y];simp),Y]⟩) hops (Cs.raws z hc) hf
   refine ⟨vs',by rw[hmap,hcells];exact k1,?_⟩;unfold L3;cases hfs:xx cs with
   |none=>exact .agg k2.1 k2.2.1 k2.2.2
   |some fs=>
    have he:=pG hfs;refine .f (.agg fs vs' (by rw[k2.1,he];simp) (λx J=>k2.2.1 (.f x) (by rw[he];exact dk.2 ⟨x,J,rfl⟩)) λj x u J hu=>?_);have:=k2.2.2 j (.f x) u (by rw[he,bc,J];rfl) hu;cases this with
    |f h=>exact h
  rcases hu with ⟨fs,hu,hall⟩|⟨n,el,sz,hu,hs⟩
  .obtain⟨vs',k1,k2⟩:=fin (λi=>(fs.map λf=>(f.offset,(fg P f.type).getD 0))[i]?) (λi hi=>by
    unfold Bf at hi ⊢;rw[hu] at hi ⊢;simp only[Array.getElem?_map] at hi ⊢;cases hf:fs[i]? with
    |none=>rw[hf] at hi;simp at hi
    |some f=>
     simp only[ca,aH];cases hs:fg P f.type with
     |none=>rw[hf] at hi;simp[hs] at hi
     |some sz=>simp)
   refine ⟨_,?_,k2⟩;have hm:=H0 w fs.toList hall;have U:(fs.mapM (λf=>do pure (f.offset,<-sizeOf f.type)):Sem (Array (Nat×Nat))).run P w= .ok (fs.map λf=>(f.offset,(fg P f.type).getD 0)) w:=by
    rw[Array.mapM_eq_mapM_toList];simp only[Sem.run_map,hm,cI];congr 1;apply Ko;simp
   unfold execOp;rw[M];simp only[Instr.build,eB,h1,cI,run_underlying hu,U,oI,k1]
  .obtain⟨vs',k1,k2⟩:=fin (λi=>af (i*sz,sz)) (λi hi=>by
    unfold Bf;rw[hu];simp[hs])
   refine ⟨_,?_,k2⟩;have h3:=gr hs w;unfold execOp;rw[M];simp only[Instr.build,eB,h1,cI,run_underlying hu,h3,oI,k1]
 .cases I
end
end
end Go.Proofs.YthehadcddfilhaaGreatDoor.AI
