/-
  Texts of the proof, part 3 of 6: what is used to prove the statement. No condition.
-/
import Derived.Test.YtgijlolllojpaaaGreatDoorShbFirstQ1
import Derived.KernelRfl
namespace Go.Proofs.YtgijlolllojpaaaGreatDoor.AI
open Go.RowKit
set_option maxRecDepth 100000
set_option maxHeartbeats 4000000
set_option linter.unusedVariables false
set_option linter.unusedSimpArgs false
open _root_.Bool renaming true→ai,false→aj
open _root_.Classical renaming propDecidable→yK
open _root_.Int renaming ofNat_eq_natCast→au,ofNat→aQ,toNat→aS,reduceEq→aZ,reduceNeg→bp,toNat_natCast→dx
open _root_.List renaming length→al,replicate→aG,length_cons→bZ,take→dA,length_singleton→dR,range→dT,cons_append→gr,length_nil→jY,nil_append→lP,foldl_cons→xh,getElem_of_mem→G2
open _root_.Nat renaming beq→aC,add_zero→dl
open _root_.Option renaming some→af,none→ah,map_some→b_,getD_some→uW
open _root_.Prod renaming p2→aV,p3→bh,p4→bw,q3→bL,p5→ct,q5→cN,q4→dc,p6→dQ,q6→eZ,p7→iU,q7→mq,q8→nF,p8→uV,p10→xd,p9→xf,p11→D9,q11→Lb,q9→Ny
open _root_.Sum renaming inr→bW
noncomputable section
def NE (op:Int):Prop:=op=1\/op=2\/op=3\/op=14
def ZE (e:Xp):Prop:=GE 4 e\/e= .mk 0 0 [] []
structure NO (nT:Nat) (s:Sx):Prop where
 o0:1<=s.op
 o1:s.op<=15
 vr:s.op=1->s.index=[]->s.name∈NV
 lk:s.op=4->s.name=[109]\/s.name=[110]
 rw:s.op=5\/s.op=6->s.name=[114]
 cn:s.op=9\/s.op=10\/s.op=11->s.name=[99]
 sp:s.op=12\/s.op=13->s.name∈v_.take nT
 se:s.op=14->s.name=[102]
 ge:s.op=15->s.name=[97]/\s.arg=[102]
 el:¬s.op=2->s.els=[]
 bo:s.op=1\/9<=s.op->s.body=[]
variable {nT:Nat}
def GS (nT:Nat):Nat->Sx->Prop
 |0,_=>False
 |d+1,s=>(s.index≠[]->s.name=[113])/\s.index.length<=1/\(∀ e∈s.index,GE 4 e)/\(NE s.op->GE 4 s.expr)/\ZE s.expr/\s.body.length<=8/\s.els.length<=8/\(∀ x∈s.body,GS nT d x)/\(∀ x∈s.els,GS nT d x)/\NO nT s
theorem GS.mono:∀ {d:Nat} {s:Sx},GS nT d s->GS nT (d+1) s
 |0,_,h=>h.elim
 |_+1,_,⟨a,b,c,e,f,g,i,j,k,l⟩=>⟨a,b,c,e,f,g,i,λx I=>(j x I).mono,λx I=>(k x I).mono,l⟩
theorem GS.le {d k:Nat} {s:Sx} (h:GS nT d s) (hk:d<=k):GS nT k s:=by
 induction hk with
 |refl=>exact h
 |step _ I=>exact I.mono
theorem NO.asg {s a:List UInt8} {e:Xp} {i:List Xp} (hs:i=[]->s∈NV):NO nT (.mk 1 0 s a i e [] []):=by
 constructor<;>simp[Sx.op,Sx.name,Sx.index,Sx.els,Sx.body];exact λh=>by simpa using hs h
theorem GS.asg {d:Nat} {s:List UInt8} (hs:s∈NV) {e:Xp} (h:GE 4 e):GS nT (d+1) (.mk 1 0 s [] [] e [] []):=
 ⟨λh=>(h rfl).elim,by simp[Sx.index],λe he=>(by cases he),λ_=>h,.inl h,by simp[Sx.body],by simp[Sx.els],λx I=>(by cases I),λx I=>(by cases I),NO.asg λ_=>hs⟩
theorem GS.aix {d:Nat} {i e:Xp} (hi:GE 4 i) (h:GE 4 e):GS nT (d+1) (.mk 1 0 [113] [] [i] e [] []):=
 ⟨λ_=>rfl,by simp[Sx.index],λe he=>(by simp only[Sx.index,aL] at he;rw[he];exact hi),λ_=>h,.inl h,by simp[Sx.body],by simp[Sx.els],λx I=>(by cases I),λx I=>(by cases I),NO.asg λh=>(by cases h)⟩
theorem GS.we {d:Nat} {op:Int} {s a:List UInt8} {e:Xp} {b l:List Sx} (h:GE 4 e) (hb:b.length<=8) (hl:l.length<=8) (I:∀ x∈b,GS nT d x) (gl:∀ x∈l,GS nT d x) (hn:NO nT (.mk op 0 s a [] e b l)):GS nT (d+1) (.mk op 0 s a [] e b l):=
 ⟨λh=>(h rfl).elim,by simp[Sx.index],λe he=>(by cases he),λ_=>h,.inl h,hb,hl,I,gl,hn⟩
theorem GS.wo {d:Nat} {op ln:Int} {s a:List UInt8} {b:List Sx} (M:4<=op/\op≠14) (hb:b.length<=8) (J:∀ x∈b,GS nT d x) (hn:NO nT (.mk op ln s a [] (.mk 0 0 [] []) b [])):GS nT (d+1) (.mk op ln s a [] (.mk 0 0 [] []) b []):=
 ⟨λh=>(h rfl).elim,by simp[Sx.index],λe he=>(by cases he),λh=>(by have h:op=1\/op=2\/op=3\/op=14:=h;omega),.inr rfl,hb,by simp[Sx.els],J,λx I=>(by cases I),hn⟩
def QS (nT:Nat) (d:Nat) (n:Int) (t:Py) (h:HD) (y:MK×Py×HD×List Sx):Prop:=(y.2.2.2.length:Int)<=max 0 n/\(∀ s∈y.2.2.2,GS nT (d+1) s)/\uT t y.2.1/\y.2.2.1.2=h.2
def QT (nT:Nat) (d:Nat) (t:Py) (h:HD) (y:Sx×MK×Py×HD):Prop:=GS nT (d+1) y.1/\uT t y.2.2.1/\y.2.2.2.2=h.2
def QB (nT:Nat) (d:Nat) (t:Py) (h:HD) (y:List Sx×MK×Py×HD):Prop:=y.1.length<=2/\(∀ s∈y.1,GS nT (d+1) s)/\uT t y.2.2.1/\y.2.2.2.2=h.2
abbrev RS:Type:=((Int×Int)×MK×Py×HD)->Option (MK×Py×HD×List Sx)
abbrev RT:Type:=(Int×MK×Py×HD)->Option (Sx×MK×Py×HD)
abbrev RBk:Type:=((List UInt8×Int)×MK×Py×HD)->Option (List Sx×MK×Py×HD)
def SpS (nT:Nat) (rs:RS) (d:Nat):Prop:=∀ (n:Int) (m:MK) (t:Py) (h:HD),n<=3->TP t->h.2.length+d<=100->Ok (rs (((d:Int),n),m,t,h)) (QS nT d n t h)
def SpT (nT:Nat) (I:RT) (d:Nat):Prop:=∀ (m:MK) (t:Py) (h:HD),TP t->h.2.length+d<=100->Ok (I ((d:Int),m,t,h)) (QT nT d t h)
def SpB (nT:Nat) (I:RBk) (d:Nat):Prop:=∀ (s:List UInt8) (m:MK) (t:Py) (h:HD),TP t->h.2.length+1+d<=100->Ok (I ((s,(d:Int)),m,t,h)) (QB nT d t h)
theorem Yj (rs:RS) (M:RT) (rb:RBk) (d:Nat) (ht:SpT nT M d):SpS nT (mA rs M rb) d:=by
 intro n m t h hn hp hh;unfold mA aV bh bw bL dc cN bd bB bF cK aF cC ep;refine qc (λx=>(n-x.1).toNat) (λx=>0<=x.1/\(x.1<=n\/x.1=0)/\uT t x.2.2.1/\(x.2.2.2.1.length:Int)<=x.1/\(∀ s∈x.2.2.2.1,GS nT (d+1) s)/\x.2.2.2.2.2=h.2) ?_ ⟨eD _,.inr rfl,uT.refl hp,by simp,λs hs=>(by cases hs),rfl⟩;rintro⟨(i:Int),m',t',l,h'⟩ ⟨i0,i1,e1,e2,e3,J⟩;dsimp only at i0 i1 e1 e2 e3 J;refine aX (λx=>x.2=(m',t',l,h')/\(x.1=ai->i<n)) ?_ ?_
 .refine bK (λg=>aK (λ_=>ar ⟨rfl,λ_=>g⟩) λ_=>ar ⟨rfl,λ_=>g⟩) λ_=>ar ⟨rfl,λh=>(by cases h)⟩
 rintro⟨b,x⟩ ⟨Z,Y⟩;dsimp only at Z Y;subst Z;refine aP (λhb=>?_) λ_=>ar ⟨by dsimp only;omega,e3,e1,J⟩
 have g:=Y hb;refine ay (ht m' t' h' e1.p (by rw[J];exact hh)) λy hy=>?_
 obtain⟨s,m2,t2,h2⟩:=y;obtain⟨k1,k2,U⟩:=hy;dsimp only at k1 k2 U;refine be (by simp) (bi (by simp;omega) (by omega) (ar ?_));dsimp only;rw[fm,yV,io (n:=i+1) (by omega) (by omega)];refine ⟨⟨by omega,by omega,e1.trans k2,by simp;omega,λx I=>?_,U.trans J⟩,by omega⟩;rcases bQ.1 I with I|I
 .exact e3 x I
 .rw[aL] at I;subst I;exact k1
theorem Ym (rs:RS) (rt:RT) (rb:RBk) (d:Nat) (hs:SpS nT rs d):SpB nT (mB rs rt rb) d:=by
 intro s m t h hp hh;unfold mB aV bh bL dc bF aY;refine bi (by simp;omega) (by omega) ?_;refine ay (gp 2 t hp) λy M=>?_
 obtain⟨k,t1⟩:=y;obtain⟨J,Z,I,_⟩:=M;have I:=I (by decide);dsimp only at J Z I;have ew:bn .i64 (1+k)=1+k:=io (by omega) (by omega);dsimp only;rw[ew];refine ay (hs (1+k) m t1 (h.1,h.2++[s]) (by omega) J.p (by simp;omega)) λy M=>?_
 obtain⟨m2,t2,h2,l⟩:=y;obtain⟨k1,k2,Y,U⟩:=M;dsimp only at k1 k2 Y U;refine be (by simp) ?_;dsimp only;rw[U];have el:bn .i64 ((aQ (h.2++[s]).length)-1)=(h.2.length:Int):=by
  rw[bm,dR,io (by simp<;>omega) (by simp<;>omega)];simp<;>omega
 rw[el];refine cW (dv (by omega) (Ak (by simp;omega) (ar ?_)));refine ⟨by dsimp only;omega,k2,J.trans Y,?_⟩;show dA (aS (h.2.length:Int)) (h.2++[s])=h.2;simp
theorem C6 (s:List UInt8) (m:MK) (t:Py) (h:HD) (hh:h.2.length<=100):Ok (eS (s,m,t,h)) λy=>y.2=(m,t,h):=by
 unfold eS dc;exact ay (yI h.2 s (by omega)) λy _=>ar rfl
theorem ab6 (rs:RS) (rt:RT) (rb:RBk) (d:Nat) (hd:d<=5) (h0:1<=d->SpS nT rs 0) (hS:1<=d->SpS nT rs (d-1)) (hB:1<=d->SpB nT rb (d-1)):SpT nT (nV rs rt rb) d:=by
 intro m t h hp hh;unfold nV aV bh bw bL dc cN bd bB bF kF aF ep;refine ay (gp 18 t hp) λy J=>?_
 obtain⟨k,t1⟩:=y;obtain⟨s1,k0,k1,_⟩:=J;have k1:=k1 (by decide);dsimp only at s1 k0 k1;have hE:∀ (j:Nat) (m':MK) (t':Py) (h':HD),j<=1->TP t'->Ok (fg ((j:Int),m',t',h')) λy=>GE 4 y.1/\y.2.1=m'/\uT t' y.2.2.1/\y.2.2.2=h':=λj m' t' h' hj ht'=>(aad j (by omega) m' t' h' ht').mono λy J=>⟨J.1.le (by omega),J.2⟩
 have ed:bn .i64 ((d:Int)-1)=(d:Int)-1:=io (by omega) (by omega);have ed1:1<=d->(d:Int)-1=((d-1:Nat):Int):=λ_=>by omega
 refine aX (λx=>x.2=((m.1,bn .i64 (m.2.1-1),m.2.2),t1,(0,0,[],[],0,0,[]),h)/\(x.1=ai->1<=d)) ?_ ?_
 .refine bK (λg=>aT (bK (λ_=>ar ⟨rfl,λ_=>?_⟩) λ_=>ar ⟨rfl,λh=>(by cases h)⟩)) λ_=>ar ⟨rfl,λh=>(by cases h)⟩
  dsimp only at g;omega
 generalize ((m.1,bn .i64 (m.2.1-1),m.2.2):MK)=m0;rintro⟨nest,x⟩ ⟨e,hn⟩;dsimp only at e hn;subst e;refine bK (λ_=>?_) λg4=>?_
 .refine aR k0 (by dsimp only[al];omega) (aR k0 (by dsimp only[al];omega) (aT ?_));refine ay (hE 1 m0 t1 h (by omega) s1.p) λy J=>?_
  obtain⟨e,m2,t2,h2⟩:=y;obtain⟨v1,v2,v3,v4⟩:=J;dsimp only at v1 v2 v3 v4;subst v2;subst v4;refine be (by simp) (aU (t7 _ _) (ar ?_));dsimp only;rw[fm,yV];have hnv:∀ z∈([[120],[121],[120],[118]]:List (List UInt8)),z∈NV:=by decide
  exact⟨GS.asg (hnv _ (bH (T:=.str) k0 (by dsimp only[al];omega))) v1,s1.trans v3,rfl⟩
 dsimp only at g4;refine aK (λ_=>?_) λg5=>?_
 .refine ay (gp 2 t1 s1.p) λy J=>?_
  obtain⟨u1,u2,u3,_⟩:=J;have u3:=u3 (by decide);refine aR u2 u3 (aR u2 u3 (aT ?_));refine ay (hE 1 m0 y.2 h (by omega) u1.p) λz U=>?_
  obtain⟨e,m2,t2,h2⟩:=z;obtain⟨v1,v2,v3,v4⟩:=U;dsimp only at v1 v2 v3 v4;subst v2;subst v4;refine be (by simp) (aU (t7 _ _) (ar ?_));dsimp only;rw[fm,yV];have hnv:∀ z∈([[97],[98]]:List (List UInt8)),z∈NV:=by decide
  exact⟨GS.asg (hnv _ (bH (T:=.str) u2 u3)) v1,s1.trans (u1.trans v3),rfl⟩
 dsimp only at g5;refine aK (λ_=>?_) λg6=>?_
 .refine ay (hE 0 m0 t1 h (by omega) s1.p) λz U=>?_
  obtain⟨e,m2,t2,h2⟩:=z;obtain⟨v1,v2,v3,v4⟩:=U;dsimp only at v1 v2 v3 v4;subst v2;subst v4;refine be (by simp) ?_;refine ay (hE 1 m2 t2 h2 (by omega) v3.p) λz U=>?_
  obtain⟨e',m3,t3,h3⟩:=z;obtain⟨w1,Z,w3,w4⟩:=U;dsimp only at w1 Z w3 w4;subst Z;subst w4;refine be (by simp) (ar ?_);dsimp only;rw[fm,fm];exact⟨GS.aix v1 w1,s1.trans (v3.trans w3),rfl⟩
 dsimp only at g6;have U:∀ (c:Prop),c->c:=λ_ h=>h
 have dd:1<=d->d-1+1=d:=λ_=>by omega
 have w8:8<=k->bn .i64 (k-8)=k-8:=λ_=>io (by omega) (by omega)
 refine aX (λx=>x.2=(m0,t1,(0,0,[],[],0,0,[]),h)/\(x.1=ai->1<=d)) ?_ ?_
 .refine aK (λ_=>ar ⟨rfl,λg=>?_⟩) λ_=>ar ⟨rfl,λh=>(by cases h)⟩
  dsimp only at g;rw[tL] at g;omega
 rintro⟨b,x⟩ ⟨e,hb⟩;dsimp only at e hb;subst e;refine aP (λI=>?_) λ_=>?_
 .have M:=hb I;refine ay (hE 1 m0 t1 h (by omega) s1.p) λz U=>?_
  obtain⟨e,m2,t2,h2⟩:=z;obtain⟨v1,v2,v3,v4⟩:=U;dsimp only at v1 v2 v3 v4;subst v2;subst v4;refine be (by simp) ?_;dsimp only;rw[ed,ed1 M];refine ay (hS M 1 m2 t2 h2 (by omega) v3.p (by omega)) λz U=>?_
  obtain⟨m3,t3,h3,l⟩:=z;obtain⟨w1,Z,w3,w4⟩:=U;dsimp only at w1 Z w3 w4;rw[dd M] at Z;refine be (by simp) ?_;refine aX (λx=>x.2.2.2.1=(2,0,[],[],e.op,e.n,e.name,e.l)/\uT t1 x.2.1/\x.2.2.2.2.1.2=h2.2/\x.2.2.2.2.2.1=l/\x.2.2.2.2.2.2.length<=8/\∀ s∈x.2.2.2.2.2.2,GS nT d s) ?_ ?_
  .refine ay (gp 2 t3 w3.p) λy J=>?_
   refine aK (λ_=>?_) λ_=>ar ⟨rfl,v3.trans (w3.trans J.1),w4,rfl,by simp,λs hs=>(by cases hs)⟩
   dsimp only;refine ay (hS M 1 m3 y.2 h3 (by omega) J.1.p (by rw[w4];omega)) λz U=>?_
   obtain⟨m4,t4,h4,l2⟩:=z;obtain⟨x1,x2,x3,x4⟩:=U;dsimp only at x1 x2 x3 x4;rw[dd M] at x2;exact be (by simp) (ar ⟨rfl,v3.trans (w3.trans (J.1.trans x3)),x4.trans w4,rfl,by dsimp only;omega,x2⟩)
  rintro⟨m5,t5,z5,e5,h5,l5,l6⟩ ⟨x1,x2,x3,x4,x5,x6⟩;dsimp only at x1 x2 x3 x4 x5 x6;subst x1;subst x4;refine ar ?_;dsimp only;rw[fm];exact⟨GS.we v1 (by first|omega|(dsimp only;omega)) x5 Z x6 (by constructor<;>simp[Sx.op,Sx.name,Sx.index,Sx.arg,Sx.els,Sx.body]),s1.trans x2,x3⟩
 refine aX (λx=>x.2=(m0,t1,(0,0,[],[],0,0,[]),h)/\(x.1=ai->1<=d)) ?_ ?_
 .refine aK (λ_=>ar ⟨rfl,λg=>?_⟩) λ_=>ar ⟨rfl,λh=>(by cases h)⟩
  dsimp only at g;rw[tL] at g;omega
 rintro⟨b,x⟩ ⟨e,hb⟩;dsimp only at e hb;subst e;refine aP (λI=>?_) λ_=>?_
 .have M:=hb I;refine aU (HP _) (aU (N' _) (aU (Fr _ _ _) ?_));dsimp only;rw[ed,ed1 M];refine ay (hS M 1 _ t1 h (by omega) s1.p (by omega)) λz U=>?_
  obtain⟨m3,t3,h3,l⟩:=z;obtain⟨w1,Z,w3,w4⟩:=U;dsimp only at w1 Z w3 w4;rw[dd M] at Z;refine be (by simp) ?_;refine aU (HP _) (aU (N' _) (aU (Fr _ _ _) (aU (t7 _ _) ?_)));refine bi (by simp;omega) (by omega) (ar ?_);dsimp only;rw[fm,fm,yV];refine ⟨GS.we (GE.bin (by omega) (GE.nm (by decide) 2) (GE.num _ 2)) (by simp;omega) (by simp) (λx Y=>?_) (λx Y=>(by cases Y)) (by constructor<;>simp[Sx.op,Sx.name,Sx.index,Sx.arg,Sx.els,Sx.body]),s1.trans w3,w4⟩;rcases bQ.1 Y with Y|Y
  .exact Z x Y
  .rw[aL] at Y;subst Y;rw[<- dd M];exact GS.asg (by decide) (GE.bin (by omega) (GE.nm (by decide) 2) (GE.num _ 2))
 refine aX (λx=>x.2=(m0,t1,(0,0,[],[],0,0,[]),h)/\(x.1=ai->nest=ai/\(k=8\/k=9))) ?_ ?_
 .refine aK (λg=>aP (λgn=>?_) λ_=>ar ⟨rfl,λh=>(by cases h)⟩) λ_=>aK (λg=>aP (λgn=>?_) λ_=>ar ⟨rfl,λh=>(by cases h)⟩) λ_=>ar ⟨rfl,λh=>(by cases h)⟩
  all_goals
   dsimp only at g ⊢;rw[w8 (by omega)];refine aR (by omega) (by simp;omega) (aR (by omega) (by simp;omega) (aT ?_));refine ay (C6 _ m0 t1 h (by omega)) λy J=>?_
   obtain⟨yb,y2⟩:=y;dsimp only at J;subst J;exact be (by simp) (ar ⟨rfl,λ_=>⟨gn,by omega⟩⟩)
 rintro⟨b,x⟩ ⟨e,hb⟩;dsimp only at e hb;subst e;refine aP (λI=>?_) λ_=>?_
 .obtain⟨q1,q2⟩:=hb I;have M:=hn q1;have hnm:aJ (T:=.str) [[109],[110]] (k-8)=[109]\/aJ (T:=.str) [[109],[110]] (k-8)=[110]:=by rcases q2 with rfl|rfl<;>simp[aJ]
  dsimp only;rw[w8 (by omega),ed,ed1 M];refine aR (by omega) (by simp;omega) (aR (by omega) (by simp;omega) (aT ?_));refine ay (hB M _ m0 t1 h s1.p (by omega)) λz U=>?_
  obtain⟨l,m3,t3,h3⟩:=z;obtain⟨w1,Z,w3,w4⟩:=U;dsimp only at w1 Z w3 w4;rw[dd M] at Z;exact be (by simp) (ar ⟨GS.wo (by omega) (by first|omega|(dsimp only;omega)) Z (by constructor<;>simp[Sx.op,Sx.name,Sx.index,Sx.arg,Sx.els,Sx.body];exact hnm),s1.trans w3,w4⟩)
 refine aX (λx=>x.2=(m0,t1,(0,0,[],[],0,0,[]),h)/\(x.1=ai->nest=ai/\(k=10\/k=11))) ?_ ?_
 .refine aK (λg=>aP (λgn=>?_) λ_=>ar ⟨rfl,λh=>(by cases h)⟩) λ_=>aK (λg=>aP (λgn=>?_) λ_=>ar ⟨rfl,λh=>(by cases h)⟩) λ_=>ar ⟨rfl,λh=>(by cases h)⟩
  all_goals
   dsimp only at g ⊢;refine ay (C6 _ m0 t1 h (by omega)) λy J=>?_
   obtain⟨yb,y2⟩:=y;dsimp only at J;subst J;exact be (by simp) (ar ⟨rfl,λ_=>⟨gn,by omega⟩⟩)
 rintro⟨b,x⟩ ⟨e,hb⟩;dsimp only at e hb;subst e;refine aP (λI=>?_) λ_=>?_
 .obtain⟨q1,q2⟩:=hb I;have M:=hn q1;dsimp only;rw[ed,ed1 M,io (n:=k-10) (by omega) (by omega),io (n:=k-10+5) (by omega) (by omega)];refine ay (hB M _ m0 t1 h s1.p (by omega)) λz U=>?_
  obtain⟨l,m3,t3,h3⟩:=z;obtain⟨w1,Z,w3,w4⟩:=U;dsimp only at w1 Z w3 w4;rw[dd M] at Z;exact be (by simp) (ar ⟨GS.wo (by omega) (by first|omega|(dsimp only;omega)) Z (by constructor<;>simp[Sx.op,Sx.name,Sx.index,Sx.arg,Sx.els,Sx.body]<;>omega),s1.trans w3,w4⟩)
 refine aX (λx=>x.2=(m0,t1,(0,0,[],[],0,0,[]),h)/\(x.1=ai->nest=ai)) ?_ ?_
 .exact aK (λ_=>ar ⟨rfl,λg=>g⟩) λ_=>ar ⟨rfl,λh=>(by cases h)⟩
 rintro⟨b,x⟩ ⟨e,hb⟩;dsimp only at e hb;subst e;refine aP (λI=>?_) λ_=>?_
 .have M:=hn (hb I);refine ay (gp 2 t1 s1.p) λy J=>?_
  obtain⟨u1,u2,u3,_⟩:=J;have u3:=u3 (by decide);dsimp only;rw[io (n:=1+y.1) (by omega) (by omega)];refine ay (h0 M (1+y.1) _ y.2 h (by omega) u1.p (by omega)) λz U=>?_
  obtain⟨m3,t3,h3,l⟩:=z;obtain⟨w1,Z,w3,w4⟩:=U;dsimp only at w1 Z w3 w4;exact be (by simp) (ar ⟨GS.wo (by omega) (by first|omega|(dsimp only;omega)) (λx Y=>(Z x Y).le (by omega)) (by constructor<;>simp[Sx.op,Sx.name,Sx.index,Sx.arg,Sx.els,Sx.body]),s1.trans (u1.trans w3),w4⟩)
 refine aX (λx=>x.2=(m0,t1,(0,0,[],[],0,0,[]),h)/\(x.1=ai->nest=ai)) ?_ ?_
 .exact aK (λ_=>aP (λgn=>ar ⟨rfl,λ_=>gn⟩) λ_=>ar ⟨rfl,λh=>(by cases h)⟩) λ_=>ar ⟨rfl,λh=>(by cases h)⟩
 rintro⟨b,x⟩ ⟨e,hb⟩;dsimp only at e hb;subst e;refine aP (λI=>?_) λ_=>?_
 .have M:=hn (hb I);dsimp only;rw[ed,ed1 M];refine ay (hS M 2 _ t1 h (by omega) s1.p (by omega)) λz U=>?_
  obtain⟨m3,t3,h3,l⟩:=z;obtain⟨w1,Z,w3,w4⟩:=U;dsimp only at w1 Z w3 w4;rw[dd M] at Z;exact be (by simp) (ar ⟨GS.wo (by omega) (by first|omega|(dsimp only;omega)) Z (by constructor<;>simp[Sx.op,Sx.name,Sx.index,Sx.arg,Sx.els,Sx.body]),s1.trans w3,w4⟩)
 refine aX (λx=>x.2=(m0,t1,(0,0,[],[],0,0,[]),h)/\(x.1=ai->nest=ai)) ?_ ?_
 .refine aK (λ_=>aP (λgn=>aP (λ_=>?_) λ_=>ar ⟨rfl,λh=>(by cases h)⟩) λ_=>ar ⟨rfl,λh=>(by cases h)⟩) λ_=>ar ⟨rfl,λh=>(by cases h)⟩
  refine ay (C6 _ m0 t1 h (by omega)) λy J=>?_
  obtain⟨yb,y2⟩:=y;dsimp only at J;subst J;exact be (by simp) (ar ⟨rfl,λ_=>gn⟩)
 rintro⟨b,x⟩ ⟨e,hb⟩;dsimp only at e hb;subst e;refine aP (λI=>?_) λ_=>?_
 .have M:=hn (hb I);refine aU (HP _) (aU (t7 _ _) (ar ?_));dsimp only;rw[fm,yV];refine ⟨GS.wo (by omega) (by simp) (λx Y=>?_) (by constructor<;>simp[Sx.op,Sx.name,Sx.index,Sx.arg,Sx.els,Sx.body]),s1,rfl⟩;simp only[bl,cw,gf] at Y;rw[<- dd M];rcases Y with rfl|rfl
  .exact GS.wo (by omega) (by simp) (λx Y=>(by cases Y)) (by constructor<;>simp[Sx.op,Sx.name,Sx.index,Sx.arg,Sx.els,Sx.body])
  .exact GS.asg (by decide) (GE.nm (by decide) 3)
 refine aX (λx=>x.2=(m0,t1,(0,0,[],[],0,0,[]),h)/\(x.1=ai->nest=ai)) ?_ ?_
 .refine aK (λ_=>aP (λgn=>?_) λ_=>ar ⟨rfl,λh=>(by cases h)⟩) λ_=>ar ⟨rfl,λh=>(by cases h)⟩
  refine ay (C6 _ m0 t1 h (by omega)) λy J=>?_
  obtain⟨yb,y2⟩:=y;dsimp only at J;subst J;exact be (by simp) (ar ⟨rfl,λ_=>gn⟩)
 rintro⟨b,x⟩ ⟨e,hb⟩;dsimp only at e hb;subst e;refine aP (λI=>?_) λ_=>?_
 .have M:=hn (hb I);refine ay (gp 2 t1 s1.p) λy J=>ar ?_
  obtain⟨u1,u2,u3,_⟩:=J;have u3:=u3 (by decide);dsimp only;rw[io (n:=10+y.1) (by omega) (by omega)];refine ⟨GS.wo (by omega) (by simp) (λx Y=>?_) (by constructor<;>simp[Sx.op,Sx.name,Sx.index,Sx.arg,Sx.els,Sx.body]),s1.trans u1,rfl⟩;simp only[bl,cw,gf] at Y;rw[Y,<-dd M];exact GS.wo (by omega) (by simp) (λx Y=>(by cases Y)) (by constructor<;>simp[Sx.op,Sx.name,Sx.index,Sx.arg,Sx.els,Sx.body]<;>omega)
 refine aX (λx=>x.2=(m0,t1,(0,0,[],[],0,0,[]),h)) ?_ ?_
 .exact aK (λ_=>aP (λ_=>aP (λ_=>ar rfl) λ_=>ar rfl) λ_=>ar rfl) λ_=>ar rfl
 rintro⟨b,x⟩ e;dsimp only at e;subst e;refine aP (λI=>?_) λ_=>?_
 .refine ay (hE 1 _ t1 h (by omega) s1.p) λz U=>?_
  obtain⟨e,m2,t2,h2⟩:=z;obtain⟨v1,v2,v3,v4⟩:=U;dsimp only at v1 v2 v3 v4;subst v2;subst v4;refine be (by simp) (ar ?_);dsimp only;rw[fm];exact⟨GS.we v1 (by simp) (by simp) (λx Y=>(by cases Y)) (λx Y=>(by cases Y)) (by constructor<;>simp[Sx.op,Sx.name,Sx.index,Sx.arg,Sx.els,Sx.body]),s1.trans v3,rfl⟩
 refine aX (λx=>x.2.1=m0/\uT t1 x.2.2.1/\x.2.2.2.2=h) ?_ ?_
 .refine aK (λ_=>aP (λ_=>?_) λ_=>ar ⟨rfl,uT.refl s1.p,rfl⟩) λ_=>ar ⟨rfl,uT.refl s1.p,rfl⟩
  exact ay (gp 2 t1 s1.p) λy J=>ar ⟨rfl,J.1,rfl⟩
 rintro⟨b,m9,t9,z9,h9⟩ ⟨e1,e2,e3⟩;dsimp only at e1 e2 e3;subst e1;subst e3;refine aP (λI=>?_) λ_=>?_
 .exact ar ⟨GS.wo (by omega) (by simp) (λx Y=>(by cases Y)) (by constructor<;>simp[Sx.op,Sx.name,Sx.index,Sx.arg,Sx.els,Sx.body]),s1.trans e2,rfl⟩
 refine ay (hE 1 _ t9 h9 (by omega) e2.p) λz U=>?_
 obtain⟨e,m2,t2,h2⟩:=z;obtain⟨v1,v2,v3,v4⟩:=U;dsimp only at v1 v2 v3 v4;subst v2;subst v4;refine be (by simp) (aU (t7 _ _) (ar ?_));dsimp only;rw[fm,yV];exact⟨GS.asg (by decide) v1,s1.trans (e2.trans v3),rfl⟩
theorem MS:∀ (n:Nat),(∀ d:Nat,d<=5->3*d+1<=n->SpT nT (eL n) d)/\(∀ d:Nat,d<=5->3*d+2<=n->SpS nT (dH n) d)/\(∀ d:Nat,d<=5->3*d+3<=n->SpB nT (dZ n) d)
 |0=>⟨λd _ h=>by omega,λd _ h=>by omega,λd _ h=>by omega⟩
 |n+1=>by
  obtain⟨J,I,M⟩:=MS n;refine ⟨λd h1 h2=>?_,λd h1 h2=>?_,λd h1 h2=>?_⟩
  .exact ab6 (dH n) (eL n) (dZ n) d h1 (λh=>I 0 (by omega) (by omega)) (λh=>I (d-1) (by omega) (by omega)) (λh=>M (d-1) (by omega) (by omega))
  .exact Yj (dH n) (eL n) (dZ n) d (J d h1 (by omega))
  .exact Ym (dH n) (eL n) (dZ n) d (I d h1 (by omega))
theorem X1 (d:Nat) (hd:d<=5):SpS nT qr d:=(MS fuel).2.1 d hd (by rw[jV];omega)
def GX:Nat->Xp->Prop
 |0,_=>False
 |d+1,e=>e.l.length<=2/\∀ x∈e.l,GX d x
theorem GE.x:∀ {d:Nat} {e:Xp},GE d e->GX d e
 |0,_,h=>h.elim
 |_+1,_,h=>⟨h.2.2.1,λx I=>(h.2.2.2.1 x I).x⟩
theorem ZE.x {e:Xp} (h:ZE e):GX 4 e:=by
 rcases h with h|rfl
 .exact h.x
 .exact⟨by simp[Xp.l],λx I=>(by cases I)⟩
def GT:Nat->Sx->Prop
 |0,_=>False
 |d+1,s=>s.index.length<=1/\(∀ e∈s.index,GX 4 e)/\GX 4 s.expr/\s.body.length<=8/\s.els.length<=8/\(∀ x∈s.body,GT d x)/\(∀ x∈s.els,GT d x)
theorem GS.t {nT:Nat}:∀ {d:Nat} {s:Sx},GS nT d s->GT d s
 |0,_,h=>h.elim
 |_+1,_,⟨_,b,c,_,f,g,i,j,k,_⟩=>⟨b,λe he=>(c e he).x,f.x,g,i,λx I=>(j x I).t,λx I=>(k x I).t⟩
theorem yc (s:Sx):nO (Sx.op s,Sx.line s,Sx.name s,Sx.arg s,Sx.index s,eh (Xp.op (Sx.expr s),Xp.n (Sx.expr s),Xp.name (Sx.expr s),Xp.l (Sx.expr s)),Sx.body s,Sx.els s)=s:=by
 rw[fm,yV]
theorem S7 (k:Int):Ok (mi k) λ_=>True:=by
 unfold mi bd jZ aF;with_reducible repeat' first|(refine OS.ok ?_;constructor)|refine IM.mk λ_=>?_
 all_goals trivial
theorem qJ (e:Xp):Ok (po e) λ_=>True:=by
 unfold po bd aF;with_reducible repeat' first|(refine OS.ok ?_;constructor)|refine IM.mk λ_=>?_
 all_goals trivial
theorem zE:∀ (n d:Nat) (e:Xp),d<n->GX d e->Ok (ib n e) λ_=>True
 |0,_,_,h,_=>by omega
 |n+1,0,_,_,h=>h.elim
 |n+1,d+1,e,hn,h=>by
  obtain⟨h1,h2⟩:=h;rw[sB];unfold l8 bd bB iF bI cK aF cC;refine aX (λx=>x.2=e) (aK (λ_=>ar (fm e)) λ_=>ar (fm e)) ?_;rintro⟨b,x⟩ J;dsimp only at J;subst J;refine aX (λy=>y.2=x) ?_ ?_
  .refine ay (S7 _) λ_ _=>?_
   with_reducible repeat' first|refine b8 (λ_=>?_) λ_=>?_|refine bK (λ_=>?_) λ_=>?_|refine dS (λ_=>?_) λ_=>?_|refine aP (λ_=>?_) λ_=>?_|exact ar (fm x)|refine ay (iB _) λ_ _=>?_
  rintro⟨M,y⟩ I;dsimp only at I;subst I;refine aP (λ_=>ar trivial) λ_=>?_
  refine cr y.l.length (λi x=>x.1=(i:Int)/\x.2=y) ?_ ?_ ⟨rfl,fm y⟩
  .rintro i ⟨a,z⟩ hi ⟨e1,e2⟩;dsimp only at e1 e2;subst e1;subst e2;refine dg ?_;refine cE (aT ?_);refine ay (zE n d _ (by omega) (h2 _ (bH (T:=.ex) (xs:=z.l) (j:=(i:Int)) (by omega) (by omega)))) λ_ _=>?_
   refine dS (λ_=>ar trivial) λ_=>ar ?_
   dsimp only;exact⟨gM (by omega),fm z⟩
  .rintro⟨a,z⟩ ⟨e1,e2⟩;dsimp only at e1 e2;subst e1;subst e2;exact db (ar trivial)
theorem gi (e:Xp) (h:GX 4 e):Ok (jf e) λ_=>True:=zE fuel 4 e (by rw[jV];omega) h
theorem Ln (d:Int×Int×List UInt8×Int×Int×List UInt8):Ok (j_ d) λ_=>True:=by
 unfold j_ aV bh ct eZ bd bB iF aF;refine aX (λ_=>True) ?_ λx _=>aP (λ_=>ar trivial) λ_=>?_
 .with_reducible repeat' first|refine b8 (λ_=>?_) λ_=>?_|refine bK (λ_=>?_) λ_=>?_|refine dS (λ_=>?_) λ_=>?_|exact ar trivial|refine ay (iB _) λ_ _=>?_
 refine aX (λ_=>True) ?_ λx _=>aP (λ_=>ar trivial) λ_=>?_
 .with_reducible repeat' first|refine b8 (λ_=>?_) λ_=>?_|refine aK (λ_=>?_) λ_=>?_|refine dS (λ_=>?_) λ_=>?_|exact ar trivial|refine ay (iB _) λ_ _=>?_
 with_reducible repeat' first|(refine OS.ok ?_;constructor)|refine IM.mk λ_=>?_
 all_goals trivial
theorem Hh (I:Sx->Option Bool) (rs:List Sx->Option Bool) (l:List Sx) (hl:l.length<=1000) (h:∀ s∈l,Ok (I s) λ_=>True):Ok (jB I rs l) λ_=>True:=by
 unfold jB bB v9 aY cK aF cC;refine cr l.length (λi x=>x=(i:Int)) ?_ ?_ rfl
 .rintro i x hi rfl;refine dg ?_;refine cE ?_;refine ay (h _ (bH (T:=.sm) (xs:=l) (j:=(i:Int)) (by omega) (by omega))) λ_ _=>?_
  exact dS (λ_=>ar trivial) λ_=>ar (gM (by omega))
 .rintro x rfl;exact db (ar trivial)
theorem Jq (J:Sx->Option Bool) (rs:List Sx->Option Bool) (s:Sx) (h1:∀ e∈s.index,GX 4 e) (h2:GX 4 s.expr) (hb:Ok (rs s.body) λ_=>True) (he:Ok (rs s.els) λ_=>True):Ok (kg J rs s) λ_=>True:=by
 unfold kg bd bB jZ iF bI aF ep;refine aX (λx=>x.2=s) ?_ ?_
 .with_reducible repeat' first|refine b8 (λ_=>?_) λ_=>?_|refine aK (λ_=>?_) λ_=>?_|refine bK (λ_=>?_) λ_=>?_|refine gg (λ_=>?_) λ_=>?_|refine dS (λ_=>?_) λ_=>?_|refine aP (λ_=>?_) λ_=>?_|exact ar (yc _)|refine ay (iB _) λ_ _=>?_|refine ay (qJ _) λ_ _=>?_|refine ay (gi _ h2x) λ_ _=>?_
 rintro⟨b,x⟩ I;dsimp only at I;have I:=I.symm;subst I;refine aP (λ_=>ar trivial) λ_=>?_
 refine aX (λx=>x.2=s) ?_ ?_
 .with_reducible repeat' first|refine b8 (λ_=>?_) λ_=>?_|refine aK (λ_=>?_) λ_=>?_|refine bK (λ_=>?_) λ_=>?_|refine gg (λ_=>?_) λ_=>?_|refine dS (λ_=>?_) λ_=>?_|refine aP (λ_=>?_) λ_=>?_|exact ar (yc _)|refine ay (iB _) λ_ _=>?_|refine ay (qJ _) λ_ _=>?_|refine ay (gi _ h2x) λ_ _=>?_
 rintro⟨b,x⟩ I;dsimp only at I;have I:=I.symm;subst I;refine aX (λx=>x.2=s) ?_ ?_
 .with_reducible repeat' first|refine b8 (λ_=>?_) λ_=>?_|refine aK (λ_=>?_) λ_=>?_|refine bK (λ_=>?_) λ_=>?_|refine gg (λ_=>?_) λ_=>?_|refine dS (λ_=>?_) λ_=>?_|refine aP (λ_=>?_) λ_=>?_|exact ar (yc _)|refine ay (iB _) λ_ _=>?_|refine ay (qJ _) λ_ _=>?_|refine ay (gi _ h2x) λ_ _=>?_
 rintro⟨b,x⟩ I;dsimp only at I;have I:=I.symm;subst I;refine aP (λ_=>ar trivial) λ_=>?_
 refine aX (λx=>x.2=s) ?_ ?_
 .with_reducible repeat' first|refine b8 (λ_=>?_) λ_=>?_|refine aK (λ_=>?_) λ_=>?_|refine bK (λ_=>?_) λ_=>?_|refine gg (λ_=>?_) λ_=>?_|refine dS (λ_=>?_) λ_=>?_|refine aP (λ_=>?_) λ_=>?_|exact ar (yc _)|refine ay (iB _) λ_ _=>?_|refine ay (qJ _) λ_ _=>?_|refine ay (gi _ h2x) λ_ _=>?_
 rintro⟨b,x⟩ I;dsimp only at I;have I:=I.symm;subst I;refine aP (λ_=>ar trivial) λ_=>?_
 refine aX (λx=>x.2=s) ?_ ?_
 .with_reducible repeat' first|refine b8 (λ_=>?_) λ_=>?_|refine aK (λ_=>?_) λ_=>?_|refine bK (λ_=>?_) λ_=>?_|refine gg (λ_=>?_) λ_=>?_|refine dS (λ_=>?_) λ_=>?_|refine aP (λ_=>?_) λ_=>?_|exact ar (yc _)|refine ay (iB _) λ_ _=>?_|refine ay (qJ _) λ_ _=>?_|refine ay (gi _ h2x) λ_ _=>?_
  all_goals
   rename_i g;dsimp only[au] at g;refine cE (aT ?_);refine ay (gi _ (h1 _ (bH (T:=.ex) (xs:=Sx.index _) (j:=0) (by omega) (by omega)))) λ_ _=>ar (yc _)
 rintro⟨b,x⟩ I;dsimp only at I;have I:=I.symm;subst I;refine aP (λ_=>ar trivial) λ_=>?_
 refine aX (λx=>x.2=s) ?_ ?_
 .with_reducible repeat' first|refine b8 (λ_=>?_) λ_=>?_|refine aK (λ_=>?_) λ_=>?_|refine bK (λ_=>?_) λ_=>?_|refine gg (λ_=>?_) λ_=>?_|refine dS (λ_=>?_) λ_=>?_|refine aP (λ_=>?_) λ_=>?_|exact ar (yc _)|refine ay (iB _) λ_ _=>?_|refine ay (qJ _) λ_ _=>?_|refine ay (gi _ h2x) λ_ _=>?_
 rintro⟨b,x⟩ I;dsimp only at I;have I:=I.symm;subst I;refine aX (λx=>x.2=s) ?_ ?_
 .have h2x:GX 4 (eh (Xp.op (Sx.expr s),Xp.n (Sx.expr s),Xp.name (Sx.expr s),Xp.l (Sx.expr s))):=by rw[fm];exact h2
  with_reducible repeat' first|refine b8 (λ_=>?_) λ_=>?_|refine aK (λ_=>?_) λ_=>?_|refine bK (λ_=>?_) λ_=>?_|refine gg (λ_=>?_) λ_=>?_|refine dS (λ_=>?_) λ_=>?_|refine aP (λ_=>?_) λ_=>?_|exact ar (yc _)|refine ay (iB _) λ_ _=>?_|refine ay (qJ _) λ_ _=>?_|refine ay (gi _ h2x) λ_ _=>?_
 rintro⟨b,x⟩ I;dsimp only at I;have I:=I.symm;subst I;refine aP (λ_=>ar trivial) λ_=>?_
 refine aX (λx=>x.2=s) ?_ ?_
 .with_reducible repeat' first|refine b8 (λ_=>?_) λ_=>?_|refine aK (λ_=>?_) λ_=>?_|refine bK (λ_=>?_) λ_=>?_|refine gg (λ_=>?_) λ_=>?_|refine dS (λ_=>?_) λ_=>?_|refine aP (λ_=>?_) λ_=>?_|exact ar (yc _)|refine ay (iB _) λ_ _=>?_|refine ay (qJ _) λ_ _=>?_|refine ay (gi _ h2x) λ_ _=>?_
 rintro⟨b,x⟩ I;dsimp only at I;have I:=I.symm;subst I;refine aX (λx=>x.2=s) ?_ ?_
 .with_reducible repeat' first|refine b8 (λ_=>?_) λ_=>?_|refine aK (λ_=>?_) λ_=>?_|refine bK (λ_=>?_) λ_=>?_|refine gg (λ_=>?_) λ_=>?_|refine dS (λ_=>?_) λ_=>?_|refine aP (λ_=>?_) λ_=>?_|exact ar (yc _)|refine ay (iB _) λ_ _=>?_|refine ay (qJ _) λ_ _=>?_|refine ay (gi _ h2x) λ_ _=>?_
 rintro⟨b,x⟩ I;dsimp only at I;have I:=I.symm;subst I;refine aP (λ_=>ar trivial) λ_=>?_
 refine aX (λ_=>True) ?_ λ_ _=>ar trivial
 refine ay hb λ_ _=>aP (λ_=>ay he λ_ _=>ar trivial) λ_=>ar trivial
theorem Jx:∀ (n:Nat),(∀ (d:Nat) (s:Sx),2*d<n->GT d s->Ok (eH n s) λ_=>True)/\(∀ (d:Nat) (l:List Sx),2*d+1<n->l.length<=1000->(∀ s∈l,GT d s)->Ok (dF n l) λ_=>True)
 |0=>⟨λd _ h=>by omega,λd _ h=>by omega⟩
 |n+1=>by
  obtain⟨J,I⟩:=Jx n;refine ⟨λd s hd h=>?_,λd l hd hl h=>?_⟩
  .cases d with
   |zero=>exact h.elim
   |succ d=>
    obtain⟨_,Z,Y,g4,g5,U,M⟩:=h;exact Jq (eH n) (dF n) s Z Y (I d _ (by omega) (by omega) U) (I d _ (by omega) (by omega) M)
  .exact Hh (eH n) (dF n) l hl λs hs=>J d s (by omega) (h s hs)
theorem KX (d:Nat) (hd:d<=100) (l:List Sx) (hl:l.length<=1000) (h:∀ s∈l,GT d s):Ok (nM l) λ_=>True:=(Jx fuel).2 d l (by rw[jV];omega) hl h
abbrev DT:Type:=Int×Int×List UInt8×Int×Int×List UInt8
abbrev HT:Type:=List UInt8×Int×List (List UInt8)×List Sx
abbrev PG:Type:=List DT×List HT
structure PX (p:PG):Prop where
 d:p.1.length<=100
 t:p.2.length<=8
 l:∀ t∈p.2,t.2.2.1.length<=100
 b:∀ t∈p.2,t.2.2.2.length<=100
 s:∀ t∈p.2,∀ s∈t.2.2.2,GT 5 s
theorem Y8 (p:PG) (h:PX p):Ok (pJ p) λ_=>True:=by
 obtain⟨hd,ht,hl,hb,hs⟩:=h;unfold pJ aV bw cN bB bI aY cK aF cC;refine cr p.1.length (λi x=>x.1=(i:Int)/\x.2=p) ?_ ?_ ⟨rfl,rfl⟩
 .rintro i ⟨a,x⟩ hi ⟨e1,e2⟩;dsimp only at e1 e2;subst e1;subst e2;refine dg ?_;refine cE (aT ?_);refine ay (Ln _) λ_ _=>?_
  exact dS (λ_=>ar trivial) λ_=>ar ⟨gM (by omega),rfl⟩
 rintro⟨a,x⟩ ⟨e1,e2⟩;dsimp only at e1 e2;subst e1;subst e2;refine db ?_;refine ay (P:=λ_=>True) ?_ λ_ _=>ar trivial
 refine cr x.2.length (λi y=>y.1=(i:Int)/\y.2=x) ?_ ?_ ⟨rfl,rfl⟩
 .rintro i ⟨a,x⟩ hi ⟨e1,e2⟩;dsimp only at e1 e2;subst e1;have e2:=e2.symm;subst e2;refine dg ?_;refine cE (aT ?_);have hm:=bH (T:=yT) (xs:=x.2) (j:=(i:Int)) (by omega) (by omega);have h1:=hl _ hm;have h2:=hb _ hm;have M:=hs _ hm;revert h1 h2 M;generalize (aJ (T:=yT) x.2 (i:Int))=t;intro h1 h2 M;refine cr t.2.2.1.length (λk y=>y.1=(k:Int)/\y.2=(x,t)) ?_ ?_ ⟨rfl,rfl⟩
  .rintro k ⟨a,z⟩ hk ⟨J,I⟩;dsimp only at J I;subst J;subst I;refine dg ?_;refine cE (aT ?_);refine ay (iB _) λ_ _=>?_
   exact dS (λ_=>ar trivial) λ_=>ar ⟨gM (by omega),rfl⟩
  .rintro⟨a,z⟩ ⟨J,I⟩;dsimp only at J I;subst J;subst I;refine db ?_;refine ay (P:=λr=>match r with|.inl y=>y.1=((i+1:Nat):Int)/\y.2=x|.inr _=>True) ?_ ?_
   .refine aX (λy=>y.2=x) ?_ ?_
    .refine ay (iB _) λ_ _=>dS (λ_=>ar rfl) λ_=>?_
     exact ay (KX 5 (by omega) _ (by dsimp only;omega) M) λ_ _=>ar rfl
    rintro⟨b,y⟩ e;dsimp only at e;subst e;exact aP (λ_=>ar trivial) λ_=>ar ⟨gM (by omega),rfl⟩
   .rintro (y|y) U
    .exact ar U
    .exact ar trivial
 .rintro⟨a,y⟩ ⟨e1,e2⟩;dsimp only at e1 e2;subst e1;subst e2;exact db (ar trivial)
theorem xa (l:List DT) (s:List UInt8) (hl:l.length<=1000):Ok (ia (l,s)) λr=> -1<=r/\r<(l.length:Int):=by
 unfold ia bB bI aY cK aF cC;refine cr l.length (λi x=>x=(i:Int)) ?_ ?_ rfl
 .rintro i x hi rfl;refine dg ?_;refine cE (aT ?_);exact aK (λ_=>ar ⟨by omega,by omega⟩) λ_=>ar (gM (by omega))
 .rintro x rfl;exact db (ar ⟨by omega,by omega⟩)
theorem sH (l:List HT) (s:List UInt8) (hl:l.length<=1000):Ok (gQ (l,s)) λr=> -1<=r/\r<(l.length:Int):=by
 unfold gQ bB bI aY cK aF cC;refine cr l.length (λi x=>x=(i:Int)) ?_ ?_ rfl
 .rintro i x hi rfl;refine dg ?_;refine cE (aT ?_);exact aK (λ_=>ar ⟨by omega,by omega⟩) λ_=>ar (gM (by omega))
 .rintro x rfl;exact db (ar ⟨by omega,by omega⟩)
def DD (p:PG) (s:List UInt8):Prop:=∃ v,ia (p.1,s)=af v/\0<=v/\v<(p.1.length:Int)
theorem Zi (p:PG) (h:PX p) (t:Int) (s:List UInt8):Ok (pI (p,t,s)) λk=>k≠0->k≠7->k≠8->DD p s:=by
 have hd:=h.d;have ht:=h.t;unfold pI bd bB jZ iF v9 bI aY aF;refine aX (λx=>x.2=p) ?_ ?_
 .refine gg (λU=>bK (λM=>?_) λ_=>ar rfl) λ_=>ar rfl
  dsimp only[au] at U M;refine aR U M (aT ?_);have hm:=h.l _ (bH (T:=yT) (xs:=p.2) (j:=t) U M);exact ay (yI _ s (dk hm (by omega))) λ_ _=>ar rfl
 rintro⟨b,x⟩ e;dsimp only at e;have e:=e.symm;subst e;refine aP (λ_=>ar λ_ _ h=>(h rfl).elim) λ_=>?_
 obtain⟨v,hv,v0,J⟩:=xa p.1 s (by omega);refine aU hv ?_;refine bK (λ_=>?_) λg=>?_
 .exact ay (sH p.2 s (by omega)) λ_ _=>gg (λ_=>ar λ_ h=>(h rfl).elim) λ_=>ar λh=>(h rfl).elim
 have I:DD p s:=⟨v,hv,g,J⟩
 refine aR g J (aT ?_);refine aK (λ_=>?_) λ_=>?_
 .exact aR g J (aT (b8 (λ_=>ar λ_ _ _=>I) λ_=>ar λ_ _ _=>I))
 refine aK (λ_=>ar λ_ _ _=>I) λ_=>?_
 refine aX (λx=>x.2=p) (aK (λ_=>ar rfl) λ_=>aK (λ_=>ar rfl) λ_=>aK (λ_=>ar rfl) λ_=>ar rfl) ?_;rintro⟨b,x⟩ e;dsimp only at e;have e:=e.symm;subst e;exact aP (λ_=>aR g J (aT (ar λ_ _ _=>I))) λ_=>ar λ_ _ _=>I
theorem oY (p:PG) (h:PX p) (t:Int) (s:List UInt8) (a b:Int):Ok (gD (p,t,s,a,b)) λr=>r=0->(a≠7/\a≠8)->(b≠7/\b≠8)->DD p s:=by
 unfold gD aV bh dc bd iF aF;refine ay (Zi p h t s) λk hk=>?_
 refine aK (λ_=>ar λh=>(by cases h)) λg=>?_
 refine aX (λx=>x=aj->k=a\/k=b) ?_ ?_
 .refine b8 (λ_=>ar λh=>?_) λh=>ar λ_=>.inl h
  simp at h;exact .inr h
 rintro x I;refine aP (λ_=>ar λh=>(by cases h)) λh=>ar λ_ h1 h2=>hk g ?_ ?_
 .rcases I h with h|h<;>omega
 .rcases I h with h|h<;>omega
theorem MT:∀ (n d:Nat) (e:Xp),d<n->GX d e->Ok (ng n e) λ_=>True
 |0,_,_,h,_=>by omega
 |n+1,0,_,_,h=>h.elim
 |n+1,d+1,e,hn,h=>by
  obtain⟨h1,h2⟩:=h;rw[ym];unfold ux bB bI cK aF cC;refine cr e.l.length (λi x=>x.1.2.2=(i:Int)/\x.2=e) ?_ ?_ ⟨rfl,fm e⟩
  .rintro i ⟨⟨a,b,c⟩,z⟩ hi ⟨e1,e2⟩;dsimp only at e1 e2;subst e1;subst e2;refine dg ?_;refine cE (aT ?_);refine ay (MT n d _ (by omega) (h2 _ (bH (T:=.ex) (xs:=z.l) (j:=(i:Int)) (by omega) (by omega)))) λ_ _=>ar ?_
   exact⟨gM (by omega),fm z⟩
  .rintro⟨⟨a,b,c⟩,z⟩ ⟨e1,e2⟩;dsimp only at e1 e2;subst e1;subst e2;exact db (ar trivial)
theorem F5 (p:PG) (hp:PX p) (t:Int):∀ (n d:Nat) (e:Xp),d<n->GX d e->Ok (ne n (p,t,e)) λ_=>True
 |0,_,_,h,_=>by omega
 |n+1,0,_,_,h=>h.elim
 |n+1,d+1,e,hn,h=>by
  obtain⟨h1,h2⟩:=h;rw[yl];unfold uw bd bB bI cK aF cC;refine aX (λx=>x.2.1=p/\x.2.2=e) ?_ ?_
  .refine aK (λ_=>ay (oY p hp t _ _ _) λ_ _=>ar ⟨rfl,fm e⟩) λ_=>aK (λ_=>ay (oY p hp t _ _ _) λ_ _=>ar ⟨rfl,fm e⟩) λ_=>ar ⟨rfl,fm e⟩
  rintro⟨r,M,e'⟩ ⟨J,I⟩;dsimp only at J I;have J:=J.symm;subst J;have I:=I.symm;subst I;refine qc (λx=>((e.l.length:Int)-x.1.2).toNat) (λx=>0<=x.1.2/\x.2.1=p/\x.2.2=e) ?_ ⟨eD _,rfl,fm e⟩;rintro⟨⟨a,(b:Int)⟩,M,e'⟩ ⟨b0,J,I⟩;dsimp only at b0 J I;have J:=J.symm;subst J;have I:=I.symm;subst I;refine aX (λx=>x.2.1=p/\x.2.2=e/\(x.1=ai->b<(e.l.length:Int))) ?_ ?_
  .exact bK (λg=>ar ⟨rfl,fm e,λ_=>g⟩) λ_=>ar ⟨rfl,fm e,λh=>(by cases h)⟩
  rintro⟨c,M,e'⟩ ⟨J,I,U⟩;dsimp only at J I U;have J:=J.symm;subst J;have I:=I.symm;subst I;refine aP (λhc=>?_) λ_=>ar trivial
  have g:=U hc;refine aR b0 g (aT ?_);refine ay (F5 p hp t n d _ (by omega) (h2 _ (bH (T:=.ex) (xs:=e.l) (j:=b) b0 g))) λ_ _=>ar ?_
  dsimp only;rw[io (n:=b+1) (by omega) (by omega)];exact⟨⟨by omega,rfl,fm e⟩,by omega⟩
theorem w_ (p:PG) (hp:PX p) (t:Int) (e:Xp) (h:GX 4 e):Ok (mh (p,t,e)) λ_=>True:=by
 unfold mh bB aF;have M:GX 4 (eh (Xp.op e,Xp.n e,Xp.name e,Xp.l e)):=by rw[fm];exact h
 refine ay (gi _ M) λ_ _=>dS (λ_=>ar trivial) λ_=>?_
 refine ay (MT fuel 4 _ (by rw[jV];omega) M) λ_ _=>?_
 refine aX (λx=>x.2.1=p/\x.2.2=e) (bK (λ_=>ar ⟨rfl,fm e⟩) λ_=>ar ⟨rfl,fm e⟩) ?_;rintro⟨r,U,e'⟩ ⟨J,I⟩;dsimp only at J I;have J:=J.symm;subst J;have I:=I.symm;subst I;exact aP (λ_=>ar trivial) λ_=>ay (F5 p hp t fuel 4 _ (by rw[jV];omega) M) λ_ _=>ar trivial
theorem fE (b:Bool):Ok (cZ b) λ_=>True:=by
 unfold cZ;exact aP (λ_=>ar trivial) λ_=>ar trivial
theorem ub (x:Int×Int):Ok (ja x) λr=>r=0->x.1=0/\x.2=0:=by
 unfold ja iF;exact b8 (λh=>ar λh2=>(h h2).elim) λh=>ar λh2=>⟨h,h2⟩
abbrev WK:Type:=(List DT×List HT×Int)×(Bool×List Sx)×List (List UInt8)×List (List UInt8)
theorem X6 (a b:Int) (s:List UInt8) (w:WK) (h:w.2.1.2.length<=100):Ok (dX ((a,b,s),w)) λy=>y.2=w:=by
 unfold dX aV bd bB kF aY cK aF cC;refine cr w.2.1.2.length (λi x=>x.1=(i:Int)/\x.2=w) ?_ ?_ ⟨rfl,rfl⟩
 .rintro i ⟨c,x⟩ hi ⟨e1,e2⟩;dsimp only at e1 e2;subst e1;have e2:=e2.symm;subst e2;refine dg ?_;refine cE (cE (aT ?_));refine aX (λx=>x.2=w) ?_ ?_
  .refine aK (λ_=>aK (λ_=>ar rfl) λ_=>ar rfl) λ_=>aK (λ_=>aK (λ_=>ar rfl) λ_=>ar rfl) λ_=>ar rfl
  rintro⟨c,x⟩ e;dsimp only at e;have e:=e.symm;subst e;exact aP (λ_=>ar rfl) λ_=>ar ⟨gM (by omega),rfl⟩
 .rintro⟨c,x⟩ ⟨e1,e2⟩;dsimp only at e1 e2;subst e1;have e2:=e2.symm;subst e2;exact db (ar rfl)
def PU:Nat->Sx->Nat
 |0,_=>0
 |d+1,s=>1+(s.body.map (PU d)).sum+(s.els.map (PU d)).sum
def nC (d:Nat) (l:List Sx):Nat:=(l.map (PU d)).sum
def KS:Nat->Nat
 |0=>0
 |d+1=>1+16*KS d
theorem NQ {α:Type} {f:α->Nat} {k:Nat}:∀ {l:List α},(∀ x∈l,f x<=k)->(l.map f).sum<=l.length*k
 |[],_=>by simp
 |x::r,h=>by
  have:=NQ (l:=r) λy I=>h y (cO _ I)
  have:=h x (dC ..);rw[gq,List.sum_cons,bZ,iW];omega
theorem Vr:∀ {d:Nat} {s:Sx},GT d s->PU d s<=KS d
 |0,_,h=>h.elim
 |d+1,s,⟨_,_,_,Y,U,M,J⟩=>by
  have a:=NQ (f:=PU d) (l:=s.body) λx I=>Vr (M x I)
  have b:=NQ (f:=PU d) (l:=s.els) λx I=>Vr (J x I)
  have c:=cG (KS d) Y;have e:=cG (KS d) U;show 1+_+_<=1+16*KS d;omega
theorem Pe:∀ {d:Nat} {s:Sx},GT d s->PU (d+1) s=PU d s
 |0,_,h=>h.elim
 |d+1,s,⟨_,_,_,_,_,M,J⟩=>by
  show 1+(s.body.map (PU (d+1))).sum+(s.els.map (PU (d+1))).sum=1+(s.body.map (PU d)).sum+(s.els.map (PU d)).sum;rw[p_ λx I=>Pe (M x I),p_ λx I=>Pe (J x I)]
theorem abl {d:Nat} {l:List Sx} (h:∀ s∈l,GT d s):nC d l<=l.length*KS d:=NQ λx I=>Vr (h x I)
theorem wV {d:Nat} {l:List Sx} {i:Nat} (hi:i<l.length):nC d (l.take (i+1))=nC d (l.take i)+PU d (aJ (T:=.sm) l (i:Int)):=by
 unfold nC;rw[oe (T:=.sm) hi,cP,FD];simp
theorem Pf {d:Nat} (l:List Sx) (i:Nat):nC d (l.take i)<=nC d l:=by
 conv=>rhs;rw[<- Bw i l]
 unfold nC;rw[cP,FD];omega
theorem E8:∀ (n d:Nat) (l:List Sx),d<n->l.length<=1000->(∀ s∈l,GT d s)->KS d<=100000->nh n l=af ((nC d l:Nat):Int)
 |0,_,_,h,_,_,_=>by omega
 |n+1,d,l,hn,hl,h,J=>by
  refine cD ?_;rw[yn];unfold uy bB v9 aY cK aF cC;have hb:=abl h;have I:=Nat.mul_le_mul hl J;refine cr l.length (λi x=>x.2=(i:Int)/\x.1=(l.length:Int)-i+(nC d (l.take i):Nat)) ?_ ?_ ⟨rfl,by simp[nC]⟩
  .rintro i ⟨a,b⟩ hi ⟨e1,e2⟩;dsimp only at e1 e2;subst e1;subst e2;have hp:=Pf (d:=d) l (i+1);rw[wV hi] at hp;refine dg ?_;refine cE (aT ?_);rw[wV hi];have hm:=h _ (bH (T:=.sm) (xs:=l) (j:=(i:Int)) (by omega) (by omega));revert hm hp;generalize (aJ (T:=.sm) l (i:Int))=s;intro hp hm;cases d with
   |zero=>exact hm.elim
   |succ d=>
    obtain⟨_,_,_,Z,Y,U,M⟩:=hm;have hk:KS (d+1)=1+16*KS d:=rfl;have hc:PU (d+1) s=1+nC d s.body+nC d s.els:=rfl;rw[hc] at hp ⊢;refine aU (E8 n d _ (by omega) (by omega) U (by omega)) ?_;refine cE (aT ?_);refine aU (E8 n d _ (by omega) (by omega) M (by omega)) (ar ⟨gM (by omega),?_⟩);dsimp only;rw[io (n:=(l.length:Int)-i+(nC (d+1) (l.take i):Nat)+(nC d s.body:Nat)) (by omega) (by omega),io (by omega) (by omega)];omega
  .rintro⟨a,b⟩ ⟨e1,e2⟩;dsimp only at e1 e2;subst e1;subst e2;rw[cR];exact db (ar (by dsimp only;omega))
theorem UZ (l:List DT) (hl:l.length<=100):Ok (rn l) λ_=>True:=by
 unfold rn aV bh bw bL dc eZ bd bB jZ iF bF bI aY cK aF cC;refine cr l.length (λi x=>x.2.2.2.2=(i:Int)) ?_ ?_ rfl
 .rintro i ⟨a,b,c,d,e⟩ hi e1;dsimp only at e1;subst e1;refine dg ?_;refine aX (λ_=>True) ?_ λx _=>ar (gM (by omega))
  refine cE (aT ?_);have htk:(dA (aS (i:Int)) l).length<=100:=by rw[bA];omega
  refine cW (dv (by dsimp only;omega) (dv (by dsimp only;omega) ?_));refine ay (xa _ _ (dk htk (by omega))) λv hv=>?_
  refine gg (λ_=>ar trivial) λ_=>bK (λ_=>ar trivial) λ_=>?_
  refine aX (λ_=>True) ?_ λx _=>?_
  .refine aX (λ_=>True) (aK (λ_=>ar trivial) λ_=>ar trivial) λx _=>aP (λ_=>ar trivial) λ_=>?_
   refine aX (λ_=>True) (aK (λ_=>ar trivial) λ_=>ar trivial) λx _=>aP (λ_=>ar trivial) λ_=>?_
   exact aK (λ_=>ar trivial) λ_=>ar trivial
  refine aX (λ_=>True) (bK (λ_=>ar trivial) λ_=>bK (λ_=>ar trivial) λ_=>bK (λ_=>ar trivial) λ_=>ar trivial) λx _=>aP (λ_=>ar trivial) λ_=>?_
  refine aK (λ_=>?_) λ_=>ar trivial
  refine cW (dv (by dsimp only;omega) (dv (by dsimp only;omega) ?_));refine ay (xa _ _ (dk htk (by omega))) λv hv=>?_
  refine bK (λ_=>ar trivial) λg=>?_
  have h2:=hv.2;rw[bA] at h2;exact aR g (by dsimp only at h2 ⊢;omega) (aT (b8 (λ_=>ar trivial) λ_=>ar trivial))
 .rintro⟨a,b,c,d,e⟩ e1;dsimp only at e1;subst e1;exact db (ar trivial)
theorem NJ (p:PG) (h:PX p):Ok (nL p) λ_=>True:=by
 have hd:=h.d;have ht:=h.t;unfold nL aV bh bw bB jZ bF bI aY cK aF cC;refine cr p.2.length (λi x=>x.1=(i:Int)/\x.2=p) ?_ ?_ ⟨rfl,rfl⟩
 .rintro i ⟨a,x⟩ hi ⟨e1,e2⟩;dsimp only at e1 e2;subst e1;have e2:=e2.symm;subst e2;refine dg ?_;refine cE (aT ?_);refine aX (λx=>x.2.1=p) ?_ ?_
  .refine ay (xa _ _ (by dsimp only;omega)) λv hv=>gg (λ_=>ar rfl) λ_=>?_
   refine cW (dv (by dsimp only;omega) (dv (by dsimp only;omega) ?_));exact ay (sH _ _ (by rw[bA];dsimp only;omega)) λ_ _=>ar rfl
  rintro⟨b,x,z⟩ e;dsimp only at e;have e:=e.symm;subst e;exact aP (λ_=>ar trivial) λ_=>ar ⟨gM (by omega),rfl⟩
 rintro⟨a,x⟩ ⟨e1,e2⟩;dsimp only at e1 e2;subst e1;have e2:=e2.symm;subst e2;refine db ?_;refine ay (P:=λ_=>True) ?_ λ_ _=>ar trivial
 refine cr p.2.length (λi x=>x.1=(i:Int)/\x.2=p) ?_ ?_ ⟨rfl,rfl⟩
 .rintro i ⟨a,x⟩ hi ⟨e1,e2⟩;dsimp only at e1 e2;subst e1;have e2:=e2.symm;subst e2;refine dg ?_;refine cE (aT ?_);have hm:=h.l _ (bH (T:=yT) (xs:=p.2) (j:=(i:Int)) (by omega) (by omega));revert hm;generalize (aJ (T:=yT) p.2 (i:Int))=t;intro hm;refine bK (λ_=>ar trivial) λ_=>?_
  refine cr t.2.2.1.length (λk y=>y.1=(k:Int)/\y.2=(p,t)) ?_ ?_ ⟨rfl,rfl⟩
  .rintro k ⟨a,z⟩ hk ⟨J,I⟩;dsimp only at J I;subst J;subst I;refine dg ?_;refine cE (aT ?_);refine aX (λx=>x.2=(p,t)) ?_ ?_
   .refine ay (xa _ _ (by dsimp only;omega)) λv hv=>gg (λ_=>ar rfl) λ_=>?_
    refine ay (sH _ _ (by dsimp only;omega)) λv hv=>gg (λ_=>ar rfl) λ_=>?_
    refine cW (dv (by dsimp only;omega) (dv (by dsimp only;omega) ?_));exact ay (yI _ _ (by rw[bA];dsimp only;omega)) λ_ _=>ar rfl
   rintro⟨b,x⟩ e;dsimp only at e;subst e;exact aP (λ_=>ar trivial) λ_=>ar ⟨gM (by omega),rfl⟩
  .rintro⟨a,z⟩ ⟨J,I⟩;dsimp only at J I;subst J;subst I;exact db (ar ⟨gM (by omega),rfl⟩)
 .rintro⟨a,x⟩ ⟨e1,e2⟩;dsimp only at e1 e2;subst e1;have e2:=e2.symm;subst e2;exact db (ar trivial)
structure WQ (w:WK) (y:Int×WK):Prop where
 p:y.2.1=w.1
 a:y.2.2.1=w.2.1
 s:y.2.2.2.1.length<=w.2.2.1.length+1
 t:y.2.2.2.2.length<=w.2.2.2.length+1
theorem WQ.same (w:WK) (e:Int):WQ w (e,w):=⟨rfl,rfl,Nat.le_succ _,Nat.le_succ _⟩
theorem ai8 (s:Sx) (D:List DT) (T:List HT) (t:Int) (A:Bool×List Sx) (sp se:List (List UInt8)) (hp:PX (D,T)) (hA:A.2.length<=100) (h1:sp.length<=100000000) (h2:se.length<=100000000) (J:∀ e∈s.index,GX 4 e) (he:GX 4 s.expr):Ok (mg (s,((D,T,t),A,sp,se))) (WQ ((D,T,t),A,sp,se)):=by
 have hex:GX 4 (eh (Xp.op s.expr,Xp.n s.expr,Xp.name s.expr,Xp.l s.expr)):=by rw[fm];exact he
 have hin:∀ (a b:Int) (n:List UInt8),Ok (dX ((a,b,n),((D,T,t),A,sp,se))) λy=>y.2=((D,T,t),A,sp,se):=λa b n=>X6 a b n _ hA
 have hth:T.length<=1000:=by have:=hp.t;dsimp only at this;omega
 have hdl:D.length<=1000:=by have:=hp.d;dsimp only at this;omega
 have sm:∀ e,WQ ((D,T,t),A,sp,se) (e,((D,T,t),A,sp,se)):=WQ.same _;unfold mg aV bh bw ct bL dc cN eZ bd jZ iF bF bI aF ep;refine ay (hin _ _ _) λy I=>?_
 obtain⟨b1,M⟩:=y;dsimp only at I;subst I;refine be (by simp) ?_;refine ay (hin _ _ _) λy I=>?_
 obtain⟨b2,M⟩:=y;dsimp only at I;subst I;refine be (by simp) ?_;refine ay (hin _ _ _) λy I=>?_
 obtain⟨Z,M⟩:=y;dsimp only at I;subst I;refine be (by simp) ?_;refine aK (λ_=>?_) λ_=>?_
 .refine aK (λ_=>?_) λg=>?_
  .exact ay (oY _ hp _ _ _ _) λ_ _=>ay (w_ _ hp _ _ hex) λ_ _=>ay (ub _) λ_ _=>ar (sm _)
  .refine ay (oY _ hp _ _ _ _) λ_ _=>?_
   dsimp only[au] at g;refine cE (aT ?_);refine ay (w_ _ hp _ _ (J _ (bH (T:=.ex) (xs:=s.index) (j:=0) (by omega) (by omega)))) λ_ _=>?_
   exact ay (w_ _ hp _ _ hex) λ_ _=>ay (ub _) λ_ _=>ay (ub _) λ_ _=>ar (sm _)
 refine aX (λx=>x.2=((D,T,t),A,s,(D,T),sp,se)) (aK (λ_=>ar (by dsimp only;rw[yc])) λ_=>ar (by dsimp only;rw[yc])) ?_;rintro⟨b,x⟩ e;dsimp only at e;subst e;refine aP (λ_=>ay (w_ _ hp _ _ hex) λ_ _=>ar (sm _)) λ_=>?_
 refine aK (λ_=>?_) λ_=>?_
 .refine aX (λx=>WQ ((D,T,t),A,sp,se) x) ?_ λx J=>ar J
  refine ay (oY _ hp _ _ _ _) λ_ _=>aP (λ_=>?_) λ_=>?_
  .exact ay (fE _) λ_ _=>ay (ub _) λ_ _=>ar (sm _)
  .refine ay (hin _ _ _) λy I=>?_
   obtain⟨U,M⟩:=y;dsimp only at I;subst I;exact be (by simp) (ay (fE _) λ_ _=>ay (ub _) λ_ _=>ar (sm _))
 refine aX (λx=>x.2=((D,T,t),A,s,(D,T),sp,se)) (aK (λ_=>ar (by dsimp only;rw[yc])) λ_=>ar (by dsimp only;rw[yc])) ?_;rintro⟨b,x⟩ e;dsimp only at e;subst e;refine aP (λ_=>?_) λ_=>?_
 .refine aX (λx=>WQ ((D,T,t),A,sp,se) x) ?_ λx J=>ar J
  refine ay (oY _ hp _ _ _ _) λ_ _=>aP (λ_=>?_) λ_=>?_
  .exact ay (fE _) λ_ _=>ay (ub _) λ_ _=>ar (sm _)
  .refine ay (hin _ _ _) λy I=>?_
   obtain⟨U,M⟩:=y;dsimp only at I;subst I;exact be (by simp) (ay (fE _) λ_ _=>ay (ub _) λ_ _=>ar (sm _))
 refine aK (λ_=>ay (fE _) λ_ _=>ar (sm _)) λ_=>?_
 refine aK (λ_=>?_) λ_=>?_
 .refine aX (λx=>WQ ((D,T,t),A,sp,se) x) ?_ λx J=>ar J
  exact aP (λ_=>ay (fE _) λ_ _=>ar (sm _)) λ_=>ay (fE _) λ_ _=>ar (sm _)
 refine aX (λx=>x.2=((D,T,t),A,s,(D,T),sp,se)) (aK (λ_=>ar (by dsimp only;rw[yc])) λ_=>aK (λ_=>ar (by dsimp only;rw[yc])) λ_=>ar (by dsimp only;rw[yc])) ?_;rintro⟨b,x⟩ e;dsimp only at e;subst e;refine aP (λ_=>?_) λ_=>?_
 .refine ay (oY _ hp _ _ _ _) λr hr=>b8 (λ_=>ar (sm _)) λg=>?_
  obtain⟨v,hv,v0,Y⟩:=hr g (by omega) (by omega);refine aU hv (aR v0 Y (aT ?_));refine ay (hin _ _ _) λy I=>?_
  obtain⟨U,M⟩:=y;dsimp only at I;subst I;refine be (by simp) ?_;refine aX (λx=>WQ ((D,T,t),A,sp,se) x) ?_ λx J=>ar J
  refine aP (λ_=>ay (fE _) λ_ _=>ar (sm _)) λ_=>dS (λ_=>ay (fE _) λ_ _=>ar (sm _)) λ_=>?_
  exact aK (λ_=>ay (fE _) λ_ _=>ar (sm _)) λ_=>ay (fE _) λ_ _=>ar (sm _)
 refine aK (λ_=>?_) λ_=>?_
 .refine ay (oY _ hp _ _ _ _) λr hr=>b8 (λ_=>ar (sm _)) λg=>?_
  refine ay (sH T _ hth) λv hv=>?_
  refine aX (λx=>x.2=((D,T,t),A,s,sp,se)) ?_ ?_
  .refine aP (λ_=>ar (by dsimp only;rw[yc])) λ_=>aP (λ_=>ar (by dsimp only;rw[yc])) λ_=>aP (λ_=>ar (by dsimp only;rw[yc])) λ_=>aK (λ_=>ar (by dsimp only;rw[yc])) λ_=>ar (by dsimp only;rw[yc])
  rintro⟨b,x⟩ e;dsimp only at e;subst e;refine aP (λ_=>ar (sm _)) λ_=>?_
  refine ay (yI sp _ (by omega)) λ_ _=>gg (λ_=>ar (sm _)) λ_=>?_
  exact bi (by simp;omega) (by omega) (ar ⟨rfl,rfl,by simp,Nat.le_succ _⟩)
 refine aK (λ_=>?_) λ_=>?_
 .refine aX (λx=>WQ ((D,T,t),A,sp,se) x) ?_ λx J=>ar J
  refine ay (oY _ hp _ _ _ _) λr hr=>?_
  refine aP (λ_=>ay (fE _) λ_ _=>ay (ub _) λ_ _=>ar (sm _)) λ_=>?_
  refine aP (λ_=>ay (fE _) λ_ _=>ay (ub _) λ_ _=>ar (sm _)) λ_=>?_
  exact ay (sH T _ hth) λv hv=>ay (fE _) λ_ _=>ay (ub _) λ_ _=>ar (sm _)
 refine aK (λ_=>?_) λ_=>?_
 .refine aX (λx=>x.2=((D,T,t),A,s,(D,T),sp,se)) ?_ ?_
  .refine ay (oY _ hp _ _ _ _) λr hr=>?_
   exact aP (λ_=>ay (fE _) λ_ _=>ay (ub _) λ_ _=>ar (by dsimp only;rw[yc])) λ_=>ay (fE _) λ_ _=>ay (ub _) λ_ _=>ar (by dsimp only;rw[yc])
  rintro⟨b,x⟩ e;dsimp only at e;subst e;refine aX (λx=>x.2=((D,T,t),A,s,(D,T),sp,se)) ?_ ?_
  .refine aX (λx=>x.2=((D,T,t),A,s,(D,T),sp,se)) ?_ ?_
   .exact aK (λ_=>ay (yI se _ (by omega)) λ_ _=>ar (by dsimp only;rw[yc])) λ_=>ar (by dsimp only;rw[yc])
   rintro⟨b,x⟩ e;dsimp only at e;subst e;exact aP (λ_=>ar (by dsimp only;rw[yc])) λ_=>ar (by dsimp only;rw[yc])
  rintro⟨b,x⟩ e;dsimp only at e;subst e;refine bi (by simp;omega) (by omega) ?_;exact ay (w_ _ hp _ _ hex) λ_ _=>ay (ub _) λ_ _=>ar ⟨rfl,rfl,Nat.le_succ _,by simp⟩
 exact ay (oY _ hp _ _ _ _) λ_ _=>ay (oY _ hp _ _ _ _) λ_ _=>ay (fE _) λ_ _=>ay (ub _) λ_ _=>ay (ub _) λ_ _=>ar (sm _)
abbrev RA4:Type:=(List Sx×WK)->Option ((Int×Int)×WK)
structure QA (l:List Sx) (d:Nat) (w:WK) (y:(Int×Int)×WK):Prop where
 p:y.2.1=w.1
 a:y.2.2.1.2.length=w.2.1.2.length
 s:y.2.2.2.1.length<=w.2.2.1.length+l.length*KS d
 t:y.2.2.2.2.length<=w.2.2.2.length+l.length*KS d
def SpA (rr:RA4) (d:Nat):Prop:=∀ (l:List Sx) (w:WK),l.length<=100->(∀ s∈l,GT d s)->PX (w.1.1,w.1.2.1)->w.2.1.2.length+d<=50->w.2.2.1.length+l.length*KS d<=100000000->w.2.2.2.length+l.length*KS d<=100000000->Ok (rr (l,w)) (QA l d w)
theorem aes (rr:RA4) (d:Nat) (hr:∀ d',d=d'+1->SpA rr d'):SpA (mm rr) d:=by
 rintro l ⟨⟨D,T,t⟩,A,sp,se⟩ hl hg hp hA h1 h2;dsimp only at hp hA h1 h2;have hK:∀ i:Nat,i<=l.length->i*KS d<=l.length*KS d:=λi hi=>cG _ hi
 unfold mm aV bh bw bL dc cN ck bd bB iF bF bI aY cK aF cC ep;refine cr l.length (λi x=>x.1=(i:Int)/\x.2.1=(D,T,t)/\x.2.2.1.2.length=A.2.length/\x.2.2.2.1.length<=sp.length+i*KS d/\x.2.2.2.2.length<=se.length+i*KS d) ?_ ?_ ⟨rfl,rfl,rfl,by simp,by simp⟩
 .rintro i ⟨a,P,A',sp',se'⟩ hi ⟨e1,e2,e3,Y,U⟩;dsimp only at e1 e2 e3 Y U;subst e1;subst e2;have hKi:=hK (i+1) (by omega);have hKs:=iW i (KS d);rw[Nat.succ_eq_add_one] at hKs;refine dg ?_;refine cE (aT ?_);have hm:=hg _ (bH (T:=.sm) (xs:=l) (j:=(i:Int)) (by omega) (by omega));revert hm;generalize (aJ (T:=.sm) l (i:Int))=s;intro hm;cases d with
  |zero=>exact hm.elim
  |succ d=>
   have hR:=hr d rfl;obtain⟨_,g2,g3,g4,g5,g6,g7⟩:=hm;have hk:KS (d+1)=1+16*KS d:=rfl;have kb:s.body.length*KS d<=8*KS d:=cG _ g4;have ke:s.els.length*KS d<=8*KS d:=cG _ g5;dsimp only;rw[yc];refine ay (ai8 s D T t A' sp' se' hp (by omega) (by omega) (by omega) g2 g3) λy M=>?_
   obtain⟨e,P2,A2,sp2,se2⟩:=y;obtain⟨J,I,q3,q4⟩:=M;dsimp only at J I q3 q4;subst J;subst I;refine be (by simp) ?_;refine aX (λx=>x.2=((D,T,t),s,A2,sp2,se2)) (bK (λ_=>ar rfl) λ_=>ar rfl) ?_;rintro⟨e,x⟩ ex;dsimp only at ex;subst ex;refine b8 (λ_=>ar ⟨rfl,e3,by dsimp only;omega,by dsimp only;omega⟩) λ_=>?_
   refine bi (by simp;omega) (by omega) (aR (by simp) (by simp;omega) (aR (by simp) (by simp;omega) ?_));dsimp only;rw[yc];refine ay (hR s.body ((D,T,t),(A2.1,cq (A2.2++[_]) _ s),sp2,se2) (by omega) g6 hp ?_ ?_ ?_) λy M=>?_
   .dsimp only;rw[bT];simp;omega
   .dsimp only;omega
   .dsimp only;omega
   obtain⟨e6,P6,A6,sp6,se6⟩:=y;obtain⟨J,I,q5,q6⟩:=M;dsimp only at J I q5 q6;subst J;rw[bT,bm,dR] at I;refine be (by simp) ?_;refine aX (λx=>x.2.1=(D,T,t)/\x.2.2.1.2.length=A2.2.length+1/\x.2.2.2.1.length<=sp2.length+16*KS d/\x.2.2.2.2.length<=se2.length+16*KS d) ?_ ?_
   .refine aK (λ_=>?_) λ_=>ar ⟨rfl,I,by dsimp only;omega,by dsimp only;omega⟩
    refine ay (hR s.els ((D,T,t),A6,sp6,se6) (by omega) g7 hp (by dsimp only;omega) (by dsimp only;omega) (by dsimp only;omega)) λy M=>?_
    obtain⟨e7,P7,A7,sp7,se7⟩:=y;obtain⟨r1,r2,r5,Z⟩:=M;dsimp only at r1 r2 r5 Z;subst r1;exact be (by simp) (ar ⟨rfl,r2.trans I,by dsimp only;omega,by dsimp only;omega⟩)
   rintro⟨e8,P8,A8,sp8,se8⟩ ⟨r1,r2,r5,Z⟩;dsimp only at r1 r2 r5 Z;subst r1;have el:bn .i64 ((aQ A8.2.length)-1)=(A2.2.length:Int):=by
    rw[r2,io (by simp<;>omega) (by simp<;>omega)];simp<;>omega
   dsimp only;rw[el];have tk:(dA (aS (A2.2.length:Int)) A8.2).length=A2.2.length:=by rw[bA];omega
   refine cW (dv (by omega) (Ak (by rw[r2];omega) ?_));refine b8 (λ_=>ar ⟨rfl,by dsimp only;omega,by dsimp only;omega,by dsimp only;omega⟩) λ_=>ar ?_
   exact⟨gM (by omega),rfl,by dsimp only;omega,by dsimp only;omega,by dsimp only;omega⟩
 .rintro⟨a,P,A',sp',se'⟩ ⟨e1,e2,e3,Y,U⟩;dsimp only at e1 e2 e3 Y U;subst e1;subst e2;exact db (ar ⟨rfl,e3,Y,U⟩)
theorem W6:∀ (n d:Nat),d<n->SpA (iH n) d
 |0,_,h=>by omega
 |n+1,d,h=>aes (iH n) d λI hd=>W6 n I (by omega)
theorem D2 (p:PG) (h:PX p):Ok (fo p) λr=>r.1=0->(p.2.map λt=>nC 5 t.2.2.2).sum<=60:=by
 have hd:=h.d;have ht:=h.t;unfold fo aV bh bw bL cN bB iF bF bI aY cK aF cC;refine ay (Y8 p h) λ_ _=>dS (λ_=>ar λh=>(by cases h)) λ_=>?_
 refine ay (UZ p.1 hd) λ_ _=>b8 (λhn=>ar λh=>(hn h).elim) λ_=>bK (λ_=>ar λh=>(by cases h)) λ_=>?_
 refine ay (NJ p h) λ_ _=>b8 (λhn=>ar λh=>(hn h).elim) λ_=>?_
 have J:KS 5=69905:=rfl;refine cr p.2.length (λi x=>x.1.2=(i:Int)/\x.2=p/\x.1.1=((((p.2.take i).map λt=>nC 5 t.2.2.2).sum:Nat):Int)/\(x.1.1:Int)<=((i*6990500:Nat):Int)) ?_ ?_ ⟨rfl,rfl,by simp,by simp⟩
 .rintro i ⟨⟨(c:Int),a⟩,x⟩ hi ⟨e1,e2,e3,I⟩;dsimp only at e1 e2 e3 I;subst e1;have e2:=e2.symm;subst e2;refine dg ?_;refine cE (aT ?_);have hm:=bH (T:=yT) (xs:=p.2) (j:=(i:Int)) (by omega) (by omega);have hb:=h.b _ hm;have hcb:=abl (h.s _ hm);have hcb2:=cG (KS 5) hb;rw[J] at hcb hcb2;refine aU (E8 fuel 5 _ (by rw[jV];omega) (dk hb (by omega)) (h.s _ hm) (by rw[J];omega)) (ar ⟨gM (by omega),rfl,?_,?_⟩)
  .dsimp only;rw[oe (T:=yT) hi,cP,FD,io (by omega) (by omega),e3];simp
  .dsimp only;rw[io (by omega) (by omega)];omega
 rintro⟨⟨(c:Int),a⟩,x⟩ ⟨e1,e2,e3,I⟩;dsimp only at e1 e2 e3 I;subst e1;have e2:=e2.symm;subst e2;rw[cR] at e3;refine db ?_;refine ay (P:=λr=>r.1=0->(p.2.map λt=>nC 5 t.2.2.2).sum<=60) ?_ λ_ h=>ar h
 refine bK (λ_=>ar λh=>(by cases h)) λM=>?_
 have M:c<=60:=M;refine cr p.2.length (λi x=>x.1=(i:Int)/\x.2.1=p/\x.2.2.1.1=p.1/\x.2.2.1.2.1=p.2/\x.2.2.2.1.2.length=0/\x.2.2.2.2.1.length<=i*6990500/\x.2.2.2.2.2.length<=i*6990500) ?_ ?_ ⟨rfl,rfl,rfl,rfl,rfl,by simp,by simp⟩
 .rintro i ⟨a,x,⟨D,T,t⟩,A,sp,se⟩ hi ⟨e1,e2,e3,I,e5,e6,e7⟩;dsimp only at e1 e2 e3 I e5 e6 e7;subst e1;have e2:=e2.symm;subst e2;subst e3;subst I;refine dg ?_;refine cE (aT ?_);have hm:=bH (T:=yT) (xs:=p.2) (j:=(i:Int)) (by omega) (by omega);have hb:=h.b _ hm;have hs:=h.s _ hm;revert hb hs;dsimp only;generalize (aJ (T:=yT) p.2 (i:Int))=th;intro hb hs;have hk:KS 5=69905:=rfl;have hle:th.2.2.2.length*KS 5<=100*KS 5:=cG _ hb;rw[hk] at hle;refine ay (W6 fuel 5 (by rw[jV];omega) th.2.2.2 ((p.1,p.2,(i:Int)),A,sp,se) hb hs h (by dsimp only;omega) (by dsimp only;rw[hk];omega) (by dsimp only;rw[hk];omega)) λy Z=>?_
  obtain⟨e,P2,A2,sp2,se2⟩:=y;obtain⟨U,Y,q3,q4⟩:=Z;dsimp only at U Y q3 q4;subst U;rw[hk] at q3 q4;refine be (by simp) (b8 (λhn=>ar λh=>(hn h).elim) λ_=>ar ?_);exact⟨gM (by omega),rfl,rfl,rfl,by dsimp only;omega,by dsimp only;omega,by dsimp only;omega⟩
 .rintro⟨a,x,P,w⟩ ⟨e1,e2,_⟩;dsimp only at e1 e2;subst e1;have e2:=e2.symm;subst e2;exact db (ar λ_=>by omega)
theorem c6 {R:Type} {o o':Option R} {Q:R->Prop} (h:o=o') (hk:Ok o' Q):Ok o Q:=h▸hk
def D0:List DT:=[(1,0,[120],0,0,[]),(1,0,[121],0,1,[]),(2,0,[118],0,0,[]),(1,0,[113],2,0,[]),(3,0,[109],0,0,[]),(3,0,[110],0,0,[]),(4,0,[114],0,0,[]),(5,0,[99],0,0,[109]),(6,0,[102],0,0,[])]
def L0:List (List UInt8):=[[97],[98]]
set_option maxHeartbeats 20000000 in
theorem alv:∃ r,fo (D0,[([109,97,105,110],0,L0,[nO (1,0,[120],[],[],eh (1,1,[],[]),[],[])])])=af r/\r.1=0:=by
 suffices h:Ok (fo (D0,[([109,97,105,110],0,L0,[nO (1,0,[120],[],[],eh (1,1,[],[]),[],[])])])) λr=>r.1=0 by
  obtain⟨y,h1,h2⟩:=h;exact⟨y,h1,h2⟩
 unfold fo aV bh bw bL cN bB iF bF bI aY cK aF cC;with_reducible repeat' first|exact ar rfl|refine WC ?_|refine WA ?_|refine Wz ?_|refine Wy ?_|refine Qv ?_|refine ae1 ?_|refine aT ?_|refine fD rfl ?_|refine fI rfl ?_|refine be rfl ?_|refine Qx ?_|refine Qw ?_|refine c6 (pJ.eq_1 ..) ?_|refine c6 (j_.eq_1 ..) ?_|refine c6 (fh.eq_1 ..) ?_|refine c6 (jJ.eq_1 ..) ?_|refine c6 (kx.eq_1 ..) ?_|refine c6 (lq.eq_1 ..) ?_|refine c6 (pq.eq_1 ..) ?_|refine c6 (rq.eq_1 ..) ?_|refine c6 (nM.eq_1 ..) ?_|refine c6 (jB.eq_1 ..) ?_|refine c6 (kg.eq_1 ..) ?_|refine c6 (l8.eq_1 ..) ?_|refine c6 (jf.eq_1 ..) ?_|refine c6 (mi.eq_1 ..) ?_|refine c6 (po.eq_1 ..) ?_|refine c6 (rn.eq_1 ..) ?_|refine c6 (ia.eq_1 ..) ?_|refine c6 (nL.eq_1 ..) ?_|refine c6 (gQ.eq_1 ..) ?_|refine c6 (jb.eq_1 ..) ?_|refine c6 (BU.eq_1 ..) ?_|refine c6 (uy.eq_1 ..) ?_|refine c6 (vM.eq_1 ..) ?_|refine c6 (mm.eq_1 ..) ?_|refine c6 (mg.eq_1 ..) ?_|refine c6 (dX.eq_1 ..) ?_|refine c6 (gD.eq_1 ..) ?_|refine c6 (pI.eq_1 ..) ?_|refine c6 (mh.eq_1 ..) ?_|refine c6 (BT.eq_1 ..) ?_|refine c6 (ux.eq_1 ..) ?_|refine c6 (BS.eq_1 ..) ?_|refine c6 (uw.eq_1 ..) ?_|refine c6 (ja.eq_1 ..) ?_|refine c6 (cZ.eq_1 ..) ?_|refine c6 (ck.eq_1 ..) ?_|refine c6 (congrFun (gx dF jV) _) ?_|refine c6 (yM _ _) ?_|refine c6 (congrFun (gx eH jV) _) ?_|refine c6 (zB _ _) ?_|refine c6 (congrFun (gx ib jV) _) ?_|refine c6 (sB _ _) ?_|refine c6 (congrFun (gx nh jV) _) ?_|refine c6 (yn _ _) ?_|refine c6 (congrFun (gx iH jV) _) ?_|refine c6 (B5 _ _) ?_|refine c6 (congrFun (gx ng jV) _) ?_|refine c6 (ym _ _) ?_|refine c6 (congrFun (gx ne jV) _) ?_|refine c6 (yl _ _) ?_
 all_goals trace_state
structure TM (nT:Nat) (t:HT):Prop where
 l:t.2.2.1=L0
 b:t.2.2.2.length<=8
 s:∀ s∈t.2.2.2,GS nT 3 s
structure PJ (p:PG):Prop where
 d:p.1=D0
 t0:1<=p.2.length
 t:p.2.length<=4
 m:∀ t∈p.2,TM p.2.length t
 n:p.2.map Prod.fst=v_.take p.2.length
theorem PJ.x {p:PG} (h:PJ p):PX p:=⟨by rw[h.d];decide,by have:=h.t;omega,λt ht=>by rw[(h.m t ht).l];decide,λt ht=>by have:=(h.m t ht).b;omega,λt ht s hs=>((h.m t ht).s s hs).le (by omega:3<=5) |>.t⟩
theorem RJ:sr ()=af D0:=rfl
theorem acb:∀ m:Nat,m<5->∀ j:Nat,j<m->aJ (T:=.str) v_ (j:Int)∈v_.take m:=by decide
theorem Qb {nT:Nat} (op:Int) {n:List UInt8} (J:op=12\/op=13) (hn:n∈v_.take nT):GS nT 3 (nO (op,0,n,[],[],eh (0,0,[],[]),[],[])):=GS.wo (by omega) (by simp) (λx I=>(by cases I)) (by rcases J with rfl|rfl<;>(constructor<;>simp[Sx.op,Sx.name,Sx.index,Sx.arg,Sx.els,Sx.body]<;>exact hn))
theorem G7 (x:List Int) (hl:x.length<=9223372036854775807) (hx:∀ z∈x,0<=z/\z<=255):Ok (oK x) λp=>PJ p/\∃ r,fo p=af r/\r.1=0:=by
 unfold oK aV bh bw ct dQ iU uV bL eZ mq nF Ny bd bB iF bF kF cK aF cC ep;refine aU RJ ?_;refine ay (gp 3 (x,0) ⟨hl,hx,by dsimp only;omega,by dsimp only;omega⟩) λy J=>?_
 obtain⟨n,t0⟩:=y;obtain⟨s0,n0,n1,_⟩:=J;have n1:=n1 (by decide);dsimp only at s0 n0 n1;have ew:bn .i64 (2+n)=2+n:=io (by omega) (by omega);obtain⟨nT,hnT⟩:∃ m:Nat,2+n=(m:Int):=⟨(2+n).toNat,by omega⟩
 refine cr nT (λi x=>x.1=(i:Int)/\x.2.2.1=D0/\x.2.2.2.1=v_/\TP x.2.2.2.2.1/\x.2.2.2.2.2.1.2=[]/\x.2.2.2.2.2.2.map Prod.fst=v_.take i/\∀ t∈x.2.2.2.2.2.2,TM nT t) ?_ ?_ ⟨rfl,rfl,rfl,s0.p,rfl,rfl,λt ht=>(by cases ht)⟩
 .rintro i ⟨a,m,D,N,t,h,th⟩ hi ⟨e1,e2,e3,e4,e5,e6,e7⟩;dsimp only at e1 e2 e3 e4 e5 e6 e7;subst e1;subst e2;refine bK (λg=>?_) λg=>(by dsimp only at g;rw[ew] at g;omega)
  have l4:N.length=4:=by rw[e3];rfl
  refine cE (cE (aT ?_));have hthl:th.length=i:=by have:=gx al e6;rw[bY,bA] at this;have q4:v_.length=4:=rfl;omega
  refine aX (λx=>x.2.2.2.1.1=aJ (T:=.str) N (i:Int)/\x.2.1=D0/\x.2.2.1=v_/\TP x.2.2.2.2.1/\x.2.2.2.2.2.1.2=[]/\x.2.2.2.2.2.2.1=th/\x.2.2.2.2.2.2.2.1=L0/\x.2.2.2.2.2.2.2.2.length<=3/\∀ s∈x.2.2.2.2.2.2.2.2,GS nT 3 s) ?_ ?_
  .refine aK (λ_=>?_) λ_=>ar ⟨rfl,rfl,e3,e4,e5,rfl,rfl,by simp,λs hs=>(by cases hs)⟩
   refine cr (1+n).toNat (λk x=>x.2.2.2.2.1.1=aJ (T:=.str) N (i:Int)/\x.1=1+(k:Int)/\x.2.2.1=D0/\x.2.2.2.1=v_/\TP x.2.2.2.2.2.1/\x.2.2.2.2.2.2.1.2=[]/\x.2.2.2.2.2.2.2.1=th/\x.2.2.2.2.2.2.2.2.1=L0/\x.2.2.2.2.2.2.2.2.2.length<=k/\∀ s∈x.2.2.2.2.2.2.2.2.2,GS nT 3 s) ?_ ?_ ⟨rfl,rfl,rfl,e3,e4,e5,rfl,rfl,by simp,λs hs=>(by cases hs)⟩
   .rintro k ⟨c,m1,D1,N1,z1,t1,h1,th1,l1,b1⟩ hk ⟨fz,f1,f2,I,Z,M,Y,f7,f8,U⟩;dsimp only at fz f1 f2 I Z M Y f7 f8 U;subst f1;refine bK (λ_=>?_) λg=>(by dsimp only at g;rw[ew] at g;omega)
    have l41:N1.length=4:=by rw[I];rfl
    refine cE (cE (aT ?_));refine bi (by simp;omega) (by omega) (ar ?_);dsimp only;rw[io (n:=1+(k:Int)+1) (by omega) (by omega)];refine ⟨fz,by omega,f2,I,Z,M,Y,f7,by simp;omega,λs hs=>?_⟩;rcases bQ.1 hs with hs|hs
    .exact U s hs
    .rw[aL] at hs;rw[hs];refine Qb 12 (.inl rfl) ?_;rw[I,show 1+(k:Int)=((1+k:Nat):Int) by omega];exact acb nT (by omega) (1+k) (by omega)
   .rintro⟨c,m1,D1,N1,z1,t1,h1,th1,l1,b1⟩ ⟨fz,f1,f2,I,Z,M,Y,f7,f8,U⟩;dsimp only at fz f1 f2 I Z M Y f7 f8 U;subst f1;refine bK (λg=>(by dsimp only at g;rw[ew] at g;omega)) λ_=>ar ?_
    exact⟨fz,f2,I,Z,M,Y,f7,by dsimp only;omega,U⟩
  rintro⟨m1,D1,N1,z1,t1,h1,th1,l1,b1⟩ ⟨fz,f2,I,Z,M,Y,f7,f8,U⟩;dsimp only at fz f2 I Z M Y f7 f8 U;subst f2;subst Y;subst f7;refine ay (gp 3 t1 Z) λy J=>?_
  obtain⟨k2,t2⟩:=y;obtain⟨u1,u2,u3,_⟩:=J;have u3:=u3 (by decide);dsimp only at u1 u2 u3;dsimp only;rw[io (n:=1+k2) (by omega) (by omega)];refine ay (X1 (nT:=nT) 2 (by omega) (1+k2) m1 t2 h1 (by omega) u1.p (by rw[M];simp)) λy J=>?_
  obtain⟨m3,t3,h3,l3⟩:=y;obtain⟨w1,w2,w3,w4⟩:=J;dsimp only at w1 w2 w3 w4;refine be (by simp) (bi (by simp;omega) (by omega) ?_);have hbody:∀ s∈b1++l3,GS nT 3 s:=λs hs=>by
   rcases bQ.1 hs with hs|hs
   .exact U s hs
   .exact w2 s hs
  have hlen:(b1++l3).length<=6:=by rw[bm];omega
  refine aX (λx=>x.2.2.2.1.1=aJ (T:=.str) N (i:Int)/\x.2.1=D0/\x.2.2.1=v_/\TP x.2.2.2.2.1/\x.2.2.2.2.2.1.2=[]/\x.2.2.2.2.2.2.1=th1/\x.2.2.2.2.2.2.2.1=L0/\x.2.2.2.2.2.2.2.2.length<=8/\∀ s∈x.2.2.2.2.2.2.2.2,GS nT 3 s) ?_ ?_
  .refine aX (λx=>x.2.2.2.2.1.1=aJ (T:=.str) N (i:Int)/\x.2.2.1=D0/\x.2.2.2.1=v_/\TP x.2.2.2.2.2.1/\x.2.2.2.2.2.2.1.2=[]/\x.2.2.2.2.2.2.2.1=th1/\x.2.2.2.2.2.2.2.2.1=L0/\x.2.2.2.2.2.2.2.2.2=b1++l3) ?_ ?_
   .refine aK (λ_=>?_) λ_=>ar ⟨fz,rfl,I,w3.p,w4.trans M,rfl,rfl,rfl⟩
    exact ay (gp 3 t3 w3.p) λy J=>ar ⟨fz,rfl,I,J.1.p,w4.trans M,rfl,rfl,rfl⟩
   rintro⟨b,m4,D4,N4,z4,t4,h4,th4,l4,b4⟩ ⟨pz,p2,p3,p4,p5,p6,p7,p8⟩;dsimp only at pz p2 p3 p4 p5 p6 p7 p8;subst p2;subst p6;subst p7;subst p8;have l44:N4.length=4:=by rw[p3];rfl
   refine aP (λ_=>?_) λ_=>ar ⟨pz,rfl,p3,p4,p5,rfl,rfl,by dsimp only;omega,hbody⟩
   refine cE (cE (aT ?_));refine bi (by simp at hlen ⊢;omega) (by omega) (ar ⟨pz,rfl,p3,p4,p5,rfl,rfl,by dsimp only;rw[bm,dR];omega,λs hs=>?_⟩);rcases bQ.1 hs with hs|hs
   .exact hbody s hs
   .rw[aL] at hs;rw[hs];refine Qb 13 (.inr rfl) ?_;rw[p3];exact acb nT (by omega) 1 (by omega)
  rintro⟨m4,D4,N4,z4,t4,h4,th4,l4,b4⟩ ⟨pz,p2,p3,p4,p5,p6,p7,p8,p9⟩;dsimp only at pz p2 p3 p4 p5 p6 p7 p8 p9;subst p2;subst p6;subst p7;refine bi (by simp;omega) (by omega) (ar ?_);dsimp only;refine ⟨gM (by omega),rfl,p3,p4,p5,by rw[oe (T:=.str) (xs:=v_) (i:=i) (by have q4:v_.length=4:=rfl;omega),cP,e6,<-e3];show _++[z4.1]=_;rw[pz],λt ht=>?_⟩;rcases bQ.1 ht with ht|ht
  .exact e7 t ht
  .rw[aL] at ht;rw[ht];exact⟨rfl,p8,p9⟩
 .rintro⟨a,m,D,N,t,h,th⟩ ⟨e1,e2,e3,e4,e5,e6,e7⟩;dsimp only at e1 e2 e3 e4 e5 e6 e7;subst e1;subst e2;refine bK (λg=>(by dsimp only at g;rw[ew] at g;omega)) λ_=>?_
  have hthl:th.length=nT:=by have:=gx al e6;rw[bY,bA] at this;have q4:v_.length=4:=rfl;omega
  have hpm:PJ (D0,th):=⟨rfl,by dsimp only;omega,by dsimp only;omega,by dsimp only;rw[hthl];exact e7,by dsimp only;rw[hthl];exact e6⟩
  refine ay (P:=λp=>PJ p/\∃ r,fo p=af r/\r.1=0) ?_ λr hr=>ar hr
  obtain⟨y,J,_⟩:=D2 (D0,th) hpm.x;refine aU J (b8 (λ_=>?_) λh=>ar ⟨hpm,y,J,h⟩);refine aU RJ (aU (N' _) (aU (t7 _ _) (ar ?_)));refine ⟨⟨rfl,by simp,by simp,λt ht=>?_,rfl⟩,alv⟩;simp only[aL] at ht;rw[ht];refine ⟨rfl,by simp,λs hs=>?_⟩;simp only[aL] at hs;rw[hs,fm,yV];exact GS.asg (by decide) (GE.num _ 3)
abbrev iA (l:List IT) (k:Nat):IT:=aJ (T:=BA) l (k:Int)
def JT (l:List IT) (ρ:Nat->Nat) (a e k:Nat):Prop:=(iA l k).1=5->∃ k':Nat,(iA l k).2.1=(k':Int)/\(k'=e\/a<=k'/\k'<e/\ρ k'<ρ k)
def qN (l:List IT) (a e:Nat):Prop:=a<=e/\∃ ρ:Nat->Nat,∀ k,a<=k->k<e->1<=ρ k/\ρ k<=e-a/\JT l ρ a e k/\((iA l k).1<5->k+1=e\/ρ (k+1)<ρ k)
theorem qN.nil (l:List IT) (a:Nat):qN l a a:=⟨bP _,λ_=>0,λk h1 h2=>by omega⟩
theorem qN.one {l:List IT} {a:Nat} (h:¬(iA l a).1=5):qN l a (a+1):=⟨by omega,λ_=>1,λk h1 h2=>⟨bP 1,by show 1<=a+1-a;omega,λI=>by rw[show k=a by omega] at I;exact (h I).elim,λ_=>.inl (by omega)⟩⟩
theorem qN.congr {l I:List IT} {a e:Nat} (h:qN l a e) (hc:∀ k,a<=k->k<e->iA I k=iA l k):qN I a e:=by
 obtain⟨h1,ρ,h2⟩:=h;exact⟨h1,ρ,λk M J=>by unfold JT;rw[hc k M J];exact h2 k M J⟩
theorem qN.app {l:List IT} {a b c:Nat} (h:qN l a b) (k:qN l b c):qN l a c:=by
 obtain⟨h1,ρ,h2⟩:=h;obtain⟨k1,σ,k2⟩:=k;refine ⟨by omega,λk=>if k<b then ρ k+(c-b) else σ k,λk Y U=>?_⟩;by_cases hk:k<b
 .obtain⟨J,M,q3,q4⟩:=h2 k Y hk;simp only[aE hk];refine ⟨by omega,by omega,?_,λI=>?_⟩
  .intro I;simp only[aE hk];obtain⟨k',e,r⟩:=q3 I;refine ⟨k',e,?_⟩;rcases r with r|⟨r1,r2,r3⟩
   .subst r;by_cases hc:k'=c
    .exact .inl hc
    .have:=(k2 k' (bP _) (by omega)).2.1;rw[aA (Ck _)];exact .inr ⟨by omega,by omega,by omega⟩
   .rw[aE r2];exact .inr ⟨r1,by omega,by omega⟩
  .rcases q4 I with r|r
   .by_cases hc:k+1=c
    .exact .inl hc
    .have:=(k2 (k+1) (by omega) (by omega)).2.1;rw[aA (by omega)];exact .inr (by omega)
   .by_cases hb:k+1<b
    .rw[aE hb];exact .inr (by omega)
    .rw[aA hb];by_cases hc:k+1=c
     .exact .inl hc
     .have:=(k2 (k+1) (by omega) (by omega)).2.1;exact .inr (by omega)
 .obtain⟨J,M,q3,q4⟩:=k2 k (by omega) U;simp only[aA hk];refine ⟨J,by omega,?_,λI=>?_⟩
  .intro I;simp only[aA hk];obtain⟨k',e,r⟩:=q3 I;refine ⟨k',e,r.imp id λ⟨r1,r2,r3⟩=>⟨by omega,r2,?_⟩⟩;rw[aA (by omega)];exact r3
  .rw[aA (by omega)];exact q4 I
theorem qN.ite {l:List IT} {a j e:Nat} (h:qN l a j) (hj:(iA l j).1=5) (U:(iA l j).2.1=(e:Int)) (k:qN l (j+1) e):qN l a e:=by
 obtain⟨h1,ρ,h2⟩:=h;obtain⟨k1,σ,k2⟩:=k;refine ⟨by omega,λk=>if k<j then ρ k+(e-j) else if k=j then e-j else σ k,λk Z Y=>?_⟩;by_cases hk:k<j
 .obtain⟨J,M,q3,q4⟩:=h2 k Z hk;simp only[aE hk];refine ⟨by omega,by omega,?_,λI=>?_⟩
  .intro I;simp only[aE hk];obtain⟨k',e',r⟩:=q3 I;refine ⟨k',e',.inr ?_⟩;rcases r with r|⟨r1,r2,r3⟩
   .rw[r,aA (Ck _),aE rfl];exact⟨by omega,by omega,by omega⟩
   .rw[aE r2];exact⟨r1,by omega,by omega⟩
  .refine .inr ?_;by_cases hb:k+1<j
   .rw[aE hb];rcases q4 I with r|r<;>omega
   .rw[aA hb,aE (by omega)];omega
 .by_cases hkj:k=j
  .subst hkj;simp only[aA hk,aE];exact⟨by omega,by omega,λ_=>⟨e,U,.inl rfl⟩,λI=>by rw[hj] at I;omega⟩
  .obtain⟨J,M,q3,q4⟩:=k2 k (by omega) Y;simp only[aA hk,aA hkj];refine ⟨J,by omega,?_,λI=>?_⟩
   .intro I;simp only[aA hk,aA hkj];obtain⟨k',e',r⟩:=q3 I;refine ⟨k',e',r.imp id λ⟨r1,r2,r3⟩=>⟨by omega,r2,?_⟩⟩;rw[aA (by omega),aA (by omega)];exact r3
   .rw[aA (by omega),aA (by omega)];exact q4 I
theorem qN.whl {l:List IT} {a c j:Nat} (h:qN l a c) (hc:(iA l c).1=10) (k:qN l (c+1) j) (hj:(iA l j).1=5) (Y:(iA l j).2.1=(a:Int)):qN l a (j+1):=by
 obtain⟨h1,ρ,h2⟩:=h;obtain⟨k1,σ,k2⟩:=k;refine ⟨by omega,λk=>if k<c then ρ k+1 else if k=c then 1 else if k<j then σ k+(c-a)+2 else c-a+2,λk Z g2=>?_⟩;by_cases hk:k<c
 .obtain⟨U,M,q3,q4⟩:=h2 k Z hk;simp only[aE hk];refine ⟨by omega,by omega,?_,λI=>?_⟩
  .intro I;simp only[aE hk];obtain⟨k',e',r⟩:=q3 I;refine ⟨k',e',.inr ?_⟩;rcases r with r|⟨r1,r2,r3⟩
   .rw[r,aA (Ck _),aE rfl];exact⟨by omega,by omega,by omega⟩
   .rw[aE r2];exact⟨r1,by omega,by omega⟩
  .refine .inr ?_;by_cases hb:k+1<c
   .rw[aE hb];rcases q4 I with r|r<;>omega
   .rw[aA hb,aE (by omega)];omega
 .by_cases hkc:k=c
  .subst hkc;simp only[aA hk,aE];exact⟨by omega,by omega,λI=>by rw[hc] at I;omega,λI=>by rw[hc] at I;omega⟩
  .simp only[aA hk,aA hkc];by_cases hkj:k<j
   .obtain⟨U,M,q3,q4⟩:=k2 k (by omega) hkj;simp only[aE hkj];refine ⟨by omega,by omega,?_,λI=>?_⟩
    .intro I;simp only[aA hk,aA hkc,aE hkj];obtain⟨k',e',r⟩:=q3 I;refine ⟨k',e',.inr ?_⟩;rcases r with r|⟨r1,r2,r3⟩
     .rw[r,aA (by omega),aA (by omega),aA (Ck _)];exact⟨by omega,by omega,by omega⟩
     .rw[aA (by omega),aA (by omega),aE r2];exact⟨by omega,by omega,by omega⟩
    .refine .inr ?_;rw[aA (by omega),aA (by omega)];by_cases hb:k+1<j
     .rw[aE hb];rcases q4 I with r|r<;>omega
     .rw[aA hb];omega
   .have hkj:k=j:=by omega
    subst hkj;simp only[aA (Ck _)];refine ⟨by omega,by omega,λ_=>⟨a,Y,.inr ⟨bP _,by omega,?_⟩⟩,λI=>by rw[hj] at I;omega⟩;simp only[aA hk,aA hkc,aA (Ck _)];by_cases J:a<c
    .rw[aE J];have:=(h2 a (bP _) J).2.1;omega
    .rw[aA J,aE (by omega)];omega
def OB (nT:Nat) (i:IT):Prop:=
 if i.1=6 then 0<=i.2.2.1/\i.2.2.1<=2 else if i.1=8 then 0<=i.2.1/\i.2.1<=2 else if i.1=7 then i.2.2.1=3/\i.2.2.2.2.1=2 else if i.1=9 then i.2.1=3/\i.2.2.2.2.1=2 else if i.1=11\/i.1=12 then i.2.1=0\/i.2.1=1 else if 13<=i.1/\i.1<=16 then i.2.1=2 else if 21<=i.1/\i.1<=23 then i.2.1=0 else if i.1=24\/i.1=25 then 0<=i.2.1/\i.2.1<(nT:Int) else if i.1=26 then i.2.1=0 else if i.1=27 then i.2.2.1=0 else if i.1=4 then 6<=i.2.2.2.2.1/\i.2.2.2.2.1<=18 else ¬i.1=3
structure GO (nT:Nat) (i:IT):Prop where
 o1:1<=i.1
 o2:i.1<=27
 r:∀ j:Int,j∈iR i->0<=j/\j<32
 b:OB nT i
def SO (ss:List (Int×Int×Int)) (t s:Int):Prop:=0<=s/\s<ss.length/\(aJ (T:=x_) ss s).1=t
structure GI (nT:Nat) (ss:List (Int×Int×Int)) (t:Int) (i:IT):Prop where
 o:GO nT i
 s:SO ss t i.2.2.2.2.2
theorem Uj (l:List IT) (hl:l.length<=1000000) (h1:1<=l.length) (hb:qN l 0 (l.length-1)) (he:(iA l (l.length-1)).1=28) (k:Nat) (hk:k<l.length):pn (l,(k:Int))=af ai:=by
 obtain⟨_,ρ,hρ⟩:=hb;refine cD ?_;unfold pn bd bB jZ bI aY cK aF cC;refine qc (λx=>((l.length:Int)+1-x.2).toNat) (λx=>0<=x.2/\∃ q:Nat,x.1=(q:Int)/\q<l.length/\((if q<l.length-1 then ρ q else 0:Nat):Int)+x.2<=(l.length:Int)) ?_ ⟨by dsimp only;omega,k,rfl,hk,?_⟩
 .rintro⟨a,(n:Int)⟩ ⟨n0,q,e,hq,hr⟩;dsimp only at n0 e hr;subst e;refine gg (λ_=>?_) λg=>(by dsimp only[au] at g;omega)
  refine gA ?_;refine gA (bK (λg=>by dsimp only at g;omega) λ_=>ar ?_);refine fI (by rw[l7];dsimp only[au];omega) ?_;refine cE (aT ?_);refine aU (Fy _) ?_;refine dS (λ_=>ar rfl) λhs=>?_
  have hs:1<=(iA l q).1/\(iA l q).1<=5:=bf hs;have J:q<l.length-1:=vH λh=>by rw[show q=l.length-1 by omega] at hs;rw[he] at hs;omega
  obtain⟨r1,r2,r3,Z⟩:=hρ q (jX _) J;rw[aE J] at hr;refine cE (aT ?_);have fin:∀ I:Nat,I=l.length-1\/I<l.length-1/\ρ I<ρ q->0<=n+1/\∃ M:Nat,(I:Int)=(M:Int)/\M<l.length/\((if M<l.length-1 then ρ M else 0:Nat):Int)+(n+1)<=(l.length:Int):=λI h=>⟨by omega,I,rfl,by omega,by
   rcases h with h|⟨h,h'⟩
   .rw[aA (by omega)];omega
   .rw[aE h];omega⟩
  refine aK (λU=>?_) λU=>ar (ar ?_)
  .obtain⟨I,e,Y⟩:=r3 U;refine aR (eM _) (by dsimp only;omega) (aT (ar (ar ?_)));dsimp only;rw[io (n:=n+1) (by omega) (by omega)];have:=fin I (Y.imp id λh=>⟨h.2.1,h.2.2⟩);rw[<- e] at this;exact⟨this,by omega⟩
  .dsimp only;have U:¬(iA l q).1=5:=U;rw[io (n:=n+1) (by omega) (by omega),gM (by omega)];refine ⟨fin (q+1) ?_,by omega⟩;rcases Z (by omega) with h|h
   .exact .inl h
   .by_cases hb:q+1=l.length-1
    .exact .inl hb
    .exact .inr ⟨by omega,h⟩
 .dsimp only;split
  .rename_i h;have:=(hρ k (jX _) h).2.1;omega
  .omega
theorem KJ (w:WT) (I:w.1=C0):m6 (w,3,2)=af ai:=by
 refine cD ?_;have h0:(0:Int)<=3:=by decide
 have h1:(3:Int)<(w.1.length:Int):=by rw[I];decide
 have J:aJ (T:=NK) w.1 3=([113],0,2,aj,0):=by rw[I];rfl
 unfold m6 bd iF bI aY aF;refine gA (aU (rX _ _) (aK (λ_=>?_) λh=>(h ⟨h0,h1⟩).elim));dsimp only;rw[J];refine aR h0 h1 (aT (aK (λ_=>?_) λh=>(h rfl).elim));refine aR h0 h1 (aT (b8 (λ_=>?_) λh=>cV h (by decide)));exact aR h0 h1 (aT (ar (ar rfl)))
theorem N9 {nT:Nat} (w:WT) (i:IT) (hw:WX w) (hT:w.2.2.2.2.1.length=nT) (hb:OB nT i):lB (w,i)=af ai:=by
 obtain⟨hc,hl,hd,hf,_,_,_⟩:=hw;refine cD ?_;unfold lB aV bh bw ct dQ bd jZ bI aY aF;unfold OB at hb;simp only[rX,WE];refine aK (λh=>?_) λn6=>?_
 .rw[aE h] at hb;have J:(aJ (T:=NK) w.1 i.2.2.1).2.2.1=(0:Int):=by
   rw[hc];rcases (by omega:i.2.2.1=0\/i.2.2.1=1\/i.2.2.1=2) with h|h|h<;>rw[h]<;>rfl
  have hi:0<=i.2.2.1/\i.2.2.1<(w.1.length:Int):=⟨hb.1,by rw[hc];have:=hb.2;show i.2.2.1<5;omega⟩
  exact gA (aK (λ_=>aR hi.1 hi.2 (aT (ar (ar (aO J))))) λh=>(h hi).elim)
 rw[aA n6] at hb;refine aK (λh=>?_) λZ=>?_
 .rw[aE h] at hb;have J:(aJ (T:=NK) w.1 i.2.1).2.2.1=(0:Int):=by
   rw[hc];rcases (by omega:i.2.1=0\/i.2.1=1\/i.2.1=2) with h|h|h<;>rw[h]<;>rfl
  have hi:0<=i.2.1/\i.2.1<(w.1.length:Int):=⟨hb.1,by rw[hc];have:=hb.2;show i.2.1<5;omega⟩
  exact gA (aK (λ_=>aR hi.1 hi.2 (aT (ar (ar (aO J))))) λh=>(h hi).elim)
 rw[aA Z] at hb;refine aK (λh=>?_) λn7=>?_
 .rw[aE h] at hb;rw[hb.1,hb.2];exact aU (KJ w hc) (ar rfl)
 rw[aA n7] at hb;refine aK (λh=>?_) λY=>?_
 .rw[aE h] at hb;rw[hb.1,hb.2];exact aU (KJ w hc) (ar rfl)
 rw[aA Y] at hb;refine aX (λx=>x.2=(w,i)/\(x.1=ai↔i.1=11\/i.1=12)) (aK (λh=>ar ⟨rfl,λ_=>.inl h,λ_=>aO h⟩) λh=>ar ⟨rfl,λh2=>.inr (bf h2),λh2=>aO (h2.resolve_left h)⟩) ?_;rintro⟨b,x⟩ ⟨e,M⟩;dsimp only at e M;subst e;refine aP (λh=>?_) λh=>?_
 .rw[aE (M.1 h)] at hb;have J:(aJ (T:=TO) w.2.1 i.2.1).2=aj:=by
   rw[hl];rcases hb with h|h<;>rw[h]<;>rfl
  have hi:0<=i.2.1/\i.2.1<(w.2.1.length:Int):=⟨by omega,by rw[hl];show i.2.1<3;omega⟩
  exact gA (aK (λ_=>aR hi.1 hi.2 (aT (ar (ar (by dsimp only;rw[J];rfl))))) λh=>(h hi).elim)
 rw[aA λh2=>by rw[M.2 h2] at h;cases h] at hb;have hj:∀ {p:Prop} {b:Bool},(b=ai->p)->(p->b=ai)->b=aj->¬p:=λ_ h2 U I=>by rw[h2 I] at U;cases U
 refine aX (λx=>x.2=(w,i)/\(x.1=ai->13<=i.1/\i.1<=16)/\(13<=i.1/\i.1<=16->x.1=ai)) (aK (λh=>ar ⟨rfl,λ_=>by first|omega|(dsimp only at h;omega),λ_=>aO h⟩) λ_=>aK (λh=>ar ⟨rfl,λ_=>by first|omega|(dsimp only at h;omega),λ_=>aO h⟩) λ_=>aK (λh=>ar ⟨rfl,λ_=>by first|omega|(dsimp only at h;omega),λ_=>aO h⟩) λ_=>ar ⟨rfl,λh=>by have:=bf h;first|omega|(dsimp only at this;omega),λh=>aO (by first|omega|(dsimp only at *;omega))⟩) ?_;rintro⟨b,x⟩ ⟨e,h1,h2⟩;dsimp only at e h1 h2;subst e;refine aP (λh=>?_) λh=>?_
 .rw[aE (h1 h)] at hb;have hi:0<=i.2.1/\i.2.1<(w.2.1.length:Int):=⟨by omega,by rw[hl];show i.2.1<3;omega⟩
  exact gA (aK (λ_=>aR hi.1 hi.2 (aT (ar (ar (by dsimp only;rw[hb,hl];rfl))))) λh=>(h hi).elim)
 rw[aA (hj h1 h2 h)] at hb;refine aX (λx=>x.2=(w,i)/\(x.1=ai->21<=i.1/\i.1<=23)/\(21<=i.1/\i.1<=23->x.1=ai)) (aK (λh=>ar ⟨rfl,λ_=>by first|omega|(dsimp only at h;omega),λ_=>aO h⟩) λ_=>aK (λh=>ar ⟨rfl,λ_=>by first|omega|(dsimp only at h;omega),λ_=>aO h⟩) λ_=>ar ⟨rfl,λh=>by have:=bf h;first|omega|(dsimp only at this;omega),λh=>aO (by first|omega|(dsimp only at *;omega))⟩) ?_;rintro⟨b,x⟩ ⟨e,h1,h2⟩;dsimp only at e h1 h2;subst e;refine aP (λh=>?_) λh=>?_
 .rw[aE (h1 h)] at hb;exact ar (aO ⟨by dsimp only;omega,by dsimp only;rw[hd];show i.2.1<1;omega⟩)
 rw[aA (hj h1 h2 h)] at hb;refine aX (λx=>x.2=(w,i)/\(x.1=ai->i.1=24\/i.1=25)/\(i.1=24\/i.1=25->x.1=ai)) (aK (λh=>ar ⟨rfl,λ_=>.inl h,λ_=>aO h⟩) λh=>ar ⟨rfl,λh2=>.inr (bf h2),λh2=>aO (h2.resolve_left h)⟩) ?_;rintro⟨b,x⟩ ⟨e,h1,h2⟩;dsimp only at e h1 h2;subst e;refine aP (λh=>?_) λh=>?_
 .rw[aE (h1 h)] at hb;exact ar (aO ⟨hb.1,by dsimp only;rw[hT];exact hb.2⟩)
 rw[aA (hj h1 h2 h)] at hb;refine aK (λh=>?_) λn=>?_
 .rw[aE h] at hb;exact ar (aO ⟨by dsimp only;omega,by dsimp only;rw[hf];show i.2.1<1;omega⟩)
 rw[aA n] at hb;refine aK (λh=>?_) λn=>?_
 .rw[aE h] at hb;exact ar (aO ⟨by dsimp only;omega,by dsimp only;rw[hf];show i.2.2.1<1;omega⟩)
 rw[aA n] at hb;by_cases I:i.1=4
 .rw[aE I] at hb;refine aK (λh=>by have h:i.1=3:=h;omega) λ_=>aK (λ_=>?_) λh=>(h I).elim
  refine gA (gg (λ_=>ar (ar (Om.2 hb.2))) λh=>by dsimp only at h;omega)
 .rw[aA I] at hb;exact aK (λh=>(hb h).elim) λ_=>aK (λh=>(I h).elim) λ_=>ar rfl
structure GC (nT:Nat) (ss:List (Int×Int×Int)) (k:Int) (c:Int×List IT):Prop where
 r0:1<=c.1
 r1:c.1<=32
 n:1<=c.2.length
 u:c.2.length<=1000000
 e:(iA c.2 (c.2.length-1)).1=28/\(iA c.2 (c.2.length-1)).2.2.2.2.2= -1
 b:qN c.2 0 (c.2.length-1)
 i:∀ q:Nat,q<c.2.length-1->GI nT ss k (iA c.2 q)
 r:∀ q:Nat,q<c.2.length-1->(iA c.2 q).1=10->0<=(iA c.2 q).2.2.1/\(iA c.2 q).2.2.1<(c.2.length:Int)
 g:∀ q:Nat,q<c.2.length-1->∀ j:Int,j∈iR (iA c.2 q)->j<c.1
theorem Ec {nT:Nat} {w:WT} {k:Int} {c:Int×List IT} (hw:WX w) (hT:w.2.2.2.2.1.length=nT) (hc:GC nT w.2.2.2.2.2 k c):iu (w,k,c)=af ai:=by
 obtain⟨r0,r1,n1,hu,he,hb,hi,hr,hg⟩:=hc;refine cD ?_;unfold iu aV bh bw ct bL cN nF bd bB iF bI aY cK aF cC;refine aX (λx=>x.2=(w,c)/\x.1=aj) ?_ ?_
 .refine bK (λh=>by have h:c.1<0:=h;omega) λ_=>bK (λh=>by have h:32<c.1:=h;omega) λ_=>ar ⟨rfl,bz λh=>by have h:aQ c.2.length=0:=h;dsimp only[au] at h;omega⟩
 rintro⟨b,x⟩ ⟨e,Y⟩;dsimp only at e Y;subst e;subst Y;refine fJ ?_;refine cr c.2.length (λi x=>x.1=(i:Int)/\x.2=(w,c)) ?_ ?_ ⟨rfl,rfl⟩
 .rintro i ⟨a,x⟩ hi2 ⟨e1,e2⟩;dsimp only at e1 e2;subst e1;subst e2;have hla:=Uj c.2 hu n1 hb he.1 i hi2;have Z:∀ z:IT,z=iA c.2 i->(i<c.2.length-1->GI nT w.2.2.2.2.2 k z/\(z.1=10->0<=z.2.2.1/\z.2.2.1<(c.2.length:Int))/\(z.1=5->0<=z.2.1/\z.2.1<(c.2.length:Int))/\∀ j:Int,j∈iR z->j<c.1)/\(i=c.2.length-1->z.1=28/\z.2.2.2.2.2= -1):=λz Z=>by
   subst Z;refine ⟨λh=>⟨hi i h,hr i h,λh5=>?_,hg i h⟩,λh=>by rw[h];exact he⟩;obtain⟨_,ρ,hρ⟩:=hb;obtain⟨q',e,hq'⟩:=(hρ i (jX _) h).2.2.1 h5;rw[e];omega
  refine dg ?_;refine cE (aT ?_);generalize hzz:(aJ (T:=BA) c.2 (i:Int))=z;obtain⟨I,J⟩:=Z z hzz.symm;have hcs:i<c.2.length-1\/i=c.2.length-1:=by omega
  have o1:1<=z.1:=by
   rcases hcs with h|h
   .exact (I h).1.o.o1
   .rw[(J h).1];decide
  have o2:z.1<=28:=by
   rcases hcs with h|h
   .exact Int.le_trans (I h).1.o.o2 (by decide)
   .rw[(J h).1];decide
  have M:z.1=28->i=c.2.length-1:=λh=>hcs.resolve_left λg=>by have:=(I g).1.o.o2;rw[h] at this;exact cV this (by decide)
  have hob:OB nT z:=by
   rcases hcs with h|h
   .exact (I h).1.o.b
   .unfold OB;rw[(J h).1];simp
  have hrg:∀ j:Int,j∈iR z->0<=j/\j<c.1:=λj hj=>by
   rcases hcs with h|h
   .exact⟨((I h).1.o.r j hj).1,(I h).2.2.2 j hj⟩
   .unfold iR at hj;rw[(J h).1] at hj;simp at hj
  have hwr:bn .i64 (aQ c.2.length-1)=((c.2.length-1:Nat):Int):=by rw[io (by dsimp only[au];omega) (by dsimp only[au];omega)];dsimp only[au];omega
  have hcd:((decide (z.1=28)==decide ((i:Int)=bn .i64 (aQ c.2.length-1))) !=ai)=aj:=by
   rw[hwr];rcases hcs with h|h
   .rw[bz λh2=>by have:=M h2;omega,bz (by omega:¬(i:Int)=((c.2.length-1:Nat):Int))];rfl
   .rw[aO (J h).1,aO (by omega:(i:Int)=((c.2.length-1:Nat):Int))];rfl
  refine aX (λx=>x=(aj,w,c,z)) ?_ ?_
  .refine bK (λh=>cV h (Ch.2 o1)) λ_=>bK (λh=>cV h (Ch.2 o2)) λ_=>fI hcd ?_
   refine aU (N9 w z hw hT hob) (fI rfl (aU hla (ar rfl)))
  rintro x rfl;refine fJ (aX (λx=>x=(aj,w,c,z)) ?_ ?_)
  .simp only[rX,WE];refine aK (λh=>?_) λh=>?_
   .have h5:=(J (M h)).2;exact b8 (λg=>(g h5).elim) λ_=>b8 (λg=>(g h).elim) λ_=>ar rfl
   .have hsi:=(I (hcs.resolve_right λg=>h (J g).1)).1.s;refine b8 (λ_=>b8 (λg=>(g ⟨hsi.1,hsi.2.1⟩).elim) λg=>aR g.1 g.2 (aT (ar ?_))) λg=>(h g).elim
    rw[aO hsi.2.2];rfl
  rintro x rfl;refine fJ (aX (λx=>x=(aj,w,c,z)) ?_ ?_)
  .simp only[rX,WE];have U:z.1=5\/z.1=10->i<c.2.length-1:=λh=>hcs.resolve_right λg=>by rw[(J g).1] at h;exact cV h (by decide)
   refine aK (λh=>?_) λh=>?_
   .have h2:=(I (U (.inl h))).2.2.1 h;refine b8 (λg=>(g h2).elim) λ_=>aK (λg=>?_) λ_=>ar rfl
    rw[h] at g;exact cV g (by decide)
   .refine aK (λg=>ar ?_) λ_=>ar rfl
    have h2:=(I (U (.inr g))).2.1 g;rw[aO (show 0<=z.2.2.1/\z.2.2.1<aQ c.2.length from h2)];rfl
  rintro x rfl;refine fJ (aU (tP z) ?_);have hrl:=CF z;refine cr (iR z).length (λj x=>x=((j:Int),w,c)) ?_ ?_ rfl
  .rintro j x hj rfl;refine dg ?_;refine cE (aT ?_);refine aU (rX _ _) (b8 (λg=>(g (hrg _ (bH (T:=.int .i64) (xs:=iR z) (j:=(j:Int)) (by omega) (by omega)))).elim) λ_=>ar ?_);dsimp only;rw[gM (by omega)]
  .rintro x rfl;exact db (ar ⟨gM (by omega),rfl⟩)
 .rintro⟨a,x⟩ ⟨e1,e2⟩;dsimp only at e1 e2;subst e1;subst e2;exact db (ar rfl)
abbrev GN:Type:=List (List UInt8×Int×Int×Bool×Int)×List (List UInt8×Bool)×List (List UInt8×Int)×List (List UInt8)×List (List UInt8)×List (Int×Int×Int)×List (List UInt8)×Int×Int
theorem MJ (l:List (List UInt8×Bool)) (s:List UInt8) (hl:l.length<=1000):Ok (km (l,s)) λr=> -1<=r/\r<l.length/\(0<=r->(aJ (T:=TO) l r).1=s)/\(r<0->∀ c∈l,c.1≠s):=by
 unfold km bB bI aY cK aF cC;refine cr l.length (λi x=>x=(i:Int)/\∀ k:Nat,k<i->(aJ (T:=TO) l (k:Int)).1≠s) ?_ ?_ ⟨rfl,λk hk=>by omega⟩
 .rintro i x hi ⟨rfl,I⟩;refine dg ?_;refine cE (aT ?_);refine aK (λh=>ar ⟨by omega,by omega,λ_=>h,λh=>by omega⟩) λh=>ar ⟨gM (by omega),λk hk=>?_⟩
  rcases b7 k i with h1|h1
  .exact I k h1
  .rw[show k=i by omega];exact h
 .rintro x ⟨rfl,I⟩;exact db (ar ⟨by omega,by omega,λh=>by omega,λ_=>iy (T:=TO) (p:=λc=>c.1≠s) I⟩)
theorem agy {r:Int} {s:List UInt8} (h: -1<=r/\r<G0.length/\(0<=r->(aJ (T:=TO) G0 r).1=s)/\(r<0->∀ c∈G0,c.1≠s)):(s=[109]->r=0)/\(s=[110]->r=1)/\(s=[114]->r=2):=by
 obtain⟨h0,h1,h2,I⟩:=h;have h1:r<3:=h1;rcases (by omega:r= -1\/r=0\/r=1\/r=2) with rfl|rfl|rfl|rfl
 .have I:=I (by decide);exact⟨λh=>(I ([109],aj) (by decide) h.symm).elim,λh=>(I ([110],aj) (by decide) h.symm).elim,λh=>(I ([114],ai) (by decide) h.symm).elim⟩
 .have h2:[109]=s:=h2 (by decide);subst h2;exact⟨λ_=>rfl,λh=>(by cases h),λh=>(by cases h)⟩
 .have h2:[110]=s:=h2 (by decide);subst h2;exact⟨λh=>(by cases h),λ_=>rfl,λh=>(by cases h)⟩
 .have h2:[114]=s:=h2 (by decide);subst h2;exact⟨λh=>(by cases h),λh=>(by cases h),λ_=>rfl⟩
theorem Aw (w:WT) (s:List UInt8) (J:w.1=C0):Ok (lm (w,s)) λr=>(s∈NV->s∉L0->0<=r/\r<=2)/\(s=[113]->r=3):=by
 have hl:w.1.length=5:=by rw[J];rfl
 unfold lm bB bI aY cK aF cC;refine cr w.1.length (λi x=>x.1=(i:Int)/\x.2=w/\∀ k:Nat,k<i->(aJ (T:=NK) w.1 (k:Int)).1≠s) ?_ ?_ ⟨rfl,rfl,λk hk=>by omega⟩
 .rintro i ⟨a,x⟩ hi ⟨e1,e2,e3⟩;dsimp only at e1 e2 e3;subst e1;have e2:=e2.symm;subst e2;refine dg ?_;refine cE (aT ?_);refine aK (λh=>ar ?_) λg=>ar ?_
  .rw[J] at h e3;rw[hl] at hi;rcases (by omega:i=0\/i=1\/i=2\/i=3\/i=4) with rfl|rfl|rfl|rfl|rfl
   .have h:[120]=s:=h;subst h;exact⟨λ_ _=>⟨by dsimp only;omega,by dsimp only;omega⟩,λh=>(by cases h)⟩
   .have h:[121]=s:=h;subst h;exact⟨λ_ _=>⟨by dsimp only;omega,by dsimp only;omega⟩,λh=>(by cases h)⟩
   .have h:[118]=s:=h;subst h;exact⟨λ_ _=>⟨by dsimp only;omega,by dsimp only;omega⟩,λh=>(by cases h)⟩
   .have h:[113]=s:=h;subst h;exact⟨λh=>cV h (by decide),λ_=>rfl⟩
   .have h:[113]=s:=h;exact (e3 3 (by omega) h).elim
  .refine ⟨gM (by omega),rfl,λk hk=>?_⟩;rcases b7 k i with h1|h1
   .exact e3 k h1
   .rw[show k=i by omega];exact g
 .rintro⟨a,x⟩ ⟨e1,e2,e3⟩;dsimp only at e1 e2 e3;subst e1;have e2:=e2.symm;subst e2;refine db (ar ?_);have hn:=iy (T:=NK) (p:=λc=>c.1≠s) e3;rw[J] at hn;have a1:=hn ([120],0,0,aj,0) (by decide);have a2:=hn ([121],0,0,aj,1) (by decide);have a3:=hn ([118],0,0,ai,0) (by decide);have M:=hn ([113],0,2,aj,0) (by decide);refine ⟨λh I=>?_,λh=>(M h.symm).elim⟩;simp only[bl,cw,gf,L0] at h I;rcases h with rfl|rfl|rfl|rfl|rfl
  .exact (I (.inl rfl)).elim
  .exact (I (.inr rfl)).elim
  .exact (a1 rfl).elim
  .exact (a2 rfl).elim
  .exact (a3 rfl).elim
theorem Iq (i:IT) (g:GN) (out:List IT) (h:out.length<=100000000):Ok (cA (i,g,out)) λy=>y.1=g/\y.2=out++[(i.1,i.2.1,i.2.2.1,i.2.2.2.1,i.2.2.2.2.1,g.2.2.2.2.2.2.2.1)]:=by
 unfold cA aV bh bw iU bF;exact bi (by simp;omega) (by omega) (ar ⟨rfl,rfl⟩)
def VE:Nat->Nat
 |0=>0
 |d+1=>1+2*VE d
theorem IZ {l m:List IT} {k:Nat} (h:k<l.length):iA (l++m) k=iA l k:=by
 unfold iA;rw[uA,uA,ax,ax,bJ h]
theorem xy (l:List IT) (x:IT):iA (l++[x]) l.length=x:=by
 unfold iA;rw[uA,ax,bV (bP _)];simp
structure QC (nT:Nat) (ss:List (Int×Int×Int)) (t:Int) (n:Nat) (out o:List IT):Prop where
 l:out.length<=o.length
 u:o.length<=out.length+n
 p:∀ k:Nat,k<out.length->iA o k=iA out k
 b:qN o out.length o.length
 i:∀ k:Nat,out.length<=k->k<o.length->GI nT ss t (iA o k)
 r:∀ k:Nat,out.length<=k->k<o.length->(iA o k).1=10->0<=(iA o k).2.2.1/\(iA o k).2.2.1<=(o.length:Int)
variable {nT:Nat} {ss:List (Int×Int×Int)} {t:Int}
theorem QC.nil (n:Nat) (out:List IT):QC nT ss t n out out:=⟨bP _,by omega,λ_ _=>rfl,qN.nil _ _,λk h1 h2=>by omega,λk h1 h2=>by omega⟩
theorem QC.trans {a b c:Nat} {x y z:List IT} (h:QC nT ss t a x y) (k:QC nT ss t b y z) (hc:a+b<=c):QC nT ss t c x z:=by
 obtain⟨h1,h2,h3,h4,h5,h6⟩:=h;obtain⟨k1,k2,I,k4,Z,Y⟩:=k;refine ⟨by omega,by omega,λq hq=>(I q (by omega)).trans (h3 q hq),(h4.congr λq _ hq=>I q hq).app k4,λq U M=>?_,λq U M J=>?_⟩
 .by_cases hq:q<y.length
  .rw[I q hq];exact h5 q U hq
  .exact Z q (by omega) M
 .by_cases hq:q<y.length
  .rw[I q hq] at J ⊢;have:=h6 q U hq J;omega
  .exact Y q (by omega) M J
theorem QC.one {out:List IT} {i:IT} (h:GI nT ss t i) (I:¬i.1=5/\¬i.1=10):QC nT ss t 1 out (out++[i]):=by
 have hl:(out++[i]).length=out.length+1:=by rw[bm];rfl
 refine ⟨by omega,by omega,λk hk=>IZ hk,?_,λk h1 h2=>?_,λk h1 h2 J=>?_⟩
 .rw[hl];exact qN.one (by rw[xy];exact I.1)
 .rw[show k=out.length by omega,xy];exact h
 .rw[show k=out.length by omega,xy] at J;exact (I.2 J).elim
structure GK (ss:List (Int×Int×Int)) (t:Int) (g:GN):Prop where
 c:g.1=C0
 l:g.2.2.2.2.2.2.1=L0
 s:SO ss t g.2.2.2.2.2.2.2.1
theorem Yl {nT:Nat} {op A B C N Z:Int} (h1:1<=op) (h2:op<=27) (hr:∀ j:Int,j∈iR (op,A,B,C,N,Z)->0<=j/\j<32) (hb:OB nT (op,A,B,C,N,Z)):GO nT (op,A,B,C,N,Z):=⟨h1,h2,hr,hb⟩
theorem El {op:Int} {r:Int×Int×Int×Int×Int} {g:GN} {out:List IT} (h:out.length<=100000000) (hg:GK ss t g) (hi:GO nT (op,r)) (J:¬op=5/\¬op=10):Ok (cA ((op,r),g,out)) λy=>y.1=g/\QC nT ss t 1 out y.2:=(Iq (op,r) g out h).mono λy I=>⟨I.1,by rw[I.2];exact QC.one ⟨⟨hi.o1,hi.o2,hi.r,hi.b⟩,hg.s⟩ J⟩
theorem MQ:∀ (n d:Nat),d<n->∀ (e:Xp) (k:Int) (g:GN) (out:List IT),GE d e->GK ss t g->0<=k->k+d<=31->out.length+VE d<=100000000->Ok (iM n ((e,k),g,out)) λy=>y.1=g/\QC nT ss t (VE d) out y.2
 |0,_,h,_,_,_,_,_,_,_,_,_=>by omega
 |n+1,0,_,e,_,_,_,h,_,_,_,_=>h.elim
 |n+1,d+1,hn,e,k,g,out,h,hg,k0,k1,hb=>by
  obtain⟨h1,h2,h3,h4,h5,h6⟩:=h;obtain⟨gc,gl,gs⟩:=id hg;have hv:VE (d+1)=1+2*VE d:=rfl;rw[AK];unfold qz aV bh bw ct dQ bd jZ bF bI aF cC;refine aX (λy=>y.1=g/\QC nT ss t (VE (d+1)) out y.2) ?_ λx hx=>ar hx
  have fin:∀ {y:GN×List IT},(y.1=g/\QC nT ss t 1 out y.2)->y.1=g/\QC nT ss t (VE (d+1)) out y.2:=λh=>⟨h.1,(QC.nil 0 out).trans h.2 (by omega)⟩
  refine aK (λ_=>?_) λn1=>?_
  .refine ay (El (nT:=nT) (by omega) hg (Yl (by decide) (by decide) (by simp[iR];omega) ((by decide:¬(1:Int)=3))) (by decide)) λy I=>be (by simp) (ar (fin I))
  refine aK (λZ=>?_) λZ=>?_
  .refine ay (yI _ _ (by dsimp only;rw[gl];decide)) λv hv=>gg (λg0=>?_) λg0=>?_
   .have J:=hv.2.1;dsimp only at J g0;rw[gl] at J;have J:v<2:=J;refine ay (El (nT:=nT) (by omega) hg (Yl (by decide) (by decide) (by simp[iR];omega) ((by decide:¬(2:Int)=3))) (by decide)) λy I=>be (by simp) (ar (fin I))
   .have J:=hv.2.2.2 g0;dsimp only at J;rw[gl] at J;refine ay (Aw _ _ gc) λv Y=>?_
    have v2:=Y.1 (h5 Z) J;refine ay (El (nT:=nT) (by omega) hg (Yl (by decide) (by decide) (by simp[iR];omega) (v2)) (by decide)) λy I=>be (by simp) (ar (fin I))
  have hl:=h2 n1 Z;have hrec:∀ (j:Nat),j<e.l.length->∀ (k':Int) (o:List IT),0<=k'->k'+d<=31->o.length+VE d<=100000000->Ok (iM n ((aJ (T:=.ex) e.l (j:Int),k'),g,o)) λy=>y.1=g/\QC nT ss t (VE d) o y.2:=λj hj k' o q0 U ho=>MQ n d (by omega) _ k' g o (h4 _ (bH (T:=.ex) (xs:=e.l) (j:=(j:Int)) (by omega) (by omega))) hg q0 U ho
  refine aK (λn3=>?_) λn3=>?_
  .refine cE (aT ?_);refine ay (hrec 0 hl k out k0 (by omega) (by omega)) λy I=>?_
   obtain⟨g2,o2⟩:=y;obtain⟨U,M⟩:=I;dsimp only at U M;subst U;have q3:=M.u;refine be (by simp) ?_;refine ay (Aw _ _ gc) λv Y=>?_
   have v3:=Y.2 (h1 n3);have v3:v=3:=v3;subst v3;refine aR (by decide) (by dsimp only;rw[gc];decide) (aT ?_);refine ay (El (nT:=nT) (by omega) hg (Yl (by decide) (by decide) (by simp[iR];omega) (⟨rfl,by dsimp only;rw[gc];rfl⟩)) (by decide)) λy I=>be (by simp) (ar ⟨I.1,M.trans I.2 (by omega)⟩)
  obtain⟨h7,h8,h9⟩:=h6 n1 Z n3;refine aK (λn4=>?_) λn4=>?_
  .dsimp only[au] at n4;omega
  .have hl2:1<e.l.length:=by omega
   refine cE (aT ?_);refine ay (hrec 0 hl k out k0 (by omega) (by omega)) λy I=>?_
   obtain⟨g2,o2⟩:=y;obtain⟨U,M⟩:=I;dsimp only at U M;subst U;have q3:=M.u;refine be (by simp) ?_;refine cE (aT ?_);dsimp only;rw[io (n:=k+1) (by omega) (by omega)];refine ay (hrec 1 hl2 _ o2 (by omega) (by omega) (by omega)) λy I=>?_
   obtain⟨g3,o3⟩:=y;obtain⟨r1,r2⟩:=I;dsimp only at r1 r2;subst r1;have r3:=r2.u;refine be (by simp) ?_;refine ay (El (nT:=nT) (by omega) hg (Yl (by decide) (by decide) (by simp[iR];omega) (⟨h8,h9⟩)) (by decide)) λy I=>be (by simp) (ar ⟨I.1,(M.trans r2 (bP _)).trans I.2 (by omega)⟩)
theorem TJ (e:Xp) (k:Int) (g:GN) (out:List IT) (he:GE 4 e) (hg:GK ss t g) (I:0<=k) (k1:k<=27) (h:out.length<=99999900):Ok (iL ((e,k),g,out)) λy=>y.1=g/\QC nT ss t 15 out y.2:=MQ fuel 4 (by rw[jV];omega) e k g out he hg I (by omega) (by have:VE 4=15:=rfl;omega)
structure GB (nT:Nat) (g:GN):Prop where
 c:g.1=C0
 l:g.2.1=G0
 d:g.2.2.1=Mm
 f:g.2.2.2.1=Tg
 t:g.2.2.2.2.1=v_.take nT
 h:g.2.2.2.2.2.2.1=L0
structure GQ (g y:GN):Prop where
 a:y.1=g.1
 b:y.2.1=g.2.1
 c:y.2.2.1=g.2.2.1
 d:y.2.2.2.1=g.2.2.2.1
 e:y.2.2.2.2.1=g.2.2.2.2.1
 h:y.2.2.2.2.2.2.1=g.2.2.2.2.2.2.1
theorem GQ.refl (g:GN):GQ g g:=⟨rfl,rfl,rfl,rfl,rfl,rfl⟩
theorem GQ.trans {a b c:GN} (h:GQ a b) (k:GQ b c):GQ a c:=⟨k.a.trans h.a,k.b.trans h.b,k.c.trans h.c,k.d.trans h.d,k.e.trans h.e,k.h.trans h.h⟩
variable {nT:Nat} {ss:List (Int×Int×Int)} {t:Int}
theorem GB.of {g y:GN} (h:GB nT g) (q:GQ g y):GB nT y:=⟨q.a.trans h.c,q.b.trans h.l,q.c.trans h.d,q.d.trans h.f,q.e.trans h.t,q.h.trans h.h⟩
theorem GQ.site (g:GN) (x:List (Int×Int×Int)) (a b:Int):GQ g (g.1,g.2.1,g.2.2.1,g.2.2.2.1,g.2.2.2.2.1,x,g.2.2.2.2.2.2.1,a,b):=⟨rfl,rfl,rfl,rfl,rfl,rfl⟩
abbrev gS (g:GN):Int:=g.2.2.2.2.2.2.2.1
abbrev gN (g:GN):Int:=g.2.2.2.2.2.2.2.2
structure QG (nT:Nat) (ss:List (Int×Int×Int)) (t:Int) (n m:Nat) (g:GN) (out:List IT) (y:GN×List IT):Prop where
 q:GQ g y.1
 c:QC nT ss t n out y.2
 x:gN y.1=gN g+(m:Int)
theorem xq {op:Int} {r:Int×Int×Int×Int×Int} {g:GN} {out:List IT} (h:out.length<=100000000) (hg:GB nT g) (hs:SO ss t (gS g)) (hi:GO nT (op,r)) (I:¬op=5/\¬op=10):Ok (cA ((op,r),g,out)) λy=>y.1=g/\QC nT ss t 1 out y.2:=El h ⟨hg.c,hg.h,hs⟩ hi I
theorem Cp (e:Xp) (k:Int) (g:GN) (out:List IT) (he:GE 4 e) (hg:GB nT g) (hs:SO ss t (gS g)) (I:0<=k) (k1:k<=27) (h:out.length<=99999000):Ok (iL ((e,k),g,out)) λy=>y.1=g/\QC nT ss t 15 out y.2:=TJ e k g out he ⟨hg.c,hg.h,hs⟩ I k1 (by omega)
theorem GB.len {g:GN} (h:GB nT g):aQ (al g.2.2.2.2.2.2.1)=2:=by rw[h.h];rfl
theorem VS (s:Sx) (g:GN) (out:List IT) (h1:s.index≠[]->s.name=[113]) (h2:∀ e∈s.index,GE 4 e) (h3:GE 4 s.expr) (h4:s.index=[]->s.name∈NV) (hg:GB nT g) (hs:SO ss t (gS g)) (h:out.length<=99990000):Ok (lV (s,g,out)) λy=>y.1=g/\QC nT ss t 40 out y.2:=by
 have hex:GE 4 (eh (Xp.op s.expr,Xp.n s.expr,Xp.name s.expr,Xp.l s.expr)):=by rw[fm];exact h3
 have e3:bn .i64 ((2:Int)+1)=3:=io (by decide) (by decide);unfold lV aV bh bw ct dQ bB jZ bF bI aY;refine bK (λJ=>?_) λJ=>?_
 .dsimp only[au] at J;refine cE (aT ?_);refine ay (Cp _ _ g out (h2 _ (bH (T:=.ex) (xs:=s.index) (j:=0) (by omega) (by omega))) hg hs (by rw[hg.len];decide) (by rw[hg.len];decide) (by omega)) λy I=>?_
  obtain⟨g2,o2⟩:=y;obtain⟨Y,U⟩:=I;dsimp only at Y U;subst Y;have q3:=U.u;refine be (by simp) ?_;dsimp only;rw[hg.len,e3];refine ay (Cp _ _ g2 o2 hex hg hs (by decide) (by decide) (by omega)) λy I=>?_
  obtain⟨g3,o3⟩:=y;obtain⟨r1,r2⟩:=I;dsimp only at r1 r2;subst r1;have r3:=r2.u;refine be (by simp) ?_;refine ay (Aw _ _ hg.c) λv hv=>?_
  have Z:=hv.2 (h1 (λh=>by rw[h] at J;simp at J));have Z:v=3:=Z;subst Z;refine aR (by decide) (by dsimp only;rw[hg.c];decide) (aT ?_);refine ay (xq (by omega) hg hs (Yl (by decide) (by decide) (by simp[iR,hg.h,L0]) (⟨rfl,by dsimp only;rw[hg.c];rfl⟩)) (by decide)) λy I=>be (by simp) (ar ⟨I.1,(U.trans r2 (bP _)).trans I.2 (by omega)⟩)
 .have hi0:s.index=[]:=gO.1 (by dsimp only[au] at J;omega);refine ay (Cp _ _ g out hex hg hs (by rw[hg.len];decide) (by rw[hg.len];decide) (by omega)) λy I=>?_
  obtain⟨g2,o2⟩:=y;obtain⟨Y,U⟩:=I;dsimp only at Y U;subst Y;have q3:=U.u;refine be (by simp) ?_;refine ay (yI _ _ (by dsimp only;rw[hg.h];decide)) λv hv=>gg (λJ=>?_) λJ=>?_
  .have M:=hv.2.1;dsimp only at M J;rw[hg.h] at M;have M:v<2:=M;refine ay (xq (by omega) hg hs (Yl (by decide) (by decide) (by simp[iR,hg.h,L0];omega) ((by decide:¬(2:Int)=3))) (by decide)) λy I=>be (by simp) (ar ⟨I.1,U.trans I.2 (by omega)⟩)
  .have M:=hv.2.2.2 J;dsimp only at M;rw[hg.h] at M;refine ay (Aw _ _ hg.c) λv hv2=>?_
   have v2:=hv2.1 (h4 hi0) M;refine ay (xq (by omega) hg hs (Yl (by decide) (by decide) (by simp[iR,hg.h,L0]) (v2)) (by decide)) λy I=>be (by simp) (ar ⟨I.1,U.trans I.2 (by omega)⟩)
theorem abk (s:List UInt8) (g:GN) (out:List IT) (hg:GB nT g):Ok (jv (s,g,out)) λy=>y.2=(g,out)/\(s=[99]->y.1=0):=by
 have hd:g.2.2.1.length=1:=by rw[hg.d];rfl
 unfold jv aV bB bI aY cK aF cC;refine cr 1 (λi x=>x.1=(i:Int)/\x.2=(g,out)/\(s=[99]->i=0)) ?_ ?_ ⟨rfl,rfl,λ_=>rfl⟩
 .rintro i ⟨a,x⟩ hi ⟨e1,e2,e3⟩;dsimp only at e1 e2 e3;subst e1;subst e2;refine dg ?_;refine cE (aT ?_);refine aK (λ_=>ar ⟨rfl,λ_=>by dsimp only;omega⟩) λh=>ar ⟨gM (by omega),rfl,λh2=>?_⟩
  refine (h ?_).elim;dsimp only;rw[hg.d,show i=0 by omega,h2];rfl
 .rintro⟨a,x⟩ ⟨e1,e2,e3⟩;dsimp only at e1 e2 e3;subst e1;subst e2;exact db (ar ⟨rfl,λh=>by have:=e3 h;omega⟩)
def ME:Nat->Nat
 |0=>0
 |d+1=>50+16*ME d
def SR (ss:List (Int×Int×Int)) (t a:Int) (m:Nat):Prop:=0<=a/\a+m<=1000/\∀ i:Int,a<=i->i<a+m->SO ss t i
def SpG (nT:Nat) (ss:List (Int×Int×Int)) (t:Int) (I:Sx×GN×List IT->Option (GN×List IT)) (d:Nat):Prop:=∀ (s:Sx) (g:GN) (out:List IT),GS nT d s->GB nT g->SR ss t (gN g) (PU d s)->out.length+ME d<=90000000->Ok (I (s,g,out)) (QG nT ss t (ME d) (PU d s) g out)
def acg (nT:Nat) (ss:List (Int×Int×Int)) (t:Int) (rs:List Sx×GN×List IT->Option (GN×List IT)) (d:Nat):Prop:=∀ (l:List Sx) (g:GN) (out:List IT),l.length<=100->(∀ s∈l,GS nT d s)->GB nT g->SR ss t (gN g) (nC d l)->out.length+l.length*ME d<=90000000->Ok (rs (l,g,out)) (QG nT ss t (l.length*ME d) (nC d l) g out)
abbrev FS6:Type:=List Sx×GN×List IT->Option (GN×List IT)
abbrev FT6:Type:=Sx×GN×List IT->Option (GN×List IT)
abbrev FA6:Type:=(Sx×Int×Int×Int)×GN×List IT->Option (GN×List IT)
variable {nT:Nat} {ss:List (Int×Int×Int)} {t:Int}
def ajf (nT:Nat) (ss:List (Int×Int×Int)) (t:Int) (I:FT6) (d:Nat):Prop:=∀ (s:Sx) (g:GN) (out:List IT),s.op=2\/s.op=3->GE 4 s.expr->s.body.length<=8->s.els.length<=8->(∀ x∈s.body,GS nT d x)->(∀ x∈s.els,GS nT d x)->(¬s.op=2->s.els=[])->GB nT g->SO ss t (gS g)->SR ss t (gN g) (nC d s.body+nC d s.els)->out.length+ME (d+1)<=90000000->Ok (I (s,g,out)) (QG nT ss t (17+16*ME d) (nC d s.body+nC d s.els) g out)
def ajg (nT:Nat) (ss:List (Int×Int×Int)) (t:Int) (ra:FA6) (d:Nat):Prop:=∀ (s:Sx) (a b c:Int) (g:GN) (out:List IT),s.body.length<=8->(∀ x∈s.body,GS nT d x)->GO nT (a,c,0,0,0,0)->GO nT (b,c,0,0,0,0)->¬a=5/\¬a=10->¬b=5/\¬b=10->GB nT g->SO ss t (gS g)->SR ss t (gN g) (nC d s.body)->out.length+ME (d+1)<=90000000->Ok (ra ((s,a,b,c),g,out)) (QG nT ss t (17+16*ME d) (nC d s.body) g out)
theorem SR.sub {a b:Int} {m n:Nat} (h:SR ss t a m) (h1:a<=b) (h2:b+n<=a+m):SR ss t b n:=⟨by have:=h.1;omega,by have:=h.2.1;omega,λi J I=>h.2.2 i (by omega) (by omega)⟩
theorem UV (rs:FS6) (U:FT6) (Z:FT6) (ra:FA6) (d:Nat) (ht:SpG nT ss t U d):acg nT ss t (qA rs U Z ra) d:=by
 intro l g out hl hs hg hso hb;unfold qA bB bF bI aY cK aF cC;refine cr l.length (λi x=>x.1=(i:Int)/\QG nT ss t (i*ME d) (nC d (l.take i)) g out x.2) ?_ ?_ ⟨rfl,GQ.refl g,QC.nil _ _,by simp[nC]⟩
 .rintro i ⟨a,Y,o2⟩ hi ⟨e1,J,I,q3⟩;dsimp only at e1 J I q3;subst e1;have hK:(i+1)*ME d<=l.length*ME d:=cG _ (by omega);have hKs:=iW i (ME d);rw[Nat.succ_eq_add_one] at hKs;have hp:=Pf (d:=d) l (i+1);rw[wV hi] at hp;have q4:=I.u;refine dg ?_;refine cE (aT ?_);refine ay (ht _ Y o2 (hs _ (bH (T:=.sm) (xs:=l) (j:=(i:Int)) (by omega) (by omega))) (hg.of J) (hso.sub (by rw[q3];omega) (by rw[q3];dsimp only;omega)) (by omega)) λy M=>be (by simp) (ar ?_)
  rw[wV hi];exact⟨gM (by omega),J.trans M.q,I.trans M.c (by omega),by rw[M.x,q3];dsimp only;omega⟩
 .rintro⟨a,Y,o2⟩ ⟨e1,q⟩;dsimp only at e1;subst e1;rw[cR] at q;exact db (ar q)
theorem Ri (rs:FS6) (rt:FT6) (rb:FT6) (ra:FA6) (d:Nat) (hS:acg nT ss t rs d):ajg nT ss t (o7 rs rt rb ra) d:=by
 intro s a b c g out h1 h2 ga gb na nb hg hs hso hb;have hm:ME (d+1)=50+16*ME d:=rfl;have kb:s.body.length*ME d<=8*ME d:=cG _ h1;unfold o7 aV bh bw ct dQ iU bL nF bF;refine ay (xq (by omega) hg hs ga na) λy I=>?_
 obtain⟨Z,o2⟩:=y;obtain⟨Y,J⟩:=I;dsimp only at Y J;subst Y;have q3:=J.u;refine be (by simp) ?_;refine ay (hS s.body Z o2 (by omega) h2 hg hso (by omega)) λy I=>?_
 obtain⟨M,o3⟩:=y;obtain⟨r1,r2,r3⟩:=I;dsimp only at r1 r2 r3;have r4:=r2.u;refine be (by simp) ?_;have U:=r1.trans (GQ.site M M.2.2.2.2.2.1 Z.2.2.2.2.2.2.2.1 M.2.2.2.2.2.2.2.2);refine ay (xq (by dsimp only;omega) (hg.of U) hs gb nb) λy I=>be (by simp) (ar ⟨?_,?_,?_⟩)
 .rw[I.1];exact U
 .exact (J.trans r2 (bP _)).trans I.2 (by omega)
 .rw[I.1];exact r3
theorem zn {l:List IT} {j k:Nat} {x:IT} (h:j<l.length):iA (cq l (j:Int) x) k=if k=j then x else iA l k:=Jl (T:=BA) l j k x h
abbrev ptB (l:List IT) (j:Nat) (b:Int):List IT:=cq l (j:Int) ((iA l j).1,(iA l j).2.1,b,(iA l j).2.2.2.1,(iA l j).2.2.2.2.1,(iA l j).2.2.2.2.2)
abbrev ptA (l:List IT) (j:Nat) (a:Int):List IT:=cq l (j:Int) ((iA l j).1,a,(iA l j).2.2.1,(iA l j).2.2.2.1,(iA l j).2.2.2.2.1,(iA l j).2.2.2.2.2)
theorem GI.pb {i:IT} {b:Int} (h:GI nT ss t i) (h1:i.1=10):GI nT ss t (i.1,i.2.1,b,i.2.2.2.1,i.2.2.2.2.1,i.2.2.2.2.2):=by
 obtain⟨Z,Y,U,M,J,I⟩:=i;dsimp only at h1;subst h1;exact⟨⟨h.o.o1,h.o.o2,h.o.r,(by decide:¬(10:Int)=3)⟩,h.s⟩
theorem QC.cbr {n m:Nat} {out o1 o2 I:List IT} {br:IT} (h1:QC nT ss t n out o1) (h2:o2=o1++[br]) (hb:GI nT ss t br) (U:br.1=10) (M:QC nT ss t m o2 I) (F:List IT) (hl:I.length<=F.length) (Y:∀ k:Nat,k<I.length->¬k=o1.length->iA F k=iA I k) (hFb:∃ b:Int,(0<=b/\b<=(F.length:Int))/\iA F o1.length=(br.1,br.2.1,b,br.2.2.2.1,br.2.2.2.2.1,br.2.2.2.2.2)):(∀ k:Nat,k<out.length->iA F k=iA out k)/\qN F out.length o1.length/\(iA F o1.length).1=10/\qN F (o1.length+1) I.length/\(∀ k:Nat,out.length<=k->k<I.length->GI nT ss t (iA F k))/\∀ k:Nat,out.length<=k->k<I.length->(iA F k).1=10->0<=(iA F k).2.2.1/\(iA F k).2.2.1<=(F.length:Int):=by
 have l2:o2.length=o1.length+1:=by rw[h2,bm];rfl
 have l1:=h1.l;have l3:=M.l;have e1:∀ k:Nat,k<o1.length->iA F k=iA o1 k:=λk hk=>by rw[Y k (by omega) (by omega),M.p k (by omega),h2,IZ hk]
 obtain⟨b,hb0,eb⟩:=hFb;refine ⟨λk hk=>(e1 k (by omega)).trans (h1.p k hk),h1.b.congr λk _ hk=>e1 k hk,by rw[eb];exact U,?_,λk g1 J=>?_,λk g1 J Z=>?_⟩
 .have:=M.b;rw[l2] at this;exact this.congr λk g1 J=>Y k J (by omega)
 .rcases Nz k o1.length with hk|hk|hk
  .rw[e1 k hk];exact h1.i k g1 hk
  .rw[hk,eb];exact hb.pb U
  .rw[Y k J (by omega)];exact M.i k (by omega) J
 .rcases Nz k o1.length with hk|hk|hk
  .rw[e1 k hk] at Z ⊢;have:=h1.r k g1 hk Z;omega
  .rw[hk,eb];exact hb0
  .rw[Y k J (by omega)] at Z ⊢;have:=M.r k (by omega) J Z;omega
theorem LR (rs:FS6) (rt:FT6) (rb:FT6) (ra:FA6) (d:Nat) (hS:acg nT ss t rs d):ajf nT ss t (my rs rt rb ra) d:=by
 intro s g out hop he h1 h2 h3 h4 hel hg hs hso hb;have hm:ME (d+1)=50+16*ME d:=rfl;have kb:s.body.length*ME d<=8*ME d:=cG _ h1;have ke:s.els.length*ME d<=8*ME d:=cG _ h2;have hex:GE 4 (eh (Xp.op s.expr,Xp.n s.expr,Xp.name s.expr,Xp.l s.expr)):=by rw[fm];exact he
 unfold my aV bh bw ct dQ iU nF ck bd bF aY;refine ay (Cp _ _ g out hex hg hs (by rw[hg.len];decide) (by rw[hg.len];decide) (by omega)) λy hy=>?_
 obtain⟨Y,o1⟩:=y;obtain⟨p1,p2⟩:=hy;dsimp only at p1 p2;subst p1;have p3:=p2.u;have p4:=p2.l;refine be (by simp) ?_;refine ay (Iq _ Y o1 (by omega)) λy hy=>?_
 obtain⟨J,o2⟩:=y;obtain⟨q1,q2⟩:=hy;dsimp only at q1 q2;subst q1;rw[hg.len] at q2;have hbr:GI nT ss t ((10,2,0,0,0,J.2.2.2.2.2.2.2.1):IT):=⟨Yl (by decide) (by decide) (by simp[iR]) (by decide:¬(10:Int)=3),hs⟩
 have l2:o2.length=o1.length+1:=by rw[q2,bm];rfl
 refine be (by simp) ?_;refine ay (hS s.body J o2 (by omega) h3 hg (hso.sub (eD _) (by omega)) (by omega)) λy hy=>?_
 obtain⟨U,I⟩:=y;obtain⟨r1,r2,r3⟩:=hy;dsimp only at r1 r2 r3;have r4:=r2.u;have r5:=r2.l;have ebr:iA I o1.length=(10,2,0,0,0,J.2.2.2.2.2.2.2.1):=by rw[r2.p _ (by omega),q2,xy]
 refine be (by simp) ?_;have qs:=r1.trans (GQ.site U U.2.2.2.2.2.1 J.2.2.2.2.2.2.2.1 U.2.2.2.2.2.2.2.2);refine aK (λh3w=>?_) λh3w=>?_
 .have hels:nC d s.els=0:=by rw[hel (by have h3w:s.op=3:=h3w;omega)];rfl
  rw[hels,dl];refine ay (Iq _ _ I (by omega)) λy hy=>?_
  obtain⟨g4,M⟩:=y;obtain⟨w1,w2⟩:=hy;dsimp only at w1 w2;have l4:M.length=I.length+1:=by rw[w2,bm];rfl
  refine be (by simp) (aR (eM _) (by dsimp only[au];omega) (aR (eM _) (by dsimp only[au];omega) (ar ?_)));have hat:o1.length<M.length:=by omega
  have ej:iA M I.length=(5,(out.length:Int),0,0,0,J.2.2.2.2.2.2.2.1):=by rw[w2,xy];rfl
  have e43:∀ k:Nat,k<I.length->iA M k=iA I k:=λk hk=>by rw[w2,IZ hk]
  refine ⟨by dsimp only;rw[w1];exact qs,?_,by dsimp only;rw[w1];exact r3⟩;dsimp only;have eF:∀ {z:IT} {k:Nat},¬k=o1.length->iA (cq M ((o1.length:Nat):Int) z) k=iA M k:=λh=>by rw[zn hat,aA h]
  obtain⟨f1,f2,f3,f4,f5,f6⟩:=p2.cbr q2 hbr rfl r2 (ptB M o1.length (aQ M.length)) (by rw[bT];omega) (λk hk hn=>(eF hn).trans (e43 k hk)) ⟨_,⟨eM _,by rw[bT];exact eD _⟩,by rw[zn hat,aE rfl,e43 _ (by omega),ebr];rfl⟩;show QC nT ss t _ out (ptB M o1.length (aQ M.length));have ejF:iA (ptB M o1.length (aQ M.length)) I.length=(5,(out.length:Int),0,0,0,J.2.2.2.2.2.2.2.1):=(eF (by omega:¬I.length=o1.length)).trans ej;refine ⟨by rw[bT];omega,by rw[bT];omega,f1,?_,λk Y J=>?_,λk Y J U=>?_⟩
  .rw[(bT _ _ _).trans l4];exact f2.whl f3 f4 (by rw[ejF]) (by rw[ejF])
  .rw[bT,l4] at J;by_cases hk:k<I.length
   .exact f5 k Y hk
   .rw[show k=I.length by omega,ejF];exact⟨Yl (by decide) (by decide) (by simp[iR]) (by decide:¬(5:Int)=3),hs⟩
  .have g2':=J;rw[bT,l4] at g2';by_cases hk:k<I.length
   .exact f6 k Y hk U
   .rw[show k=I.length by omega,ejF] at U;cases U
 refine aK (λhz=>?_) λ_=>?_
 .have hels:nC d s.els=0:=by rw[gO.1 (by dsimp only[au] at hz;omega:s.els.length=0)];rfl
  rw[hels,dl];refine aR (eM _) (by dsimp only[au];omega) (aR (eM _) (by dsimp only[au];omega) (ar ⟨qs,?_,r3⟩));dsimp only;have hat:o1.length<I.length:=by omega
  obtain⟨f1,f2,f3,f4,f5,f6⟩:=p2.cbr q2 hbr rfl r2 (ptB I o1.length (aQ I.length)) (by rw[bT];omega) (λk hk hn=>by rw[zn hat,aA hn]) ⟨_,⟨eM _,by rw[bT];exact eD _⟩,by rw[zn hat,aE rfl,ebr];rfl⟩;show QC nT ss t _ out (ptB I o1.length (aQ I.length));refine ⟨by rw[bT];omega,by rw[bT];omega,f1,?_,λk Y J=>?_,λk Y J U=>?_⟩
  .rw[bT];exact (f2.app (qN.one (by rw[f3];decide))).app f4
  .rw[bT] at J;exact f5 k Y J
  .exact f6 k Y (by rw[bT] at J;exact J) U
 .refine ay (Iq _ _ I (by omega)) λy hy=>?_
  obtain⟨g4,M⟩:=y;obtain⟨w1,w2⟩:=hy;dsimp only at w1 w2;have l4:M.length=I.length+1:=by rw[w2,bm];rfl
  have qs4:GQ J g4:=by rw[w1];exact qs
  have x4:gN g4=gN J+(nC d s.body:Nat):=by rw[w1];exact r3
  have hat:o1.length<M.length:=by omega
  have ej:iA M I.length=(5,0,0,0,0,J.2.2.2.2.2.2.2.1):=by rw[w2,xy]
  have e43:∀ k:Nat,k<I.length->iA M k=iA I k:=λk hk=>by rw[w2,IZ hk]
  refine be (by simp) (aR (eM _) (by dsimp only[au];omega) (aR (eM _) (by dsimp only[au];omega) ?_));have eF:∀ {z:IT} {k:Nat},¬k=o1.length->iA (cq M ((o1.length:Nat):Int) z) k=iA M k:=λh=>by rw[zn hat,aA h]
  refine ay (hS s.els g4 (ptB M o1.length (aQ M.length)) (by omega) h4 (hg.of qs4) (hso.sub (by rw[x4];omega) (by rw[x4];omega)) (by rw[bT];omega)) λy hy=>?_
  obtain⟨g5,Z⟩:=y;obtain⟨z1,z2,z3⟩:=hy;dsimp only at z1 z2 z3;have z4:=z2.l;have z5:=z2.u;have zp:=z2.p;have zb:=z2.b;have zi:=z2.i;have zr:=z2.r;rw[bT] at z4 z5 zp zb zi zr;have hj5:I.length<Z.length:=by omega
  refine be (by simp) (aR (eM _) (by dsimp only[au];omega) (aR (eM _) (by dsimp only[au];omega) (ar ⟨qs4.trans z1,?_,by dsimp only;rw[z3,x4];omega⟩)));dsimp only;show QC nT ss t _ out (ptA Z I.length (aQ Z.length));have eG:∀ {z:IT} {k:Nat},¬k=I.length->iA (cq Z ((I.length:Nat):Int) z) k=iA Z k:=λh=>by rw[zn hj5,aA h]
  have ej5:iA Z I.length=(5,0,0,0,0,J.2.2.2.2.2.2.2.1):=by rw[zp _ (by omega),eF (by omega),ej]
  obtain⟨f1,f2,f3,f4,f5,f6⟩:=p2.cbr q2 hbr rfl r2 (ptA Z I.length (aQ Z.length)) (by rw[bT];omega) (λk hk hn=>by rw[eG (by omega),zp k (by omega),eF hn,e43 k hk]) ⟨aQ M.length,⟨eM _,by rw[bT];dsimp only[au];omega⟩,by rw[eG (by omega),zp _ (by omega),zn hat,aE rfl,e43 _ (by omega),ebr]⟩;have ejF:iA (ptA Z I.length (aQ Z.length)) I.length=(5,aQ Z.length,0,0,0,J.2.2.2.2.2.2.2.1):=by rw[zn hj5,aE rfl,ej5]
  refine ⟨by rw[bT];omega,by rw[bT];omega,f1,?_,λk Y J=>?_,λk Y J U=>?_⟩
  .rw[bT];refine ((f2.app (qN.one (by rw[f3];decide))).app f4).ite (by rw[ejF]) (by rw[ejF];rfl) ?_;rw[l4] at zb;exact zb.congr λk Y J=>eG (by omega)
  .rw[bT] at J;rcases Nz k I.length with hk|hk|hk
   .exact f5 k Y hk
   .rw[hk,ejF];exact⟨Yl (by decide) (by decide) (by simp[iR]) (by decide:¬(5:Int)=3),hs⟩
   .rw[eG (by omega)];exact zi k (by omega) J
  .have g2':=J;rw[bT] at g2';rcases Nz k I.length with hk|hk|hk
   .exact f6 k Y hk U
   .rw[hk,ejF] at U;cases U
   .rw[eG (by omega)] at U ⊢;rw[bT];exact zr k (by omega) g2' U
theorem Yk (rs:FS6) (rt:FT6) (rb:FT6) (ra:FA6) (d:Nat) (hB:ajf nT ss t rb d) (hA:ajg nT ss t ra d):SpG nT ss t (rY rs rt rb ra) (d+1):=by
 intro s g out hs hg hso hb;have hm:ME (d+1)=50+16*ME d:=rfl;obtain⟨i1,i2,i3,i4,i5,i6,i7,i8,i9,Y⟩:=hs;have hcn:PU (d+1) s=1+nC d s.body+nC d s.els:=rfl;rw[hcn] at hso ⊢;obtain⟨so0,so1,so2⟩:=id hso;have so0:0<=g.2.2.2.2.2.2.2.2:=so0;have so1:g.2.2.2.2.2.2.2.2+((1+nC d s.body+nC d s.els:Nat):Int)<=1000:=so1;have ew:bn .i64 (g.2.2.2.2.2.2.2.2+1)=g.2.2.2.2.2.2.2.2+1:=io (by omega) (by omega);have gs:=GQ.site g g.2.2.2.2.2.1 g.2.2.2.2.2.2.2.2 (bn .i64 (g.2.2.2.2.2.2.2.2+1));unfold rY aV bh bw ct dQ bL nF bd bF aY aF cC ep;refine aX (λx=>QG nT ss t (ME (d+1)) (1+nC d s.body+nC d s.els) g out x) ?_ λx hx=>ar hx
 dsimp only;have Z:SO ss t (gS ((g.1,g.2.1,g.2.2.1,g.2.2.2.1,g.2.2.2.2.1,g.2.2.2.2.2.1,g.2.2.2.2.2.2.1,g.2.2.2.2.2.2.2.2,bn .i64 (g.2.2.2.2.2.2.2.2+1)):GN)):=so2 _ (eD _) (by show g.2.2.2.2.2.2.2.2<g.2.2.2.2.2.2.2.2+((1+nC d s.body+nC d s.els:Nat):Int);omega);have hn1:gN ((g.1,g.2.1,g.2.2.1,g.2.2.2.1,g.2.2.2.2.1,g.2.2.2.2.2.1,g.2.2.2.2.2.2.1,g.2.2.2.2.2.2.2.2,bn .i64 (g.2.2.2.2.2.2.2.2+1)):GN)=gN g+1:=ew;revert gs Z hn1;generalize ((g.1,g.2.1,g.2.2.1,g.2.2.2.1,g.2.2.2.2.1,g.2.2.2.2.2.1,g.2.2.2.2.2.2.1,g.2.2.2.2.2.2.2.2,bn .i64 (g.2.2.2.2.2.2.2.2+1)):GN)=U;intro gs Z hn1;have M:=hg.of gs;have hso1:=hso.sub (b:=gN U) (n:=nC d s.body+nC d s.els) (by rw[hn1];omega) (by rw[hn1];omega);have fin:∀ (n m:Nat) (y:GN×List IT),QG nT ss t n m U out y->n<=ME (d+1)->m=nC d s.body+nC d s.els->QG nT ss t (ME (d+1)) (1+nC d s.body+nC d s.els) g out y:=λn m y J hn hm=>⟨gs.trans J.q,(QC.nil 0 out).trans J.c (by omega),by rw[J.x,hn1];omega⟩
 have fin0:s.op=1\/9<=s.op->∀ (n:Nat) (y:GN×List IT),y.1=U/\QC nT ss t n out y.2->n<=ME (d+1)->QG nT ss t (ME (d+1)) (1+nC d s.body+nC d s.els) g out y:=λI n y J hn=>fin n 0 y ⟨by rw[J.1];exact GQ.refl U,J.2,by rw[J.1];simp⟩ hn (by rw[Y.bo I,Y.el (by omega)];rfl)
 refine aK (λI=>?_) λ_=>?_
 .refine ay (VS (nO _) U out ?_ ?_ ?_ ?_ M Z (by omega)) λy J=>be (by simp) (ar (fin0 (.inl I) _ _ J (by omega)))
  .rw[yc];exact i1
  .rw[yc];exact i3
  .rw[yc];exact i4 (.inl I)
  .rw[yc];exact Y.vr I
 refine aX (λx=>x.2=(U,s,out)/\(x.1=ai↔s.op=2\/s.op=3)) ?_ ?_
 .exact aK (λh=>ar ⟨by dsimp only;rw[yc],λ_=>.inl h,λ_=>aO h⟩) λh=>ar ⟨by dsimp only;rw[yc],λh2=>.inr (bf h2),λh2=>aO (h2.resolve_left h)⟩
 rintro⟨b,x⟩ ⟨e,hb2⟩;dsimp only at e hb2;subst e;refine aP (λhb3=>?_) λhbf=>?_
 .dsimp only;rw[yc];refine ay (hB s U out (hb2.1 hb3) (i4 (by rcases hb2.1 hb3 with h|h;exact .inr (.inl h);exact .inr (.inr (.inl h)))) i6 i7 i8 i9 Y.el M Z hso1 hb) λy J=>be (by simp) (ar (fin _ _ _ J (by omega) rfl))
 have har:∀ (a b c:Int),4<=s.op->GO nT (a,c,0,0,0,0)->GO nT (b,c,0,0,0,0)->¬a=5/\¬a=10->¬b=5/\¬b=10->Ok (ra ((s,a,b,c),U,out)) λy=>QG nT ss t (ME (d+1)) (1+nC d s.body+nC d s.els) g out y:=λa b c h4 ga gb na nb=>(hA s a b c U out i6 i8 ga gb na nb M Z (hso1.sub (eD _) (by omega)) hb).mono λy J=>fin _ _ _ J (by omega) (by rw[Y.el (by omega)];rfl)
 have hput:∀ {op:Int} {r:Int×Int×Int×Int×Int},9<=s.op->GO nT (op,r)->¬op=5/\¬op=10->Ok (cA ((op,r),U,out)) (QG nT ss t (ME (d+1)) (1+nC d s.body+nC d s.els) g out):=λh9 hi h5=>(xq (by omega) M Z hi h5).mono λy J=>fin0 (.inr h9) _ _ J (by omega)
 have hlk:∀ n:List UInt8,Ok (km (U.2.1,n)) λr=>(n=[109]->r=0)/\(n=[110]->r=1)/\(n=[114]->r=2):=λn=>(MJ U.2.1 n (by rw[M.l];decide)).mono λr h=>agy (by rw[M.l] at h;exact h)
 have hcond:∀ (n:List UInt8),Ok (jv (n,U,out)) λy=>y.2=(U,out)/\(n=[99]->y.1=0):=λn=>abk n U out M
 have hth:Ok (jb (U.2.2.2.2.1,s.name)) λr=>s.op=12\/s.op=13->0<=r/\r<(nT:Int):=(yI U.2.2.2.2.1 s.name (by rw[M.t,bA];have q4:v_.length=4:=rfl;omega)).mono λr hr I=>by
  have hn:=Y.sp I;have hl:(v_.take nT).length<=nT:=qa ..;obtain⟨_,h2,_,h4⟩:=hr;rw[M.t] at h2 h4;exact⟨Ch.1 λh=>h4 h hn,by omega⟩
 have hft:∀ n:List UInt8,Ok (jb (U.2.2.2.1,n)) λr=>n=[102]->r=0:=λn=>(yI U.2.2.2.1 n (by rw[M.f];decide)).mono λr hr hn=>by
  obtain⟨h1,h2,_,h4⟩:=hr;rw[M.f] at h2 h4;have h2:r<1:=h2;have:¬r<0:=λh=>h4 h (by rw[hn];decide)
  omega
 dsimp only;rw[yc];have gor:∀ {a c:Int},1<=a->a<=27->iR (a,c,0,0,0,0)=[]->OB nT (a,c,0,0,0,0)->GO nT (a,c,0,0,0,0):=λh1 h2 h3 h4=>⟨h1,h2,by rw[h3];exact λj hj=>(by cases hj),h4⟩
 refine aK (λI=>ay (hlk _) λv hv=>ay (har _ _ _ (by have I:s.op=4:=I;omega) (gor (by decide) (by decide) rfl ?_) (gor (by decide) (by decide) rfl ?_) (by decide) (by decide)) λy J=>be (by simp) (ar J)) λ_=>?_
 .exact (Y.lk I).imp hv.1 hv.2.1
 .exact (Y.lk I).imp hv.1 hv.2.1
 refine aK (λI=>ay (hlk _) λv hv=>ay (har _ _ _ (by have I:s.op=5:=I;omega) (gor (by decide) (by decide) rfl ?_) (gor (by decide) (by decide) rfl ?_) (by decide) (by decide)) λy J=>be (by simp) (ar J)) λ_=>?_
 .exact hv.2.2 (Y.rw (.inl I))
 .exact hv.2.2 (Y.rw (.inl I))
 refine aK (λI=>ay (hlk _) λv hv=>ay (har _ _ _ (by have I:s.op=6:=I;omega) (gor (by decide) (by decide) rfl ?_) (gor (by decide) (by decide) rfl ?_) (by decide) (by decide)) λy J=>be (by simp) (ar J)) λ_=>?_
 .exact hv.2.2 (Y.rw (.inr I))
 .exact hv.2.2 (Y.rw (.inr I))
 refine aK (λI=>ay (har _ _ _ (by have I:s.op=7:=I;omega) (gor (by decide) (by decide) rfl (by decide:¬(17:Int)=3)) (gor (by decide) (by decide) rfl (by decide:¬(18:Int)=3)) (by decide) (by decide)) λy J=>be (by simp) (ar J)) λ_=>?_
 refine aK (λI=>ay (har _ _ _ (by have I:s.op=8:=I;omega) (gor (by decide) (by decide) rfl (by decide:¬(19:Int)=3)) (gor (by decide) (by decide) rfl (by decide:¬(20:Int)=3)) (by decide) (by decide)) λy J=>be (by simp) (ar J)) λ_=>?_
 refine aK (λI=>ay (hcond _) λy J=>?_) λ_=>?_
 .obtain⟨v,y2⟩:=y;obtain⟨y3,y4⟩:=J;dsimp only at y3;subst y3;exact be (by simp) (ay (hput (by have I:s.op=9:=I;omega) (gor (by decide) (by decide) rfl (y4 (Y.cn (.inl I)))) (by decide)) λy J=>be (by simp) (ar J))
 refine aK (λI=>ay (hcond _) λy J=>?_) λ_=>?_
 .obtain⟨v,y2⟩:=y;obtain⟨y3,y4⟩:=J;dsimp only at y3;subst y3;exact be (by simp) (ay (hput (by have I:s.op=10:=I;omega) (gor (by decide) (by decide) rfl (y4 (Y.cn (.inr (.inl I))))) (by decide)) λy J=>be (by simp) (ar J))
 refine aK (λI=>ay (hcond _) λy J=>?_) λ_=>?_
 .obtain⟨v,y2⟩:=y;obtain⟨y3,y4⟩:=J;dsimp only at y3;subst y3;exact be (by simp) (ay (hput (by have I:s.op=11:=I;omega) (gor (by decide) (by decide) rfl (y4 (Y.cn (.inr (.inr I))))) (by decide)) λy J=>be (by simp) (ar J))
 refine aK (λI=>ay hth λv hv=>ay (hput (by have I:s.op=12:=I;omega) (gor (by decide) (by decide) rfl (hv (.inl I))) (by decide)) λy J=>be (by simp) (ar J)) λ_=>?_
 refine aK (λI=>ay hth λv hv=>ay (hput (by have I:s.op=13:=I;omega) (gor (by decide) (by decide) rfl (hv (.inr I))) (by decide)) λy J=>be (by simp) (ar J)) λ_=>?_
 refine aK (λI=>?_) λn14=>?_
 .have hex:GE 4 (eh (Xp.op s.expr,Xp.n s.expr,Xp.name s.expr,Xp.l s.expr)):=by rw[fm];exact i4 (.inr (.inr (.inr I)))
  refine ay (Cp _ _ U out hex M Z (by rw[hg.len];decide) (by rw[hg.len];decide) (by omega)) λy J=>?_
  obtain⟨g2,o2⟩:=y;obtain⟨q1,q2⟩:=J;dsimp only at q1 q2;subst q1;have q3:=q2.u;refine be (by simp) (ay (hft _) λv hv=>?_);refine ay (xq (by omega) M Z (Yl (by decide) (by decide) (by simp[iR,hg.h,L0]) (hv (Y.se I))) (by decide)) λy J=>be (by simp) (ar (fin0 (.inr (by have I:s.op=14:=I;omega)) 16 _ ⟨J.1,q2.trans J.2 (bP _)⟩ (by omega)))
 refine aK (λI=>?_) λn15=>?_
 .refine ay (yI _ _ (by rw[M.h];decide)) λv hv=>ay (hft _) λv2 hv2=>?_
  have hge:=Y.ge I;have hl:(0:Int)<=v/\v<2:=by
   obtain⟨_,h2,_,h4⟩:=hv;rw[M.h] at h2 h4;exact⟨Ch.1 λh=>h4 h (by rw[hge.1];decide),h2⟩
  exact ay (hput (by have I:s.op=15:=I;omega) (Yl (by decide) (by decide) (by simp[iR];omega) (hv2 hge.2)) (by decide)) λy J=>be (by simp) (ar J)
 .exfalso;have h1:=Y.o0;have h2:=Y.o1;have h3:¬(s.op=2\/s.op=3):=λh=>by have hbf:b=aj:=hbf;rw[hb2.2 h] at hbf;cases hbf
  omega
variable {nT:Nat} {ss:List (Int×Int×Int)} {t:Int}
theorem W5:∀ (n:Nat),(∀ d:Nat,3*d<n->SpG nT ss t (eT n) d)/\(∀ d:Nat,3*d+1<n->acg nT ss t (dM n) d)/\(∀ d:Nat,3*d+2<n->ajf nT ss t (c7 n) d)/\(∀ d:Nat,3*d+2<n->ajg nT ss t (dG n) d)
 |0=>⟨λd h=>by omega,λd h=>by omega,λd h=>by omega,λd h=>by omega⟩
 |n+1=>by
  obtain⟨J,I,M,hA⟩:=W5 n;refine ⟨λd h=>?_,λd h=>?_,λd h=>?_,λd h=>?_⟩
  .cases d with
   |zero=>exact λs g out hs=>hs.elim
   |succ d=>exact Yk (dM n) (eT n) (c7 n) (dG n) d (M d (by omega)) (hA d (by omega))
  .exact UV (dM n) (eT n) (c7 n) (dG n) d (J d (by omega))
  .exact LR (dM n) (eT n) (c7 n) (dG n) d (I d (by omega))
  .exact Ri (dM n) (eT n) (c7 n) (dG n) d (I d (by omega))
theorem OM (d:Nat) (hd:d<=100):acg nT ss t ui d:=(W5 fuel).2.1 d (by rw[jV];omega)
structure SL (t k:Int) (m:Nat) (S:List (Int×Int×Int)):Prop where
 l:S.length=m
 v:∀ i:Nat,i<m->(aJ (T:=x_) S (i:Int)).1=t/\(aJ (T:=x_) S (i:Int)).2.1=k+i
theorem Jn {T:Ty} {l m:List T.den} {k:Nat} (h:k<l.length):aJ (l++m) (k:Int)=aJ l (k:Int):=by
 rw[uA,uA,ax,ax,bJ h]
theorem Jm {T:Ty} {l m:List T.den} {k:Nat} (h:l.length<=k):aJ (l++m) (k:Int)=aJ m ((k-l.length:Nat):Int):=by
 rw[uA,uA,ax,ax,bV h]
theorem SL.nil (t k:Int):SL t k 0 []:=⟨rfl,λi h=>by omega⟩
theorem SL.one (t k z:Int):SL t k 1 [(t,k,z)]:=⟨rfl,λi h=>by rw[show i=0 by omega];exact⟨rfl,by show k=k+((0:Nat):Int);omega⟩⟩
theorem SL.app {k k':Int} {a b:Nat} {S S':List (Int×Int×Int)} (h:SL t k a S) (h':SL t k' b S') (hk:k'=k+a):SL t k (a+b) (S++S'):=by
 obtain⟨h1,h2⟩:=h;obtain⟨J,I⟩:=h';refine ⟨by rw[bm];omega,λi hi=>?_⟩;by_cases hl:i<S.length
 .rw[Jn (T:=x_) hl];exact h2 i (by omega)
 .rw[Jm (T:=x_) (by omega)];have:=I (i-S.length) (by omega);exact⟨this.1,this.2.trans (show k'+((i-S.length:Nat):Int)=k+(i:Int) by omega)⟩
theorem E5:∀ (n d:Nat),d<n->∀ (t k:Int) (l:List Sx) (out:List (Int×Int×Int)),l.length<=100->(∀ s∈l,GT d s)->0<=k->k+nC d l<=100000000->out.length+nC d l<=100000000->Ok (py n ((t,k,l),out)) λy=>y.1=k+nC d l/\∃ S,y.2=out++S/\SL t k (nC d l) S
 |0,_,h,_,_,_,_,_,_,_,_,_=>by omega
 |n+1,d,hn,t,k,l,out,hl,hs,k0,hkb,hb=>by
  rw[Hi];unfold xD bB v9 bF aY cK aF cC;refine cr l.length (λi x=>x.1.2=(i:Int)/\x.1.1=k+nC d (l.take i)/\∃ S,x.2=out++S/\SL t k (nC d (l.take i)) S) ?_ ?_ ⟨rfl,by simp[nC],[],by simp,by simp[nC];exact SL.nil t k⟩
  .rintro i ⟨⟨a,b⟩,o⟩ hi ⟨e1,e2,S,e3,e4⟩;dsimp only at e1 e2 e3;subst e1;subst e2;subst e3;have hp:=Pf (d:=d) l (i+1);rw[wV hi] at hp;rw[wV hi];refine dg ?_;have hin:((i:Nat):Int)<(l.length:Int):=by omega
   have hm:=hs _ (bH (T:=.sm) (xs:=l) (j:=(i:Int)) (by omega) (by omega));have hSl:=e4.l;cases d with
   |zero=>exact hm.elim
   |succ d=>
    obtain⟨_,_,_,g4,g5,g6,g7⟩:=hm;have hc:PU (d+1) (aJ (T:=.sm) l (i:Int))=1+nC d (Sx.body (aJ (T:=.sm) l (i:Int)))+nC d (Sx.els (aJ (T:=.sm) l (i:Int))):=rfl;rw[hc] at hp ⊢;dsimp only;refine aR (by omega) hin (aT (bi (by simp;omega) (by omega) (aR (by omega) hin (aT ?_))));rw[io (n:=k+(nC (d+1) (l.take i):Nat)+1) (by omega) (by omega)];refine ay (E5 n d (by omega) _ _ _ _ (by omega) g6 (by omega) (by omega) (by simp;omega)) λy I=>be (by simp) ?_
    obtain⟨a2,o2⟩:=y;obtain⟨Z,S2,Y,U⟩:=I;dsimp only at Z Y;subst Z;subst Y;have hSl2:=U.l;refine aR (by omega) hin (aT ?_);refine ay (E5 n d (by omega) _ _ _ _ (by omega) g7 (by omega) (by omega) (by simp;omega)) λy I=>be (by simp) (ar ?_)
    obtain⟨a3,o3⟩:=y;obtain⟨M,S3,J,z3⟩:=I;dsimp only at M J;subst M;subst J;refine ⟨gM (by omega),by dsimp only;omega,S++([_]++(S2++S3)),by simp only[gH];rfl,?_⟩;refine e4.app ?_ rfl;rw[sP];exact (SL.one t _ _).app (U.app z3 rfl) (by simp)
  .rintro⟨⟨a,b⟩,o⟩ ⟨e1,e2,e3⟩;dsimp only at e1 e2 e3;subst e1;subst e2;rw[cR] at e3 ⊢;exact db (ar ⟨rfl,e3⟩)
theorem Wi {T k' U k:Int} {l S:List (Int×Int×Int)} {m:Nat} (h:Li T l=af (k',U)) (Y:SL t k m S) (hk:(k'=t/\U=k)\/(k'<t/\t<T/\k=0)):∀ i:Nat,i<=m->Li T (l++S.take i)=af (if i=0 then (k',U) else (t,k+i))
 |0,_=>by rw[List.take_zero,hY,aE rfl];exact h
 |i+1,hi=>by
  have ih:=Wi h Y hk i (by omega);rw[oe (T:=x_) (xs:=S) (i:=i) (by rw[Y.l];omega),<-gH,Wk,ih];obtain⟨I,M⟩:=Y.v i (by omega);rw[aA (Nat.succ_ne_zero i)];by_cases J:i=0
  .subst J;rw[aE rfl];unfold Tx;dsimp only;rcases hk with ⟨h1,h2⟩|⟨h1,h2,Z⟩
   .rw[aE ⟨by rw[I,h1],by rw[M,h2];simp⟩,h1,h2];simp
   .rw[aA (λh=>by rw[I] at h;omega),aE ⟨by rw[I];exact h1,by rw[I];exact h2,by rw[M,Z];rfl⟩,I,Z];simp
  .rw[aA J];unfold Tx;dsimp only;rw[aE ⟨I,M⟩];congr 2;omega
abbrev CE6:Type:=List UInt8×Int×Int×Bool×Int
abbrev W4T:Type:=List CE6×List (List UInt8×Bool)×List (List UInt8×Int)×List (List UInt8)
def ceD (z:DT):List CE6:=(dT (aS (jL z.2.2.2.1 1))).map λ(k:Nat)=>(z.2.2.1,(k:Int),z.2.2.2.1,decide (z.1=2),z.2.2.2.2.1)
def adD (y:W4T) (z:DT):W4T:=
 if z.1=1\/z.1=2 then (y.1++ceD z,y.2) else if z.1=3\/z.1=4 then (y.1,y.2.1++[(z.2.2.1,decide (z.1=4))],y.2.2) else if z.1=5 then (y.1,y.2.1,y.2.2.1++[(z.2.2.1,0)],y.2.2.2) else (y.1,y.2.1,y.2.2.1,y.2.2.2++[z.2.2.1])
def W4 (i:Nat):W4T:=(D0.take i).foldl adD ([],[],[],[])
theorem W4_9:W4 9=(C0,G0,Mm,Tg):=rfl
theorem W4_s {i:Nat} (hi:i<9):W4 (i+1)=adD (W4 i) (aJ (T:=tDc) D0 (i:Int)):=by
 unfold W4;rw[oe (T:=tDc) (xs:=D0) hi,fK];rfl
theorem D0_c:∀ i:Nat,i<9->(aJ (T:=tDc) D0 (i:Int)).1=5->i=7:=by decide
theorem ama:∀ i:Nat,i<9->(W4 i).1.length<=5/\(W4 i).2.1.length<=3/\(W4 i).2.2.1.length<=1/\(W4 i).2.2.2.length<=1/\jL (aJ (T:=tDc) D0 (i:Int)).2.2.2.1 1<=2/\1<=jL (aJ (T:=tDc) D0 (i:Int)).2.2.2.1 1:=by decide
def bsN (p:PG) (i:Nat):Nat:=((p.2.take i).map λt=>nC 5 t.2.2.2).sum
def boN (p:PG) (i:Nat):Nat:=nC 5 (aJ (T:=yT) p.2 (i:Int)).2.2.2
theorem ah9 {p:PG} {i:Nat} (hi:i<p.2.length):bsN p (i+1)=bsN p i+boN p i:=by
 unfold bsN boN;rw[oe (T:=yT) hi,cP,FD];simp
theorem VN {p:PG} (i:Nat) (h:(p.2.map λt=>nC 5 t.2.2.2).sum<=60):bsN p i<=60:=by
 refine dk ?_ h
 conv=>rhs;rw[<- Bw i p.2]
 unfold bsN;rw[cP,FD];omega
structure SW (p:PG) (i:Nat) (S:List (Int×Int×Int)):Prop where
 l:S.length=bsN p i
 f:∃ a b,Li p.2.length S=af (a,b)/\(a<i\/a=0/\b=0)
 s:∀ j:Nat,j<i->SR S (j:Int) (bsN p j:Nat) (boN p j)
structure WW (p:PG) (w:WT):Prop where
 x:WX w
 t:w.2.2.2.2.1=v_.take p.2.length
 s:∀ j:Nat,j<p.2.length->SR w.2.2.2.2.2 (j:Int) (bsN p j:Nat) (boN p j)
theorem SO.app {S S':List (Int×Int×Int)} {t s:Int} (h:SO S t s):SO (S++S') t s:=by
 obtain⟨h0,h1,h2⟩:=h;obtain⟨s,rfl⟩:∃ n:Nat,s=(n:Int):=⟨s.toNat,by omega⟩
 exact⟨h0,by rw[bm];omega,by rw[Jn (T:=x_) (by omega)];exact h2⟩
theorem VW (p:PG) (hp:PJ p) (r:Int×Int) (hr:fo p=af r) (h0:r.1=0) (hc:(p.2.map λt=>nC 5 t.2.2.2).sum<=60):Ok (uj p) (WW p):=by
 have hpt:=hp.t;unfold uj aV bh bw ct dQ bL dc cN eZ mq bd bB iF bF bI aY cK aF cC;refine aU hr (b8 (λh=>(h h0).elim) λ_=>?_);have hD:p.1=D0:=hp.d;have hlen:p.1.length=9:=by rw[hD];rfl
 refine cr 9 (λi x=>x.1=(i:Int)/\x.2.1=p/\x.2.2=W4 i) ?_ ?_ ⟨rfl,rfl,rfl⟩
 .rintro i ⟨a,p',y⟩ hi ⟨e1,e2,e3⟩;dsimp only at e1 e2 e3;subst e1;have e2:=e2.symm;subst e2;obtain⟨b1,b2,b3,b4,b5,b6⟩:=ama i hi;rw[<- e3] at b1 b2 b3 b4;have hW:=W4_s hi;rw[<- e3] at hW;have hcd:=D0_c i hi;have hlk:i=7->y.2.1=G0/\(aJ (T:=tDc) D0 (i:Int)).2.2.2.2.2=[109]:=λh=>by subst h;rw[e3];exact⟨rfl,rfl⟩
  refine dg ?_;refine cE (aT ?_);dsimp only;rw[hD];revert hW hcd hlk b5 b6;generalize (aJ (T:=tDc) D0 (i:Int))=z;intro b5 b6 hW hcd hlk;refine aX (λx=>x=(p,W4 (i+1))) ?_ ?_
  .rw[hW];unfold adD;refine aX (λx=>x.2=(p,z,y)/\(x.1=ai↔(z.1=1\/z.1=2))) ?_ ?_
   .exact aK (λh=>ar ⟨rfl,λ_=>.inl h,λ_=>aO h⟩) λh=>ar ⟨rfl,λh2=>.inr (bf h2),λh2=>aO (h2.resolve_left h)⟩
   rintro⟨b,x⟩ ⟨e,hb⟩;dsimp only at e hb;subst e;refine aP (λI=>?_) λI=>?_
   .rw[aE (hb.1 I)];unfold ceD;obtain⟨m,hm⟩:∃ m:Nat,jL z.2.2.2.1 1=(m:Int):=⟨(jL z.2.2.2.1 1).toNat,by omega⟩
    rw[hm,dx];refine cr m (λk x=>x=((k:Int),p,z,y.1++(dT k).map (λ(k:Nat)=>(z.2.2.1,(k:Int),z.2.2.2.1,decide (z.1=2),z.2.2.2.2.1)),y.2)) ?_ ?_ (by simp)
    .rintro k x hk rfl;refine bK (λ_=>?_) λg=>(by dsimp only at g;rw[hm] at g;omega)
     refine bi (by simp;omega) (by omega) (ar ?_);dsimp only;rw[gM (by omega),List.range_succ,cP,<-gH];rfl
    .rintro x rfl;exact bK (λg=>(by dsimp only at g;rw[hm] at g;omega)) λ_=>ar rfl
   rw[aA λh=>by have I:b=aj:=I;rw[hb.2 h] at I;cases I];refine aX (λx=>x.2=(p,z,y)/\(x.1=ai↔(z.1=3\/z.1=4))) ?_ ?_
   .exact aK (λh=>ar ⟨rfl,λ_=>.inl h,λ_=>aO h⟩) λh=>ar ⟨rfl,λh2=>.inr (bf h2),λh2=>aO (h2.resolve_left h)⟩
   rintro⟨c,x⟩ ⟨e,U⟩;dsimp only at e U;subst e;refine aP (λh=>?_) λh=>?_
   .rw[aE (U.1 h)];exact bi (by simp;omega) (by omega) (ar rfl)
   rw[aA λh2=>by have h:c=aj:=h;rw[U.2 h2] at h;cases h];refine aK (λh5=>?_) λh5=>?_
   .obtain⟨l1,l2⟩:=hlk (hcd h5);rw[aE h5];refine ay (MJ _ _ (by dsimp only;rw[l1];decide)) λv hv=>?_
    have hv:=(agy (by dsimp only at hv;rw[l1] at hv;exact hv)).1 l2;subst hv;exact bi (by simp;omega) (by omega) (ar rfl)
   .rw[aA h5];exact bi (by simp;omega) (by omega) (ar rfl)
  rintro x rfl;exact ar ⟨gM (by omega),rfl,rfl⟩
 .rintro⟨a,p',y⟩ ⟨e1,e2,j⟩;dsimp only at e1 e2 j;subst e1;have e2:=e2.symm;subst e2;rw[W4_9] at j;subst j;refine db ?_;refine ay (P:=WW p) ?_ λr hr=>ar hr
  refine cr p.2.length (λi x=>x.1=(i:Int)/\x.2.1=p/\x.2.2.1=C0/\x.2.2.2.1=G0/\x.2.2.2.2.1=Mm/\x.2.2.2.2.2.1=Tg/\x.2.2.2.2.2.2.1=v_.take i/\SW p i x.2.2.2.2.2.2.2) ?_ ?_ ⟨rfl,rfl,rfl,rfl,rfl,rfl,rfl,rfl,⟨0,0,rfl,.inr ⟨rfl,rfl⟩⟩,λj hj=>by omega⟩
  .rintro i ⟨a,p2,c2,l2,d2,f2,t2,s2⟩ hi ⟨e1,e2,e3,e4,e5,e6,Z,M,⟨fa,fb,f8,f9⟩,J⟩;dsimp only at e1 e2 e3 e4 e5 e6 Z M f8 J;subst e1;have e2:=e2.symm;subst e2;have hb8:=VN (i+1) hc;have hbs:=ah9 hi;refine dg ?_;have hin:((i:Nat):Int)<(p.2.length:Int):=by omega
   have hm:=hp.m _ (bH (T:=yT) (xs:=p.2) (j:=(i:Int)) (by omega) hin);have hnm:(aJ (T:=yT) p.2 (i:Int)).1=aJ (T:=.str) v_ (i:Int):=by
    have h1:=oe (T:=yT) hi;have h2:=gx (List.map Prod.fst) h1;rw[cP,kK,kK,hp.n,List.take_take,List.take_take,sJ (by omega),sJ (by omega),oe (T:=.str) (xs:=v_) (i:=i) (by have q4:v_.length=4:=rfl;omega)] at h2;exact ((List.cons.inj (List.append_cancel_left h2)).1).symm
   have htl:t2.length=i:=by rw[Z,bA];have q4:v_.length=4:=rfl;omega
   dsimp only;refine aR (by omega) hin (aT (bi (by simp;omega) (by omega) (aR (by omega) hin (aT ?_))));refine ay (E5 fuel 5 (by rw[jV];omega) _ _ _ s2 (by have:=hm.b;omega) (λs hs=>((hm.s s hs).le (by omega:3<=5)).t) (eD _) ?_ ?_) λy hy=>be (by simp) (ar ?_)
   .show (0:Int)+(boN p i:Nat)<=_;omega
   .show s2.length+boN p i<=_;omega
   obtain⟨_,S,h2,Y⟩:=hy;have Y:SL (i:Int) 0 (boN p i) S:=Y;refine ⟨gM (by omega),rfl,e3,e4,e5,e6,?_,?_⟩
   .dsimp only;rw[Z,hnm,<-oe (T:=.str) (xs:=v_) (i:=i) (by have q4:v_.length=4:=rfl;omega)]
   .dsimp only;rw[h2];refine ⟨by rw[bm,Y.l,M,hbs],?_,λj hj=>?_⟩
    .have hr:=Wi f8 Y (by rcases f9 with h|⟨h,h'⟩;exact .inr ⟨h,by omega,rfl⟩;rcases Lc i with hi0|hi0;exact .inl ⟨by omega,h'⟩;exact .inr ⟨by omega,by omega,rfl⟩) (boN p i) (bP _);rw[<- Y.l,cR] at hr;rw[hr];split
     .exact⟨_,_,rfl,f9.imp (λh=>by omega) id⟩
     .exact⟨_,_,rfl,.inl (by omega)⟩
    .rcases b7 j i with h1|h1
     .obtain⟨g1,g2,g3⟩:=J j h1;exact⟨g1,g2,λq q1 q2=>(g3 q q1 q2).app⟩
     .have hj:j=i:=by omega
      subst hj;refine ⟨by omega,by omega,λq q1 q2=>?_⟩;obtain⟨q,rfl⟩:∃ n:Nat,q=(n:Int):=⟨q.toNat,by omega⟩
      refine ⟨by omega,by rw[bm,Y.l];omega,?_⟩;rw[Jm (T:=x_) (by omega)];exact (Y.v _ (by omega)).1
  .rintro⟨a,p2,c2,l2,d2,f2,t2,s2⟩ ⟨e1,e2,e3,e4,e5,e6,Z,M,⟨fa,fb,f8,f9⟩,J⟩;dsimp only at e1 e2 e3 e4 e5 e6 Z M f8 J;subst e1;have e2:=e2.symm;subst e2;subst e3;subst e4;subst e5;subst e6;subst Z;refine db (ar ?_);have hb8:=VN p.2.length hc;refine ⟨⟨rfl,rfl,rfl,rfl,⟨p.2.length,hp.t0,hp.t,rfl⟩,by dsimp only;omega,?_⟩,rfl,J⟩;unfold SV0;have hTl:(v_.take p.2.length).length=p.2.length:=by rw[bA];have q4:v_.length=4:=rfl;omega
   dsimp only;rw[hTl,f8];simp
def Y':List (List UInt8):=[[120],[121],[118],[113],[109],[110],[114],[99],[102]]
set_option maxHeartbeats 20000000 in
theorem aa8 (t:List (List UInt8)) (ht:t.length<=4) (s:List (Int×Int×Int)):pm (C0,G0,Mm,Tg,t,s)=af (Y'++t,ai):=by
 refine cD ?_;unfold pm aV bh bw ct dc mq bd bB iF bF bI aY cK aF cC;with_reducible repeat' first|exact ar rfl|refine WC ?_|refine WA ?_|refine Wz ?_|refine Wy ?_|refine ae1 ?_|refine aT ?_|refine fD rfl ?_|refine fI rfl ?_|refine be rfl ?_|refine Qx ?_|refine Qw ?_|refine Qv ?_
 refine bi (by show 9+t.length<=1073741824;omega) (by decide) ?_;with_reducible repeat' first|exact ar rfl|refine WC ?_|refine WA ?_|refine Wz ?_|refine Wy ?_|refine ae1 ?_|refine aT ?_|refine fD rfl ?_|refine fI rfl ?_|refine be rfl ?_|refine Qx ?_|refine Qw ?_|refine Qv ?_
theorem Te:∀ x∈Y'++v_,Ok (fh x) λb=>b=ai:=by
 intro x I;simp only[Y',v_,gr,lP,bl,cw,gf] at I;rcases I with rfl|rfl|rfl|rfl|rfl|rfl|rfl|rfl|rfl|rfl|rfl|rfl|rfl;all_goals with_reducible repeat' first|exact ar rfl|refine WC ?_|refine WA ?_|refine Wz ?_|refine Wy ?_|refine Qv ?_|refine ae1 ?_|refine aT ?_|refine fD rfl ?_|refine fI rfl ?_|refine be rfl ?_|refine Qx ?_|refine Qw ?_|refine c6 (fh.eq_1 ..) ?_|refine c6 (jJ.eq_1 ..) ?_|refine c6 (kx.eq_1 ..) ?_|refine c6 (lq.eq_1 ..) ?_|refine c6 (pq.eq_1 ..) ?_|refine c6 (rq.eq_1 ..) ?_
theorem GT.up:∀ {d:Nat} {s:Sx},GT d s->GT (d+1) s
 |0,_,h=>h.elim
 |_+1,_,⟨a,b,c,e,f,g,i⟩=>⟨a,b,c,e,f,λx I=>GT.up (g x I),λx I=>GT.up (i x I)⟩
theorem aip {l:List Sx} (h:∀ s∈l,GT 3 s):nC 5 l=nC 3 l:=by
 unfold nC;rw[p_ λx I=>(Pe (GT.up (h x I))).trans (Pe (h x I))]
theorem aji:∀ i:Nat,i<13->∀ r:Nat,r<i->aJ (T:=.str) (Y'++v_) (r:Int)≠aJ (T:=.str) (Y'++v_) (i:Int):=by decide
theorem Qc (T:Int):∀ l:List (Int×Int×Int),l.foldl (Tx T) ah=ah
 |[]=>rfl
 |_::r=>Qc T r
theorem Wj {T:Int} {l:List (Int×Int×Int)} (h:Li T l≠ah) (i:Nat):Li T (l.take i)≠ah:=λhn=>h (by
 unfold Li at hn ⊢;rw[<- Bw i l,fK,hn,Qc])
theorem ZW {T t n:Int} {z:Int×Int×Int} (h:Tx T (af (t,n)) z≠ah):Tx T (af (t,n)) z=af (z.1,z.2.1+1)/\(z.1=t/\z.2.1=n\/t<z.1/\z.1<T/\z.2.1=0):=by
 unfold Tx at h ⊢;dsimp only at h ⊢;by_cases h1:z.1=t/\z.2.1=n
 .rw[aE h1];exact⟨by rw[h1.1,h1.2],.inl h1⟩
 .rw[aA h1] at h ⊢;by_cases h2:t<z.1/\z.1<T/\z.2.1=0
  .rw[aE h2];exact⟨by rw[h2.2.2];rfl,.inr h2⟩
  .rw[aA h2] at h;exact (h rfl).elim
theorem BK {R:Type} {a b:Int} {t f:Option R} {Q:R->Prop} (h:b<=a) (hf:Ok f Q):Ok (bcase (fX a b) t f) Q:=fI (gh.2 h) hf
theorem Hx {w:WT} (hx:WX w):h_ w=af ai:=by
 obtain⟨w1,w2,w3,w4,I,J⟩:=w;obtain⟨hc,hl,hd,hf,⟨n,n1,n4,ht⟩,hs,hv⟩:=hx;dsimp only at hc hl hd hf ht hs;subst hc;subst hl;subst hd;subst hf;have hT:I.length=n:=by rw[ht,bA];have q4:v_.length=4:=rfl;omega
 have hv:Li I.length J≠ah:=hv;refine cD ?_;unfold h_ aV bh bw ct cN eZ bd bB jZ iF bF bI aY cK aF cC;refine aX (λx=>x=(aj,C0,G0,Mm,Tg,I,J)) ?_ ?_
 .refine BK (show (5:Int)<=12 by decide) (BK (show (3:Int)<=4 by decide) (BK (show (1:Int)<=2 by decide) (BK (show (1:Int)<=2 by decide) (BK (show (1:Int)<=(I.length:Int) by omega) (BK (show (I.length:Int)<=4 by omega) (ar ?_))))));dsimp only[au];rw[gh.2 (show (J.length:Int)<=60 by omega)]
 rintro x rfl;refine fJ (aU (aa8 I (by omega) J) (fI rfl ?_));have hN:Y'++I=(Y'++v_).take (9+n):=by rw[ht];rcases (by omega:n=1\/n=2\/n=3\/n=4) with rfl|rfl|rfl|rfl<;>rfl
 have hNl:(Y'++I).length=9+n:=by rw[bm,hT];rfl
 have hNg:∀ i:Nat,i<9+n->aJ (T:=.str) (Y'++I) (i:Int)=aJ (T:=.str) (Y'++v_) (i:Int):=λi hi=>by
  rw[hN,uA,uA,ax,ax,List.getElem?_take_of_lt hi]
 refine cr (9+n) (λi x=>x=((i:Int),C0,G0,Mm,Tg,I,J)) ?_ ?_ rfl
 .rintro i x hi rfl;refine bK (λ_=>?_) λg=>(by dsimp only[au] at g;rw[hNl] at g;omega)
  refine aX (λx=>x=(aj,C0,G0,Mm,Tg,I,J)) ?_ ?_
  .refine aR (by dsimp only;omega) (by dsimp only;rw[hNl];omega) (aT ?_);have hmem:aJ (T:=.str) (Y'++I) (i:Int)∈Y'++v_:=by rw[hNg i hi];exact bH (T:=.str) (by omega) (by have:(Y'++v_).length=13:=rfl;omega)
   refine ay (Te _ hmem) λb hb=>?_
   refine fI (by rw[hb];rfl) (cW (dv (by dsimp only;omega) (dv (by dsimp only;rw[hNl];omega) ?_)));refine aR (by dsimp only;omega) (by dsimp only;rw[hNl];omega) (aT ?_);refine ay (yI _ _ (by dsimp only;rw[bA,hNl];omega)) λr hr=>ar ?_
   obtain⟨_,h2,Z,_⟩:=hr;dsimp only at h2 Z;rw[bA,hNl] at h2;have hr0:¬0<=r:=λh0=>by
    have Z:=Z h0;obtain⟨r,rfl⟩:∃ m:Nat,r=(m:Int):=⟨r.toNat,by omega⟩
    rw[uA,ax,List.getElem?_take_of_lt (by omega),<-ax,<-uA (T:=.str),hNg r (by omega),hNg i hi] at Z;exact aji i (by omega) r (by omega) Z
   rw[l7.2 (by omega)]
  .rintro x rfl;exact fJ (ar (by dsimp only;rw[gM (by omega)]))
 rintro x rfl;refine bK (λg=>(by dsimp only[au] at g;rw[hNl] at g;omega)) λ_=>?_
 refine ay (P:=λb=>b=ai) ?_ λy hy=>ar hy
 refine cr 1 (λi x=>x=((i:Int),C0,G0,Mm,Tg,I,J)) ?_ ?_ rfl
 .rintro i x hi rfl;have hi0:i=0:=by omega
  subst hi0;refine fD rfl (be rfl (aT (aX (λx=>x=(aj,C0,G0,Mm,Tg,I,J)) ?_ ?_)))
  .exact fI rfl (fI rfl (be rfl (aT (ar rfl))))
  .rintro x rfl;exact fJ (ar (by dsimp only;rw[gM (by omega)]))
 rintro x rfl;refine bK (λg=>(by have g:(1:Int)<1:=g;omega)) λ_=>?_
 refine ay (P:=λb=>b=ai) ?_ λy hy=>ar hy
 refine cr J.length (λi x=>x=((i:Int),C0,G0,Mm,Tg,I,J)/\∃ t k:Int,Li I.length (J.take i)=af (t,k)/\0<=t/\t<(I.length:Int)/\(i=0->t=0/\k=0)/\(¬i=0->(aJ (T:=x_) J ((i-1:Nat):Int)).1=t/\(aJ (T:=x_) J ((i-1:Nat):Int)).2.1+1=k/\0<k/\k<=i)) ?_ ?_ ⟨rfl,0,0,rfl,by omega,by omega,λ_=>⟨rfl,rfl⟩,λh=>(h rfl).elim⟩
 .rintro i x hi ⟨rfl,t,k,hF,t0,tT,hz,hp⟩;have hw:¬(i:Int)=0->bn .i64 ((i:Int)-1)=((i-1:Nat):Int):=λh=>by rw[io (by omega) (by omega)];omega
  have hnx:=Ik (T:=I.length) hi;have hne:=Wj hv (i+1);rw[hnx,hF] at hne;obtain⟨hs1,M⟩:=ZW hne;rw[hF,hs1] at hnx;refine dg ?_;refine aX (λx=>x=(C0,G0,Mm,Tg,I,J)) ?_ ?_
  .refine cE (aT ?_);revert M;generalize (aJ (T:=x_) J (i:Int))=z;obtain⟨(U:Int),(z2:Int),z3⟩:=z;intro M;dsimp only at M;refine aX (λx=>x=(aj,(C0,G0,Mm,Tg,I,J),U,z2,z3)) ?_ ?_
   .refine BK (show (0:Int)<=U by omega) (ar ?_);dsimp only[au];rw[l7.2 (show U<(I.length:Int) by omega)]
   rintro x rfl;refine fJ (aX (λx=>x.2=((C0,G0,Mm,Tg,I,J),U,z2,z3)/\(x.1=ai->i=0\/¬t=U)/\(x.1=aj->¬i=0/\t=U)) ?_ ?_)
   .refine aK (λh=>ar ⟨rfl,λ_=>.inl (by have h:((i:Nat):Int)=0:=h;omega),λh=>(by cases h)⟩) λh=>?_
    have h:¬((i:Nat):Int)=0:=h;dsimp only;rw[hw h];have hq:=(hp (by omega)).1;exact aR (by omega) (by first|omega|(dsimp only;omega)) (aT (ar ⟨rfl,λh2=>.inr (by rw[<- hq];simpa using h2),λh2=>⟨by omega,by rw[<- hq];simpa using h2⟩⟩))
   rintro⟨c,x⟩ ⟨e,Y,hc⟩;dsimp only at e Y hc;subst e;refine aP (λhct=>?_) λhcf=>?_
   .have hz2:z2=0:=by
     rcases Y hct with h|h
     .have:=hz h;omega
     .omega
    refine aX (λx=>x=(aj,C0,G0,Mm,Tg,I,J)) ?_ ?_
    .refine b8 (λh=>(h hz2).elim) λ_=>bK (λh=>?_) λ_=>ar rfl
     have h:(0:Int)<((i:Nat):Int):=h;dsimp only;rw[hw (by omega)];have hq:=(hp (by omega)).1;refine aR (by omega) (by first|omega|(dsimp only;omega)) (aT (ar ?_));dsimp only;rw[hq,gh.2 (show t<=U by omega)]
    rintro x rfl;exact fJ (ar rfl)
   .obtain⟨h1,h2⟩:=hc hcf;obtain⟨_,p2,p3,p4⟩:=hp h1;dsimp only;rw[hw (by omega)];refine aR (by omega) (by first|omega|(dsimp only;omega)) (aT ?_);refine b8 (λh=>(h ?_).elim) λ_=>ar rfl
    try dsimp only
    rw[p2,io (by omega) (by omega)];omega
  .rintro x rfl;refine ar ⟨by dsimp only;rw[gM (by omega)],_,_,hnx,?_⟩;revert M;rw[show i+1-1=i by omega];generalize (aJ (T:=x_) J (i:Int))=z;obtain⟨(U:Int),(z2:Int),z3⟩:=z;intro M;dsimp only at M ⊢;refine ⟨by omega,by omega,λh=>by omega,λ_=>⟨rfl,rfl,?_,?_⟩⟩
   .by_cases h0:i=0
    .have:=hz h0;omega
    .have:=hp h0;omega
   .by_cases h0:i=0
    .have:=hz h0;omega
    .have:=hp h0;omega
 .rintro x ⟨rfl,_⟩;exact db (ar rfl)
theorem VY {c:CT} (I:WX c.1) (hl:c.2.length=c.1.2.2.2.2.1.length) (h:∀ k:Nat,k<c.2.length->GC c.2.length c.1.2.2.2.2.2 (k:Int) (aJ (T:=v8) c.2 (k:Int))):jH c=af ai:=by
 obtain⟨w,l⟩:=c;dsimp only at I hl h;have M:l.length<=4:=by
  obtain⟨n,_,J,ht⟩:=I.t;rw[hl,ht,bA];omega
 refine cD ?_;unfold jH bw bB bI aY cK aF cC;refine aX (λx=>x=(aj,w,l)) ?_ ?_
 .refine aU (Hx I) (fI rfl (ar ?_));dsimp only;rw[hl];simp
 rintro x rfl;refine fJ (cr l.length (λi x=>x=((i:Int),w,l)) ?_ ?_ rfl)
 .rintro i x hi rfl;refine dg ?_;refine cE (aT (aU (Ec I hl.symm (h i hi)) (fI rfl (ar ?_))));dsimp only;rw[gM (by omega)]
 .rintro x rfl;exact db (ar rfl)
theorem PA (p:PG) (hp:PJ p) (hr4:∃ r,fo p=af r/\r.1=0):Ok (qp p) λy=>CB y.1:=by
 have hpt:=hp.t;obtain⟨r,hr,h0⟩:=hr4;obtain⟨r',hr',Y⟩:=D2 p hp.x;rw[hr] at hr';cases hr';have Y:=Y h0;unfold qp aV bh bw ct dQ bL cN eZ nF bB iF bF bI kF aY cK aF cC;refine aU hr (b8 (λh=>(h h0).elim) λ_=>?_);refine ay (VW p hp r hr h0 Y) λw M=>?_
 have hwT:w.2.2.2.2.1.length=p.2.length:=by rw[M.t,bA];have q4:v_.length=4:=rfl;omega
 refine cr p.2.length (λi x=>x.1.1=((bsN p i:Nat):Int)/\x.1.2=(i:Int)/\x.2.1=p/\x.2.2.1=w/\x.2.2.2.length=i/\∀ j:Nat,j<i->GC p.2.length w.2.2.2.2.2 (j:Int) (aJ (T:=v8) x.2.2.2 (j:Int))) ?_ ?_ ⟨rfl,rfl,rfl,rfl,rfl,λj hj=>by omega⟩
 .rintro i ⟨⟨a,b⟩,p2,w2,cs⟩ hi ⟨e0,e1,e2,e3,Z,e5⟩;dsimp only at e0 e1 e2 e3 Z e5;subst e0;subst e1;have e2:=e2.symm;subst e2;have e3:=e3.symm;subst e3;have hin:((i:Nat):Int)<(p.2.length:Int):=by omega
  refine dg ?_;have hm:=hp.m _ (bH (T:=yT) (xs:=p.2) (j:=(i:Int)) (by omega) hin);have hsr:=M.s i hi;have hbs:=ah9 hi;have hb1:=VN (i+1) Y;have hbo:boN p i=nC 3 (aJ (T:=yT) p.2 (i:Int)).2.2.2:=aip λs hs=>(hm.s s hs).t
  rw[hbo] at hsr hbs;dsimp only;refine aR (by omega) hin (aT (aR (by omega) hin (aT ?_)));revert hm hsr hbs;generalize (aJ (T:=yT) p.2 (i:Int))=t;intro hm hsr hbs;have hk:ME 3=50+16*(50+16*50):=rfl;have hle:=cG (ME 3) hm.b;rw[hk] at hle;have hll:t.2.2.1.length=2:=by rw[hm.l];rfl
  refine ay (OM (nT:=p.2.length) (ss:=w.2.2.2.2.2) (t:=(i:Int)) 3 (by omega) _ _ [] (by have:=hm.b;omega) hm.s ⟨M.x.c,M.x.l,M.x.d,M.x.f,M.t,hm.l⟩ hsr (by rw[hk,jY];omega)) λy hy=>be (by simp) ?_
  obtain⟨g2,o2⟩:=y;obtain⟨q1,q2,q3⟩:=hy;dsimp only at q1 q2 q3;have q4:=q2.u;rw[hk,jY] at q4;refine ay (Iq _ _ o2 (by omega)) λy hy=>be (by simp) ?_
  obtain⟨g3,I⟩:=y;obtain⟨hg3,U⟩:=hy;dsimp only at hg3 U;have hL:aQ (al g3.2.2.2.2.2.2.1)=2:=by
   rw[hg3];show aQ (al g2.2.2.2.2.2.2.1)=2;rw[q1.h];show aQ (al t.2.2.1)=2;rw[hll];rfl
  have l3:I.length=o2.length+1:=by rw[U,bm];rfl
  have J:I.length-1=o2.length:=by omega
  have iq:∀ q:Nat,q<o2.length->iA I q=iA o2 q:=λq hq=>by rw[U,IZ hq]
  have iend:iA I o2.length=(28,0,0,0,0,-1):=by rw[U,xy]
  have hreg:∀ q:Nat,q<I.length->∀ j:Int,j∈iR (iA I q)->0<=j/\j<32:=λq hq j hj=>by
   by_cases h:q<o2.length
   .rw[iq q h] at hj;exact (q2.i q (jX _) h).o.r j hj
   .rw[show q=o2.length by omega,iend] at hj;simp[iR] at hj
  dsimp only;rw[hL];refine cr I.length (λk x=>∃ rg:Int,x=((k:Int),p,w,g3,rg,cs,I)/\2<=rg/\rg<=32/\∀ q:Nat,q<k->∀ j:Int,j∈iR (iA I q)->j<rg) ?_ ?_ ⟨2,rfl,by omega,by omega,λq hq=>by omega⟩
  .rintro k x hk2 ⟨rg,rfl,r0,r1,r2⟩;refine dg ?_;dsimp only;refine cE (cE (aT (aU (tP _) ?_)));have hrk:=hreg k hk2;have hrl:=CF (iA I k);revert hrk hrl;generalize hins:(aJ (T:=BA) I (k:Int))=ins;rw[show iA I k=ins from hins];intro hrk hrl;refine cr (iR ins).length (λj x=>∃ rg':Int,x=((j:Int),p,w,g3,rg',cs,I)/\rg<=rg'/\rg'<=32/\∀ q:Nat,q<j->rg'>aJ (T:=.int .i64) (iR ins) (q:Int)) ?_ ?_ ⟨rg,rfl,eD _,r1,λq hq=>by omega⟩
   .rintro j x hj ⟨rg',rfl,s0,s1,s2⟩;refine dg ?_;refine cE (aT (ar ?_));have hz:=hrk _ (bH (T:=.int .i64) (xs:=iR ins) (j:=(j:Int)) (by omega) (by omega));dsimp only;obtain⟨z,hzj⟩:∃ z:Int,aJ (T:=.int .i64) (iR ins) (j:Int)=z:=⟨_,rfl⟩
    rw[hzj] at hz ⊢;have hz0:(0:Int)<=z:=hz.1;have hz1:(32:Int)>z:=hz.2;rw[gM (by omega),io (n:=z+1) (by omega) (by omega)];have him:rg'<=jL rg' (z+1)/\z+1<=jL rg' (z+1)/\jL rg' (z+1)<=32:=by
     unfold jL;split
     .rename_i h;have h:=tL.1 h;omega
     .rename_i h;have h:=gh.1 (NC.2 h);omega
    refine ⟨_,rfl,by omega,him.2.2,λq hq=>?_⟩;rcases b7 q j with h1|h1
    .have:=s2 q h1;omega
    .rw[show q=j by omega,hzj];exact Int.lt_of_lt_of_le (show z<z+1 by omega) him.2.1
   .rintro x ⟨rg',rfl,s0,s1,s2⟩;refine db (ar ?_);refine ⟨rg',by dsimp only;rw[gM (by omega)],by omega,s1,λq hq j hj=>?_⟩;rcases b7 q k with h1|h1
    .have:=r2 q h1 j hj;omega
    .rw[show q=k by omega,show iA I k=ins from hins] at hj;exact iy (T:=.int .i64) (p:=λc=>rg'>c) s2 j hj
  .rintro x ⟨rg,rfl,r0,r1,r2⟩;refine db (Qw (bi (by simp;omega) (by omega) (Qv (ar ?_))));dsimp only;have q3':(g2.2.2.2.2.2.2.2.2:Int)=(bsN p i:Nat)+(nC 3 t.2.2.2:Nat):=q3;refine ⟨by rw[q3',hbs];omega,gM (by omega),rfl,rfl,by simp;omega,λj hj=>?_⟩;rcases b7 j i with h1|h1
   .rw[Jn (T:=v8) (by rw[Z];exact h1)];exact e5 j h1
   .rw[show j=i by omega,Jm (T:=v8) (by rw[Z];omega),Z,HG];refine ⟨show (1:Int)<=rg by omega,r1,show 1<=I.length by omega,show I.length<=1000000 by omega,?_,?_,?_,?_,?_⟩
    .show (iA I (I.length-1)).1=28/\(iA I (I.length-1)).2.2.2.2.2= -1;rw[J,iend];exact⟨rfl,rfl⟩
    .show qN I 0 (I.length-1);rw[J];exact q2.b.congr λq _ hq=>iq q hq
    .show ∀ q:Nat,q<I.length-1->GI p.2.length w.2.2.2.2.2 (i:Int) (iA I q);rw[J];exact λq hq=>by rw[iq q hq];exact q2.i q (jX _) hq
    .show ∀ q:Nat,q<I.length-1->(iA I q).1=10->0<=(iA I q).2.2.1/\(iA I q).2.2.1<(I.length:Int)
     rw[J];intro q hq h10;rw[iq q hq] at h10 ⊢;have:=q2.r q (jX _) hq h10;omega
    .exact λq hq j hj=>r2 q (show q<I.length by have hq:q<I.length-1:=hq;omega) j hj
 .rintro⟨⟨a,b⟩,p2,w2,cs⟩ ⟨e0,e1,e2,e3,Z,e5⟩;dsimp only at e0 e1 e2 e3 Z e5;subst e1;subst e2;subst e3;refine db (ar ?_);have hgc:∀ t∈cs,∃ k:Nat,GC p2.2.length w2.2.2.2.2.2 (k:Int) t:=iy (T:=v8) λk hk=>⟨k,e5 k (by omega)⟩
  refine ⟨by dsimp only;omega,λt ht=>?_,λt ht=>?_,M.x,VY M.x ?_ ?_⟩
  .obtain⟨k,hk⟩:=hgc t ht;exact hk.u
  .obtain⟨k,hk⟩:=hgc t ht;exact hk.r0
  .dsimp only;rw[Z,hwT]
  .dsimp only;rw[Z];exact e5
theorem Lu (a b:List Int) (M:a.length<=9223372036854775807) (J:∀ z∈a,0<=z/\z<=255) (hb:b.length<=1000000):Ok (su (a,b)) TR:=by
 unfold su;refine ay (P:=CB) ?_ λc hc=>ay (V_ b hb) λl hl=>?_
 .unfold xw;exact ay (G7 a M J) λp hp=>ay (PA p hp.1 hp.2) λy I=>ar I
 .exact ay (ajh c l hc (by omega)) λy I=>ar I
theorem Pz (a b c:List Int) (n:Int) (n0:0<=n) (n1:n<=1000000) (M:a.length<=9223372036854775807) (J:∀ z∈a,0<=z/\z<=255) (hc:c.length<=9223372036854775807) (I:∀ z∈c,0<=z/\z<=255):Ok (kZ ((a,b,c),n)) TR:=by
 unfold kZ bB bF aY;refine bK (λ_=>ay (Im c n hc I) λy h=>ar h) λ_=>?_
 have h0:0<=Ha (aQ b.length) n/\Ha (aQ b.length) n<=(b.length:Int)/\Ha (aQ b.length) n<=n:=by
  unfold Ha;split
  .rename_i h;rw[tL] at h;dsimp only[au] at h;exact⟨n0,by omega,eD _⟩
  .rename_i h;have h:=gh.1 (NC.2 h);dsimp only[au] at h ⊢;exact⟨by omega,eD _,h⟩
 refine cW (dv h0.1 (dv h0.2.1 ?_));have h1:(dA (aS (Ha (aQ b.length) n)) b).length<=1000000:=by rw[bA];have:=h0.1;have:=h0.2.2;omega
 exact ay (Lu a _ M J h1) λy h=>ar h
def HS.zero (w:vE):HS:=⟨aG w.2.2.2.2.1.length [],aG w.2.2.2.2.1.length [],aG w.2.1.length [],aG w.2.1.length [],aG w.1.length [],aG w.2.2.2.1.length [],[],aG w.2.2.2.2.1.length [],aG w.2.2.2.2.1.length (-1)⟩
theorem HS.zero_ok {w:vE} (h1:w.1.length<=1000) (h2:w.2.1.length<=1000) (J:w.2.2.2.1.length<=1000) (I:w.2.2.2.2.1.length<=1000):PN 0 (HS.zero w):=by
 have z:(0:Int)<=0:=by omega
 exact⟨z,by omega,Bu.repl z _,Bu.repl z _,Bu.repl z _,Bu.repl z _,Bu.repl z _,Bu.repl z _,En.nil z,Bu.repl z _,by simpa[HS.zero] using I,by simp[HS.zero],by simp[HS.zero],by simp[HS.zero],by simpa[HS.zero] using h2,by simp[HS.zero],by simpa[HS.zero] using h1,by simpa[HS.zero] using J⟩
structure XH (w:vE) (h:HS):Prop where
 T:h.T.length=w.2.2.2.2.1.length
 L:h.L.length=w.2.1.length
 C:h.C.length=w.1.length
 F:h.F.length=w.2.2.2.1.length
theorem XH.zero (w:vE):XH w (HS.zero w):=⟨by simp[HS.zero],by simp[HS.zero],by simp[HS.zero],by simp[HS.zero]⟩
theorem XH.ent {w:vE} {h:HS} (f:XH w h) (e:EV) (x:List Int):XH w (ik w h e x):=by
 obtain⟨a,b,c,d,g,i,j,k⟩:=vx w h e x;exact⟨a.trans f.T,c.trans f.L,g.trans f.C,i.trans f.F⟩
theorem XH.step {w:vE} {h:HS} (f:XH w h) (e:EV):XH w (FF w h e).1:=f.ent e _
def evP (e:ET):EV:=⟨e.1.toNat,e.2.1.toNat,e.2.2.1.toNat,e.2.2.2.1⟩
theorem alw {w:WT} {e:ET} (f:EvF w e):EvT (evP e) e:=by
 obtain⟨⟨k1,k2,ce,lk,cd,th,fu⟩,t0,_,_⟩:=f;refine ⟨(G3 t0).symm,(G3 (by omega)).symm,λh=>(G3 ?_).symm,rfl⟩;unfold evP at h;simp only[bl,cw,gf] at h;by_cases h1:e.2.1=3\/e.2.1=4
 .exact (ce h1).1
 by_cases h2:6<=e.2.1/\e.2.1<=11
 .exact (lk h2).1
 by_cases M:16<=e.2.1/\e.2.1<=19
 .exact (cd M).1
 by_cases J:e.2.1=20\/e.2.1=21
 .exact (th J).1
 by_cases I:e.2.1=22\/e.2.1=23
 .exact (fu I).1
 omega
theorem OW {w:WT} {e:ET} (f:EvF w e) (wb:WB w) {h:HS} (I:XH w h):EOK w h (evP e):=by
 obtain⟨⟨k1,k2,ce,lk,cd,th,fu⟩,t0,t1,J⟩:=f;have b5:=wb.t;have Z:=I.T;have Y:=I.L;have U:=I.C;have M:=I.F;unfold evP;refine ⟨by dsimp only;omega,by dsimp only;omega,by dsimp only;omega,by dsimp only;omega,λq=>?_,λq=>?_,λq=>?_,λq=>?_,λq=>?_⟩<;>dsimp only at q ⊢
 .have:=th (by omega);omega
 .have:=lk (by omega);omega
 .have g:=cd (by omega);have hl:e.2.2.1.toNat<w.2.2.1.length:=by omega
  have hm:=J (w.2.2.1.getD e.2.2.1.toNat ([],0)) (by rw[ax,aB hl];exact uZ hl);refine ⟨hl,hm.1,?_⟩;unfold Tz;have:=hm.2;have:=hm.1;omega
 .have:=ce (by omega);omega
 .have:=fu (by omega);omega
theorem gJ {σ R:Type} {f:σ->Option (σ⊕R)} {Q:R->Prop} (n:Nat) (hn:n<=1000000) (I:Nat->σ->Prop) (h0:∀ i x,i<n->I i x->Ok (f x) λr=>match r with|.inl y=>I (i+1) y|.inr r=>Q r) (h1:∀ x,I n x->Ok (f x) λr=>match r with|.inl _=>False|.inr r=>Q r) {x:σ} (U:I 0 x):Ok (fU f x) Q:=by
 have key:∀ m i x,i+m=n->I i x->∃ r,iterN f (m+1) x=af r/\Q r:=by
  intro m;induction m with
  |zero=>
   intro i x hi U;have:i=n:=by omega
   subst this;obtain⟨r,M,J⟩:=h1 x U;cases r with
   |inl y=>exact J.elim
   |inr r=>exact⟨r,by rw[iterN,M],J⟩
  |succ m Y=>
   intro i x hi U;obtain⟨r,M,J⟩:=h0 i x (by omega) U;cases r with
   |inl y=>
    obtain⟨r,g3,Z⟩:=Y (i+1) y (by omega) J;exact⟨r,by rw[iterN,M];exact g3,Z⟩
   |inr r=>exact⟨r,zl (n:=1) (by rw[iterN,M]) (by omega),J⟩
 obtain⟨r,M,J⟩:=key n 0 x (by omega) U;exact⟨r,zl M (by omega),J⟩
theorem NG (a b:Int):fd (a,b)=af (decide (0<=a/\a<b)):=by
 refine cD ?_;unfold fd jZ aF;with_reducible repeat' first|(refine OS.ok ?_;constructor)|refine IM.mk λ_=>?_
 .by_cases h:a<b<;>simp[*,fX]
 .simp;omega
theorem Ts (l:List Int) (t:Int) (hl:l.length<=1000):kz (l,t)=af (l.contains t):=by
 refine cD ?_;unfold kz rB xK bd bB bI aY cK aF cC;refine ay (P:=λy:Int=>0<=y↔t∈l) ?_ λy I=>ar ?_
 .refine gJ l.length (by omega) (λi x=>x=(i:Int)/\∀ j,j<i->¬l.getD j 0=t) ?_ ?_ ⟨rfl,λj hj=>by omega⟩
  .rintro i x hi ⟨rfl,hn⟩;refine dg ?_;refine cE (aT (aK (λh=>ar ?_) λh=>ar ?_))
   .refine ⟨λ_=>?_,λ_=>by omega⟩;have h:t=aJ (T:=.int .i64) l (i:Int):=h;rw[h];exact bH (T:=.int .i64) (xs:=l) (by omega) (by omega)
   .refine ⟨gM (by omega),λj hj=>?_⟩;have h:¬t=l.getD i 0:=h;by_cases e:j=i
    .subst e;exact λg=>h g.symm
    .exact hn j (by omega)
  .rintro x ⟨rfl,hn⟩;refine db (ar ?_);refine ⟨λg=>(by omega),λg=>?_⟩;obtain⟨j,hj,e⟩:=G2 g;exact (hn j hj (by rw[ax,aB hj];exact e)).elim
 .by_cases h:t∈l
  .have:=I.2 h;simp[cY,h,this]
  .have:¬0<=y:=λg=>h (I.1 g)
   simp[cY,h,this]
theorem ahv (w:WT) (s:SY) (I:w.2.2.1.length<=1000) (cd:∀ c∈w.2.2.1,0<=c.2/\c.2<w.2.1.length) (e1:s.1.length=w.2.1.length) (e2:s.2.2.1.length=w.2.2.2.1.length) (e3:s.2.2.2.length=w.2.2.2.2.1.length):kn (w,s)=af ai:=by
 refine cD ?_;unfold kn tM aV bh bw dc bB iF bI aY cK aF cC;refine aX (λx=>x=(aj,w)) ?_ ?_
 .refine b8 (λh=>(h (by dsimp only[au];omega)).elim) λ_=>b8 (λh=>(h (by dsimp only[au];omega)).elim) λ_=>ar ?_
  dsimp only[au];rw[e3];simp
 rintro x rfl;refine fJ (gJ w.2.2.1.length (by omega) (λi x=>x=((i:Int),w)) ?_ ?_ rfl)
 .rintro i x hi rfl;refine dg ?_;refine cE (aT (aU (NG _ _) (b8 (λh=>(h ?_).elim) λ_=>ar ?_)))
  .exact cd _ (bH (T:=Tw) (xs:=w.2.2.1) (j:=(i:Int)) (by omega) (by omega))
  .dsimp only;rw[gM (by omega)]
 .rintro x rfl;exact db (ar rfl)
theorem ac2 (w:WT) (k o:Int) (h:NM w k o):lX (w,k,o)=af ai:=by
 refine cD ?_;obtain⟨k1,k2,ce,lk,cn,th,fu,no,mu,rw_⟩:=h;unfold lX aV bh bw ct bd bI aY aF;rcases @IV k with rfl|rfl|rfl|rfl|rfl|rfl|rfl|rfl|rfl|rfl|rfl|rfl|rfl|rfl|rfl|rfl|rfl|rfl|rfl|rfl|rfl|rfl|rfl|⟨hk,I⟩
 case inr.inr.inr.inr.inr.inr.inr.inr.inr.inr.inr.inr.inr.inr.inr.inr.inr.inr.inr.inr.inr.inr.inr=>omega
 all_goals simp only[aZ,bp,s8,NG]
 all_goals with_reducible repeat' first|(refine OS.ok ?_;constructor)|refine IM.mk λ_=>?_
 all_goals try simp only[au,qT] at*
 all_goals first|omega|exact rw_ ⟨by decide,by decide⟩|(simp only[*,Bool.not_false,dW];done)
theorem ai6 {n:Nat} (w:WT) (s:SY) (hs:SB n s) (hn:n<=1000) (t k o:Int) (he:EN w s t k o) (hr:V4 w s t k o):oI (w,s,t,k,o)=af ai:=by
 refine cD ?_;obtain⟨nm,t0,t1,cd,e1,e2,e3⟩:=id he;obtain⟨_,_,ce,lk,cn,th,fu,no,mu,rw_⟩:=nm;obtain⟨_,_,_,aq,wr,ra,rl,rr,xb,xe,ab,ae,nt,sp,jo,se,ge⟩:=hr;have hm:16<=k/\k<=19->0<=(aJ (T:=Tw) w.2.2.1 o).2/\(aJ (T:=Tw) w.2.2.1 o).2<w.2.1.length:=λh=>cd _ (bH (cn h).1 (cn h).2)
 have J:6<=k/\k<=11->kz ((aJ (T:=Ax) s.1 o).2,t)=af ((aJ (T:=Ax) s.1 o).2.contains t):=λh=>Ts _ _ (by
  have:=hs.rd _ (bH (T:=Ax) (lk h).1 (by have:=(lk h).2;omega));omega)
 have lk1:6<=k/\k<=11->0<=o/\o<(s.1.length:Int):=λh=>by have:=lk h;omega
 have I:t<(s.2.2.2.length:Int):=by omega
 have fu1:k=22\/k=23->0<=o/\o<(s.2.2.1.length:Int):=λh=>by have:=fu h;omega
 have th1:k=20\/k=21->0<=o/\o<(s.2.2.2.length:Int):=λh=>by have:=th h;omega
 have tr:∀ {p:Prop} [Decidable p],p->decide p=ai:=λh=>aO h
 unfold oI aV bh bw dc cN bd iF bI aY aF;refine aK (λh=>?_) λZ=>?_
 .have h:k=6:=h;exact aR (lk1 (by omega)).1 (lk1 (by omega)).2 (aT (ar (tr (aq (.inl h)))))
 refine aK (λh=>?_) λM=>?_
 .have h:k=10:=h;refine gA (aR (lk1 (by omega)).1 (lk1 (by omega)).2 (aT (aK (λ_=>?_) λg=>(g (aq (.inr (.inr h)))).elim)));refine aR (lk1 (by omega)).1 (lk1 (by omega)).2 (aT (ar (ar (tr ?_))));have:=wr h;dsimp only[au] at this ⊢;omega
 refine aK (λh=>?_) λY=>?_
 .have h:k=8:=h;refine gA (aR (lk1 (by omega)).1 (lk1 (by omega)).2 (aT (aK (λ_=>?_) λg=>(g (aq (.inr (.inl h)))).elim)));refine aR (lk1 (by omega)).1 (lk1 (by omega)).2 (aT (aU (J (by omega)) (ar (ar ?_))));rw[ra h];rfl
 refine aX (λx=>x.2=(w,s)/\(x.1=ai↔k=7\/k=11)) (aK (λh=>ar ⟨rfl,λ_=>.inl h,λ_=>tr h⟩) λh=>ar ⟨rfl,λh2=>.inr (bf h2),λh2=>tr (h2.resolve_left h)⟩) ?_;rintro⟨b,x⟩ ⟨e,hb⟩;dsimp only at e hb;subst e;refine aP (λh=>?_) λ_=>?_
 .have h:=hb.1 h;exact aR (lk1 (by omega)).1 (lk1 (by omega)).2 (aT (ar (tr (rl h))))
 refine aK (λh=>?_) λU=>?_
 .have h:k=9:=h;refine aR (lk1 (by omega)).1 (lk1 (by omega)).2 (aT (aU (J (by omega)) (ar (rr h))))
 refine aK (λh=>ar (tr (xb h))) λ_=>aK (λh=>ar (tr (xe h))) λ_=>?_
 refine aK (λh=>aR t0 I (aT (ar (by have:=ab h;dsimp only at this ⊢;rw[this];rfl)))) λ_=>aK (λh=>aR t0 I (aT (ar (ae h)))) λ_=>?_
 refine aX (λx=>x.2=(w,s)/\(x.1=ai->k=16\/k=18\/k=19)) (aK (λh=>ar ⟨rfl,λ_=>.inl h⟩) λ_=>aK (λh=>ar ⟨rfl,λ_=>.inr (.inl h)⟩) λ_=>ar ⟨rfl,λh=>.inr (.inr (bf h))⟩) ?_;rintro⟨c,x⟩ ⟨e,hc⟩;dsimp only at e hc;subst e;refine aP (λh=>?_) λ_=>?_
 .have h:=hc h;have hq:=hm (by omega);exact aR (cn (by omega)).1 (cn (by omega)).2 (aT (aR hq.1 (by rw[e1];exact hq.2) (aT (ar (tr (nt h))))))
 refine aK (λh=>?_) λ_=>?_
 .have h:k=20:=h;exact gA (b8 (λ_=>aR (th1 (.inl h)).1 (th1 (.inl h)).2 (aT (ar (ar (tr (sp h).2))))) λg=>((sp h).1 g).elim)
 refine aK (λh=>?_) λ_=>?_
 .have h:k=21:=h;exact gA (b8 (λ_=>aR (th1 (.inr h)).1 (th1 (.inr h)).2 (aT (ar (ar (tr (jo h).2))))) λg=>((jo h).1 g).elim)
 refine aK (λh=>aR (fu1 (.inl h)).1 (fu1 (.inl h)).2 (aT (ar (by have:=se h;dsimp only at this ⊢;rw[this];rfl)))) λ_=>aK (λh=>aR (fu1 (.inr h)).1 (fu1 (.inr h)).2 (aT (ar (ge h)))) λ_=>ar rfl
theorem D6 {n:Nat} (w:WT) (s:SY) (hs:SB n s) (hn:n<=1000) (U:w.2.2.1.length<=1000) (t k o:Int) (he:EN w s t k o) (hr:V4 w s t k o):jg (w,s,t,k,o)=af ai:=by
 refine cD ?_;obtain⟨nm,t0,t1,cd,e1,e2,e3⟩:=id he;have hrd:=ai6 w s hs hn t k o he hr;have M:t<(s.2.2.2.length:Int):=by omega
 unfold jg aV bh bw bL dc cN bd bI aY aF;refine aX (λx=>x=(aj,w,s)) ?_ ?_
 .refine aU (ahv w s U cd e1 e2 e3) (fI rfl (aU (NG _ _) ?_));refine b8 (λh=>(h ⟨t0,t1⟩).elim) λ_=>aU (ac2 w k o nm) (ar rfl)
 rintro x rfl;refine fJ (aR t0 M (aT ?_));refine aK (λh=>ar (aO (hr.b h))) λn1=>?_
 refine aK (λh=>?_) λn17=>?_
 .have h:k=17:=h;obtain⟨a1,a2,a3⟩:=hr.wk h;obtain⟨J,I⟩:=nm.cd (by omega);have hq:=cd _ (bH (T:=Tw) (xs:=w.2.2.1) (j:=o) J I);refine gA (aK (λ_=>aK (λ_=>?_) λg=>(g a2).elim) λg=>(g a1).elim);exact aR J I (aT (aR hq.1 (by rw[e1];exact hq.2) (aT (ar (ar (aO a3))))))
 refine gA (aK (λ_=>aU hrd (ar (ar rfl))) λg=>(g (hr.r n1 n17)).elim)
theorem adz (w:WT) (e:ET) (h1:e.2.1=1\/e.2.1=2->e.2.2.2.2.1= -1) (h2:¬(e.2.1=1\/e.2.1=2)->0<=e.2.2.2.2.1/\e.2.2.2.2.1<w.2.2.2.2.2.length/\(aJ (T:=x_) w.2.2.2.2.2 e.2.2.2.2.1).1=e.1):jF (w,e)=af ai:=by
 refine cD ?_;unfold jF aV dQ cN bd bB jZ bI aY aF;refine aX (λx=>x.2=(w,e)/\(x.1=ai↔e.2.1=1\/e.2.1=2)) (aK (λh=>ar ⟨rfl,λ_=>.inl h,λ_=>rfl⟩) λh=>ar ⟨rfl,λh2=>.inr (bf h2),λh2=>aO (h2.resolve_left h)⟩) ?_;rintro⟨b,x⟩ ⟨e1,hb⟩;dsimp only at e1 hb;subst e1;refine aP (λh=>ar (aO (h1 (hb.1 h)))) λh=>?_
 obtain⟨a1,a2,a3⟩:=h2 λg=>by rw[hb.2 g] at h;cases h
 exact gA (gg (λ_=>dg (aR a1 a2 (aT (ar (ar (aO a3)))))) λg=>(by dsimp only at g;omega))
theorem ac0 {l:List Int} (h:HA l) (i:Nat) (hi:i<l.length):∀ z∈l.drop (i+1),l.getD i 0<z:=by
 induction l generalizing i with
 |nil=>cases hi
 |cons a l I=>
  cases i with
  |zero=>exact λz J=>h.1 z (by simpa using J)
  |succ i=>exact I h.2 i (by simpa using hi)
theorem RH (w:WT) (s:SN) (e:ET) (ce:e.2.1=3\/e.2.1=4->0<=e.2.2.1/\e.2.2.1<w.1.length) (de:0<e.2.2.2.2.2.1.length->e.2.1=5\/(e.2.1=3\/e.2.1=4)/\¬(aJ (T:=NK) w.1 e.2.2.1).2.2.1=0) (fr:0<e.2.2.2.2.2.2.length->e.2.1=4\/e.2.1=22) (t0:0<=e.1) (t1:e.1<s.2.2.2.length) (nd:AN (aJ (T:=.int .i64) s.2.2.2 e.1) e.2.2.2.2.2.1) (nf:AN (aJ (T:=.int .i64) s.2.2.2 e.1) e.2.2.2.2.2.2) (ld:e.2.2.2.2.2.1.length<=1000000) (lf:e.2.2.2.2.2.2.length<=1000000):e9 (w,s,e)=af ai:=by
 refine cD ?_;unfold e9 js aV bh bw ct bL dc eZ bd bB jZ bF bI aY cK aF cC;refine aX (λx=>x.2=(s,e)/\((e.2.1=3\/e.2.1=4)/\¬(aJ (T:=NK) w.1 e.2.2.1).2.2.1=0->x.1=ai)) ?_ ?_
 .refine aK (λh=>?_) λn3=>aK (λh=>?_) λn4=>?_
  .exact aR (ce (.inl h)).1 (ce (.inl h)).2 (aT (ar ⟨rfl,λg=>by simpa using g.2⟩))
  .exact aR (ce (.inr h)).1 (ce (.inr h)).2 (aT (ar ⟨rfl,λg=>by simpa using g.2⟩))
  .exact ar ⟨rfl,λg=>(g.1.elim n3 n4).elim⟩
 rintro⟨b,x⟩ ⟨e1,hb⟩;dsimp only at e1 hb;subst e1;refine aX (λx=>x.1=s/\x.2.1=e/\(0<e.2.2.2.2.2.1.length->x.2.2.1=ai)/\(0<e.2.2.2.2.2.2.length->x.2.2.2=ai)) ?_ ?_
 .refine aK (λZ=>aK (λI=>ar ⟨rfl,rfl,λ_=>rfl,λ_=>rfl⟩) λI=>ar ⟨rfl,rfl,λ_=>rfl,λg=>?_⟩) λZ=>aK (λI=>ar ⟨rfl,rfl,λg=>?_,λ_=>rfl⟩) λI=>ar ⟨rfl,rfl,λg=>?_,λg=>?_⟩
  .exact aO ((fr g).resolve_left I)
  .exact hb ((de g).resolve_left Z)
  .exact hb ((de g).resolve_left Z)
  .exact aO ((fr g).resolve_left I)
 rintro⟨s',e',a,b'⟩ ⟨e1,e2,h1,h2⟩;dsimp only at e1 e2 h1 h2;subst e1;subst e2;have key:∀ (r:List Int),r.length<=1000000->AN (aJ (T:=.int .i64) s'.2.2.2 e'.1) r->∀ j:Nat,j<r.length->∀ z∈r.drop (j+1),aJ (T:=.int .i64) r (j:Int)<z:=λr _ h j hj z U=>ac0 h.a j hj z U
 refine gJ 2 (by omega) (λi x=>x=((i:Int),s',e',a,b')) ?_ ?_ rfl
 .rintro i x hi rfl;refine dg ?_;refine cW (dv (by dsimp only;omega) (Ak (by dsimp only;omega) (aT ?_)));have hr:∃ r:List Int,aJ (T:=.sl (.int .i64)) [e'.2.2.2.2.2.1,e'.2.2.2.2.2.2] (i:Int)=r/\AN (aJ (T:=.int .i64) s'.2.2.2 e'.1) r/\r.length<=1000000/\(0<r.length->aJ (T:=.bool) [a,b'] (i:Int)=ai):=by
   match i,hi with
   |0,_=>exact⟨_,rfl,nd,ld,h1⟩
   |1,_=>exact⟨_,rfl,nf,lf,h2⟩
  obtain⟨r,er,hA,hl,Y⟩:=hr;have er':aJ (T:=.sl aM) [e'.2.2.2.2.2.1,e'.2.2.2.2.2.2] (i:Int)=r:=er;dsimp only at er' ⊢;rw[er'];refine aX (λx=>x=(aj,s',e',a,b')) ?_ ?_
  .refine bK (λg=>?_) λ_=>ar rfl
   have g':0<r.length:=by dsimp only[au] at g;omega
   refine cW (dv (by omega) (Ak (by omega) (cE (aT (ar ?_)))));rw[Y g'];rfl
  rintro x rfl;refine fJ ?_;refine gJ r.length (by omega) (λj x=>x.1.2=(j:Int)/\x.2=(s',e',a,b')/\∀ z∈r.drop j,x.1.1<z) ?_ ?_ ⟨rfl,rfl,λz U=>?_⟩
  .rintro j ⟨⟨la,ix⟩,x⟩ hj ⟨M,J,g3⟩;dsimp only at M J g3;subst M;subst J;have m:aJ (T:=.int .i64) r (j:Int)∈r:=bH (T:=.int .i64) (xs:=r) (by omega) (by omega);have m2:aJ (T:=.int .i64) r (j:Int)∈r.drop j:=by
    have:aJ (T:=.int .i64) r (j:Int)=r[j]:=by
     show r.getD j 0=_;rw[ax,aB hj];rfl
    rw[this,List.drop_eq_getElem_cons hj];exact dC
   refine dg ?_;refine cE (aT (aX (λx=>x=(aj,s',e',a,b')) ?_ ?_))
   .refine gg (λg=>?_) λ_=>aR t0 t1 (aT (ar ?_))
    .have q1:=g3 _ m2;exact cV q1 (by dsimp only at g;exact λq=>cV (Int.lt_of_lt_of_le q g) (Int.lt_irrefl _))
    .have:=(hA.m _ m).2;rw[l7.2 (show aJ (T:=.int .i64) r (j:Int)<aJ (T:=.int .i64) s'.2.2.2 e'.1 from this)]
   rintro x rfl;exact fJ (ar ⟨gM (by omega),rfl,key r hl hA j hj⟩)
  .rintro⟨⟨la,ix⟩,x⟩ ⟨M,J,_⟩;dsimp only at M J;subst M;subst J;exact db (ar (gx (·,s',e',a,b') (gM (by omega))))
  .have:=(hA.m z (by simpa using U)).1;dsimp only;omega
 .rintro x rfl;exact db (ar rfl)
theorem alu (w:WT) (s:SN) (I:w.2.2.1.length<=1000) (t k o:Int) (he:EN w s.1 t k o) (hf:F16 w s):kW (w,s)=af ai:=by
 obtain⟨_,_,_,cd,e1,e2,e3⟩:=he;obtain⟨U,M,J⟩:=hf;refine cD ?_;unfold kW aV bh bw dc bd aY aF;refine gA (aU (ahv w s.1 I cd e1 e2 e3) (aa3 (aK (λ_=>aK (λ_=>ar (ar (aO ?_))) λg=>(g ?_).elim) λg=>(g ?_).elim)));all_goals dsimp only[au];omega
theorem HJ (th:List (Int×Int×Bool)) (c:Int) (i:Nat):wl th c (i+1)=if H_ c (aJ (T:=jE) th (i:Int)) then wl th c i++[(i:Int)] else wl th c i:=rfl
theorem adl {n:Nat} (w:WT) (s:SN) (hs:SB n s.1) (e:ET) (hf:F16 w s) (he:EN w s.1 e.1 e.2.1 e.2.2.1) (va:VA w s.1 s.2.1 s.2.2.1 e.1 e.2.1 e.2.2.1 e.2.2.2.1):gy (s,e)=af ai:=by
 refine cD ?_;obtain⟨t,k,o,v,si,de,fr⟩:=e;obtain⟨s1,s2,s3,s4⟩:=s;obtain⟨nm,t0,t1,cd,e1,e2,e3⟩:=he;obtain⟨_,_,ce,lk,cn,th,fu,_,_,_⟩:=nm;obtain⟨f1,f2,f3⟩:=hf;have hth:=hs.th;obtain⟨v3,Y,v5,vel⟩:=va;dsimp only at*
 unfold gy lG aV bh bw ct bL bd bB bI aY cK aF cC;refine aK (λh=>?_) λn3=>?_
 .have h:k=3:=h;obtain⟨c0,c1⟩:=ce (.inl h);exact aR c0 (by rw[f1];exact c1) (aT (ar (aO (v3 h))))
 refine aK (λh=>?_) λZ=>?_
 .have h:k=23:=h;obtain⟨c0,c1⟩:=fu (.inr h);exact aR c0 (by rw[f2];exact c1) (aT (ar (aO (Y h))))
 refine aK (λh=>?_) λn5=>?_
 .have h:k=5:=h;exact gA (aK (λ_=>ar (ar rfl)) λg=>ar (ar (aO ((v5 h).resolve_left g))))
 refine aX (λx=>x.2=((s1,s2,s3,s4),t,k,o,v,si,de,fr)/\(x.1=aj->¬k=4/\¬k=22)) (aK (λh=>ar ⟨rfl,λh2=>(by rw[aO h] at h2;cases h2)⟩) λh=>ar ⟨rfl,λh2=>⟨h,By h2⟩⟩) ?_;rintro⟨b,x⟩ ⟨e,hb⟩;dsimp only at e hb;subst e;refine aP (λh=>ar rfl) λh=>?_
 obtain⟨n4,n22⟩:=hb h;have vel:=vel n3 Z n5 n4 n22;have hWl:=vI s1.2.2.2 o s1.2.2.2.length;refine aK (λh=>?_) λn18=>?_
 .have h:k=18:=h;subst h;rw[Ft] at vel;refine gJ s1.2.2.2.length (by omega) (λi x=>x.1.2.2=(i:Int)/\x.2=(t,18,o,v,si,de,fr)/\x.1.1=((wl s1.2.2.2 o i).length:Int)/\(x.1.2.1=ai↔v∈wl s1.2.2.2 o i)) ?_ ?_ ⟨rfl,rfl,rfl,by simp[wl]⟩
  .rintro i ⟨⟨c,hit,ix⟩,x⟩ hi ⟨J,I,M,U⟩;dsimp only at J I M U;subst J;subst I;subst M;have hl:=vI s1.2.2.2 o i;refine dg ?_;refine aX (λx=>x.2=(t,18,o,v,si,de,fr)/\x.1.1=((wl s1.2.2.2 o (i+1)).length:Int)/\(x.1.2=ai↔v∈wl s1.2.2.2 o (i+1))) ?_ ?_
   .refine cE (aT (aX (λx=>x=(H_ o (aJ (T:=jE) s1.2.2.2 (i:Int)),t,18,o,v,si,de,fr)) ?_ ?_))
    .unfold H_;refine aK (λh=>ar ?_) λh=>ar ?_
     .dsimp only at h ⊢;rw[h];rfl
     .dsimp only at h ⊢;rw[bz h];rfl
    rintro x rfl;rw[HJ];dsimp only;cases hw:H_ o (aJ (T:=jE) s1.2.2.2 (i:Int)) with
    |true=>
     refine aa3 (aP (λh=>ar ⟨rfl,?_,?_⟩) λh=>ar ⟨rfl,?_,?_⟩)
     .dsimp only;rw[gM (by omega)];simp
     .simp[U.1 h]
     .dsimp only;rw[gM (by omega)];simp
     .have:¬v∈wl s1.2.2.2 o i:=λg=>by rw[U.2 g] at h;cases h
      simp[this]
    |false=>exact fJ (ar ⟨rfl,rfl,U⟩)
   rintro⟨⟨c,hit'⟩,x⟩ ⟨J,I,M⟩;dsimp only at J I M;subst J;subst I;exact ar ⟨gM (by omega),rfl,rfl,M⟩
  .rintro⟨⟨c,hit,ix⟩,x⟩ ⟨J,I,M,U⟩;dsimp only at J I M U;subst J;subst I;subst M;refine db (ay (P:=λy=>y=ai) (gA (aP (λ_=>ar (ar rfl)) λh=>?_)) λy hy=>ar hy);have hn:¬v∈wl s1.2.2.2 o s1.2.2.2.length:=λg=>by rw[U.2 g] at h;cases h
   by_cases h0:(wl s1.2.2.2 o s1.2.2.2.length).length=0
   .rw[aE h0] at vel;refine aK (λ_=>ar (ar (aO vel))) λg=>(g (by dsimp only;omega)).elim
   .rw[aA h0] at vel;have vel:v=Bq (wl s1.2.2.2 o s1.2.2.2.length) v:=vel;exact (hn (vel▸H4 v h0)).elim
 refine aK (λh=>?_) λn19=>?_
 .have h:k=19:=h;subst h;rw[aiz] at vel;refine gJ s1.2.2.2.length (by omega) (λi x=>x.1.2=(i:Int)/\x.2=(t,19,o,v,si,de,fr)/\x.1.1=((wl s1.2.2.2 o i).length:Int)) ?_ ?_ ⟨rfl,rfl,rfl⟩
  .rintro i ⟨⟨c,ix⟩,x⟩ hi ⟨J,I,M⟩;dsimp only at J I M;subst J;subst I;subst M;have hl:=vI s1.2.2.2 o i;refine dg ?_;refine aX (λx=>x.2=(t,19,o,v,si,de,fr)/\x.1=((wl s1.2.2.2 o (i+1)).length:Int)) ?_ ?_
   .refine cE (aT (aX (λx=>x=(H_ o (aJ (T:=jE) s1.2.2.2 (i:Int)),t,19,o,v,si,de,fr)) ?_ ?_))
    .unfold H_;refine aK (λh=>ar ?_) λh=>ar ?_
     .dsimp only at h ⊢;rw[h];rfl
     .dsimp only at h ⊢;rw[bz h];rfl
    rintro x rfl;rw[HJ];dsimp only;cases hw:H_ o (aJ (T:=jE) s1.2.2.2 (i:Int)) with
    |true=>
     refine aa3 (ar ⟨rfl,?_⟩);dsimp only;rw[gM (by omega)];simp
    |false=>exact fJ (ar ⟨rfl,rfl⟩)
   rintro⟨c,x⟩ ⟨J,I⟩;dsimp only at J I;subst J;subst I;exact ar ⟨gM (by omega),rfl,rfl⟩
  .rintro⟨⟨c,ix⟩,x⟩ ⟨J,I,M⟩;dsimp only at J I M;subst J;subst I;subst M;exact db (ar (aO vel))
 exact ar (aO (by rw[ahd _ _ _ _ _ _ n18 n19] at vel;exact vel))
theorem ZJ (x:Int×Int×Bool) (c:Int):mj (x,c)=af (H_ c x):=by
 refine cD ?_;unfold mj H_ bd aF;refine gA (aK (λh=>ar (ar ?_)) λh=>ar (ar ?_))
 .have h:x.1=3:=h;rw[h];rfl
 .have h:¬x.1=3:=h;rw[bz h];rfl
theorem abm {n:Nat} (s:SY) (hs:SB n s):ky s=af (s.2.1,s.1,s.2.2.1,s.2.2.2):=by
 refine cD ?_;obtain⟨s1,s2,J,I⟩:=s;have hn:=hs.n1;have hlk:=hs.lk;have hdn:=hs.dn;have hth:=hs.th;have hrd:=hs.rd;dsimp only at hlk hdn hth hrd;unfold ky rZ aV bL ck bB bF bI aY cK cC;dsimp only[au];refine cW (cW (dv (by omega) (dv (by omega) (bi (by simp;omega) (by omega) ?_))));refine gJ s1.length (by omega) (λi x=>∃ c d,x=((i:Int),(s1,s2,J,I),c,d)/\d.length=s1.length/\∀ j,j<i->d.getD j (0,[])=s1.getD j (0,[])) ?_ ?_ ⟨_,_,rfl,by simp,λj hj=>by omega⟩
 .rintro i x hi ⟨c,d,rfl,hd,he⟩;have hr:=hrd _ (bH (T:=Ax) (xs:=s1) (j:=(i:Int)) (by omega) (by omega));refine dg ?_;refine cE (aT (aU (x:=(aJ (T:=Ax) s1 (i:Int)).2) (cD ?_) ?_))
  .exact bi (by dsimp only;omega) (by omega) (ar rfl)
  refine cE (cE (ar ⟨c,d.set i (aJ (T:=Ax) s1 (i:Int)),?_,by simp[hd],λj hj=>?_⟩))
  .dsimp only;rw[gM (by omega)];rfl
  .by_cases e:i=j
   .subst e;rw[ax,List.getElem?_set_self (by omega)];rfl
   .rw[ax,List.getElem?_set_ne e,<-ax];exact he j (by omega)
 .rintro x ⟨c,d,rfl,hd,he⟩;have:d=s1:=by
   refine dD hd λj Y M=>?_
   have:=he j M;rw[ax,ax,aB Y,aB M] at this;exact this
  subst this;refine db (ay (P:=λy=>y=(s2,d,J,I)) ?_ λy U=>ar U);refine aU (x:=J) (cD (bi (by dsimp only;omega) (by omega) (ar rfl))) (aU (x:=I) (cD (bi (by dsimp only;omega) (by omega) (ar rfl))) (ar rfl))
theorem Xj (l:List Int) (i u:Int):Bq (l++[i]) u=if l.length=0 then i else if i=u then i else Bq l u:=by
 unfold Bq;cases l with
 |nil=>
  by_cases h:u=i
  .subst h;simp
  .simp[h];rfl
 |cons a r=>
  have e1:¬(a::r++[i]).length=0:=by simp
  have e2:¬(a::r).length=0:=by simp
  simp only[aA e1,aA e2];by_cases h:i=u
  .subst h;simp
  .have h':¬u=i:=λg=>h g.symm
   rw[aA h];have:(a::r++[i]).contains u=(a::r).contains u:=by simp[h']
   rw[this];rfl
theorem Po {th:List (Int×Int×Bool)} {c u:Int} {i:Nat} (h:¬(wl th c i).length=0):0<=Bq (wl th c i) u/\Bq (wl th c i) u<i:=by
 have:=q_.1 (H4 u h);exact⟨this.1,this.2.1⟩
theorem Ky {l:List Int} {u:Int} (h:l.length=0):Bq l u= -1:=by unfold Bq;rw[aE h]
theorem ae5 (s:SY) (o u:Int) (hs:s.2.2.2.length<=1000):jK ((s.2.1,o,u),s.1,s.2.2.1,s.2.2.2)=af (Bq (wl s.2.2.2 o s.2.2.2.length) u,s.1,s.2.2.1,if (wl s.2.2.2 o s.2.2.2.length).length=0 then s.2.2.2 else ya s.2.2.2 (Bq (wl s.2.2.2 o s.2.2.2.length) u) 4):=by
 refine cD ?_;obtain⟨s1,s2,J,I⟩:=s;dsimp only at hs ⊢;unfold jK qB aV bh bL ck bB jZ kF aY cK aF cC;dsimp only[au];refine gJ I.length (by omega) (λi x=>x=((Bq (wl I o i) u,(i:Int)),s1,J,I,s2)) ?_ ?_ rfl
 .rintro i x hi rfl;refine dg ?_;refine aX (λx=>x=(Bq (wl I o (i+1)) u,s1,J,I,s2)) ?_ ?_
  .refine cE (cE (aT ?_));refine aX (λx=>x=(decide (H_ o (aJ (T:=jE) I (i:Int))=ai/\((wl I o i).length=0\/(i:Int)=u)),s1,J,I,s2)) ?_ ?_
   .refine aU (ZJ _ _) (aP (λh=>?_) λh=>ar ?_)
    .have h:H_ o (aJ (T:=jE) I (i:Int))=ai:=h;refine bK (λg=>ar ?_) λg=>ar ?_
     .have:(wl I o i).length=0:=vH λq=>by have:=(Po (u:=u) q).1;dsimp only at g;omega
      simp[h,this]
     .have:¬(wl I o i).length=0:=λq=>by have:=Ky (u:=u) q;dsimp only at g;omega
      simp[h,this]
    .have h:H_ o (aJ (T:=jE) I (i:Int))=aj:=h;simp[h]
   rintro x rfl;rw[HJ];refine aK (λh=>ar ?_) λh=>ar ?_
   .rw[aE h.1,Xj];rcases h.2 with g|g
    .rw[aE g]
    .rw[aE g];simp
   .by_cases g:H_ o (aJ (T:=jE) I (i:Int))=ai
    .rw[aE g,Xj,aA λq=>h ⟨g,.inl q⟩,aA λq=>h ⟨g,.inr q⟩]
    .rw[aA g]
  rintro x rfl;exact ar (by dsimp only;rw[gM (by omega)])
 .rintro x rfl;refine db (ay (P:=λy=>y=(Bq (wl I o I.length) u,s1,J,if (wl I o I.length).length=0 then I else ya I (Bq (wl I o I.length) u) 4)) ?_ λy M=>ar M);refine aX (λx=>x=(s1,J,if (wl I o I.length).length=0 then I else ya I (Bq (wl I o I.length) u) 4)) ?_ ?_
  .refine gg (λg=>?_) λg=>ar ?_
   .have h0:¬(wl I o I.length).length=0:=λq=>by have:=Ky (u:=u) q;dsimp only at g;omega
    have hp:=Po (u:=u) h0;refine aR hp.1 hp.2 (aR hp.1 hp.2 (ar ?_));rw[aA h0];rfl
   .have:(wl I o I.length).length=0:=vH λq=>by have:=(Po (u:=u) q).1;dsimp only at g;omega
    rw[aE this]
  rintro x rfl;exact ar rfl
theorem ae9 (th:List (Int×Int×Bool)) (l:List Int) (i:Int):CO th (l++[i])=ya (CO th l) i 4:=by unfold CO;rw[fK];rfl
theorem ae8 (l:List Int):∀ (th:List (Int×Int×Bool)) (j:Int),0<=j->(∀ z∈l,0<=z/\z<th.length/\¬z=j)->aJ (T:=jE) (CO th l) j=aJ (T:=jE) th j:=by
 induction l with
 |nil=>intro th j _ _;rfl
 |cons x r J=>
  intro th j hj h;have I:=h x (by simp);refine (J (ya th x 4) j hj λz M=>?_).trans ?_
  .have:=h z (by simp[M]);unfold ya;rw[bT];exact this
  .unfold ya;rw[rG (T:=jE) th x j _ I.1 I.2.1 hj,aA λq=>I.2.2 q.symm]
theorem Uf (s:SY) (o:Int) (hs:s.2.2.2.length<=1000):gU ((s.2.1,o),s.1,s.2.2.1,s.2.2.2)=af (((wl s.2.2.2 o s.2.2.2.length).length:Int),s.1,s.2.2.1,CO s.2.2.2 (wl s.2.2.2 o s.2.2.2.length)):=by
 refine cD ?_;obtain⟨s1,s2,J,I⟩:=s;dsimp only at hs ⊢;unfold gU mz aV bh bL dc ck bB kF aY cK aF cC;dsimp only[au];refine gJ I.length (by omega) (λi x=>x=((((wl I o i).length:Int),(i:Int)),s1,J,CO I (wl I o i),s2)) ?_ ?_ rfl
 .rintro i x hi rfl;have hl:=vI I o i;have hg:aJ (T:=jE) (CO I (wl I o i)) (i:Int)=aJ (T:=jE) I (i:Int):=ae8 _ _ _ (by omega) λz M=>by have:=q_.1 M;exact⟨this.1,by omega,by omega⟩
  have hq:=HQ (wl I o i) I;refine dg ?_;refine aX (λx=>x=(((wl I o (i+1)).length:Int),s1,J,CO I (wl I o (i+1)),s2)) ?_ ?_
  .refine cE (cE (aT (aU (ZJ _ _) ?_)));rw[HJ];refine aP (λh=>?_) λh=>ar ?_
   .have h:H_ o (aJ (T:=jE) I (i:Int))=ai:=hg▸h;refine cE (cE (ar ?_));rw[aE h,ae9];dsimp only;rw[gM (by omega)];simp only[bm,bZ,jY];rfl
   .have h:H_ o (aJ (T:=jE) I (i:Int))=aj:=hg▸h;rw[h];rfl
  rintro x rfl;exact ar (by dsimp only;rw[gM (by omega)])
 .rintro x rfl;exact db (ar rfl)
theorem agf {n:Nat} (w:WT) (s:SY) (hs:SB n s) (hn:n<=1000) (U:w.2.2.1.length<=1000) (t k o u:Int) (he:EN w s t k o) (hr:V4 w s t k o) (J:¬k=8) (I:¬k=9):gV (w,s,t,k,o,u)=af ((qX w s t k o u).1,(qX w s t k o u).2,ai):=by
 refine cD ?_;unfold gV aV bh bw ct dQ bL dc cN eZ mq ck bd bF bI kF aF;refine aU (D6 w s hs hn U t k o he hr) (fI rfl (aU (abm s hs) ?_));suffices hmain:Ok _ _ from aX (λx=>((x.2.2.2.1,x.2.1,x.2.2.2.2),x.1)=qX w s t k o u) hmain λx M=>ar (by rw[<- M])
 obtain⟨nm,t0,t1,cd,e1,e2,e3⟩:=id he;obtain⟨_,_,ce,lk,cn,th,fu⟩:=nm;have hm:16<=k/\k<=19->0<=(aJ (T:=Tw) w.2.2.1 o).2/\(aJ (T:=Tw) w.2.2.1 o).2<w.2.1.length:=λh=>cd _ (bH (cn h).1 (cn h).2)
 rcases @IV k with rfl|rfl|rfl|rfl|rfl|rfl|rfl|rfl|rfl|rfl|rfl|rfl|rfl|rfl|rfl|rfl|rfl|rfl|rfl|rfl|rfl|rfl|rfl|⟨hk,Y⟩
 case inr.inr.inr.inr.inr.inr.inr.inr.inr.inr.inr.inr.inr.inr.inr.inr.inr.inr.inr.inr.inr.inr.inr=>omega
 all_goals first|exact (J rfl).elim|exact (I rfl).elim|skip
 all_goals simp only[aZ,bp,s8]
 all_goals with_reducible repeat' first|(refine OS.ok ?_;constructor)|refine IM.mk λ_=>?_
 all_goals try simp only[au,qT] at*
 all_goals try rw[bT]
 all_goals first|omega|exact (hm ⟨by decide,by decide⟩).1|exact e1▸(hm ⟨by decide,by decide⟩).2|exact rfl|skip
 .refine aU (ae5 s o u hs.th) (be ?_ (ar ?_))
  .have:al (if (wl s.2.2.2 o s.2.2.2.length).length=0 then s.2.2.2 else ya s.2.2.2 (Bq (wl s.2.2.2 o s.2.2.2.length) u) 4)=s.2.2.2.length:=by
    split
    .rfl
    .exact bT ..
   dsimp only;rw[this];simp
  .rw[Ft];by_cases h:(wl s.2.2.2 o s.2.2.2.length).length=0
   .rw[aE h,aE h,Ky h]
   .rw[aA h,aA h]
 .refine aU (Uf s o hs.th) (be ?_ (ar rfl));dsimp only;rw[HQ];simp
def AT:Nat->List (List Int)
 |0=>[[]]
 |m+1=>AT m++(AT m).map ((3-(m:Int))::·)
theorem Mr:∀ m,[]∈AT m
 |0=>by simp[AT]
 |m+1=>by simp[AT,Mr m]
theorem Ef:∀ (m:Nat) (l:List Int),HA l->(∀ z∈l,4-(m:Int)<=z/\z<4)->l∈AT m
 |m,[],_,_=>Mr m
 |0,a::r,_,h=>by have:=h a (by simp);omega
 |m+1,a::r,hA,h=>by
  have J:=h a (by simp);rw[AT,bQ];by_cases e:a=3-(m:Int)
  .refine .inr (dt.2 ⟨r,Ef m r hA.2 λz I=>?_,by rw[e]⟩);have:=h z (by simp[I]);have:=hA.1 z I;omega
  .refine .inl (Ef m (a::r) hA λz I=>?_);have:=h z I;rcases bl.1 I with rfl|I
   .omega
   .have:=hA.1 z I;omega
theorem agm {l:List Int} (h:HA l) (h2:∀ z∈l,0<=z/\z<4):l∈AT 4:=Ef 4 l h λz I=>by have:=h2 z I;omega
def in4:List Int:=[0,1,2,3]
theorem WP {t:Int} (h0:0<=t) (h1:t<4):t∈in4:=by
 have:t=0\/t=1\/t=2\/t=3:=by omega
 rcases this with rfl|rfl|rfl|rfl<;>simp[in4]
def al9 (l:List Int) (t:Int):Bool:=l.contains t||((wC (l++[t])==af (xj l [t]))&&(lE (xj l [t])==af (xj l [t]))&&aC (xj l [t]).length (l++[t]).length)
def am5 (l:List Int) (t:Int):Bool:= !l.contains t||(jh (l,t)==af (t,wo l t))
theorem adq:((AT 4).all λl=>in4.all λt=>al9 l t)=ai:=by kernel_rfl
theorem aey:((AT 4).all λl=>in4.all λt=>am5 l t)=ai:=by kernel_rfl
theorem srt8 {l:List Int} {t:Int} (h:HA l) (h2:∀ z∈l,0<=z/\z<4) (h0:0<=t) (h1:t<4) (hn:¬t∈l):wC (l++[t])=af (xj l [t])/\lE (xj l [t])=af (xj l [t])/\(xj l [t]).length=(l++[t]).length:=by
 have:=gu.1 (gu.1 adq l (agm h h2)) t (WP h0 h1);unfold al9 at this;have hc:l.contains t=aj:=by simp[hn]
 rw[hc,Bool.false_or,av,av] at this;exact⟨eq_of_beq this.1.1,eq_of_beq this.1.2,aw this.2⟩
theorem del8 {l:List Int} {t:Int} (h:HA l) (h2:∀ z∈l,0<=z/\z<4) (h0:0<=t) (h1:t<4) (hn:l.contains t=ai):jh (l,t)=af (t,wo l t):=by
 have:=gu.1 (gu.1 aey l (agm h h2)) t (WP h0 h1);unfold am5 at this;rw[hn,Bool.not_true,Bool.false_or] at this;exact eq_of_beq this
theorem af7 (a0 a1 a2:Int) (r0 r1 r2:List Int) (h:Int) (d:List Bool) (th:List (Int×Int×Bool)) (h0:r0.length<=1000) (h1:r1.length<=1000) (h2:r2.length<=1000) (hd:d.length<=1000) (ht:th.length<=1000):m7 ([(a0,r0),(a1,r1),(a2,r2)],h,d,th)=af ((h,d,th),(a0,a1,a2),r0,r1,r2):=by
 refine cD ?_;have cl:∀ l:List Int,l.length<=1000->o6 l=af l:=λl hl=>cD (bi (by omega) (by omega) (ar rfl))
 unfold m7 aV bL bB bF bI aY aF;refine be rfl (aX (λx=>x=(([(a0,r0),(a1,r1),(a2,r2)],h,d,th),0,(a0,a1,a2),r0,r1,r2)) ?_ ?_)
 .exact fD rfl (be rfl (aT (aU (cl _ h0) (fD rfl (be rfl (aT (aU (cl _ h1) (fD rfl (be rfl (aT (aU (cl _ h2) (fI rfl (ar rfl)))))))))))))
 rintro x rfl;refine aU (x:=d) (cD (bi (by dsimp only;omega) (by omega) (ar rfl))) (aU (x:=th) (cD (bi (by dsimp only;omega) (by omega) (ar rfl))) (ar rfl))
theorem agh {n:Nat} (w:WT) (s:SY) (hs:SB n s) (hn:n<=1000) (I:w.2.2.1.length<=1000) (t k o u:Int) (he:EN w s t k o) (hr:V4 w s t k o) (hk:k=8\/k=9):gV (w,s,t,k,o,u)=ah:=by
 have h1:=D6 w s hs hn I t k o he hr;have h2:=abm s hs;rcases hk with rfl|rfl
 .unfold gV aV bh bw ct dQ bL dc cN eZ mq ck bd bF bI kF aF;simp only[h1,h2,aZ,bp,s8];cases fk o (al s.1)<;>rfl
 .unfold gV aV bh bw ct dQ bL dc cN eZ mq ck bd bF bI kF aF;simp only[h1,h2,aZ,bp,s8];cases fk o (al s.1)<;>rfl
theorem age {n:Nat} (w:WT) (s:SY) (hs:SB n s) (hn:n<=900) (Y:w.2.2.1.length<=1000) (t k u:Int) (he:EN w s t k 2) (hr:V4 w s t k 2) (hk:k=8\/k=9) (Z:s.1.length=3) (hA:HA (aJ (T:=Ax) s.1 2).2) (I:∀ z∈(aJ (T:=Ax) s.1 2).2,0<=z/\z<4) (M:t<4):k9 (w,s,t,k,2,u)=af ((qX w s t k 2 u).1,(qX w s t k 2 u).2,ai):=by
 have h1:=D6 w s hs (by omega) Y t k 2 he hr;have t0:=he.t0;have ra:=hr.ra;have rr:=hr.rr;have hrd:=hs.rd;have hdn:=hs.dn;have hth:=hs.th;obtain⟨s1,h,d,th⟩:=s
 match s1,Z with
 |[(a0,r0),(a1,r1),(a2,r2)],_=>
  have g0:r0.length<=n:=hrd (a0,r0) (by simp);have g1:r1.length<=n:=hrd (a1,r1) (by simp);have g2:r2.length<=n:=hrd (a2,r2) (by simp);have hA:HA r2:=hA;have I:∀ z∈r2,0<=z/\z<4:=I;dsimp only at hdn hth;have hc:=af7 a0 a1 a2 r0 r1 r2 h d th (by omega) (by omega) (by omega) hdn hth;refine cD ?_;unfold k9 aV bh bw ct dQ iU dc cN eZ nF bd v9 bF aF;rcases hk with rfl|rfl
  .have ra:r2.contains t=aj:=ra rfl;obtain⟨J,U,q3⟩:=srt8 hA I t0 M (by simpa using ra);simp only[h1,hc,aZ,bp,s8];refine aX (λx=>x=(0,(h,d,th),0,(((a0,r0),(a1,r1),a2)),ai,xj r2 [t])) ?_ ?_
   .refine bi (by simp;omega) (by omega) (aU J (be ?_ (aU U (be ?_ (ar ?_)))))
    .rw[q3];simp
    .simp
    .rfl
   rintro x rfl;exact ar rfl
  .have rr:r2.contains t=ai:=rr rfl;have J:=del8 hA I t0 M rr;simp only[h1,hc,aZ,bp,s8];refine aX (λx=>x=(0,(h,d,th),0,(((a0,r0),(a1,r1),a2)),aj,wo r2 t)) ?_ ?_
   .exact aU J (be (by simp) (ar rfl))
   rintro x rfl;exact ar rfl
theorem aku {n:Nat} (w:WT) (s:SY) (hs:SB n s) (hn:n<=900) (I:w.2.2.1.length<=1000) (t k o u:Int) (he:EN w s t k o) (hr:V4 w s t k o) (h2:k=8\/k=9->o=2) (M:s.1.length=3) (hA:∀ l∈s.1,HA l.2/\∀ z∈l.2,0<=z/\z<4) (J:t<4):rV (w,s,t,k,o,u)=af ((qX w s t k o u).1,(qX w s t k o u).2,ai):=by
 unfold rV;by_cases hk:k=8\/k=9
 .have:=h2 hk;subst this;have hg:=hA _ (bH (T:=Ax) (xs:=s.1) (j:=2) (by omega) (by omega));rw[agh w s hs (by omega) I t k 2 u he hr hk,age w s hs hn I t k u he hr hk M hg.1 hg.2 J];rfl
 .rw[agf w s hs (by omega) I t k o u he hr (λh=>hk (.inl h)) λh=>hk (.inr h)];rfl
theorem Xh (l:List Int) (h:l.length<=100000):zg l=af l:=cD (bi (by omega) (by omega) (ar rfl))
theorem af8 (l:List Int) (h:l.length<=100000):o6 l=af l:=cD (bi (by omega) (by omega) (ar rfl))
theorem amv {n:Nat} (w:WT) (s:SN) (e:ET) (hs:NB n s) (hn:n<=900) (U:w.2.2.1.length<=1000) (Y:F16 w s) (J:EN w s.1 e.1 e.2.1 e.2.2.1) (hS:S16 w s e) (ld:e.2.2.2.2.2.1.length<=1000000) (lf:e.2.2.2.2.2.2.length<=1000000) (h2:e.2.1=8\/e.2.1=9->e.2.2.1=2) (h3:s.1.1.length=3) (hA:∀ l∈s.1.1,HA l.2/\∀ z∈l.2,0<=z/\z<4) (t4:e.1<4):fP (w,s,e)=af (nxP w s e,ai):=by
 refine cD ?_;obtain⟨rd,q1,q2,de,fr,nd,nf,va⟩:=id hS;obtain⟨nm,t0,t1,cd,e1,e2,e3⟩:=id J;obtain⟨k1,k2,ce,lk,cn,th,fu,_,_,_⟩:=nm;obtain⟨f1,f2,f3⟩:=id Y;have hsc:=hs.c;have hsf:=hs.f;have hsk:=hs.k;unfold fP aV bh bw bL dc cN ck bd bB jZ kF aY aF cC;refine aX (λx=>x=(aj,w,s,e,0)) ?_ ?_
 .refine aU (alu w s U _ _ _ J Y) (fI rfl (db (gg (λg=>(by dsimp only[au] at g;omega)) λ_=>db (ar ?_))));rw[gh.2 (show e.2.1<=23 by omega)]
 rintro x rfl;refine fJ (aX (λx=>x=(aj,w,s,e,0)) ?_ ?_)
 .exact aU (D6 w s.1 hs.sb (by omega) U _ _ _ J rd) (fI rfl (aU (adz w e q1 q2) (fI rfl (aU (RH w s e (λh=>ce h) de fr t0 (by rw[f3];exact t1) nd nf ld lf) (fI rfl (aU (adl w s hs.sb e Y J va) (ar rfl)))))))
 rintro x rfl;refine fJ (aX (λx=>x.2=(w,s,e,0)/\qX w s.1 e.1 e.2.1 e.2.2.1 x.1=qX w s.1 e.1 e.2.1 e.2.2.1 e.2.2.2.1) ?_ ?_)
 .exact aK (λ_=>ar ⟨rfl,rfl⟩) λh=>ar ⟨rfl,Xw _ _ _ _ _ _ _ h⟩
 rintro⟨u,x⟩ ⟨Z,hu⟩;dsimp only at Z hu;subst Z;refine aU (aku w s.1 hs.sb hn U _ _ _ u J rd h2 h3 hA t4) (fI rfl (aU (Xh _ (by dsimp only;omega)) (aU (Xh _ (by dsimp only;omega)) (aU (af8 _ (by dsimp only;omega)) ?_))));rw[hu];refine aX (λx=>x.1=e/\x.2.2.1=(qX w s.1 e.1 e.2.1 e.2.2.1 e.2.2.2.1).1/\x.2.2.2.1=YO s.2.1 e/\x.2.2.2.2.1=ZB s.2.2.1 e/\x.2.2.2.2.2=s.2.2.2) ?_ ?_
 .unfold YO ZB;refine aK (λh=>?_) λh=>aK (λh'=>?_) λh'=>ar ⟨rfl,rfl,(aA h).symm,(aA h').symm,rfl⟩
  .have h:e.2.1=4:=h;have I:=ce (.inr h);exact aR I.1 (by rw[f1];exact I.2) (aR I.1 (by rw[f1];exact I.2) (ar ⟨rfl,rfl,(aE h).symm,(aA (by omega)).symm,rfl⟩))
  .have h:e.2.1=22:=h';have I:=fu (.inl h);exact aR I.1 (by rw[f2];exact I.2) (aR I.1 (by rw[f2];exact I.2) (ar ⟨rfl,rfl,(aA (by omega)).symm,(aE h).symm,rfl⟩))
 rintro⟨x1,x2,x3,x4,x5,x6⟩ ⟨h1,h2,h4,h5,h6⟩;simp only at h1 h2 h4 h5 h6;subst h1;subst h2;subst h4;subst h5;subst h6;have M:x1.1<(s.2.2.2.length:Int):=by rw[f3];exact t1
 exact aR t0 M (aR t0 M (aT (aR t0 M (aR t0 M (ar rfl)))))
theorem YS (r:List Bool) (e:ET) (h1:∀ y∈e.2.2.2.2.2.1,0<=y/\r.getD y.toNat aj=ai) (h2:∀ y∈e.2.2.2.2.2.2,0<=y/\r.getD y.toNat aj=ai) (ld:e.2.2.2.2.2.1.length<=1000000) (I:e.2.2.2.2.2.2.length<=1000000):cf (r,e)=af ai:=by
 refine cD ?_;unfold cf kq dQ mq bB jZ bF bI aY cK aF cC;refine gJ 2 (by omega) (λi x=>x=(i:Int)) ?_ ?_ rfl
 .rintro i x hi rfl;refine bK (λ_=>?_) λg=>(by omega)
  refine cW (dv (by omega) (Ak (by omega) (aT ?_)));have hr:∃ l:List Int,aJ (T:=.sl (.int .i64)) [e.2.2.2.2.2.1,e.2.2.2.2.2.2] (i:Int)=l/\(∀ y∈l,0<=y/\r.getD y.toNat aj=ai)/\l.length<=1000000:=by
   match i,hi with
   |0,_=>exact⟨_,rfl,h1,ld⟩
   |1,_=>exact⟨_,rfl,h2,I⟩
  obtain⟨l,J,hA,hl⟩:=hr;have er':aJ (T:=.sl aM) [e.2.2.2.2.2.1,e.2.2.2.2.2.2] (i:Int)=l:=J;dsimp only at er' ⊢;rw[er'];refine gJ l.length (by omega) (λj x=>x=(j:Int)) ?_ ?_ rfl
  .rintro j x hj rfl;refine dg ?_;have m:=hA _ (bH (T:=.int .i64) (xs:=l) (j:=(j:Int)) (by omega) (by omega));refine cE (aT (aX (λx=>x=aj) ?_ ?_))
   .revert m;generalize aJ (T:=.int .i64) l (j:Int)=z;intro m;have M:z.toNat<r.length:=by
     rcases b7 z.toNat r.length with g|g
     .exact g
     .have:=m.2;rw[ax,bR g] at this;cases this
    refine bK (λg=>(by have:=m.1;omega)) λ_=>gg (λg=>(by have:=m.1;dsimp only[au] at g;omega)) λ_=>aR m.1 (by have:=m.1;omega) (aT (ar ?_))
    have:aJ (T:=.bool) r z=ai:=m.2;show (!aJ (T:=.bool) r z)=aj;rw[this];rfl
   rintro x rfl;exact fJ (ar (gM (by omega)))
  .rintro x rfl;exact db (ar (gM (by omega)))
 .rintro x rfl;exact bK (λg=>(by omega)) λ_=>ar rfl
abbrev W8 (n:Nat) (s:List (Int×Int×Int)):WT:=(C0,G0,Mm,Tg,v_.take n,s)
theorem WX.w8 {w:WT} (U:WX w):∃ n,(n=1\/n=2\/n=3\/n=4)/\w=W8 n w.2.2.2.2.2:=by
 obtain⟨h1,h2,M,J,⟨n,n1,Y,I⟩,_,_⟩:=U;obtain⟨c,l,d,f,t,s⟩:=w;dsimp only at h1 h2 M J I;subst h1;subst h2;subst M;subst J;subst I;exact⟨n,by omega,rfl⟩
abbrev sn8 (w:WT):SN:=(PP w,ce0 w,fu0 w,aG w.2.2.2.2.1.length 0)
theorem Ij (s:List (Int×Int×Int)):dh (W8 1 s)=af (sn8 (W8 1 s)):=by kernel_rfl
theorem ZU (s:List (Int×Int×Int)):dh (W8 2 s)=af (sn8 (W8 2 s)):=by kernel_rfl
theorem st3 (s:List (Int×Int×Int)):dh (W8 3 s)=af (sn8 (W8 3 s)):=by kernel_rfl
theorem st4 (s:List (Int×Int×Int)):dh (W8 4 s)=af (sn8 (W8 4 s)):=by kernel_rfl
theorem Cd {w:WT} (I:WX w):dh w=af (sn8 w):=by
 obtain⟨n,hn,e⟩:=I.w8;rw[e];rcases hn with rfl|rfl|rfl|rfl
 .exact Ij _
 .exact ZU _
 .exact st3 _
 .exact st4 _
abbrev VN4:List (List UInt8):=[[120],[121],[118],[113]]
theorem vc8:hP C0=af (VN4,ai):=by kernel_rfl
theorem vn1 (s:List (Int×Int×Int)):dO (W8 1 s,VN4)=af ai:=by kernel_rfl
theorem vn2 (s:List (Int×Int×Int)):dO (W8 2 s,VN4)=af ai:=by kernel_rfl
theorem vn3 (s:List (Int×Int×Int)):dO (W8 3 s,VN4)=af ai:=by kernel_rfl
theorem vn4 (s:List (Int×Int×Int)):dO (W8 4 s,VN4)=af ai:=by kernel_rfl
theorem vs8 {w:WT} (M:WX w) (hb:VL w):fZ w=af ai:=by
 have hv:=M.v;have hs:=M.s;have ht:=hb.t0;unfold SV0 at hv;refine cD ?_;unfold fZ kN aV bh ct cN bB iF bI aY cK aF cC;refine gJ w.2.2.2.2.2.length (by omega) (λi x=>∃ t n:Int,x=((t,n,(i:Int)),w)/\Li w.2.2.2.2.1.length (w.2.2.2.2.2.take i)=af (t,n)/\0<=t/\t<w.2.2.2.2.1.length/\0<=n/\n<=i) ?_ ?_ ⟨0,0,rfl,rfl,by omega,by omega,by omega,by omega⟩
 .rintro i x hi ⟨t,n,rfl,h1,t0,t1,n0,n1⟩;refine dg ?_;refine cE (aT ?_);have h2:=Wj hv (i+1);have I:Li w.2.2.2.2.1.length (w.2.2.2.2.2.take (i+1))=Tx w.2.2.2.2.1.length (af (t,n)) (aJ (T:=x_) w.2.2.2.2.2 (i:Int)):=by rw[Ik hi,h1]
  rw[I] at h2;dsimp only;revert h2 I;change _->_->Ok _ _;generalize aJ (T:=x_) w.2.2.2.2.2 (i:Int)=z;intro h2 I;obtain⟨(a:Int),(b:Int),(c:Int)⟩:=z;have Y:(a=t/\b=n)\/(t<a/\a<w.2.2.2.2.1.length/\b=0):=by
   simp only[Tx] at h2;split at h2
   .rename_i h;exact .inl h
   .split at h2
    .rename_i h;exact .inr h
    .exact (h2 rfl).elim
  refine aX (λx=>x=(aj,w,a,b,c)) ?_ ?_
  .refine db (ar ?_);dsimp only;rw[l7.2 (by dsimp only[au];omega)]
  rintro x rfl;refine fJ ?_;rcases Y with ⟨rfl,rfl⟩|⟨U,J,rfl⟩
  .refine aX (λx=>x=((a,b),w,a,b,c)) (db (ar rfl)) ?_;rintro x rfl;refine b8 (λg=>(g rfl).elim) λ_=>ar ⟨a,b+1,?_,?_,t0,t1,by omega,by omega⟩
   .dsimp only;rw[io (n:=b+1) (by omega) (by omega),gM (by omega)]
   .rw[I];simp[Tx]
  .refine aX (λx=>x=((a,0),w,a,0,c)) (dg (ar rfl)) ?_;rintro x rfl;refine b8 (λg=>(g rfl).elim) λ_=>ar ⟨a,1,?_,?_,by omega,J,by omega,by omega⟩
   .dsimp only;rw[io (n:=0+1) (by omega) (by omega),gM (by omega)];rfl
   .rw[I];show (if a=t/\(0:Int)=n then af (t,n+1) else if t<a/\a<_/\(0:Int)=0 then af (a,1) else ah)=af (a,1);rw[aA (by omega),aE ⟨U,J,rfl⟩]
 .rintro x ⟨t,n,rfl,_⟩;exact db (ar rfl)
theorem VW8 {w:WT} (M:WX w) (hb:VL w):dP w=af ai:=by
 have hs:=vs8 M hb;have hvn:dO (w,VN4)=af ai:=by
  obtain⟨n,hn,e⟩:=M.w8;rw[e];rcases hn with rfl|rfl|rfl|rfl
  .exact vn1 _
  .exact vn2 _
  .exact vn3 _
  .exact vn4 _
 have hc:=M.c;have hd:=M.d;have hl:=M.l;obtain⟨w1,w2,w3,U,J,I⟩:=w;obtain⟨b1,b2,b3,b4,b0,Z,Y⟩:=hb;dsimp only at hc hd hl b1 b2 b3 b4 Z Y b0;subst hc;subst hd;subst hl;refine cD ?_;unfold dP kO aV bh ct cN bB bI aY cK aF cC;have f:∀ n m:Nat,n<=m->fX (m:Int) (aQ n)=aj:=λn m h=>gh.2 (by dsimp only[au];omega)
 refine aX (λx=>x=(aj,C0,G0,Mm,U,J,I)) ?_ ?_
 .refine fI rfl (fI rfl (fI rfl (fI (f _ 2 b4) (ar ?_))));rw[show fX 60 (aQ (al I))=aj from f _ 60 Y]
 rintro x rfl;refine fJ (aX (λx=>x=(aj,C0,G0,Mm,U,J,I)) ?_ ?_)
 .refine fI (gh.2 (by dsimp only[au];omega)) (ar ?_);rw[show fX 4 (aQ (al J))=aj from f _ 4 Z]
 rintro x rfl;refine fJ (aU vc8 (aX (λx=>x=(aj,C0,G0,Mm,U,J,I)) ?_ ?_))
 .exact fJ (aU hvn (ar rfl))
 rintro x rfl;refine fJ (gJ 1 (by omega) (λi x=>x=((i:Int),C0,G0,Mm,U,J,I)) ?_ ?_ rfl)
 .rintro i x hi rfl;have:i=0:=by omega
  subst this;refine fD rfl (be rfl (aT (aU (x:=ai) ?_ (fJ (ar rfl)))));rfl
 .rintro x rfl;exact fI rfl (aU (x:=ai) (by rw[hs];rfl) (ar rfl))
abbrev eN (l:List ET) (i:Nat):ET:=aJ (T:=tE) l (i:Int)
theorem B7 {l:List ET} {i:Nat} (h:i<l.length):eN l i∈l:=bH (T:=tE) (by omega) (by omega)
theorem ail {l:List ET} {e:ET} {i:Nat} (h:i<l.length):eN (l++[e]) i=eN l i:=by
 unfold eN;rw[uA,uA,ax,ax,bJ h]
theorem aex (l:List ET) (e:ET):eN (l++[e]) l.length=e:=by
 unfold eN;rw[uA,ax,bV (bP _),HG];rfl
def No (w:WT) (l:List ET):SY×List Int×List Int:=l.foldl (λs e=>((qX w s.1 e.1 e.2.1 e.2.2.1 e.2.2.2.1).1,YO s.2.1 e,ZB s.2.2 e)) (PP w,ce0 w,fu0 w)
theorem SS (w:WT) {l:List ET} {i:Nat} (h:i<l.length):No w (l.take (i+1))=((qX w (No w (l.take i)).1 (eN l i).1 (eN l i).2.1 (eN l i).2.2.1 (eN l i).2.2.2.1).1,YO (No w (l.take i)).2.1 (eN l i),ZB (No w (l.take i)).2.2 (eN l i)):=by
 rw[oe (T:=tE) h];unfold No;rw[fK];rfl
theorem Acw.all {w:WT} {l:List ET} {sy:SY} {ce fu:List Int} (h:Acw w l sy ce fu):No w l=(sy,ce,fu)/\∀ i,i<l.length->SCx w (l.take i) (No w (l.take i)).1 (No w (l.take i)).2.1 (No w (l.take i)).2.2 (eN l i):=by
 induction h with
 |nil=>exact⟨rfl,λi hi=>cV hi (xg _)⟩
 |snoc h hs I=>
  rename_i l sy ce fu e;obtain⟨h1,h2⟩:=I;refine ⟨by unfold No at h1 ⊢;rw[fK,h1];rfl,λi hi=>?_⟩;rw[bm,dR] at hi;rcases b7 i l.length with g|g
  .rw[lj (by omega),ail g];exact h2 i g
  .have:i=l.length:=by omega
   subst this;rw[lj (bP _),cR,aex,h1];exact hs
theorem TR.sc {w:WT} {l:List ET} (tr:TR (w,l)) {i:Nat} (h:i<l.length):SCx w (l.take i) (No w (l.take i)).1 (No w (l.take i)).2.1 (No w (l.take i)).2.2 (eN l i):=by
 obtain⟨sy,ce,fu,ac⟩:=tr.ac;exact ac.all.2 i h
def PR (w:WT) (l:List ET):HS:=l.foldl (λh e=>(FF w h (evP e)).1) (HS.zero w)
def cQ (l:List ET) (i:Nat):EV:=evP (eN l i)
def sO (w:WT) (l:List ET) (i:Nat):List Int:=vS w (PR w (l.take i)) (cQ l i)
theorem C4 (w:WT) {l:List ET} {i:Nat} (h:i<l.length):PR w (l.take (i+1))=ik w (PR w (l.take i)) (cQ l i) (sO w l i):=by
 rw[oe (T:=tE) h];unfold PR;rw[fK];rfl
theorem Ur {w:WT} {l:List ET} (tr:TR (w,l)):∀ i:Nat,i<=l.length->PN (i:Int) (PR w (l.take i))/\XH w (PR w (l.take i))
 |0,_=>by
  have wb:=tr.wb;dsimp only at wb;exact⟨HS.zero_ok (by have:=wb.c;omega) (by have:=wb.l;omega) (by have:=wb.f;omega) (by have:=wb.t;omega),XH.zero w⟩
 |i+1,h=>by
  obtain⟨o,I⟩:=Ur tr i (by omega);have hl:=tr.len;dsimp only at hl;have ok:=OW (tr.ev _ (B7 (l:=l) (i:=i) (by omega))) tr.wb I;rw[C4 w (by omega)];exact⟨ZS (w:=w) (e:=cQ l i) o (by omega) ok.th4,I.step (cQ l i)⟩
theorem Jz {w:WT} {l:List ET} (tr:TR (w,l)) {i:Nat} (h:i<l.length):EOK w (PR w (l.take i)) (cQ l i):=OW (tr.ev _ (B7 h)) tr.wb (Ur tr i (by omega)).2
theorem uE {w:WT} {l:List ET} (tr:TR (w,l)) {i:Nat} (h:i<l.length):EvT (cQ l i) (eN l i):=alw (tr.ev _ (B7 h))
def LE (a b:List Int):Prop:=a.length<=b.length/\∀ k,a.getD k 0<=b.getD k 0
theorem LE.refl (a:List Int):LE a a:=⟨bP _,λ_=>eD _⟩
theorem LE.trans {a b c:List Int} (h:LE a b) (g:LE b c):LE a c:=⟨dk h.1 g.1,λk=>Int.le_trans (h.2 k) (g.2 k)⟩
theorem LE.jl {a b:List Int} (h:LE a b):jl a b=b:=wF (by rw[pP];have:=h.1;omega) λi=>by rw[uq,oM];have:=h.2 i;omega
theorem Zh (a b:List Int):LE a (jl a b):=⟨by rw[pP];omega,λk=>by rw[uq,oM];omega⟩
theorem akf (a b:List Int):LE b (jl a b):=⟨by rw[pP];omega,λk=>by rw[uq,oM];omega⟩
theorem acv (a:List Int) (t:Nat):LE a (tk a t):=⟨by rw[Mq];omega,λk=>by rw[Ig];split<;>(try subst k)<;>omega⟩
theorem PI:∀ (l:List (List Int)) (c:List Int),LE c (l.foldl jl c)
 |[],c=>LE.refl c
 |x::r,c=>(Zh c x).trans (PI r _)
theorem ah4 (w:vE) (h:HS) (e:EV):LE (h.T.getD e.th []) (vS w h e):=(PI _ _).trans (acv _ _)
theorem oN {α:Type} (l:List α) (i j:Nat) (x d:α):(l.set i x).getD j d=if i=j/\i<l.length then x else l.getD j d:=by
 rw[ax,oW];by_cases e:i=j
 .subst e;by_cases g:i<l.length
  .rw[aE rfl,aE g,aE ⟨rfl,g⟩];rfl
  .rw[aE rfl,aA g,aA λq=>g q.2,ax,bR (by omega)]
 .rw[aA e,aA λq=>e q.1,ax]
structure od (P:List Int->Prop) (h:HS):Prop where
 T:∀ u,P (h.T.getD u [])
 S:∀ u,P (h.S.getD u [])
 L:∀ u,P (h.L.getD u [])
 R:∀ u,P (h.R.getD u [])
 C:∀ u,P (h.C.getD u [])
 F:∀ u,P (h.F.getD u [])
 X:P h.X
 N:∀ u,P (h.N.getD u [])
theorem od.mono {P Q:List Int->Prop} {h:HS} (a:od P h) (g:∀ x,P x->Q x):od Q h:=⟨λu=>g _ (a.T u),λu=>g _ (a.S u),λu=>g _ (a.L u),λu=>g _ (a.R u),λu=>g _ (a.C u),λu=>g _ (a.F u),g _ a.X,λu=>g _ (a.N u)⟩
theorem od.set {P:List Int->Prop} {l:List (List Int)} {c:List Int} (h:∀ u,P (l.getD u [])) (hc:P c) (i:Nat):∀ u,P ((l.set i c).getD u []):=λu=>by
 rw[oN];split
 .exact hc
 .exact h u
theorem od.repl {P:List Int->Prop} (h:P []) (n:Nat):∀ u,P ((aG n []).getD u []):=λu=>by
 rw[ax,lw];split<;>exact h
theorem od.zero {P:List Int->Prop} (h:P []) (w:vE):od P (HS.zero w):=⟨od.repl h _,od.repl h _,od.repl h _,od.repl h _,od.repl h _,od.repl h _,h,od.repl h _⟩
theorem od.step {P:List Int->Prop} (hj:∀ a b,P a->P b->P (jl a b)) {w:vE} {h:HS} (a:od P h) (e:EV) {c:List Int} (hc:P c):od P (ik w h e c):=by
 have b:od P {h with T:=h.T.set e.th c}:={a with T:=od.set a.T hc _}
 unfold ik;simp only[];repeat' split
 .exact {b with S:=od.set a.S hc _}
 .exact {b with L:=od.set a.L (hj _ _ (a.L _) hc) _}
 .exact {b with R:=od.set a.R (hj _ _ (a.R _) hc) _}
 .exact {b with L:=od.set a.L (hj _ _ (a.L _) hc) _}
 .exact {b with C:=od.set a.C (hj _ _ (a.C _) hc) _}
 .exact b
 .exact {b with F:=od.set a.F (hj _ _ (a.F _) hc) _}
 .exact {b with X:=hj _ _ a.X hc}
 .exact {b with N:=od.set a.N hc _}
 .exact b
 .refine {b with N:=λu=>?_};have:=a.N u;simp only[Co];rw[ax] at this ⊢;rw[D'];cases I:h.N[u]? with
  |none=>rw[I] at this;exact this
  |some x=>
   rw[I] at this;simp only[b_,uW];split
   .exact hc
   .exact this
 .exact b
theorem od.src {P:List Int->Prop} {w:vE} {h:HS} (a:od P h) (e:EV):∀ x∈sg w h e,P x:=by
 intro c hc;unfold sg at hc;repeat' (split at hc)
 all_goals simp only[bl,cw,gf] at hc
 .subst hc;exact a.S _
 .subst hc;exact a.T _
 .rcases hc with rfl|rfl
  .exact a.L _
  .exact a.R _
 .subst hc;exact a.L _
 .rcases hc with rfl|rfl|rfl
  .exact a.L _
  .exact a.R _
  .exact a.N _
 .subst hc;exact a.C _
 .subst hc;exact a.F _
 .subst hc;exact a.X
theorem ab8 {P:List Int->Prop} (hj:∀ a b,P a->P b->P (jl a b)):∀ (l:List (List Int)) (c:List Int),P c->(∀ x∈l,P x)->P (l.foldl jl c)
 |[],_,hc,_=>hc
 |x::r,_,hc,h=>ab8 hj r _ (hj _ _ hc (h x (dC ..))) λy I=>h y (cO _ I)
theorem abd (w:vE) (h:HS) (e:EV) (c:List Int):(ik w h e c).T=h.T.set e.th c:=by
 unfold ik;simp only[];repeat' split
 all_goals rfl
def tB (l:List ET) (u:Nat):Nat->Nat
 |0=>0
 |i+1=>if (cQ l i).th=u then tB l u i+1 else tB l u i
theorem Ss (l:List ET) (u i:Nat):∀ j,tB l u i<=tB l u (i+j)
 |0=>bP _
 |j+1=>by
  have:=Ss l u i j;show tB l u i<=tB l u (i+j+1);rw[tB];split<;>omega
theorem Pd (l:List ET) (u:Nat) {i j:Nat} (h:i<=j):tB l u i<=tB l u j:=by
 obtain⟨k,rfl⟩:∃ k,j=i+k:=⟨j-i,by omega⟩
 exact Ss l u i k
theorem DP (l:List ET) (i:Nat):tB l (cQ l i).th (i+1)=tB l (cQ l i).th i+1:=by rw[tB,aE rfl]
structure Gd (w:WT) (l:List ET) (i:Nat) (x:List Int):Prop where
 le:∀ u,x.getD u 0<=(tB l u i:Int)
 dn:∀ k,k<i->(tB l (cQ l k).th k:Int)+1<=x.getD (cQ l k).th 0->LE (sO w l k) x
theorem Gd.nil (w:WT) (l:List ET) (i:Nat):Gd w l i []:=⟨λu=>by simp,λk _ h=>by simp at h;omega⟩
theorem Gd.jl {w:WT} {l:List ET} {i:Nat} (a b:List Int) (I:Gd w l i a) (hb:Gd w l i b):Gd w l i (jl a b):=by
 refine ⟨λu=>?_,λk hk h=>?_⟩
 .rw[uq,oM];have:=I.le u;have:=hb.le u;omega
 .rw[uq,oM] at h;by_cases g:(tB l (cQ l k).th k:Int)+1<=a.getD (cQ l k).th 0
  .exact (I.dn k hk g).trans (Zh _ _)
  .exact (hb.dn k hk (by omega)).trans (akf _ _)
theorem Gd.succ {w:WT} {l:List ET} {i:Nat} {x:List Int} (h:Gd w l i x):Gd w l (i+1) x:=by
 refine ⟨λu=>?_,λk hk g=>?_⟩
 .have:=h.le u;have:=Pd l u (show i<=i+1 by omega);omega
 .by_cases e:k=i
  .subst e;have:=h.le (cQ l k).th;omega
  .exact h.dn k (by omega) g
structure GS1 (w:WT) (l:List ET) (i:Nat) (h:HS):Prop where
 a:od (Gd w l i) h
 t:∀ u,(h.T.getD u []).getD u 0=(tB l u i:Int)
theorem Pm {w:WT} {l:List ET} {i:Nat} (g:GS1 w l i (PR w (l.take i))):Gd w l (i+1) (sO w l i)/\(sO w l i).getD (cQ l i).th 0=(tB l (cQ l i).th i:Int)+1:=by
 have J:Gd w l i ((sg w (PR w (l.take i)) (cQ l i)).foldl AI.jl ((PR w (l.take i)).T.getD (cQ l i).th [])):=ab8 Gd.jl _ _ (g.a.T _) (g.a.src (w:=w) _);have M:=g.t (cQ l i).th;have hL:=PI (sg w (PR w (l.take i)) (cQ l i)) ((PR w (l.take i)).T.getD (cQ l i).th []);have U:=(g.a.T (cQ l i).th).dn;have I:=ah4 w (PR w (l.take i)) (cQ l i);have e:(sO w l i).getD (cQ l i).th 0=(tB l (cQ l i).th i:Int)+1:=by
  unfold sO vS;rw[Ig,aE rfl];have:=hL.2 (cQ l i).th;have:=J.le (cQ l i).th;omega
 refine ⟨⟨λu=>?_,λk hk h=>?_⟩,e⟩
 .by_cases hu:(cQ l i).th=u
  .subst hu;rw[e,DP];omega
  .have:=J.le u;unfold sO vS;rw[Ig,aA λq=>hu q.symm,tB,aA hu];exact this
 .by_cases hki:k=i
  .subst hki;exact LE.refl _
  have hk:k<i:=by omega
  by_cases hu:(cQ l k).th=(cQ l i).th
  .refine (U k hk ?_).trans I;rw[hu,M];have:=Pd l (cQ l k).th (show k+1<=i from hk);rw[DP,hu] at this;omega
  .refine (J.dn k hk ?_).trans (acv _ _);unfold sO vS at h;rw[Ig,aA hu] at h;exact h
theorem I2 {w:WT} {l:List ET} (tr:TR (w,l)):∀ i:Nat,i<=l.length->GS1 w l i (PR w (l.take i))
 |0,_=>⟨od.zero (Gd.nil w l 0) w,λu=>by have:=od.repl (P:=λx=>x.getD u 0=0) (by simp) w.2.2.2.2.1.length u;exact this⟩
 |i+1,h=>by
  have g:=I2 tr i (by omega);obtain⟨J,I⟩:=Pm g;have ht:=(Jz tr (show i<l.length by omega)).th;rw[C4 w (by omega)];refine ⟨od.step Gd.jl (g.a.mono λx h=>h.succ) _ J,λu=>?_⟩;rw[abd,oN];by_cases hu:(cQ l i).th=u
  .subst hu;rw[aE ⟨rfl,ht⟩,I,DP];omega
  .rw[aA λq=>hu q.1,g.t u,tB,aA hu]
theorem Xi {w:WT} {l:List ET} (tr:TR (w,l)) {i:Nat} (h:i<l.length):(sO w l i).getD (cQ l i).th 0=(tB l (cQ l i).th i:Int)+1:=(Pm (I2 tr i (by omega))).2
theorem abo {w:WT} {l:List ET} (tr:TR (w,l)) {i:Nat} (h:i<l.length):Gd w l (i+1) (sO w l i):=(Pm (I2 tr i (by omega))).1
def XI (w:WT) (l:List ET) (k j:Nat):Prop:=(tB l (cQ l k).th k:Int)+1<=(sO w l j).getD (cQ l k).th 0
theorem XI.le {w:WT} {l:List ET} (tr:TR (w,l)) {k j:Nat} (hk:k<=j) (hj:j<l.length) (h:XI w l k j):LE (sO w l k) (sO w l j):=(abo tr hj).dn k (by omega) h
theorem XI.of {w:WT} {l:List ET} (tr:TR (w,l)) {k j:Nat} (hk:k<l.length) (h:LE (sO w l k) (sO w l j)):XI w l k j:=by
 have:=h.2 (cQ l k).th;rw[Xi tr hk] at this;exact this
theorem XI.own {w:WT} {l:List ET} (tr:TR (w,l)) {k j:Nat} (hk:k<j) (hj:j<l.length) (h:(cQ l k).th=(cQ l j).th):XI w l k j:=by
 unfold XI;rw[h,Xi tr hj];have:=Pd l (cQ l k).th (show k+1<=j from hk);rw[DP,h] at this;omega
theorem XI.trans {w:WT} {l:List ET} (tr:TR (w,l)) {i j k:Nat} (hi:i<=j) (hj:j<=k) (hk:k<l.length) (h:XI w l i j) (g:XI w l j k):XI w l i k:=XI.of tr (by omega) ((h.le tr hi (by omega)).trans (g.le tr hj hk))
def xA (w:WT) (l:List ET) (cl:Nat->List Int):Nat->HS
 |0=>HS.zero w
 |i+1=>ik w (xA w l cl i) (cQ l i) (cl i)
abbrev TB (w:WT) (l:List ET) (cl:Nat->List Int) (i:Nat):List Int:=vS w (xA w l cl i) (cQ l i)
def CL (w:WT) (l:List ET) (cl:Nat->List Int):Prop:=∀ i,i<l.length->cl i=TB w l cl i\/∃ s,s<i/\cl i=jl (TB w l cl i) (cl s)
theorem CL.le {w:WT} {l:List ET} {cl:Nat->List Int} (C:CL w l cl) {i:Nat} (h:i<l.length):LE (TB w l cl i) (cl i):=by
 rcases C i h with e|⟨s,_,e⟩
 .rw[e];exact LE.refl _
 .rw[e];exact Zh _ _
theorem HV {w:WT} {l:List ET} {cl:Nat->List Int} (tr:TR (w,l)) (C:CL w l cl):∀ i:Nat,i<=l.length->PN (i:Int) (xA w l cl i)/\XH w (xA w l cl i)/\∀ k,k<i->En (i:Int) (cl k)
 |0,_=>by
  have wb:=tr.wb;dsimp only at wb;exact⟨HS.zero_ok (by have:=wb.c;omega) (by have:=wb.l;omega) (by have:=wb.f;omega) (by have:=wb.t;omega),XH.zero w,λk hk=>by omega⟩
 |i+1,h=>by
  obtain⟨o,I,en⟩:=HV tr C i (by omega);have hl:=tr.len;dsimp only at hl;have ok:=OW (tr.ev _ (B7 (l:=l) (i:=i) (by omega))) tr.wb I;have h1:En ((i:Int)+1) (TB w l cl i):=Kw o ok.th4;have h2:En ((i:Int)+1) (cl i):=by
   rcases C i (by omega) with e|⟨s,hs,e⟩
   .rw[e];exact h1
   .rw[e];exact h1.jl ((en s hs).mono (by omega))
  refine ⟨W9 o (by omega) h2,I.ent _ _,λk hk=>?_⟩;by_cases e:k=i
  .subst e;exact h2
  .exact (en k (by omega)).mono (by omega)
section
variable {w:WT} {l:List ET} {cl:Nat->List Int} (tr:TR (w,l)) (C:CL w l cl) {i:Nat} (h:i<l.length)
include tr C h
theorem Ov:PN (i:Int) (xA w l cl i):=(HV tr C i (by omega)).1
theorem Us:XH w (xA w l cl i):=(HV tr C i (by omega)).2.1
theorem E9:EOK w (xA w l cl i) (cQ l i):=OW (tr.ev _ (B7 h)) tr.wb (Us tr C h)
theorem Vv:En ((i:Int)+1) (cl i):=(HV tr C (i+1) h).2.2 i (by omega)
theorem air:En ((i:Int)+1) (TB w l cl i):=Kw (Ov tr C h) (E9 tr C h).th4
end
def Cn (l:List ET) (i:Nat) (x:List Int):Prop:=∀ u,x.getD u 0<=(tB l u i:Int)
theorem Cn.jl {l:List ET} {i:Nat} (a b:List Int) (I:Cn l i a) (hb:Cn l i b):Cn l i (jl a b):=λu=>by rw[uq,oM];have:=I u;have:=hb u;omega
theorem Cn.mono {l:List ET} {i j:Nat} {x:List Int} (h:Cn l i x) (g:i<=j):Cn l j x:=λu=>by have:=h u;have:=Pd l u g;omega
def Fv (w:vE) (e:EV):Int×Bool:=if e.k=6\/e.k=10 then ((e.ob:Int),aj) else if e.k=8 then ((e.ob:Int),ai) else if e.k=17 then ((Tz w.2.2.1 e.ob:Nat),aj) else (-1,aj)
def CE (w:vE) (e:EV):Int×Bool:=if e.k=7\/e.k=11 then ((e.ob:Int),aj) else if e.k=9 then ((e.ob:Int),ai) else if e.k=16 then ((Tz w.2.2.1 e.ob:Nat),aj) else (-1,aj)
theorem Oi (a b:List Int):jl a b=jl b a:=wF (by simp only[pP];omega) λi=>by simp only[uq,oM];omega
def JC (c:Nat->List Int) (p:Nat->Bool):Nat->List Int
 |0=>[]
 |i+1=>if p i=ai then jl (JC c p i) (c i) else JC c p i
theorem V8 (c:Nat->List Int) (p:Nat->Bool):∀ i,(∀ k,k<i->p k=aj)->JC c p i=[]
 |0,_=>rfl
 |i+1,h=>by rw[JC,h i (by omega),aA (by simp)];exact V8 c p i λk hk=>h k (by omega)
theorem PK {c:Nat->List Int} {p:Nat->Bool} {i:Nat} (h:p i=ai):JC c p (i+1)=jl (JC c p i) (c i):=by rw[JC,aE h]
theorem FA {c:Nat->List Int} {p:Nat->Bool} {i:Nat} (h:p i=aj):JC c p (i+1)=JC c p i:=by rw[JC,aA (by rw[h];simp)]
theorem alz (w:vE) (h:HS) (e:EV) (c:List Int):(ik w h e c).S=if e.k=20 then h.S.set e.ob c else h.S:=by
 unfold ik;simp only[];repeat' split
 all_goals first|rfl|omega
theorem am2 (w:vE) (h:HS) (e:EV) (c:List Int):(ik w h e c).L=if (e.k=7\/e.k=11) then jat h.L e.ob c else if e.k=16 then jat h.L (Tz w.2.2.1 e.ob) c else h.L:=by
 unfold ik;simp only[];repeat' split
 all_goals first|rfl|omega
theorem am0 (w:vE) (h:HS) (e:EV) (c:List Int):(ik w h e c).R=if e.k=9 then jat h.R e.ob c else h.R:=by
 unfold ik;simp only[];repeat' split
 all_goals first|rfl|omega
theorem am4 (w:vE) (h:HS) (e:EV) (c:List Int):(ik w h e c).C=if e.k=4/\wa w.1 e.ob=ai then jat h.C e.ob c else h.C:=by
 unfold ik;simp only[];repeat' split
 all_goals first|rfl|omega|(rename_i h1 h2;exact cV ⟨by assumption,by assumption⟩ h2)|(rename_i h1 h2;exact cV h2.2 h1)|(rename_i h1;exact cV h1.1 (by assumption))
theorem am3 (w:vE) (h:HS) (e:EV) (c:List Int):(ik w h e c).F=if e.k=22 then jat h.F e.ob c else h.F:=by
 unfold ik;simp only[];repeat' split
 all_goals first|rfl|omega
theorem alx (w:vE) (h:HS) (e:EV) (c:List Int):(ik w h e c).X=if e.k=13 then jl h.X c else h.X:=by
 unfold ik;simp only[];repeat' split
 all_goals first|rfl|omega
theorem C1 (l:List (List Int)) (i:Nat) (c:List Int) (o:Nat) (h:i<l.length):(jat l i c).getD o []=if i=o then jl (l.getD o []) c else l.getD o []:=by
 unfold jat;rw[oN];by_cases e:i=o
 .subst e;rw[aE ⟨rfl,h⟩,aE rfl]
 .rw[aA λq=>e q.1,aA e]
abbrev pT (l:List ET) (u k:Nat):Bool:=decide ((cQ l k).th=u)
abbrev pS (l:List ET) (u k:Nat):Bool:=decide ((cQ l k).k=20/\(cQ l k).ob=u)
abbrev pL (w:WT) (l:List ET) (x:Int×Bool) (k:Nat):Bool:=decide (CE w (cQ l k)=x)
abbrev pC (w:WT) (l:List ET) (o k:Nat):Bool:=decide ((cQ l k).k=4/\(cQ l k).ob=o/\wa w.1 o=ai)
abbrev pF (l:List ET) (o k:Nat):Bool:=decide ((cQ l k).k=22/\(cQ l k).ob=o)
abbrev pX (l:List ET) (k:Nat):Bool:=decide ((cQ l k).k=13)
structure IN (w:WT) (l:List ET) (cl:Nat->List Int) (i:Nat) (h:HS):Prop where
 T:∀ u,h.T.getD u []=JC cl (pT l u) i
 S:∀ u,h.S.getD u []=JC cl (pS l u) i
 L:∀ o:Nat,h.L.getD o []=JC cl (pL w l ((o:Int),aj)) i
 R:∀ o:Nat,h.R.getD o []=JC cl (pL w l ((o:Int),ai)) i
 C:∀ o,h.C.getD o []=JC cl (pC w l o) i
 F:∀ o,h.F.getD o []=JC cl (pF l o) i
 X:h.X=JC cl (pX l) i
theorem Z1 {w:vE} {e:EV} (h:e.k=7\/e.k=11):CE w e=((e.ob:Int),aj):=by unfold CE;rw[aE h]
theorem T6 {w:vE} {e:EV} (h:e.k=9):CE w e=((e.ob:Int),ai):=by unfold CE;rw[aA (by omega),aE h]
theorem Wp {w:vE} {e:EV} (h:e.k=16):CE w e=((Tz w.2.2.1 e.ob:Int),aj):=by unfold CE;rw[aA (by omega),aA (by omega),aE h]
theorem ai5 {w:vE} {e:EV} (h:¬(e.k=7\/e.k=11)) (h1:¬e.k=9) (h2:¬e.k=16):CE w e=(-1,aj):=by unfold CE;rw[aA h,aA h1,aA h2]
theorem IN.zero (w:WT) (l:List ET) (cl:Nat->List Int):IN w l cl 0 (HS.zero w):=
 have r:∀ n:Nat,∀ u,(aG n ([]:List Int)).getD u []=[]:=λn=>od.repl (P:=λx=>x=[]) rfl n
 ⟨r _,r _,λ_=>r _ _,λ_=>r _ _,r _,r _,rfl⟩
theorem IN.step {w:WT} {l:List ET} {cl:Nat->List Int} {i:Nat} {h:HS} (a:IN w l cl i h) (n:Int) (o:PN n h) (hcT:LE (h.T.getD (cQ l i).th []) (cl i)) (hc:En (n+1) (cl i)) (ok:EOK w h (cQ l i)) (J:(cQ l i).k=20->∀ k,k<i->pS l (cQ l i).ob k=aj):IN w l cl (i+1) (ik w h (cQ l i) (cl i)):=by
 refine ⟨λu=>?_,λu=>?_,λx=>?_,λx=>?_,λx=>?_,λx=>?_,?_⟩
 .rw[abd,oN];by_cases e:(cQ l i).th=u
  .rw[aE ⟨e,ok.th⟩,PK (by simpa using e),<-a.T u,LE.jl (by rw[<- e];exact hcT)]
  .rw[aA λq=>e q.1,FA (by simpa using e)];exact a.T u
 .rw[alz];by_cases k:(cQ l i).k=20
  .rw[aE k,oN];by_cases e:(cQ l i).ob=u
   .rw[aE ⟨e,by rw[o.lS];exact ok.sp (.inl k)⟩,PK (by simp[k,e]),V8 _ _ i (by rw[<- e];exact J k),ai9 hc]
   .rw[aA λq=>e q.1,FA (by simp[e])];exact a.S u
  .rw[aA k,FA (by simp[k])];exact a.S u
 .rw[am2];by_cases k:(cQ l i).k=7\/(cQ l i).k=11
  .rw[aE k,C1 _ _ _ _ (ok.lk (by omega))];by_cases e:(cQ l i).ob=x
   .rw[aE e,PK (by simp[Z1 k,e]),<-a.L x]
   .rw[aA e,FA (by simp[Z1 k];omega)];exact a.L x
  rw[aA k];by_cases k2:(cQ l i).k=16
  .rw[aE k2,C1 _ _ _ _ (ok.cd (.inl k2)).2.2];by_cases e:Tz w.2.2.1 (cQ l i).ob=x
   .rw[aE e,PK (by simp[Wp k2,e]),<-a.L x]
   .rw[aA e,FA (by simp[Wp k2];omega)];exact a.L x
  rw[aA k2,FA]
  .exact a.L x
  .by_cases I:(cQ l i).k=9
   .simp[T6 I]
   .simp[ai5 k I k2]
 .rw[am0];by_cases k:(cQ l i).k=9
  .rw[aE k,C1 _ _ _ _ (by rw[o.lR];exact ok.lk (by omega))];by_cases e:(cQ l i).ob=x
   .rw[aE e,PK (by simp[T6 k,e]),<-a.R x]
   .rw[aA e,FA (by simp[T6 k];omega)];exact a.R x
  rw[aA k,FA]
  .exact a.R x
  .unfold pL CE;repeat' split
   all_goals first|omega|simp
 .rw[am4];by_cases k:(cQ l i).k=4/\wa w.1 (cQ l i).ob=ai
  .rw[aE k,C1 _ _ _ _ (ok.ce (.inr k.1)).1];by_cases e:(cQ l i).ob=x
   .rw[aE e,PK (by simp[k.1,e];rw[<- e];exact k.2),<-a.C x]
   .rw[aA e,FA (by simp[e])];exact a.C x
  .rw[aA k,FA]
   .exact a.C x
   .refine bz λq=>k ⟨q.1,by rw[q.2.1];exact q.2.2⟩
 .rw[am3];by_cases k:(cQ l i).k=22
  .rw[aE k,C1 _ _ _ _ (ok.fu (.inl k))];by_cases e:(cQ l i).ob=x
   .rw[aE e,PK (by simp[k,e]),<-a.F x]
   .rw[aA e,FA (by simp[e])];exact a.F x
  .rw[aA k,FA (by simp[k])];exact a.F x
 .rw[alx];by_cases k:(cQ l i).k=13
  .rw[aE k,PK (by simp[k]),<-a.X]
  .rw[aA k,FA (by simp[k])];exact a.X
abbrev gT (th:List (Int×Int×Bool)) (u:Int):Int×Int×Bool:=aJ (T:=jE) th u
theorem E3 {T:Ty} (xs:List T.den) (j k:Int) (x:T.den) (hj:0<=j) (hk:0<=k) (h2:k<xs.length):aJ (cq xs j x) k=if k=j then x else aJ xs k:=by
 by_cases h:j<xs.length
 .exact rG xs j k x hj h hk
 .rw[aA (by omega)];unfold aJ cq;rw[ax,ax,oW,aA (by omega)]
theorem xl {th:List (Int×Int×Bool)} {t u:Int} (s:Int) (t0:0<=t) (J:0<=u) (I:u<th.length):gT (ya th t s) u=if u=t then (s,(gT th u).2) else gT th u:=by
 unfold ya gT;rw[E3 _ _ _ _ t0 J I];split
 .rename_i h;subst h;rfl
 .rfl
theorem Xl {th:List (Int×Int×Bool)} {t u:Int} (s:Int) (t0:0<=t) (J:0<=u) (I:u<th.length):gT (cdP th t s) u=if u=t then ((gT th u).1,s,(gT th u).2.2) else gT th u:=by
 unfold cdP gT;rw[E3 _ _ _ _ t0 J I];split
 .rename_i h;subst h;rfl
 .rfl
theorem Xr {th:List (Int×Int×Bool)} {t u:Int} (s:Bool) (t0:0<=t) (J:0<=u) (I:u<th.length):gT (atP th t s) u=if u=t then ((gT th u).1,(gT th u).2.1,s) else gT th u:=by
 unfold atP gT;rw[E3 _ _ _ _ t0 J I];split
 .rename_i h;subst h;rfl
 .rfl
theorem alj {u:Int} (I:0<=u):∀ (l:List Int) (th:List (Int×Int×Bool)),(∀ x∈l,0<=x)->u<th.length->gT (CO th l) u=if u∈l then (4,(gT th u).2) else gT th u
 |[],th,_,_=>by simp[CO]
 |x::r,th,h,h2=>by
  have e:CO th (x::r)=CO (ya th x 4) r:=rfl;rw[e,alj I r _ (λy J=>h y (cO _ J)) (by unfold ya;rw[bT];exact h2),xl 4 (h x (dC ..)) I h2];by_cases a:u=x
  .subst a;simp
  .simp[a]
structure TH1 (k o v t u:Int) (g g':Int×Int×Bool):Prop where
 a:u=t->g.1≠0/\g.1≠3/\(k=16->g'.1=3/\g'.2.1=o)/\(k≠16->g'.1≠0/\g'.1≠3/\g'.1≠4)/\(k≠1->k≠17->g.1=2)
 b:u≠t->k=18->v=u->g.1=3/\g.2.1=o/\g'.1=4/\g'.2.1=o
 c:u≠t->k=19->g.1=3->g.2.1=o->g'.1=4/\g'.2.1=o
 d:u≠t->¬(k=18/\v=u)->¬(k=19/\g.1=3/\g.2.1=o)->g'.2.1=g.2.1/\(g'.1=g.1\/k=20/\o=u/\g.1=0/\g'.1=1)
 e:k=20->o=u->g'.1≠0
theorem TH1.same {k o v t u:Int} {g g':Int×Int×Bool} (h2:k≠1->k≠17->u=t->g.1=2) (e1:g'.1=g.1) (e2:g'.2.1=g.2.1) (n1:k≠1) (Y:k≠17) (n3:k≠16) (J:k≠20) (U:k=18->v=u->u=t) (M:k=19->g.1=3->g.2.1=o->u=t):TH1 k o v t u g g':=
 ⟨λh=>(by have:=h2 n1 Y h;rw[e1];omega),λh h1 I=>(h (U h1 I)).elim,λh h1 I Z=>(h (M h1 I Z)).elim,λ_ _ _=>⟨e2,.inl e1⟩,λh=>(J h).elim⟩
theorem aiw (w:WT) (s:SY) (t k o v:Int) (en:EN w s t k o) (rd:V4 w s t k o) (va:k=18->v=(qX w s t k o v).2) (u:Int) (J:0<=u) (I:u<s.2.2.2.length):TH1 k o v t u (gT s.2.2.2 u) (gT (qX w s t k o v).1.2.2.2 u):=by
 have t0:=en.t0;have r2:k≠1->k≠17->u=t->(gT s.2.2.2 u).1=2:=λh1 h2 Y=>by subst Y;exact rd.r h1 h2
 have nm:=en.nm;have k1:=nm.k1;have k2:=nm.k2;obtain⟨s1,s2,M,th⟩:=s;dsimp only at I r2;change TH1 k o v t u (gT th u) (gT (qX w (s1,s2,M,th) t k o v).1.2.2.2 u);by_cases a1:k=1
 .subst a1;have e:gT (qX w (s1,s2,M,th) t 1 o v).1.2.2.2 u=if u=t then (2,(gT th u).2) else gT th u:=xl 2 t0 J I
  rw[e];refine ⟨λh=>?_,λ_ h=>by omega,λ_ h=>by omega,λh _ _=>by rw[aA h];exact⟨rfl,.inl rfl⟩,λh=>by omega⟩;have b:=rd.b rfl;rw[aE h];subst h;have b:(gT th u).1=1:=b;dsimp only;omega
 by_cases a2:k=2
 .subst a2;have e:gT (qX w (s1,s2,M,th) t 2 o v).1.2.2.2 u=if u=t then (5,(gT th u).2) else gT th u:=xl 5 t0 J I
  rw[e];refine ⟨λh=>?_,λ_ h=>by omega,λ_ h=>by omega,λh _ _=>by rw[aA h];exact⟨rfl,.inl rfl⟩,λh=>by omega⟩;have:=r2 (by omega) (by omega) h;rw[aE h];dsimp only;omega
 by_cases a14:k=14\/k=15
 .have e:∃ b,gT (qX w (s1,s2,M,th) t k o v).1.2.2.2 u=if u=t then ((gT th u).1,(gT th u).2.1,b) else gT th u:=by
   rcases a14 with rfl|rfl
   .exact⟨ai,Xr ai t0 J I⟩
   .exact⟨aj,Xr aj t0 J I⟩
  obtain⟨b,e⟩:=e;rw[e];refine TH1.same r2 (by split<;>rfl) (by split<;>rfl) a1 (by omega) (by omega) (by omega) (λh=>by omega) λh=>by omega
 by_cases a16:k=16
 .subst a16;have e:gT (qX w (s1,s2,M,th) t 16 o v).1.2.2.2 u=if u=t then (3,o,(gT th u).2.2) else gT th u:=by
   have:gT (cdP (ya th t 3) t o) u=_:=Xl o t0 J (by unfold ya;rw[bT];exact I);refine Eq.trans this ?_;rw[xl 3 t0 J I];split<;>rfl
  rw[e];refine ⟨λh=>?_,λ_ h=>by omega,λ_ h=>by omega,λh _ _=>by rw[aA h];exact⟨rfl,.inl rfl⟩,λh=>by omega⟩;have:=r2 (by omega) (by omega) h;rw[aE h];exact⟨by omega,by omega,λ_=>⟨rfl,rfl⟩,λh=>(h rfl).elim,λ_ _=>this⟩
 by_cases a17:k=17
 .subst a17;have e:gT (qX w (s1,s2,M,th) t 17 o v).1.2.2.2 u=if u=t then (2,0,(gT th u).2.2) else gT th u:=by
   have:gT (cdP (ya th t 2) t 0) u=_:=Xl 0 t0 J (by unfold ya;rw[bT];exact I);refine Eq.trans this ?_;rw[xl 2 t0 J I];split<;>rfl
  rw[e];refine ⟨λh=>?_,λ_ h=>by omega,λ_ h=>by omega,λh _ _=>by rw[aA h];exact⟨rfl,.inl rfl⟩,λh=>by omega⟩;have b:=(rd.wk rfl).1;rw[aE h];subst h;have b:(gT th u).1=4:=b;dsimp only;omega
 by_cases a18:k=18
 .subst a18;have va:=va rfl;rw[Ft] at va ⊢;dsimp only at va ⊢;by_cases hl:(wl th o th.length).length=0
  .rw[aE hl] at va ⊢;dsimp only at va ⊢;exact TH1.same r2 rfl rfl a1 (by omega) (by omega) (by omega) (λ_ h=>by omega) λh=>by omega
  .rw[aA hl] at va ⊢;dsimp only at va ⊢;have hv:v∈wl th o th.length:=by
    unfold Bq at va;rw[aA hl] at va;split at va
    .rename_i h;simpa using h
    .rw[va];exact bH (T:=.int .i64) (by omega) (by omega)
   rw[<- va];obtain⟨v0,v1,U⟩:=q_.1 hv;unfold H_ at U;simp only[av,bt] at U;rw[xl 4 v0 J I];refine ⟨λh=>?_,λh _ h2=>?_,λ_ h=>by omega,λh h2 _=>?_,λh=>by omega⟩
   .have:=r2 (by omega) (by omega) h;rw[aA (λq=>by rw[q] at this;exact cV (this.symm.trans U.1) (by decide))];omega
   .subst h2;rw[aE rfl];exact⟨U.1,U.2,rfl,U.2⟩
   .rw[aA λq=>h2 ⟨rfl,q.symm⟩];exact⟨rfl,.inl rfl⟩
 by_cases a19:k=19
 .subst a19;have e:gT (qX w (s1,s2,M,th) t 19 o v).1.2.2.2 u=if u∈wl th o th.length then (4,(gT th u).2) else gT th u:=alj J _ th (λx hx=>(q_.1 hx).1) I
  rw[e];have hm:u∈wl th o th.length↔(gT th u).1=3/\(gT th u).2.1=o:=by
   rw[q_];unfold H_;simp only[av,bt];exact⟨λh=>h.2.2,λh=>⟨J,I,h⟩⟩
  refine ⟨λh=>?_,λ_ h=>by omega,λh _ Y h4=>?_,λh _ Y=>?_,λh=>by omega⟩
  .have:=r2 (by omega) (by omega) h;rw[aA (λq=>by have:=(hm.1 q).1;omega)];omega
  .rw[aE (hm.2 ⟨Y,h4⟩)];exact⟨rfl,h4⟩
  .rw[aA λq=>Y ⟨rfl,hm.1 q⟩];exact⟨rfl,.inl rfl⟩
 by_cases Z:k=20
 .subst Z;have sp:=rd.sp rfl;have o0:=(nm.th (.inl rfl)).1;have e:gT (qX w (s1,s2,M,th) t 20 o v).1.2.2.2 u=if u=o then (1,(gT th u).2) else gT th u:=xl 1 o0 J I
  rw[e];refine ⟨λh=>?_,λ_ h=>by omega,λ_ h=>by omega,λh _ _=>?_,λ_ h=>?_⟩
  .have:=r2 (by omega) (by omega) h;rw[aA (λq=>sp.1 (by omega))];omega
  .by_cases q:u=o
   .subst q;rw[aE rfl];exact⟨rfl,.inr ⟨rfl,rfl,sp.2,rfl⟩⟩
   .rw[aA q];exact⟨rfl,.inl rfl⟩
  .rw[aE h.symm];show (1:Int)≠0;omega
 have e:(qX w (s1,s2,M,th) t k o v).1.2.2.2=th:=by
  unfold qX;rw[aA a1,aA a2];repeat' split
  all_goals first|rfl|omega
 rw[e];exact TH1.same r2 rfl rfl a1 a17 a16 Z (λh=>(a18 h).elim) λh=>(a19 h).elim
def T7 (l:List ET) (u:Nat):Nat->Int
 |0=> -1
 |i+1=>if (cQ l i).th=u then (i:Int) else T7 l u i
def mtN (l:List ET) (u i:Nat) (p:Int):Prop:=0<=p/\(cQ l p.toNat).k=16/\((cQ l i).k=18/\(cQ l i).va=u\/(cQ l i).k=19/\(cQ l i).ob=(cQ l p.toNat).ob)
def NF (l:List ET) (u:Nat):Nat->Int
 |0=> -1
 |i+1=>if (cQ l i).th=u then -1 else if 0<=NF l u i then NF l u i else @ite _ (mtN l u i (T7 l u i)) (yK _) (i:Int) (-1)
theorem adg {l:List ET} {u i:Nat} (h:(cQ l i).th=u):NF l u (i+1)= -1:=by rw[NF,aE h]
theorem adh {l:List ET} {u i:Nat} (h:¬(cQ l i).th=u) (g:0<=NF l u i):NF l u (i+1)=NF l u i:=by rw[NF,aA h,aE g]
theorem adk {l:List ET} {u i:Nat} (h:¬(cQ l i).th=u) (g:NF l u i= -1) (m:mtN l u i (T7 l u i)):NF l u (i+1)=i:=by rw[NF,aA h,aA (by omega),aE m]
theorem adi {l:List ET} {u i:Nat} (h:¬(cQ l i).th=u) (g:NF l u i= -1) (m:¬mtN l u i (T7 l u i)):NF l u (i+1)= -1:=by rw[NF,aA h,aA (by omega),aA m]
theorem F4 {α:Type} (l:List α) (f:Nat->α->α) (u:Nat) (d:α) (h:u<l.length):(l.mapIdx f).getD u d=f u (l.getD u d):=by
 rw[ax,D',aB h,ax,aB h];rfl
theorem aly (w:vE) (h:HS) (e:EV) (c:List Int) (u:Nat) (hu:u<h.W.length) (U:h.N.length=h.W.length):(ik w h e c).W.getD u 0=if e.k=16/\e.th=u then (e.ob:Int) else if e.k=18/\e.va=u\/e.k=19/\h.W.getD u 0=e.ob then -1 else h.W.getD u 0:=by
 obtain⟨th,k,ob,va⟩:=e;dsimp only;by_cases I:k=16
 .subst I;have e:(ik w h ⟨th,16,ob,va⟩ c).W=h.W.set th ob:=rfl;rw[e,oN];by_cases q:th=u
  .rw[aE ⟨q,by omega⟩,aE ⟨rfl,q⟩]
  .rw[aA λx=>q x.1,aA λx=>q x.2,aA (by omega)]
 rw[aA λx=>I x.1];by_cases M:k=18
 .subst M;have e:ik w h ⟨th,18,ob,va⟩ c=if 0<=va/\va<h.N.length then {h with T:=h.T.set th c,N:=h.N.set va.toNat c,W:=h.W.set va.toNat (-1)} else {h with T:=h.T.set th c}:=rfl
  rw[e];split
  .show (h.W.set va.toNat (-1)).getD u 0=_;rw[oN];by_cases q:va=u
   .rw[aE ⟨by omega,by omega⟩,aE (.inl ⟨rfl,q⟩)]
   .rw[aA (by omega),aA (by omega)]
  .rw[aA (by omega)]
 by_cases J:k=19
 .subst J;have e:(ik w h ⟨th,19,ob,va⟩ c).W=h.W.mapIdx λu x=>if decide (h.W.getD u 0=(ob:Int))=ai then -1 else x:=rfl
  rw[e,F4 _ _ _ _ hu];by_cases q:h.W.getD u 0=ob
  .rw[aE (aO q),aE (.inr ⟨rfl,q⟩)]
  .rw[aA (by simpa using q),aA (by omega)]
 rw[aA (by omega)];have e:(ik w h ⟨th,k,ob,va⟩ c).W=h.W:=by
  unfold ik;simp only[];repeat' split
  all_goals first|rfl|omega
 rw[e]
theorem am1 (w:vE) (h:HS) (e:EV) (c:List Int) (u:Nat) (hu:u<h.N.length):(ik w h e c).N.getD u []=if e.k=18/\e.va=u\/e.k=19/\h.W.getD u 0=e.ob then c else h.N.getD u []:=by
 obtain⟨th,k,ob,va⟩:=e;dsimp only;by_cases J:k=18
 .subst J;have e:ik w h ⟨th,18,ob,va⟩ c=if 0<=va/\va<h.N.length then {h with T:=h.T.set th c,N:=h.N.set va.toNat c,W:=h.W.set va.toNat (-1)} else {h with T:=h.T.set th c}:=rfl
  rw[e];split
  .show (h.N.set va.toNat c).getD u []=_;rw[oN];by_cases q:va=u
   .rw[aE ⟨by omega,by omega⟩,aE (.inl ⟨rfl,q⟩)]
   .rw[aA (by omega),aA (by omega)]
  .rw[aA (by omega)]
 by_cases I:k=19
 .subst I;have e:(ik w h ⟨th,19,ob,va⟩ c).N=h.N.mapIdx λu x=>if decide (h.W.getD u 0=(ob:Int))=ai then c else x:=rfl
  rw[e,F4 _ _ _ _ hu];by_cases q:h.W.getD u 0=ob
  .rw[aE (aO q),aE (.inr ⟨rfl,q⟩)]
  .rw[aA (by simpa using q),aA (by omega)]
 rw[aA (by omega)];have e:(ik w h ⟨th,k,ob,va⟩ c).N=h.N:=by
  unfold ik;simp only[];repeat' split
  all_goals first|rfl|omega
 rw[e]
abbrev ZA (w:WT) (l:List ET) (i u:Nat):Int×Int×Bool:=gT (No w (l.take i)).1.2.2.2 (u:Int)
structure WI (w:WT) (l:List ET) (cl:Nat->List Int) (i:Nat) (h:HS) (u:Nat) (g:Int×Int×Bool):Prop where
 W:h.W.getD u 0=if g.1=3 then g.2.1 else -1
 p:g.1=3\/g.1=4->0<=T7 l u i/\(cQ l (T7 l u i).toNat).k=16/\((cQ l (T7 l u i).toNat).ob:Int)=g.2.1
 a:g.1=3->NF l u i= -1
 n:g.1=4->0<=NF l u i/\h.N.getD u []=cl (NF l u i).toNat
 s:g.1=0->∀ k,k<i->pS l u k=aj
theorem ai2:∀ n,∀ x∈XM n,x.1=0\/x.1=1
 |0,x,h=>by cases h
 |n+1,x,h=>by
  rcases bl.1 h with rfl|h
  .exact .inr rfl
  .rw[pB h];exact .inl rfl
theorem WI.zero (w:WT) (l:List ET) (cl:Nat->List Int) (u:Nat) (hu:u<w.2.2.2.2.1.length):WI w l cl 0 (HS.zero w) u (ZA w l 0 u):=by
 have h1:(ZA w l 0 u).1=0\/(ZA w l 0 u).1=1:=ai2 _ _ (bH (T:=jE) (xs:=XM w.2.2.2.2.1.length) (j:=(u:Int)) (by omega) (by rw[HK];omega));have hW:(HS.zero w).W.getD u 0= -1:=by
  have:(aG w.2.2.2.2.1.length (-1:Int)).getD u 0= -1:=by rw[ax,lw,aE hu];rfl
  exact this
 exact⟨by rw[hW,aA (by omega)],λh=>by omega,λh=>by omega,λh=>by omega,λ_ k hk=>by omega⟩
theorem WI.step {w:WT} {l:List ET} {cl:Nat->List Int} {i:Nat} {h:HS} {u:Nat} (a:WI w l cl i h u (ZA w l i u)) (hi:i<l.length) (sc:SCx w (l.take i) (No w (l.take i)).1 (No w (l.take i)).2.1 (No w (l.take i)).2.2 (eN l i)) (et:EvT (cQ l i) (eN l i)) (hu:u<w.2.2.2.2.1.length) (h1:h.W.length=w.2.2.2.2.1.length) (h2:h.N.length=w.2.2.2.2.1.length):WI w l cl (i+1) (ik w h (cQ l i) (cl i)) u (ZA w l (i+1) u):=by
 have en:=sc.en;have eg:ZA w l (i+1) u=gT (qX w (No w (l.take i)).1 (eN l i).1 (eN l i).2.1 (eN l i).2.2.1 (eN l i).2.2.2.1).1.2.2.2 (u:Int):=by unfold ZA;rw[SS w hi]
 have T1:TH1 (eN l i).2.1 (eN l i).2.2.1 (eN l i).2.2.2.1 (eN l i).1 (u:Int) (ZA w l i u) (ZA w l (i+1) u):=by
  rw[eg];exact aiw w (No w (l.take i)).1 (eN l i).1 (eN l i).2.1 (eN l i).2.2.1 (eN l i).2.2.2.1 en sc.rd (λh=>sc.va.el (by omega) (by omega) (by omega) (by omega) (by omega)) (u:Int) (by omega) (by rw[en.e3];omega)
 clear eg;have eW:=aly w h (cQ l i) (cl i) u (by omega) (by omega);have eN9:=am1 w h (cQ l i) (cl i) u (by omega);have qt:=et.th;have Z:=et.k;have qv:=et.va;have Y:(cQ l i).k=16\/(cQ l i).k=19\/(cQ l i).k=20->(eN l i).2.2.1=((cQ l i).ob:Int):=λh=>et.ob (by rcases h with h|h|h<;>rw[h]<;>decide)
 have pv':T7 l u (i+1)=if (cQ l i).th=u then (i:Int) else T7 l u i:=rfl
 have ps:pS l u i=decide ((cQ l i).k=20/\(cQ l i).ob=u):=rfl;clear en sc;obtain⟨aW,ap,aa,an,as'⟩:=a;obtain⟨ta,tb,tc,td,te⟩:=T1;generalize ZA w l (i+1) u=g' at*
 generalize ZA w l i u=g at*
 by_cases I:(cQ l i).th=u
 .obtain⟨b1,b2,b3,b4,_⟩:=ta (by rw[qt,I]);have w0:NF l u (i+1)= -1:=adg I;have hW':h.W.getD u 0= -1:=by rw[aW,aA b2]
  by_cases J:(cQ l i).k=16
  .obtain⟨c1,c2⟩:=b3 (by rw[Z,J];rfl);refine ⟨by rw[eW,aE ⟨J,I⟩,aE c1,c2,Y (.inl J)],λ_=>?_,λ_=>w0,λh=>by omega,λh=>by omega⟩;rw[pv',aE I,dx];exact⟨by omega,J,by rw[c2,Y (.inl J)]⟩
  .obtain⟨c1,c2,c3⟩:=b4 (by rw[Z];omega);refine ⟨?_,λh=>by omega,λh=>by omega,λh=>by omega,λh=>by omega⟩;rw[eW,aA (λx=>J x.1),aA c2,hW'];split<;>rfl
 have hut:(u:Int)≠(eN l i).1:=by rw[qt];omega
 rw[aA I] at pv';rw[aA (λx=>I x.2)] at eW;by_cases A:(cQ l i).k=18/\(cQ l i).va=u\/(cQ l i).k=19/\h.W.getD u 0=(cQ l i).ob
 .have B:g.1=3/\g'.1=4/\g'.2.1=g.2.1/\((cQ l i).k=19->g.2.1=(cQ l i).ob):=by
   rcases A with ⟨k,v⟩|⟨k,v⟩
   .obtain⟨U,M,d3,d4⟩:=tb hut (by rw[Z,k];rfl) (by rw[qv,v]);exact⟨U,d3,by rw[M,d4],λq=>by omega⟩
   .have g3:g.1=3:=by
     rw[aW] at v;split at v
     .assumption
     .omega
    rw[aW,aE g3] at v;obtain⟨U,M⟩:=tc hut (by rw[Z,k];rfl) g3 (by rw[v,Y (.inr (.inl k))]);exact⟨g3,U,by rw[M,v,Y (.inr (.inl k))],λ_=>v⟩
  obtain⟨U,M,d3,d4⟩:=B;obtain⟨p1,p2,p3⟩:=ap (.inl U);have hw:=adk I (aa U) ⟨p1,p2,by
   rcases A with A|⟨k,_⟩
   .exact .inl A
   .exact .inr ⟨k,by have:=d4 k;omega⟩⟩
  rw[aE A] at eW eN9;refine ⟨by rw[eW,aA (by omega)],λ_=>by rw[pv',d3];exact⟨p1,p2,p3⟩,λh=>by omega,λ_=>by rw[hw,dx];exact⟨by omega,eN9⟩,λh=>by omega⟩
 rw[aA A] at eW eN9;have nv:¬((eN l i).2.1=18/\(eN l i).2.2.2.1=(u:Int)):=λq=>A (.inl ⟨by omega,by rw[<- qv];exact q.2⟩)
 have nw:¬((eN l i).2.1=19/\g.1=3/\g.2.1=(eN l i).2.2.1):=λq=>A (.inr ⟨by omega,by rw[aW,aE q.2.1,q.2.2,Y (.inr (.inl (by omega)))]⟩)
 obtain⟨U,M⟩:=td hut nv nw;have nm:g.1=3->¬mtN l u i (T7 l u i):=λq ⟨_,_,m⟩=>by
  obtain⟨_,_,p3⟩:=ap (.inl q);rcases m with m|⟨k,m⟩
  .exact A (.inl m)
  .exact nw ⟨by omega,q,by rw[Y (.inr (.inl k)),m,p3]⟩
 refine ⟨?_,λq=>?_,λq=>?_,λq=>?_,λq k hk=>?_⟩
 .rw[eW,aW,U];rcases M with M|M
  .rw[M]
  .rw[aA (by omega),aA (by omega)]
 .rw[pv',U];exact ap (by omega)
 .have q:g.1=3:=by omega
  exact adi I (aa q) (nm q)
 .have q:g.1=4:=by omega
  obtain⟨n1,n2⟩:=an q;rw[adh I n1,eN9];exact⟨n1,n2⟩
 .have q0:g.1=0:=by omega
  by_cases e:k=i
  .subst e;rw[ps];exact bz λr=>te (by rw[Z,r.1];rfl) (by rw[Y (.inr (.inr r.1)),r.2]) q
  .exact as' q0 k (by omega)
theorem aat {w:WT} {l:List ET} {cl:Nat->List Int} (tr:TR (w,l)) (C:CL w l cl):∀ i:Nat,i<=l.length->IN w l cl i (xA w l cl i)/\∀ u,u<w.2.2.2.2.1.length->WI w l cl i (xA w l cl i) u (ZA w l i u)
 |0,_=>⟨IN.zero w l cl,λu hu=>WI.zero w l cl u hu⟩
 |i+1,h=>by
  obtain⟨a,b⟩:=aat tr C i (by omega);have hi:i<l.length:=by omega
  have o:=Ov tr C hi;have I:=Us tr C hi;have sc:=tr.sc hi;have et:=uE tr hi;have ok:=E9 tr C hi;refine ⟨a.step _ o ((ah4 w _ _).trans (C.le hi)) (Vv tr C hi) ok λk=>?_,λu hu=>(b u hu).step hi sc et hu (o.lW.trans I.T) (o.lN.trans I.T)⟩;have sp:=(sc.rd.sp (by rw[et.k,k];rfl)).2;rw[et.ob (by rw[k];decide)] at sp;exact (b _ (by rw[<- I.T];exact ok.sp (.inl k))).s sp
theorem amd {w:WT} {l:List ET} {cl:Nat->List Int} (tr:TR (w,l)) (C:CL w l cl) (u:Nat):∀ i:Nat,i<=l.length->(xA w l cl i).T.getD u []=if 0<=T7 l u i then cl (T7 l u i).toNat else []
 |0,_=>od.repl (P:=λx=>x=[]) rfl _ _
 |i+1,h=>by
  have I:=amd tr C u i (by omega);rw[xA,abd,oN,T7];by_cases e:(cQ l i).th=u
  .rw[aE ⟨e,(E9 tr C (by omega)).th⟩,aE e,aE (by omega),dx]
  .rw[aA λq=>e q.1,aA e];exact I
theorem uL {c:Nat->List Int} {p q:Nat->Bool}:∀ i,(∀ k,k<i->p k=q k)->JC c p i=JC c q i
 |0,_=>rfl
 |i+1,h=>by rw[JC,JC,h i (by omega),uL i λk hk=>h k (by omega)]
theorem ahu {c:Nat->List Int} {p q r:Nat->Bool}:∀ i,(∀ k,k<i->(r k=ai↔p k=ai\/q k=ai)/\¬(p k=ai/\q k=ai))->JC c r i=jl (JC c p i) (JC c q i)
 |0,_=>rfl
 |i+1,h=>by
  have I:=ahu (c:=c) i λk hk=>h k (by omega)
  obtain⟨h1,h2⟩:=h i (by omega);rw[JC,JC,JC];by_cases a:p i=ai
  .have b:¬q i=ai:=λb=>h2 ⟨a,b⟩
   rw[aE (h1.2 (.inl a)),aE a,aA b,I,sx,sx,Oi (JC c q i)]
  .by_cases b:q i=ai
   .rw[aE (h1.2 (.inr b)),aA a,aE b,I,sx]
   .rw[aA λq=>(h1.1 q).elim a b,aA a,aA b,I]
def hrP (w:WT) (l:List ET) (j i:Nat):Prop:=((cQ l j).k=1/\(cQ l i).k=20/\(cQ l i).ob=(cQ l j).th)\/((cQ l j).k=21/\(cQ l i).th=(cQ l j).ob)\/((cQ l j).k=3/\wa w.1 (cQ l j).ob=ai/\(cQ l i).k=4/\(cQ l i).ob=(cQ l j).ob)\/((cQ l j).k=23/\(cQ l i).k=22/\(cQ l i).ob=(cQ l j).ob)
def sfP (w:WT) (l:List ET) (j i:Nat):Prop:=(0<=(Fv w (cQ l j)).1/\(CE w (cQ l i)).1=(Fv w (cQ l j)).1/\¬((Fv w (cQ l j)).2=ai/\(CE w (cQ l i)).2=ai))\/((cQ l j).k=12/\(cQ l i).k=13)
def dB (p:Nat->Prop) (k:Nat):Bool:= @decide (p k) (yK _)
theorem aim {p:Nat->Prop} {k:Nat}:dB p k=ai↔p k:=by unfold dB;exact @decide_eq_true_iff (p k) (yK _)
theorem am6 {p:Nat->Prop} {k:Nat}:dB p k=aj↔¬p k:=by unfold dB;exact @decide_eq_false_iff_not (p k) (yK _)
theorem Ni {p:Nat->Prop} {q:Bool} {k:Nat} (h:p k↔q=ai):q=dB p k:=by
 cases q with
 |true=>exact (aim.2 (h.2 rfl)).symm
 |false=>exact (am6.2 λx=>by have:=h.1 x;cases this).symm
def wkC (l:List ET) (cl:Nat->List Int) (j:Nat):List Int:=if (cQ l j).k=17 then cl (NF l (cQ l j).th j).toNat else []
theorem aiq {w:WT} {l:List ET} {cl:Nat->List Int} (tr:TR (w,l)) (C:CL w l cl) {j:Nat} (hj:j<l.length):TB w l cl j=tk (jl (jl (jl (if 0<=T7 l (cQ l j).th j then cl (T7 l (cQ l j).th j).toNat else []) (JC cl (dB (hrP w l j)) j)) (wkC l cl j)) (JC cl (dB (sfP w l j)) j)) (cQ l j).th:=by
 obtain⟨a,b⟩:=aat tr C j (by omega);have o:=Ov tr C hj;have ft:=Us tr C hj;have ok:=E9 tr C hj;have sc:=tr.sc hj;have et:=uE tr hj;rw[<- amd tr C _ j (by omega)];have nH:∀ {p:Nat->Prop},(∀ k,¬p k)->JC cl (dB p) j=[]:=λh=>V8 _ _ _ λk _=>am6.2 (h k)
 have oT:=o.T (cQ l j).th;have z:=En.nil o.n0;have e0:jl (jl ((xA w l cl j).T.getD (cQ l j).th []) []) []=(xA w l cl j).T.getD (cQ l j).th []:=by rw[ov oT,ov oT]
 have sN:¬(cQ l j).k=6->¬(cQ l j).k=10->¬(cQ l j).k=8->¬(cQ l j).k=17->¬(cQ l j).k=12->∀ k,¬sfP w l j k:=λh1 h2 h3 h4 h5 k q=>by
  unfold sfP Fv at q;rw[aA (by omega),aA h3,aA h4] at q;rcases q with ⟨q,_⟩|⟨q,_⟩
  .dsimp only at q;omega
  .exact h5 q
 unfold wkC;show vS w (xA w l cl j) (cQ l j)=_;unfold vS;congr 1;by_cases k1:(cQ l j).k=1
 .rw[aA (by omega),nH (sN (by omega) (by omega) (by omega) (by omega) (by omega))];unfold sg;rw[aE k1,uL (q:=pS l (cQ l j).th) j λk _=>(Ni (by unfold hrP pS;rw[bt];omega)).symm,<-a.S];rw[ov (oT.jl (o.S _)),ov (oT.jl (o.S _))];rfl
 by_cases I:(cQ l j).k=21
 .rw[aA (by omega),nH (sN (by omega) (by omega) (by omega) (by omega) (by omega))];unfold sg;rw[aA k1,aE I,uL (q:=pT l (cQ l j).ob) j λk _=>(Ni (by unfold hrP pT;rw[bt];omega)).symm,<-a.T];rw[ov (oT.jl (o.T _)),ov (oT.jl (o.T _))];rfl
 by_cases k3:(cQ l j).k=3
 .rw[aA (by omega),nH (sN (by omega) (by omega) (by omega) (by omega) (by omega))];unfold sg;rw[aA k1,aA I,aA (by omega),aA (by omega),aA (by omega),aE k3,uL (q:=pC w l (cQ l j).ob) j λk _=>(Ni ?_).symm,<-a.C]
  .rw[ov (oT.jl (o.C _)),ov (oT.jl (o.C _))];rfl
  .unfold hrP pC;rw[bt];constructor
   .rintro (h|h|h|h)
    .omega
    .omega
    .exact⟨h.2.2.1,h.2.2.2,h.2.1⟩
    .omega
   .intro h;exact .inr (.inr (.inl ⟨k3,h.2.2,h.1,h.2.1⟩))
 by_cases Z:(cQ l j).k=23
 .rw[aA (by omega),nH (sN (by omega) (by omega) (by omega) (by omega) (by omega))];unfold sg;rw[aA k1,aA I,aA (by omega),aA (by omega),aA (by omega),aA k3,aE Z,uL (q:=pF l (cQ l j).ob) j λk _=>(Ni (by unfold hrP pF;rw[bt];omega)).symm,<-a.F];rw[ov (oT.jl (o.F _)),ov (oT.jl (o.F _))];rfl
 have hN:∀ k,¬hrP w l j k:=λk q=>by unfold hrP at q;omega
 rw[nH hN,ov oT];by_cases U:(cQ l j).k=12
 .rw[aA (by omega),ov oT];unfold sg;rw[aA k1,aA I,aA (by omega),aA (by omega),aA (by omega),aA k3,aA Z,aE U,uL (q:=pX l) j λk _=>(Ni ?_).symm,<-a.X]
  .rfl
  .unfold sfP pX Fv;rw[bt,aA (by omega),aA (by omega),aA (by omega)];dsimp only;constructor
   .rintro (h|h)
    .omega
    .exact h.2
   .intro h;exact .inr ⟨U,h⟩
 have hor:∀ m:Nat,(Fv w (cQ l j)).1=(m:Int)->(Fv w (cQ l j)).2=aj->JC cl (dB (sfP w l j)) j=jl ((xA w l cl j).L.getD m []) ((xA w l cl j).R.getD m []):=λm h1 h2=>by
  rw[a.L,a.R];refine ahu j λk _=>?_
  rw[aim,bt,bt];unfold sfP;rw[h1,h2];generalize CE w (cQ l k)=x;obtain⟨x1,x2⟩:=x;simp only[aD];constructor
  .constructor
   .rintro (h|h)
    .cases x2 with
     |true=>exact .inr ⟨h.2.1,rfl⟩
     |false=>exact .inl ⟨h.2.1,rfl⟩
    .omega
   .rintro (h|h)<;>exact .inl ⟨by omega,h.1,λq=>by cases q.1⟩
  .rintro⟨⟨_,h⟩,⟨_,h'⟩⟩;rw[h] at h';cases h'
 by_cases M:(cQ l j).k=6\/(cQ l j).k=10
 .rw[aA (by omega),ov oT,hor (cQ l j).ob (by unfold Fv;rw[aE M]) (by unfold Fv;rw[aE M])];unfold sg;rw[aA k1,aA I,aE M,<-sx];rfl
 by_cases Y:(cQ l j).k=8
 .have ha:Fv w (cQ l j)=(((cQ l j).ob:Int),ai):=by unfold Fv;rw[aA M,aE Y]
  rw[aA (by omega),ov oT];unfold sg;rw[aA k1,aA I,aA M,aE Y,uL (q:=pL w l (((cQ l j).ob:Int),aj)) j λk _=>(Ni ?_).symm,<-a.L]
  .rfl
  .unfold sfP pL;rw[ha,bt];generalize CE w (cQ l k)=x;obtain⟨x1,x2⟩:=x;simp only[aD];constructor
   .rintro (h|h)
    .exact⟨h.2.1,by simpa using h.2.2⟩
    .omega
   .intro h;exact .inl ⟨by omega,h.1,by simp[h.2]⟩
 by_cases J:(cQ l j).k=17
 .have wk:=sc.rd.wk (by rw[et.k,J];rfl);have hth:(cQ l j).th<w.2.2.2.2.1.length:=by rw[<- ft.T];exact ok.th
  have hn:=(b _ hth).n (by have:=wk.1;rw[et.th] at this;exact this);rw[aE J,hor (Tz w.2.2.1 (cQ l j).ob) (by unfold Fv;rw[aA M,aA Y,aE J]) (by unfold Fv;rw[aA M,aA Y,aE J]),<-hn.2];unfold sg;rw[aA k1,aA I,aA M,aA Y,aE J];simp only[xh,List.foldl_nil];rw[sx,sx,sx,<-sx _ _ ((xA w l cl j).N.getD _ []),Oi ((xA w l cl j).N.getD _ [])]
 .rw[aA J,nH (sN (by omega) (by omega) Y J U),ov oT,ov oT];unfold sg;rw[aA k1,aA I,aA M,aA Y,aA J,aA k3,aA Z,aA U];rfl
theorem agz (w:WT) (l:List ET):∀ i:Nat,i<=l.length->xA w l (sO w l) i=PR w (l.take i)
 |0,_=>rfl
 |i+1,h=>by rw[xA,agz w l i (by omega),C4 w (by omega)]
theorem Xk (w:WT) {l:List ET} {i:Nat} (h:i<l.length):TB w l (sO w l) i=sO w l i:=by unfold TB;rw[agz w l i (by omega)];rfl
theorem CL_N (w:WT) (l:List ET):CL w l (sO w l):=λi h=>.inl (Xk w h).symm
theorem acw {c:Nat->List Int} {p:Nat->Bool} {k:Nat} (hp:p k=ai):∀ i,k<i->LE (c k) (JC c p i)
 |i+1,h=>by
  by_cases e:k=i
  .subst e;rw[PK hp];exact akf _ _
  .have I:=acw (c:=c) hp i (by omega);rw[JC];split
   .exact I.trans (Zh _ _)
   .exact I
theorem af9 {w:WT} {l:List ET} {c:Nat->List Int} (tr:TR (w,l)) (C:CL w l c) {j s:Nat} (hj:j<l.length) (hs:s<j) (h:hrP w l j s):LE (c s) (TB w l c j):=by
 rw[aiq tr C hj];exact (acw (c:=c) (aim.2 h) j hs).trans ((akf _ _).trans ((Zh _ _).trans ((Zh _ _).trans (acv _ _))))
def G8 (l:List ET) (o:Nat):Nat->Int
 |0=> -1
 |i+1=>if (cQ l i).k=4/\(cQ l i).ob=o then (i:Int) else G8 l o i
theorem aaf (l:List ET) (o:Nat):∀ i:Nat,-1<=G8 l o i/\G8 l o i<i
 |0=>⟨eD _,by show (-1:Int)<0;omega⟩
 |i+1=>by have:=aaf l o i;rw[G8];split<;>omega
theorem WH {l:List ET} {o:Nat}:∀ j:Nat,0<=G8 l o j->(cQ l (G8 l o j).toNat).k=4/\(cQ l (G8 l o j).toNat).ob=o
 |0,h=>cV h (by show ¬(0:Int)<= -1;omega)
 |j+1,h=>by
  rw[G8] at h ⊢;by_cases q:(cQ l j).k=4/\(cQ l j).ob=o
  .rw[aE q];exact q
  .rw[aA q] at h ⊢;exact WH j h
def Wr (l:List ET) (i:Nat):Prop:=(cQ l i).k=3/\0<=G8 l (cQ l i).ob i
instance (l:List ET) (i:Nat):Decidable (Wr l i):=by unfold Wr;exact inferInstance
def Qi (l:List ET) (i:Nat):Nat:=(G8 l (cQ l i).ob i).toNat
theorem Ej {l:List ET} {i:Nat} (h:Wr l i):Qi l i<i:=by have:=aaf l (cQ l i).ob i;have:=h.2;unfold Qi;omega
def TW (w:WT) (l:List ET):Nat->HS×List (List Int)
 |0=>(HS.zero w,[])
 |i+1=>
  let c:=if Wr l i then jl (vS w (TW w l i).1 (cQ l i)) ((TW w l i).2.getD (Qi l i) []) else vS w (TW w l i).1 (cQ l i)
  (ik w (TW w l i).1 (cQ l i) c,(TW w l i).2++[c])
def xm (w:WT) (l:List ET) (i:Nat):List Int:=(TW w l (i+1)).2.getD i []
theorem HL (w:WT) (l:List ET):∀ i,(TW w l i).2.length=i
 |0=>rfl
 |i+1=>by rw[TW];simp[HL w l i]
theorem NX (w:WT) (l:List ET) {k:Nat}:∀ i,k<i->(TW w l i).2.getD k []=xm w l k
 |i+1,h=>by
  by_cases e:k=i
  .subst e;rfl
  .rw[<- NX w l i (by omega),TW];dsimp only;rw[ax,bJ (by rw[HL];omega),ax]
theorem Wm (w:WT) (l:List ET) (i:Nat):xm w l i=if Wr l i then jl (vS w (TW w l i).1 (cQ l i)) (xm w l (Qi l i)) else vS w (TW w l i).1 (cQ l i):=by
 unfold xm;rw[TW];dsimp only;rw[ax,bV (by rw[HL];omega),HL,HG];show (if Wr l i then _ else _)=_;by_cases h:Wr l i
 .rw[aE h,aE h,NX w l i (Ej h)];rfl
 .rw[aA h,aA h]
theorem ZX (w:WT) (l:List ET):∀ i,(TW w l i).1=xA w l (xm w l) i
 |0=>rfl
 |i+1=>by
  rw[xA,Wm,<-ZX w l i,TW];dsimp only;by_cases h:Wr l i
  .rw[aE h,aE h,NX w l i (Ej h)]
  .rw[aA h,aA h]
abbrev sM (w:WT) (l:List ET) (i:Nat):List Int:=TB w l (xm w l) i
theorem Il (w:WT) (l:List ET) (i:Nat):xm w l i=if Wr l i then jl (sM w l i) (xm w l (Qi l i)) else sM w l i:=by
 rw[Wm,ZX]
theorem CL_S (w:WT) (l:List ET):CL w l (xm w l):=λi _=>by
 rw[Il];by_cases h:Wr l i
 .rw[aE h];exact .inr ⟨_,Ej h,rfl⟩
 .rw[aA h];exact .inl rfl
theorem agq {w:WT} {l:List ET} {i:Nat} (h:¬(cQ l i).k=3):xm w l i=sM w l i:=by rw[Il,aA λq=>h q.1]
theorem EP {w:WT} {l:List ET} {c d:Nat->List Int}:∀ i,(∀ k,k<i->c k=d k)->xA w l c i=xA w l d i
 |0,_=>rfl
 |i+1,h=>by rw[xA,xA,EP i λk hk=>h k (by omega),h i (by omega)]
theorem Wl {w:WT} {l:List ET} {b:Nat} (hb:b<=l.length) (h:∀ k,k<b->Wr l k->LE (sO w l (Qi l k)) (sO w l k)):∀ j,j<=b->∀ k,k<j->xm w l k=sO w l k
 |0,_=>λk hk=>by omega
 |j+1,hj=>λk hk=>by
  have I:=Wl hb h j (by omega);by_cases e:k=j
  .subst e;have e1:sM w l k=sO w l k:=by
    unfold sM TB;rw[EP k I];exact Xk w (by omega)
   rw[Il,e1];by_cases q:Wr l k
   .rw[aE q,I _ (Ej q),Oi];exact (h k (by omega) q).jl
   .rw[aA q]
  .exact I k (by omega)
def Q8 (r:List Int):Prop:=HA r/\∀ z∈r,0<=z/\z<4
def P8 (s:List (Int×List Int)):Prop:=∀ x∈s,Q8 x.2
theorem P8.get {s:List (Int×List Int)} (h:P8 s) (o:Int):Q8 (aJ (T:=Ax) s o).2:=by
 unfold aJ;rw[ax];cases e:s[o.toNat]? with
 |none=>exact⟨trivial,λz I=>by cases I⟩
 |some x=>exact h x (ba e)
theorem P8.set {s:List (Int×List Int)} (h:P8 s) (o a:Int) {r:List Int} (hr:Q8 r):P8 (cq s o (a,r)):=λx I=>by
 rcases Cw I with I|rfl
 .exact h x I
 .exact hr
theorem Cc (p:Int->Bool):∀ {l:List Int},HA l->HA (l.filter p)
 |[],_=>trivial
 |x::r,h=>by
  rw[List.filter_cons];split
  .exact⟨λy I=>h.1 y ((FE.1 I).1),Cc p h.2⟩
  .exact Cc p h.2
theorem P8.ite {c:Prop} [Decidable c] {a b:SY×Int} (I:P8 a.1.1) (hb:P8 b.1.1):P8 (if c then a else b).1.1:=by by_cases h:c<;>simp[h,I,hb]
theorem P8.ap {w:WT} {s:SY} (h:P8 s.1) {t:Int} (k o v:Int) (t0:0<=t) (J:t<4):P8 (qX w s t k o v).1.1:=by
 have ow:∀ a b,P8 (owP s.1 a b):=λa b=>h.set a b (h.get a)
 have un:P8 (rdP s.1 o (xj (aJ (T:=Ax) s.1 o).2 [t])):=h.set _ _ ⟨P1 _ _,λz I=>by
  rcases If.1 I with I|I
  .exact (h.get o).2 z I
  .rw[aL] at I;subst I;exact⟨t0,J⟩⟩
 have wt:P8 (rdP s.1 o (wo (aJ (T:=Ax) s.1 o).2 t)):=h.set _ _ ⟨Cc _ (h.get o).1,λz I=>(h.get o).2 z (FE.1 I).1⟩;unfold qX;exact P8.ite h (P8.ite h (P8.ite (ow _ _) (P8.ite (ow _ _) (P8.ite un (P8.ite wt (P8.ite h (P8.ite h (P8.ite h (P8.ite h (P8.ite (ow _ _) (P8.ite (ow _ _) (P8.ite (P8.ite h h) (P8.ite h (P8.ite h (P8.ite h h)))))))))))))))
def iE (w:WT) (l:List ET):SN:=l.foldl (nxP w) (sn8 w)
theorem Mt (w:WT) {l:List ET} {i:Nat} (h:i<l.length):iE w (l.take (i+1))=nxP w (iE w (l.take i)) (eN l i):=by
 rw[oe (T:=tE) h];unfold iE;rw[fK];rfl
structure K8 (w:WT) (l:List ET) (i:Nat) (s:SN):Prop where
 a:(s.1,s.2.1,s.2.2.1)=No w (l.take i)
 r:P8 s.1.1
 c:s.2.1.length=w.1.length
 f:s.2.2.1.length=w.2.2.2.1.length
 k:s.2.2.2.length=w.2.2.2.2.1.length
 n:CN (l.take i) s.2.2.2
theorem Wg {w:WT} {l:List ET} (tr:TR (w,l)):∀ i:Nat,i<=l.length->K8 w l i (iE w (l.take i))
 |0,_=>⟨rfl,λx J=>by rw[pB J];exact⟨trivial,λz I=>by cases I⟩,by simp[iE,ce0],by simp[iE,fu0],by simp[iE],λt t0 t1=>by
   have:(aG w.2.2.2.2.1.length (0:Int)).getD t.toNat 0=0:=by rw[ax,lw];split<;>rfl
   exact this⟩
 |i+1,h=>by
  obtain⟨a,r,c,f,k,n⟩:=Wg tr i (by omega);have sc:=tr.sc (i:=i) (by omega);have hl:=tr.len;have ht:=tr.wb.t;dsimp only at hl ht;have en:=sc.en;have e1:=en.t1;have htk:=qa i l;rw[Mt w (by omega)];refine ⟨?_,r.ap _ _ _ en.t0 (by omega),?_,?_,?_,?_⟩
  .rw[SS w (by omega),<-a];rfl
  .unfold nxP YO;dsimp only;split
   .rw[bT];exact c
   .exact c
  .unfold nxP ZB;dsimp only;split
   .rw[bT];exact f
   .exact f
  .unfold nxP;rw[bT];exact k
  .have:=n.next (eN l i) en.t0 (by rw[k];exact e1) (by omega);rw[oe (T:=tE) (show i<l.length by omega)];exact this
theorem NS {w:WT} {l:List ET} (tr:TR (w,l)) {i:Nat} (hi:i<l.length):fP (w,iE w (l.take i),eN l i)=af (iE w (l.take (i+1)),ai):=by
 obtain⟨a,r,c,f,k,n⟩:=Wg tr i (by omega);have sc:=tr.sc hi;have I:=tr.wx;have ht:=tr.wb.t;have hls:=tr.ls _ (B7 hi);dsimp only at I ht hls;rw[Mt w hi];rw[<- a] at sc;generalize iE w (l.take i)=s at*
 generalize eN l i=e at*
 have en:=sc.en;have e1:=en.t1;have l3:w.2.1.length=3:=by rw[I.l];rfl
 have J:=n e.1 en.t0 (by rw[k];exact e1);have b1:=tr.wb.c;have Z:=tr.wb.f;have b3:=tr.wb.d;dsimp only at b1 Z b3;have Y:=en.e1;have U:=en.e2;have q3:=en.e3;dsimp only at Y U q3;refine amv (n:=4) w s e ⟨⟨by omega,by omega,λx M=>?_,by omega,by omega⟩,by omega,by omega,by omega⟩ (by omega) (by omega) ⟨c,f,k⟩ en ⟨sc.rd,sc.s1,sc.s2,sc.de,sc.fr,by rw[J];exact sc.nd,by rw[J];exact sc.nf,sc.va⟩ hls.1 hls.2 (λh=>?_) (by omega) r (by omega)
 .have:=Pu x.2 0 4 (r x M).1 (r x M).2;omega
 .have o1:=en.nm.lk (by omega);have o2:=en.nm.rw (by omega);generalize e.2.2.1=o at o1 o2;rw[I.l] at o1 o2;have:o=0\/o=1\/o=2:=by have:G0.length=3:=rfl;omega
  rcases this with rfl|rfl|rfl
  .cases o2
  .cases o2
  .rfl
abbrev fN (l:List ET) (i:Nat) (t:Int):List Bool:=fl (l.take i) t
theorem OR {l:List ET} {i:Nat} (h:i<l.length) {t:Int} (e:(eN l i).1=t):fN l (i+1) t=fN l i t++[tD (eN l i)]:=by
 unfold fN;rw[oe (T:=tE) h,uD,zC e]
theorem OT {l:List ET} {i:Nat} (h:i<l.length) {t:Int} (e:¬(eN l i).1=t):fN l (i+1) t=fN l i t:=by
 unfold fN;rw[oe (T:=tE) h,uD,wJ e,hY]
theorem HN {w:WT} {l:List ET} (tr:TR (w,l)) {i:Nat} (hi:i<l.length) {t:Int} (e:(eN l i).1=t):cf (fN l i t,eN l i)=af ai:=by
 have sc:=tr.sc hi;have hls:=tr.ls _ (B7 hi);subst e;exact YS _ _ sc.rd1 sc.rd2 hls.1 hls.2
theorem OU (l:List ET) (i:Nat) (t:Int):(fN l i t).length<=l.length:=dk (W1 _ _) (List.length_take_le' ..)
theorem ad1 {w:WT} {l:List ET} (tr:TR (w,l)) (hn:w.2.2.2.2.1.length=4):ey (w,l)=af (0,0):=by
 have hl:=tr.len;dsimp only at hl;refine cD ?_;unfold ey jO aV bh bw ct dQ iU bL eZ mq nF bd bB bF bI aY cK aF cC;refine fI (gh.2 (by dsimp only[au];omega)) (aU (VW8 tr.wx tr.vl) (fJ (aU (Cd tr.wx) (be (by show (cY 0 (aQ w.2.2.2.2.1.length)&&cY (aQ w.2.2.2.2.1.length) (aQ w.2.2.2.2.1.length)&&bc (aS (aQ w.2.2.2.2.1.length)) 24&&decide ((aQ w.2.2.2.2.1.length:Int)=4))=ai;rw[hn];rfl) ?_))));refine gJ l.length (by omega) (λi x=>x=((i:Int),(w,l),iE w (l.take i),fN l i 0,fN l i 1,fN l i 2,fN l i 3)) ?_ ?_ rfl
 .rintro i x hi rfl;have e1:=(tr.sc hi).en.t1;have e0:=(tr.sc hi).en.t0;have st:=NS tr hi;have fa:=λt=>OU l i t
  have rd:=λt=>HN tr hi (t:=t)
  have own:=λt=>OR hi (t:=t)
  have oth:=λt=>OT hi (t:=t)
  refine dg ?_;refine cE (aT ?_);have ht:(eN l i).1=0\/(eN l i).1=1\/(eN l i).1=2\/(eN l i).1=3:=by omega
  have hg:aJ (T:=tE) l (i:Int)=eN l i:=rfl;dsimp only;rw[hg];generalize eN l i=e at*
  refine aU st ?_;obtain⟨(t:Int),e⟩:=e;dsimp only at ht;rcases ht with rfl|rfl|rfl|rfl
  .refine aX (λx=>x=(aj,(w,l),iE w (l.take i),(0,e),iE w (l.take (i+1)),fN l i 0,fN l i 1,fN l i 2,fN l i 3)) ?_ ?_
   .simp only[aZ,bp,s8];exact aU (rd 0 rfl) (ar rfl)
   rintro x rfl;refine fJ (aX (λx=>x=((w,l),iE w (l.take i),iE w (l.take (i+1)),fN l (i+1) 0,fN l (i+1) 1,fN l (i+1) 2,fN l (i+1) 3)) ?_ ?_)
   .simp only[aZ,bp,s8];rw[own 0 rfl,oth 1 (by show ¬(0:Int)=1;decide),oth 2 (by show ¬(0:Int)=2;decide),oth 3 (by show ¬(0:Int)=3;decide)];have:=fa 0;refine aK (λh=>bi (by simp;omega) (by omega) (ar ?_)) λh=>bi (by simp;omega) (by omega) (ar ?_)
    .have:tD (0,e)=ai:=by unfold tD;rw[aO h];rfl
     rw[this]
    .have:tD (0,e)=decide (e.1=23):=by unfold tD;rw[bz h];rfl
     rw[this]
   rintro x rfl;exact ar (by rw[gM (by omega)])
  .refine aX (λx=>x=(aj,(w,l),iE w (l.take i),(1,e),iE w (l.take (i+1)),fN l i 0,fN l i 1,fN l i 2,fN l i 3)) ?_ ?_
   .simp only[aZ,bp,s8];exact aU (rd 1 rfl) (ar rfl)
   rintro x rfl;refine fJ (aX (λx=>x=((w,l),iE w (l.take i),iE w (l.take (i+1)),fN l (i+1) 0,fN l (i+1) 1,fN l (i+1) 2,fN l (i+1) 3)) ?_ ?_)
   .simp only[aZ,bp,s8];rw[own 1 rfl,oth 0 (by show ¬(1:Int)=0;decide),oth 2 (by show ¬(1:Int)=2;decide),oth 3 (by show ¬(1:Int)=3;decide)];have:=fa 1;refine aK (λh=>bi (by simp;omega) (by omega) (ar ?_)) λh=>bi (by simp;omega) (by omega) (ar ?_)
    .have:tD (1,e)=ai:=by unfold tD;rw[aO h];rfl
     rw[this]
    .have:tD (1,e)=decide (e.1=23):=by unfold tD;rw[bz h];rfl
     rw[this]
   rintro x rfl;exact ar (by rw[gM (by omega)])
  .refine aX (λx=>x=(aj,(w,l),iE w (l.take i),(2,e),iE w (l.take (i+1)),fN l i 0,fN l i 1,fN l i 2,fN l i 3)) ?_ ?_
   .simp only[aZ,bp,s8];exact aU (rd 2 rfl) (ar rfl)
   rintro x rfl;refine fJ (aX (λx=>x=((w,l),iE w (l.take i),iE w (l.take (i+1)),fN l (i+1) 0,fN l (i+1) 1,fN l (i+1) 2,fN l (i+1) 3)) ?_ ?_)
   .simp only[aZ,bp,s8];rw[own 2 rfl,oth 0 (by show ¬(2:Int)=0;decide),oth 1 (by show ¬(2:Int)=1;decide),oth 3 (by show ¬(2:Int)=3;decide)];have:=fa 2;refine aK (λh=>bi (by simp;omega) (by omega) (ar ?_)) λh=>bi (by simp;omega) (by omega) (ar ?_)
    .have:tD (2,e)=ai:=by unfold tD;rw[aO h];rfl
     rw[this]
    .have:tD (2,e)=decide (e.1=23):=by unfold tD;rw[bz h];rfl
     rw[this]
   rintro x rfl;exact ar (by rw[gM (by omega)])
  .refine aX (λx=>x=(aj,(w,l),iE w (l.take i),(3,e),iE w (l.take (i+1)),fN l i 0,fN l i 1,fN l i 2,fN l i 3)) ?_ ?_
   .simp only[aZ,bp,s8];exact aU (rd 3 rfl) (ar rfl)
   rintro x rfl;refine fJ (aX (λx=>x=((w,l),iE w (l.take i),iE w (l.take (i+1)),fN l (i+1) 0,fN l (i+1) 1,fN l (i+1) 2,fN l (i+1) 3)) ?_ ?_)
   .simp only[aZ,bp,s8];rw[own 3 rfl,oth 0 (by show ¬(3:Int)=0;decide),oth 1 (by show ¬(3:Int)=1;decide),oth 2 (by show ¬(3:Int)=2;decide)];have:=fa 3;refine aK (λh=>bi (by simp;omega) (by omega) (ar ?_)) λh=>bi (by simp;omega) (by omega) (ar ?_)
    .have:tD (3,e)=ai:=by unfold tD;rw[aO h];rfl
     rw[this]
    .have:tD (3,e)=decide (e.1=23):=by unfold tD;rw[bz h];rfl
     rw[this]
   rintro x rfl;exact ar (by rw[gM (by omega)])
 .rintro x rfl;exact db (ar rfl)
theorem FC {w:WT} {l:List ET} (tr:TR (w,l)) (hn:¬w.2.2.2.2.1.length=4):ey (w,l)=ah:=by
 have hl:=tr.len;dsimp only at hl;unfold ey jO aV bh bw ct dQ iU bL eZ mq nF bd bB bF bI aY cK aF cC;rw[show fX 400 (aQ (al (w,l).2))=aj from gh.2 (by dsimp only[au];omega)];simp only[aZ,bp,s8];rw[VW8 tr.wx tr.vl];simp only[aZ,bp,s8];rw[Cd tr.wx];simp only[aZ,bp,s8];rw[show decide ((aQ w.2.2.2.2.1.length:Int)=4)=aj from bz (by dsimp only[au];omega),Bool.and_false];rfl
theorem ad2 {w:WT} {l:List ET} (tr:TR (w,l)) (hn:w.2.2.2.2.1.length=3):dL (w,l)=af (0,0):=by
 have hl:=tr.len;dsimp only at hl;refine cD ?_;unfold dL jP aV bh bw ct dQ bL cN eZ mq bd bB bF bI aY cK aF cC;refine fI (gh.2 (by dsimp only[au];omega)) (aU (VW8 tr.wx tr.vl) (fJ (aU (Cd tr.wx) (be (by show (cY 0 (aQ w.2.2.2.2.1.length)&&cY (aQ w.2.2.2.2.1.length) (aQ w.2.2.2.2.1.length)&&bc (aS (aQ w.2.2.2.2.1.length)) 24&&decide ((aQ w.2.2.2.2.1.length:Int)=3))=ai;rw[hn];rfl) ?_))));refine gJ l.length (by omega) (λi x=>x=((i:Int),(w,l),iE w (l.take i),fN l i 0,fN l i 1,fN l i 2)) ?_ ?_ rfl
 .rintro i x hi rfl;have e1:=(tr.sc hi).en.t1;have e0:=(tr.sc hi).en.t0;have st:=NS tr hi;have fa:=λt=>OU l i t
  have rd:=λt=>HN tr hi (t:=t)
  have own:=λt=>OR hi (t:=t)
  have oth:=λt=>OT hi (t:=t)
  refine dg ?_;refine cE (aT ?_);have ht:(eN l i).1=0\/(eN l i).1=1\/(eN l i).1=2:=by omega
  have hg:aJ (T:=tE) l (i:Int)=eN l i:=rfl;dsimp only;rw[hg];generalize eN l i=e at*
  refine aU st ?_;obtain⟨(t:Int),e⟩:=e;dsimp only at ht;rcases ht with rfl|rfl|rfl
  .refine aX (λx=>x=(aj,(w,l),iE w (l.take i),(0,e),iE w (l.take (i+1)),fN l i 0,fN l i 1,fN l i 2)) ?_ ?_
   .simp only[aZ,bp,s8];exact aU (rd 0 rfl) (ar rfl)
   rintro x rfl;refine fJ (aX (λx=>x=((w,l),iE w (l.take i),iE w (l.take (i+1)),fN l (i+1) 0,fN l (i+1) 1,fN l (i+1) 2)) ?_ ?_)
   .simp only[aZ,bp,s8];rw[own 0 rfl,oth 1 (by show ¬(0:Int)=1;decide),oth 2 (by show ¬(0:Int)=2;decide)];have:=fa 0;refine aK (λh=>bi (by simp;omega) (by omega) (ar ?_)) λh=>bi (by simp;omega) (by omega) (ar ?_)
    .have:tD (0,e)=ai:=by unfold tD;rw[aO h];rfl
     rw[this]
    .have:tD (0,e)=decide (e.1=23):=by unfold tD;rw[bz h];rfl
     rw[this]
   rintro x rfl;exact ar (by rw[gM (by omega)])
  .refine aX (λx=>x=(aj,(w,l),iE w (l.take i),(1,e),iE w (l.take (i+1)),fN l i 0,fN l i 1,fN l i 2)) ?_ ?_
   .simp only[aZ,bp,s8];exact aU (rd 1 rfl) (ar rfl)
   rintro x rfl;refine fJ (aX (λx=>x=((w,l),iE w (l.take i),iE w (l.take (i+1)),fN l (i+1) 0,fN l (i+1) 1,fN l (i+1) 2)) ?_ ?_)
   .simp only[aZ,bp,s8];rw[own 1 rfl,oth 0 (by show ¬(1:Int)=0;decide),oth 2 (by show ¬(1:Int)=2;decide)];have:=fa 1;refine aK (λh=>bi (by simp;omega) (by omega) (ar ?_)) λh=>bi (by simp;omega) (by omega) (ar ?_)
    .have:tD (1,e)=ai:=by unfold tD;rw[aO h];rfl
     rw[this]
    .have:tD (1,e)=decide (e.1=23):=by unfold tD;rw[bz h];rfl
     rw[this]
   rintro x rfl;exact ar (by rw[gM (by omega)])
  .refine aX (λx=>x=(aj,(w,l),iE w (l.take i),(2,e),iE w (l.take (i+1)),fN l i 0,fN l i 1,fN l i 2)) ?_ ?_
   .simp only[aZ,bp,s8];exact aU (rd 2 rfl) (ar rfl)
   rintro x rfl;refine fJ (aX (λx=>x=((w,l),iE w (l.take i),iE w (l.take (i+1)),fN l (i+1) 0,fN l (i+1) 1,fN l (i+1) 2)) ?_ ?_)
   .simp only[aZ,bp,s8];rw[own 2 rfl,oth 0 (by show ¬(2:Int)=0;decide),oth 1 (by show ¬(2:Int)=1;decide)];have:=fa 2;refine aK (λh=>bi (by simp;omega) (by omega) (ar ?_)) λh=>bi (by simp;omega) (by omega) (ar ?_)
    .have:tD (2,e)=ai:=by unfold tD;rw[aO h];rfl
     rw[this]
    .have:tD (2,e)=decide (e.1=23):=by unfold tD;rw[bz h];rfl
     rw[this]
   rintro x rfl;exact ar (by rw[gM (by omega)])
 .rintro x rfl;exact db (ar rfl)
theorem Nw {w:WT} {l:List ET} (tr:TR (w,l)) (hn:¬w.2.2.2.2.1.length=3):dL (w,l)=ah:=by
 have hl:=tr.len;dsimp only at hl;unfold dL jP aV bh bw ct dQ bL cN eZ mq bd bB bF bI aY cK aF cC;rw[show fX 400 (aQ (al (w,l).2))=aj from gh.2 (by dsimp only[au];omega)];simp only[aZ,bp,s8];rw[VW8 tr.wx tr.vl];simp only[aZ,bp,s8];rw[Cd tr.wx];simp only[aZ,bp,s8];rw[show decide ((aQ w.2.2.2.2.1.length:Int)=3)=aj from bz (by dsimp only[au];omega),Bool.and_false];rfl
theorem ad3 {w:WT} {l:List ET} (tr:TR (w,l)) (hn:w.2.2.2.2.1.length=2):di (w,l)=af (0,0):=by
 have hl:=tr.len;dsimp only at hl;refine cD ?_;unfold di jQ aV bh bw ct bL dc eZ bd bB bF bI aY cK aF cC;refine fI (gh.2 (by dsimp only[au];omega)) (aU (VW8 tr.wx tr.vl) (fJ (aU (Cd tr.wx) (be (by show (cY 0 (aQ w.2.2.2.2.1.length)&&cY (aQ w.2.2.2.2.1.length) (aQ w.2.2.2.2.1.length)&&bc (aS (aQ w.2.2.2.2.1.length)) 24&&decide ((aQ w.2.2.2.2.1.length:Int)=2))=ai;rw[hn];rfl) ?_))));refine gJ l.length (by omega) (λi x=>x=((i:Int),(w,l),iE w (l.take i),fN l i 0,fN l i 1)) ?_ ?_ rfl
 .rintro i x hi rfl;have e1:=(tr.sc hi).en.t1;have e0:=(tr.sc hi).en.t0;have st:=NS tr hi;have fa:=λt=>OU l i t
  have rd:=λt=>HN tr hi (t:=t)
  have own:=λt=>OR hi (t:=t)
  have oth:=λt=>OT hi (t:=t)
  refine dg ?_;refine cE (aT ?_);have ht:(eN l i).1=0\/(eN l i).1=1:=by omega
  have hg:aJ (T:=tE) l (i:Int)=eN l i:=rfl;dsimp only;rw[hg];generalize eN l i=e at*
  refine aU st ?_;obtain⟨(t:Int),e⟩:=e;dsimp only at ht;rcases ht with rfl|rfl
  .refine aX (λx=>x=(aj,(w,l),iE w (l.take i),(0,e),iE w (l.take (i+1)),fN l i 0,fN l i 1)) ?_ ?_
   .simp only[aZ,bp,s8];exact aU (rd 0 rfl) (ar rfl)
   rintro x rfl;refine fJ (aX (λx=>x=((w,l),iE w (l.take i),iE w (l.take (i+1)),fN l (i+1) 0,fN l (i+1) 1)) ?_ ?_)
   .simp only[aZ,bp,s8];rw[own 0 rfl,oth 1 (by show ¬(0:Int)=1;decide)];have:=fa 0;refine aK (λh=>bi (by simp;omega) (by omega) (ar ?_)) λh=>bi (by simp;omega) (by omega) (ar ?_)
    .have:tD (0,e)=ai:=by unfold tD;rw[aO h];rfl
     rw[this]
    .have:tD (0,e)=decide (e.1=23):=by unfold tD;rw[bz h];rfl
     rw[this]
   rintro x rfl;exact ar (by rw[gM (by omega)])
  .refine aX (λx=>x=(aj,(w,l),iE w (l.take i),(1,e),iE w (l.take (i+1)),fN l i 0,fN l i 1)) ?_ ?_
   .simp only[aZ,bp,s8];exact aU (rd 1 rfl) (ar rfl)
   rintro x rfl;refine fJ (aX (λx=>x=((w,l),iE w (l.take i),iE w (l.take (i+1)),fN l (i+1) 0,fN l (i+1) 1)) ?_ ?_)
   .simp only[aZ,bp,s8];rw[own 1 rfl,oth 0 (by show ¬(1:Int)=0;decide)];have:=fa 1;refine aK (λh=>bi (by simp;omega) (by omega) (ar ?_)) λh=>bi (by simp;omega) (by omega) (ar ?_)
    .have:tD (1,e)=ai:=by unfold tD;rw[aO h];rfl
     rw[this]
    .have:tD (1,e)=decide (e.1=23):=by unfold tD;rw[bz h];rfl
     rw[this]
   rintro x rfl;exact ar (by rw[gM (by omega)])
 .rintro x rfl;exact db (ar rfl)
theorem Zw {w:WT} {l:List ET} (tr:TR (w,l)) (hn:¬w.2.2.2.2.1.length=2):di (w,l)=ah:=by
 have hl:=tr.len;dsimp only at hl;unfold di jQ aV bh bw ct bL dc eZ bd bB bF bI aY cK aF cC;rw[show fX 400 (aQ (al (w,l).2))=aj from gh.2 (by dsimp only[au];omega)];simp only[aZ,bp,s8];rw[VW8 tr.wx tr.vl];simp only[aZ,bp,s8];rw[Cd tr.wx];simp only[aZ,bp,s8];rw[show decide ((aQ w.2.2.2.2.1.length:Int)=2)=aj from bz (by dsimp only[au];omega),Bool.and_false];rfl
theorem ad4 {w:WT} {l:List ET} (tr:TR (w,l)) (hn:w.2.2.2.2.1.length=1):eA (w,l)=af (0,0):=by
 have hl:=tr.len;dsimp only at hl;refine cD ?_;unfold eA lH aV bh bw bL cN bd bB bF bI aY cK aF cC;refine fI (gh.2 (by dsimp only[au];omega)) (aU (VW8 tr.wx tr.vl) (fJ (aU (Cd tr.wx) (be (by show (cY 0 (aQ w.2.2.2.2.1.length)&&cY (aQ w.2.2.2.2.1.length) (aQ w.2.2.2.2.1.length)&&bc (aS (aQ w.2.2.2.2.1.length)) 24&&decide ((aQ w.2.2.2.2.1.length:Int)=1))=ai;rw[hn];rfl) ?_))));refine gJ l.length (by omega) (λi x=>x=((i:Int),(w,l),iE w (l.take i),fN l i 0)) ?_ ?_ rfl
 .rintro i x hi rfl;have e1:=(tr.sc hi).en.t1;have e0:=(tr.sc hi).en.t0;have st:=NS tr hi;have fa:=λt=>OU l i t
  have rd:=λt=>HN tr hi (t:=t)
  have own:=λt=>OR hi (t:=t)
  have oth:=λt=>OT hi (t:=t)
  refine dg ?_;refine cE (aT ?_);have ht:(eN l i).1=0:=by omega
  have hg:aJ (T:=tE) l (i:Int)=eN l i:=rfl;dsimp only;rw[hg];generalize eN l i=e at*
  refine aU st ?_;obtain⟨(t:Int),e⟩:=e;dsimp only at ht;subst ht
  .refine aX (λx=>x=(aj,(w,l),iE w (l.take i),(0,e),iE w (l.take (i+1)),fN l i 0)) ?_ ?_
   .simp only[aZ,bp,s8];exact aU (rd 0 rfl) (ar rfl)
   rintro x rfl;refine fJ (aX (λx=>x=((w,l),iE w (l.take i),iE w (l.take (i+1)),fN l (i+1) 0)) ?_ ?_)
   .simp only[aZ,bp,s8];rw[own 0 rfl];have:=fa 0;refine aK (λh=>bi (by simp;omega) (by omega) (ar ?_)) λh=>bi (by simp;omega) (by omega) (ar ?_)
    .have:tD (0,e)=ai:=by unfold tD;rw[aO h];rfl
     rw[this]
    .have:tD (0,e)=decide (e.1=23):=by unfold tD;rw[bz h];rfl
     rw[this]
   rintro x rfl;exact ar (by rw[gM (by omega)])
 .rintro x rfl;exact db (ar rfl)
theorem akt {w:WT} {l:List ET} (tr:TR (w,l)):mr (w,l)=af (0,0):=by
 have h1:=tr.vl.t0;have I:=tr.vl.t;dsimp only at h1 I;unfold mr;have:w.2.2.2.2.1.length=4\/w.2.2.2.2.1.length=3\/w.2.2.2.2.1.length=2\/w.2.2.2.2.1.length=1:=by omega
 rcases this with h|h|h|h
 .rw[ad1 tr h];rfl
 .rw[FC tr (by omega),ad2 tr h];rfl
 .rw[FC tr (by omega),Nw tr (by omega),ad3 tr h];rfl
 .rw[FC tr (by omega),Nw tr (by omega),Zw tr (by omega),ad4 tr h];rfl
theorem P4 {w:WT} {l:List ET} (tr:TR (w,l)):nQ w=af (HS.zero w).t:=by
 have wb:=tr.wb;dsimp only at wb;exact acf w (by have:=wb.c;unfold yO;omega) (by have:=wb.l;unfold yO;omega) (by have:=wb.f;unfold yO;omega) (by have:=wb.t;unfold yO;omega)
theorem adp {w:WT} {l:List ET} (tr:TR (w,l)) {i:Nat} (hi:i<l.length):sw (w,(PR w (l.take i)).t,eN l i)=af ((PR w (l.take (i+1))).t,sO w l i):=by
 have hl:=tr.len;dsimp only at hl;have:=aft (Ur tr i (by omega)).1 (by omega) (Jz tr hi) (uE tr hi);rw[C4 w hi];exact this
def tA {α:Type} (n:Nat) (f:Nat->α) (z:α) (i:Nat):List α:=(dT n).map λk=>if k<i then f k else z
theorem xk {α:Type} (n:Nat) (f:Nat->α) (z:α) (i:Nat):(tA n f z i).length=n:=by simp[tA]
theorem Ee {α:Type} {n:Nat} {f:Nat->α} {z:α} {i:Nat} (h:i<n):(tA n f z i).set i (f i)=tA n f z (i+1):=by
 unfold tA;apply dD
 .simp
 intro k h1 h2;simp only[sL,bY,jT] at h1;rw[uY];simp only[qP,nA];by_cases e:i=k
 .subst e;rw[aE rfl,aE (by omega)]
 .rw[aA e];by_cases g:k<i
  .rw[aE g,aE (by omega)]
  .rw[aA g,aA (by omega)]
theorem Cq {α:Type} (n:Nat) (f:Nat->α) (z:α):tA n f z 0=aG n z:=by unfold tA;simp[List.map_const']
theorem NP {α:Type} (n:Nat) (f:Nat->α) (z:α):tA n f z n=(dT n).map f:=p_ λk hk=>by rw[aE (nz.1 hk)]
abbrev csN (w:WT) (l:List ET):List (List Int):=(dT l.length).map (sO w l)
theorem af1 {w:WT} {l:List ET} {i:Nat} (h:i<l.length):(csN w l).getD i []=sO w l i:=by
 rw[ax,a8,md h];rfl
theorem abe {w:WT} {l:List ET} {i:Nat} (h:i<l.length):aJ (T:=.sl (.int .i64)) (csN w l) (i:Int)=sO w l i:=by rw[lI];exact af1 h
theorem Nv {w:WT} {l:List ET} (tr:TR (w,l)):m8 (w,l)=af (csN w l,0):=by
 have hl:=tr.len;dsimp only at hl;refine cD ?_;unfold m8 xG aV bL ck bB iF bF bI aY cK aF cC;refine aU (akt tr) (fJ (aU (P4 tr) (cW (cW (dv (by dsimp only[au];omega) (dv (by omega) (bi (by simp;omega) (by omega) ?_)))))));refine gJ l.length (by omega) (λi x=>x=((i:Int),(w,l),(PR w (l.take i)).t,tA l.length (sO w l) [] i)) ?_ ?_ ?_
 .rintro i x hi rfl;refine dg ?_;refine cE (aT ?_);refine aU (adp tr hi) ?_;refine aR (by dsimp only;omega) (by dsimp only;rw[xk];omega) (aR (by dsimp only;omega) (by dsimp only;rw[xk];omega) (ar ?_));dsimp only;rw[gM (by omega),eB,Ee hi]
 .rintro x rfl;refine db (ar ?_);dsimp only;rw[NP]
 .show _=_;rw[Cq];rfl
def vg (x:Int×Int×Int×Int×Int×(List Int)×List Int):Option (Bool):=
 (jn (α:=Bool) (bd x.2.1 3 (aF ai) (aF (decide ((x.2.1:Int)=4)))) λI=>(af I))
theorem Ez (k j v:Int):∀ m:List (Int×Int),s_ (K:=.int .i64) (V:=.int .i64) j (CQ (K:=.int .i64) (V:=.int .i64) k v m)=if j=k then af v else s_ (K:=.int .i64) (V:=.int .i64) j m
 |[]=>by
  show (if decide (j=k)=ai then af v else ah)=_;by_cases h:j=k<;>simp[h,s_]
 |(a,b)::r=>by
  have I:=Ez k j v r;show s_ (K:=.int .i64) (V:=.int .i64) j (if decide (k=a)=ai then (k,v)::r else (a,b)::CQ (K:=.int .i64) (V:=.int .i64) k v r)=if j=k then af v else if decide (j=a)=ai then af b else s_ (K:=.int .i64) (V:=.int .i64) j r
  by_cases h:k=a
  .subst h;rw[aE (aO rfl)];show (if decide (j=k)=ai then af v else s_ (K:=.int .i64) (V:=.int .i64) j r)=_;by_cases g:j=k<;>simp[g]
  .rw[aA (by simpa using h)];show (if decide (j=a)=ai then af b else s_ (K:=.int .i64) (V:=.int .i64) j (CQ (K:=.int .i64) (V:=.int .i64) k v r))=_;rw[I];by_cases g:j=a
   .subst g;rw[aE (aO rfl),aA λq=>h q.symm,aE (aO rfl)]
   .simp only[g,c_,cz,eo]
theorem MG (k j v d:Int) (m:List (Int×Int)):s9 (K:=.int .i64) (V:=.int .i64) j (CQ (K:=.int .i64) (V:=.int .i64) k v m) d=if j=k then v else s9 (K:=.int .i64) (V:=.int .i64) j m d:=by
 unfold s9;rw[Ez];by_cases h:j=k<;>simp[h]
def MW (l:List ET) (i:Nat):Int×Int:=((tB l (cQ l i).th i:Int)+1,((cQ l i).th:Int))
theorem Ku (l:List ET) (u:Nat):∀ i,tB l u i<=i
 |0=>bP _
 |i+1=>by have:=Ku l u i;rw[tB];split<;>omega
theorem Yr {w:WT} {l:List ET} (tr:TR (w,l)):pw l=af ((dT l.length).map (MW l)):=by
 have hl:=tr.len;dsimp only at hl;refine cD ?_;unfold pw xE ck bB bF bI aY cK aF cC;refine cW (cW (dv (by dsimp only[au];omega) (dv (by omega) (bi (by simp;omega) (by omega) ?_))));refine gJ l.length (by omega) (λi x=>x.1=(i:Int)/\(∀ u:Nat,s9 (K:=.int .i64) (V:=.int .i64) (u:Int) x.2.1 0=(tB l u i:Int))/\x.2.2=tA l.length (MW l) (0,0) i) ?_ ?_ ⟨rfl,λu=>rfl,by rw[Cq];rfl⟩
 .rintro i ⟨x,m,r⟩ hi ⟨e1,hm,e2⟩;dsimp only at e1 hm e2;subst e1;subst e2;refine dg ?_;refine cE (aT ?_);have et:=uE tr hi;refine aR (by dsimp only;omega) (by dsimp only;rw[xk];omega) (aR (by dsimp only;omega) (by dsimp only;rw[xk];omega) (ar ?_));have hc:=Ku l (cQ l i).th i;have I:(aJ (T:=tE) l (i:Int)).1=((cQ l i).th:Int):=et.th;have J:bn .i64 (s9 (K:=.int .i64) (V:=.int .i64) ((cQ l i).th:Int) m 0+1)=(tB l (cQ l i).th i:Int)+1:=by rw[hm];exact io (by omega) (by omega)
  dsimp only;refine ⟨gM (by omega),λu=>?_,?_⟩
  .rw[I,J,MG,tB];by_cases q:(cQ l i).th=u
   .subst q;rw[aE rfl,aE rfl];rfl
   .rw[aA (by omega),aA q];exact hm u
  .rw[I,J,MG,aE rfl,eB];exact Ee (f:=MW l) hi
 .rintro⟨x,m,r⟩ ⟨e1,hm,e2⟩;dsimp only at e1 hm e2;subst e1;subst e2;refine db (ar ?_);dsimp only;rw[NP]
theorem abc {l:List ET} {i:Nat} (h:i<l.length):aJ (T:=.st (.pr (.int .i64) (.int .i64))) ((dT l.length).map (MW l)) (i:Int)=MW l i:=by
 rw[uA,ax,a8,md h];rfl
theorem K9 (c:List Int) (a:Int) (u:Nat):ml (c,a,(u:Int))=af (decide (a<=c.getD u 0)):=by
 unfold ml;dsimp only;rw[La];rfl
abbrev Kf0:Ty:=(.st (.pr aM (.pr aM (.pr aM aM))))
abbrev Kf1:Ty:=(.st (.pr D5 (.pr D5 D5)))
abbrev Yf0:=((List (List Int))×(List (List Int))×(List (List Int))×(List (List Int))×(List (List Int))×(List Int)×(List (List Int))×List Int)
abbrev Yf1:=(Int×Int×Int×Int)
abbrev Yf2:=((List (List Int))×(List (List Int))×Int)
def Ap (it:yH) (x:dJ×Xz×Int×Int×Int×Int×Int×(List Int)×List Int):Option (Yf0×(List Int)×List (List Int)):=
 (obind (ry (x.2.1.1,x.2.1.2.1,x.2.1.p2,x.2.1.p3,x.2.1.p4,x.2.1.p5,x.2.1.p6,x.2.1.p7,x.2.1.q8)) λU=>(ck (fk x.p2 (al U.2.1)) (obind (rz ((x.p2,x.p3,x.p4,x.p5,x.p6,x.p7,x.q8),U.1,(x.1.1,x.1.2.1,x.1.p2,x.1.p3,x.1.p4,x.1.q5),U.2.1,U.p2,U.p3,U.p4,U.p5,U.p6,U.p7,U.q8)) λJ=>(bF (aC (al U.q8) (al J.q11)&&(aC (al U.p7) (al J.p10)&&(aC (al U.p6) (al J.p9)&&(aC (al U.p5) (al J.p8)&&(aC (al U.p4) (al J.p7)&&(aC (al U.p3) (al J.p6)&&(aC (al U.p2) (al J.p5)&&(aC (al U.2.1) (al J.p4)&&ai)))))))) (it (Int×dJ×gm×(List Int)×(List Int)×(List (List Int))×(List (List Int))×(List (List Int))×(List (List Int))×(List (List Int))×(List (List Int))×(List (List Int))×List Int) _ (λI=>(bB I.1 (aY J.1) (v9 I.1 J.1 (obind (jw (I.p4,(aJ (T:=(.sl aM)) J.1 I.1))) λZ=>(cK ((cC I.1),(I.2.1.1,I.2.1.2.1,I.2.1.p2,I.2.1.p3,I.2.1.p4,I.2.1.q5),(I.p2.1,I.p2.2.1,I.p2.p2,I.p2.p3,I.p2.p4,I.p2.p5,I.p2.q6),I.p3,Z,I.p5,I.p6,I.p7,I.p8,I.p9,I.p10,I.p11,I.q12)))) (obind (obind (pN (I.p4,I.p2.1)) λY=>(obind (pK (((I.2.1.1,I.2.1.2.1,I.2.1.p2,I.2.1.p3,I.2.1.p4,I.2.1.q5),I.p2.1,I.p2.2.1,I.p2.p2,I.p2.p3,I.p2.p4,I.p2.p5,I.p2.q6),I.p3,I.p5,I.p6,I.p7,I.p8,I.p9,I.p10,I.p11,I.q12,Y)) λM=>(bF (aC (al Y) (al M.q9)&&(aC (al I.q12) (al M.p8)&&(aC (al I.p11) (al M.p7)&&(aC (al I.p10) (al M.p6)&&(aC (al I.p9) (al M.p5)&&(aC (al I.p8) (al M.p4)&&(aC (al I.p7) (al M.p3)&&(aC (al I.p6) (al M.p2)&&(aC (al I.p5) (al M.2.1)&&ai))))))))) (af ((M.p2,M.p3,M.p4,M.p5,M.p6,M.1,M.p7,M.p8),M.q9,M.2.1))))) λr=>af (bW r)))) (0,(J.p3.1,J.p3.2.1,J.p3.p2,J.p3.p3,J.p3.p4,J.p3.q5),(J.2.1.1,J.2.1.2.1,J.2.1.p2,J.2.1.p3,J.2.1.p4,J.2.1.p5,J.2.1.q6),J.p2,(aJ (T:=(.sl aM)) U.2.1 x.p2),J.p4,J.p5,J.p6,J.p7,J.p8,J.p9,J.p10,J.q11))))))
def Ev (x:dJ×Xz×Int×Int×Int×Int×Int×(List Int)×List Int):Option (Yf0×(List Int)×List (List Int)):=Ap @iter x
def pM (x:dJ×Xz×Int×Int×Int×Int×Int×(List Int)×List Int):Option (Yf0×(List Int)×List (List Int)):=Ap @fU x
def jz (x:dJ×Int×Int×Int×Int×Int×(List Int)×List Int):Option (Bool):=
 (jn (α:=Bool) (bd x.p2 3 (bI kB x.1.1 x.p3 λJ=>(aF (!J.2.2.2.1))) (bd x.p2 4 (bI kB x.1.1 x.p3 λI=>(aF (!I.2.2.2.1))) (aF aj))) λM=>(af M))
def vq (it:yH) (x:dJ×List gm):Option Yf2:=
 (obind (m8 x) λy1=>(iF y1.2 0 (af (([]:List (List Int)),([]:List (List Int)),y1.2)) (obind (nQ x.1) λy2=>(ck (cY 0 (aY x.2)&&cY (aY x.2) (aY x.2)&&bc (aS (aY x.2)) 24) (it (Int×(dJ×List gm)×(List (List Int))×(List (List Int))×Xz×List (Int×Int)) _ (λI=>(bB I.1 (aY x.2) (bI jt x.2 I.1 λM=>(obind (pM (I.2.1.1,I.p4,M)) λJ=>(ck (fk I.1 (al I.p2)) (kF (.sl aM) (cq I.p2 I.1 J.2.1) I.1 λz6=>(obind (xx z6) λU=>(ck (fk I.1 (al I.p3)) (jn (α:=(dJ×List gm)×(List (List Int))×(List (List Int))×Yf0×GY×List (List Int)) (bd M.2.1 3 (bcase (Oc (K:=aM) (V:=aM) M.p2 I.q5) (kF (.sl aM) (cq I.p2 I.1 J.2.1) I.1 λz9=>(kF (.sl aM) (cq I.p3 I.1 U) (s9 (K:=aM) (V:=aM) M.p2 I.q5 0) λz10=>(obind (jw (z9,z10)) λZ=>(ck (fk I.1 (al (cq I.p3 I.1 U))) (kF (.sl aM) (cq (cq I.p3 I.1 U) I.1 Z) I.1 λz12=>(obind (xx z12) λy13=>(ck (fk M.1 (al J.2.2)) (aF (I.2.1,(cq I.p2 I.1 J.2.1),(cq (cq I.p3 I.1 U) I.1 Z),J.1,I.q5,(cq J.2.2 M.1 y13)))))))))) (aF (I.2.1,(cq I.p2 I.1 J.2.1),(cq I.p3 I.1 U),J.1,I.q5,J.2.2))) (bd M.2.1 4 (aF (I.2.1,(cq I.p2 I.1 J.2.1),(cq I.p3 I.1 U),J.1,(CQ (K:=aM) (V:=aM) M.p2 I.1 I.q5),J.2.2)) (aF (I.2.1,(cq I.p2 I.1 J.2.1),(cq I.p3 I.1 U),J.1,I.q5,J.2.2)))) λY=>(cK ((cC I.1),Y.1,Y.2.1,Y.p2,(Y.q5,Y.p3),Y.p4))))))))) (aF (I.p2,I.p3,0)))) (0,x,(aG (aS (aY x.2)) ([]:List Int)),(aG (aS (aY x.2)) ([]:List Int)),y2,([]:List (Int×Int))))))))
def za (x:dJ×List gm):Option Yf2:=vq @iter x
def mL (x:dJ×List gm):Option Yf2:=vq @fU x
def xC (it:yH) (x:dJ×List gm):Option (GY×Int):=
 (obind (mL x) λy1=>(iF y1.2.2 0 (af (([]:List (Int×Int)),y1.2.2)) (bF (cY 0 (aY x.2)&&cY (aY x.2) (aY x.2)&&bc (aS (aY x.2)) 16) (it (Int×(dJ×List gm)×Yf1×GY×List (Int×Int)) _ (λI=>(bB I.1 (aY x.2) (jn (α:=(dJ×List gm)×Yf1×GY×List (Int×Int)) (bI jt x.2 I.1 λz4=>(jn (α:=(dJ×List gm)×Yf1×GY×GY×Int×Int×Int×Int×Int×(List Int)×List Int) (bd z4.1 0 (aF (I.2.1,((cC I.p2.1),I.p2.2),I.p3,I.q4,0,z4.2)) (bd z4.1 1 (aF (I.2.1,(I.p2.1,(cC I.p2.2.1),I.p2.2.2),I.p3,I.q4,1,z4.2)) (bd z4.1 2 (aF (I.2.1,(I.p2.1,I.p2.2.1,(cC I.p2.p2),I.p2.q3),I.p3,I.q4,2,z4.2)) (bd z4.1 3 (aF (I.2.1,(I.p2.1,I.p2.2.1,I.p2.p2,(cC I.p2.q3)),I.p3,I.q4,3,z4.2)) ah)))) λJ=>(jn (α:=(dJ×List gm)×Yf1×GY×GY×Int×Int×Int×Int×Int×(List Int)×List Int) (bd J.p4 0 (ck (fk I.1 (al J.p2)) (aF (J.1,J.2.1,(cq J.p2 I.1 (J.2.1.1,0)),J.p3,0,J.q5))) (bd J.p4 1 (ck (fk I.1 (al J.p2)) (aF (J.1,J.2.1,(cq J.p2 I.1 (J.2.1.2.1,1)),J.p3,1,J.q5))) (bd J.p4 2 (ck (fk I.1 (al J.p2)) (aF (J.1,J.2.1,(cq J.p2 I.1 (J.2.1.p2,2)),J.p3,2,J.q5))) (bd J.p4 3 (ck (fk I.1 (al J.p2)) (aF (J.1,J.2.1,(cq J.p2 I.1 (J.2.1.q3,3)),J.p3,3,J.q5))) ah)))) λY=>(obind (jz (Y.1.1,Y.q4)) λy7=>(bcase (!y7) (aF (Y.1,Y.2.1,Y.p2,Y.p3)) (bF (cY 0 I.1&&cY I.1 (al Y.1.2)) (it (Int×(dJ×List gm)×Yf1×GY×GY×Int×Int×Int×Int×Int×(List Int)×List Int) _ (λM=>(bB M.1 (aQ (al (dA (aS I.1) Y.1.2))) (jn (α:=(dJ×List gm)×Yf1×GY×GY×Int×Int×Int×Int×Int×(List Int)×List Int) (bI jt (dA (aS I.1) Y.1.2) M.1 λZ=>(jn (α:=Bool×(dJ×List gm)×Yf1×GY×GY×Int×Int×Int×Int×Int×(List Int)×List Int) (obind (jz (M.2.1.1,Z)) λy12=>(bcase y12 (bd Z.p2 M.p7 (iF Z.1 M.p5 (bd Z.2.1 4 (aF (ai,M.2)) (aF ((decide ((M.p6:Int)=4)),M.2))) (aF (aj,M.2))) (aF (aj,M.2))) (aF (aj,M.2)))) λx11=>(jn (α:=Bool×(dJ×List gm)×Yf1×GY×GY×Int×Int×Int×Int×Int×(List Int)×List Int) (bcase x11.1 (bI (.sl aM) y1.1 I.1 λz14=>(kF gj x11.p3 M.1 λz15=>(obind (ml (z14,z15)) λy16=>(aF ((!y16),x11.2))))) (aF (aj,x11.2))) λU=>(bcase U.1 (bF (bc (al U.p4+al ([(M.1,I.1)])) 16) (aF (U.2.1,U.p2,U.p3,(U.p4++([(M.1,I.1)])),U.q5))) (aF U.2))))) λx9=>(cK ((cC M.1),x9))) (aF (bW (M.2.1,M.p2,M.p3,M.p4))))) (0,Y)))))))) λx3=>(cK ((cC I.1),x3))) (aF (I.q4,0)))) (0,x,(0,0,0,0),(aG (aS (aY x.2)) ((0,0):Int×Int)),([]:List (Int×Int)))))))
def BL (x:dJ×List gm):Option (GY×Int):=xC @iter x
def mK (x:dJ×List gm):Option (GY×Int):=xC @fU x
def tH (x:Unit):Option (Bool):=
 (obind (CS ()) λM=>(obind (mK (M,[(0,1,(-1),0,(-1),([]:List Int),([]:List Int)),(0,20,1,0,0,([]:List Int),([]:List Int)),(1,1,(-1),0,(-1),([]:List Int),([]:List Int)),(0,4,0,5,0,([]:List Int),([]:List Int)),(0,4,1,6,0,([]:List Int),([]:List Int)),(1,3,1,6,6,([]:List Int),([]:List Int)),(1,3,0,5,6,([]:List Int),([]:List Int))])) λI=>(jn (α:=Bool) (bd I.2 0 (bd (aY I.1) 1 (bI gj I.1 0 λJ=>(aF (Lj (.pr aM (.pr aM .un)) (J.1,J.2,()) (4,5,()) !=aj))) (aF aj)) (aF aj)) λU=>(af U))))
def um (x:GY×Int×Int):Option (Bool):=
 (iter (σ:=Int×Int×Int) (λI=>(bB I.1 (aY x.1) (bI gj x.1 I.1 λJ=>(bcase (Lj (.pr aM (.pr aM .un)) (J.1,J.2,()) (I.2.1,I.2.2,()) !=aj) (aF ai) (cK ((cC I.1),I.2)))) (aF aj))) (0,x.2))
def lY (x:(List Int)×(List Int)×List Int):Option (Bool):=
 (obind (kZ (x,50)) λZ=>(obind (mK Z) λY=>(obind (rA Z) λI=>(jn (α:=Bool) (iF Y.2 0 (aF ai) (aF (!decide ((I.2:Int)=0)))) λx4=>(bcase x4 (af aj) (iter (σ:=Int) (λM=>(bB M (aY I.1) (bI gj I.1 M λU=>(jn (α:=Bool) (bI gj I.1 0 λz8=>(bd U.2 z8.2 (obind (um (Y.1,U)) λy9=>(aF (!y9))) (aF aj))) λx7=>(bcase x7 (aF aj) (cK (cC M))))) (obind (obind (tH ()) λJ=>(af J)) λr=>af (bW r)))) 0))))))
def HS.tS (h:HS):List (List Int)×List (List Int)×List (List Int)×List (List Int)×List (List Int)×List Int×List (List Int)×List Int:=(h.S,h.L,h.R,h.C,h.F,h.X,h.N,h.W)
theorem ace {n:Int} {w:vE} {h:HS} (o:PN n h) (hn:n+1<=1000000) {e:EV} (ok:EOK w h e) {x:ETp} (hx:EvT e x):pM (w,h.t,x)=af ((FF w h e).1.tS,(FF w h e).2,(FF w h e).1.T):=by
 have s2:=S6 o ok hx;have hce:En (n+1) (vS w h e):=Kw o ok.th4;have en:=Ry o hn ok hx hce;have cp:=Nj h.t o.GH;have sE:=NT (w:=w) o e;have sl:=FG w h e;have hlen:=vx w h e (vS w h e);obtain⟨x1,x2,x3,x4,x5,x6,x7⟩:=x;obtain⟨Z,Y,U,M,J,I⟩:=w;have t1:=hx.th;simp only at t1;subst t1;unfold HS.t at cp;simp only[] at cp;have fT:fk (e.th:Int) h.T.length=ai:=c5 ok.th;unfold pM Ap HS.t xd D9 aV bh bw ct dQ iU uV xf Lb Prod.q12 cN eZ nF Ny ck bB v9 bF aY cK cC;simp only[];rw[cp,c9];simp only[];rw[cB fT,cB fT,s2,c9];simp only[];rw[cB (by simp only[VR rfl,iQ])];refine EI (sg (Z,Y,U,M,J,I) h e).length (by omega) (λi=>((i:Int),(Z,Y,U,M,J,I),((e.th:Int),x2,x3,x4,x5,x6,x7),h.X,((sg (Z,Y,U,M,J,I) h e).take i).foldl jl (h.T.getD e.th []),h.T,h.S,h.L,h.R,h.C,h.F,h.N,h.W)) ?_ ?_ ?_
 .simp only[lI,List.take_zero,List.foldl_nil];rfl
 .intro i hi;simp only[];rw[vm (by simp;omega),dI,cB (c5 hi),lI,(xM _ _ (o.T e.th) (λy hy=>sE y (gY hy))).join (sE _ (Dd hi)),c9,pE hi (by omega),Js _ _ _ hi]
 .simp only[];rw[ye (by simp),ec,fe (bP _)];have hl:=abn (w:=(Z,Y,U,M,J,I)) o e e.th;rw[XA _ e.th (xM _ _ (o.T e.th) sE).lb ok.th4 hl.1 hl.2,c9];unfold HS.e at en;unfold vS at en hlen;rw[en,c9];simp only[];rw[cB (by rw[hlen.1,hlen.2.1,hlen.2.2.1,hlen.2.2.2.1,hlen.2.2.2.2.1,hlen.2.2.2.2.2.1,hlen.2.2.2.2.2.2.1,hlen.2.2.2.2.2.2.2];simp only[VR rfl,iQ])];rfl
theorem ZT {w:WT} {l:List ET} {cl:Nat->List Int} (tr:TR (w,l)) (C:CL w l cl) {i:Nat} (hi:i<l.length):pM (w,(xA w l cl i).t,eN l i)=af ((ik w (xA w l cl i) (cQ l i) (TB w l cl i)).tS,TB w l cl i,(ik w (xA w l cl i) (cQ l i) (TB w l cl i)).T):=by
 have hl:=tr.len;dsimp only at hl;exact ace (Ov tr C hi) (by omega) (E9 tr C hi) (uE tr hi)
theorem Rz (w:vE) (h:HS) {e:EV} (k:e.k=3) (c:List Int):ik w h e c={h with T:=h.T.set e.th c}:=by
 unfold ik;simp only[];repeat' split
 all_goals first|rfl|omega
theorem NL {n:Nat} {f:Nat->List Int} {i k:Nat} (h:k<i) (g:k<n):aJ (T:=.sl (.int .i64)) (tA n f [] i) (k:Int)=f k:=by
 rw[lI];unfold tA;rw[ax,a8,md g];simp[h]
abbrev mgI (u:Int) (m:List (Int×Int)):Option Int:=s_ (K:=.int .i64) (V:=.int .i64) u m
theorem WG {u v:Int} {m:List (Int×Int)} (h:mgI u m=af v):Oc (K:=.int .i64) (V:=.int .i64) u m=ai/\s9 (K:=.int .i64) (V:=.int .i64) u m 0=v:=by
 have h:s_ (K:=.int .i64) (V:=.int .i64) u m=af v:=h;unfold Oc s9;rw[h];exact⟨rfl,rfl⟩
theorem aeb {u:Int} {m:List (Int×Int)} (h:mgI u m=ah):Oc (K:=.int .i64) (V:=.int .i64) u m=aj:=by
 have h:s_ (K:=.int .i64) (V:=.int .i64) u m=ah:=h;unfold Oc;rw[h]
theorem Qd {w:WT} {l:List ET} (tr:TR (w,l)):mL (w,l)=af ((dT l.length).map (sM w l),(dT l.length).map (xm w l),0):=by
 have hl:=tr.len;dsimp only at hl;have C:=CL_S w l;refine cD ?_;unfold mL vq aV bh bw cN ck bd bB iF bI kF aY cK aF cC;refine aU (Nv tr) (fJ (aU (P4 tr) ?_));refine cW (cW (dv (by dsimp only[au];omega) (dv (by omega) (bi (by simp;omega) (by omega) ?_))));refine cW (cW (dv (by dsimp only[au];omega) (dv (by omega) (bi (by simp;omega) (by omega) ?_))));refine gJ l.length (by omega) (λi x=>x.1=(i:Int)/\x.2.1=(w,l)/\x.2.2.1=tA l.length (sM w l) [] i/\x.2.2.2.1=tA l.length (xm w l) [] i/\x.2.2.2.2.1=(xA w l (xm w l) i).t/\∀ u:Nat,mgI (u:Int) x.2.2.2.2.2=if 0<=G8 l u i then af (G8 l u i) else ah) ?_ ?_ ?_
 .rintro i ⟨x,y,a,b,h,m⟩ hi ⟨e1,e2,e3,Y,U,hm⟩;dsimp only at e1 e2 e3 Y U hm;subst e1;subst e2;subst e3;subst Y;subst U;have k1:∀ {R α:Type} {f:Nat->α} {z:α} {j:Nat} {k:Option R} {Q:R->Prop},Ok k Q->Ok (chk (fk (i:Int) (tA l.length f z j).length) λ_=>k) Q:=λh=>aR (by omega) (by rw[xk];omega) h
  have s1:cq (tA l.length (sM w l) [] i) (i:Int) (sM w l i)=tA l.length (sM w l) [] (i+1):=by rw[eB,Ee hi]
  have kb:=(air tr C hi).lb;have kc:=(Vv tr C hi).lb;have et:=uE tr hi;have hz:(eN l i).2.1=((cQ l i).k:Int):=et.k;refine dg (cE (aT (aU (ZT tr C hi) ?_)));dsimp only;rw[s1];refine k1 (k1 (k1 (k1 (aT ?_))));rw[NL (qO i) hi];refine aU (D7 _ kb) (k1 (k1 ?_));refine aX (λx=>x.1=(w,l)/\x.2.1=tA l.length (sM w l) [] (i+1)/\x.2.2.1=tA l.length (xm w l) [] (i+1)/\(x.2.2.2.2.2,x.2.2.2.1)=((xA w l (xm w l) (i+1)).T,(xA w l (xm w l) (i+1)).tS)/\∀ u:Nat,mgI (u:Int) x.2.2.2.2.1=if 0<=G8 l u (i+1) then af (G8 l u (i+1)) else ah) ?_ ?_
  .have sK:xm w l i=sM w l i->cq (tA l.length (xm w l) [] i) (i:Int) (sM w l i)=tA l.length (xm w l) [] (i+1):=λe=>by rw[<- e,eB,Ee hi]
   have Z:xm w l i=sM w l i->((ik w (xA w l (xm w l) i) (cQ l i) (sM w l i)).T,(ik w (xA w l (xm w l) i) (cQ l i) (sM w l i)).tS)=((xA w l (xm w l) (i+1)).T,(xA w l (xm w l) (i+1)).tS):=λe=>by rw[xA,e]
   have hls:¬(cQ l i).k=4->∀ u,G8 l u (i+1)=G8 l u i:=λk u=>by rw[G8,aA λq=>k q.1]
   refine aK (λI=>?_) λI=>aK (λM=>ar ?_) λM=>ar ?_
   .have I:(eN l i).2.1=3:=I;have I:(cQ l i).k=3:=by omega
    have ob:(eN l i).2.2.1=((cQ l i).ob:Int):=et.ob (by rw[I];decide);change Ok (bcase (Oc (K:=.int .i64) (V:=.int .i64) (eN l i).2.2.1 m) _ _) _;have hmo:=hm (cQ l i).ob;by_cases q:0<=G8 l (cQ l i).ob i
    .have rd:Wr l i:=⟨I,q⟩
     have hs:=Ej rd;have hsl:Qi l i<l.length:=by omega
     have er:G8 l (cQ l i).ob i=(Qi l i:Int):=by unfold Qi;omega
     rw[aE q,er] at hmo;rw[<- ob] at hmo;refine fD (WG hmo).1 ?_;have U:aJ (T:=.sl (.int .i64)) (cq (tA l.length (xm w l) [] i) (i:Int) (sM w l i)) (Qi l i:Int)=xm w l (Qi l i):=by
      rw[eB,lI,oN,aA λq=>by omega];have:=NL (f:=xm w l) hs hsl;rw[lI] at this;exact this
     have J:xm w l i=jl (sM w l i) (xm w l (Qi l i)):=by rw[Il,aE rd]
     have e7:cq (cq (tA l.length (xm w l) [] i) (i:Int) (sM w l i)) (i:Int) (jl (sM w l i) (xm w l (Qi l i)))=tA l.length (xm w l) [] (i+1):=by rw[<- J,eB,eB,List.set_set,Ee hi]
     have ln:(cq (tA l.length (xm w l) [] i) (i:Int) (sM w l i)).length=l.length:=by rw[bT,xk]
     have kd:=(Vv tr C hsl).lb;refine k1 (k1 (aT ?_));rw[(WG hmo).2];refine aR (by omega) (by rw[ln];omega) (aR (by omega) (by rw[ln];omega) (aT ?_));rw[U];refine aU (XG _ _ kb kd) (aR (by omega) (by rw[ln];omega) (aR (by omega) (by rw[ln];omega) ?_));rw[e7];refine k1 (k1 (aT ?_));rw[NL (qO i) hi];have et1:(eN l i).1=((cQ l i).th:Int):=et.th;have hth:(cQ l i).th<(ik w (xA w l (xm w l) i) (cQ l i) (TB w l (xm w l) i)).T.length:=by rw[(vx ..).1];exact (E9 tr C hi).th
     refine aU (D7 _ kc) (aR (j:=(eN l i).1) (by omega) (by omega) (aR (j:=(eN l i).1) (by omega) (by omega) (ar ⟨rfl,rfl,rfl,?_,λu=>?_⟩)))
     .dsimp only;rw[show (aJ (T:=tE) l (i:Int)).1=((cQ l i).th:Int) from et1,eB,xA,Rz _ _ I,Rz _ _ I];simp only[List.set_set];rfl
     .rw[hls (by omega)];exact hm u
    .rw[aA q,<-ob] at hmo;have nr:¬Wr l i:=λr=>q r.2
     have J:xm w l i=sM w l i:=by rw[Il,aA nr]
     refine fI (aeb hmo) (ar ⟨rfl,rfl,sK J,Z J,λu=>?_⟩);rw[hls (by omega)];exact hm u
   .have M:(eN l i).2.1=4:=M;have M:(cQ l i).k=4:=by omega
    have J:xm w l i=sM w l i:=agq (by omega);have ob:(aJ (T:=tE) l (i:Int)).2.2.1=((cQ l i).ob:Int):=et.ob (by rw[M];decide);refine ⟨rfl,rfl,sK J,Z J,λu=>?_⟩;dsimp only;rw[ob];unfold mgI;rw[Ez];by_cases q:(cQ l i).ob=u
    .have e:G8 l u (i+1)=i:=by rw[G8,aE ⟨M,q⟩]
     rw[e,aE (by omega),aE (by omega)]
    .have e:G8 l u (i+1)=G8 l u i:=by rw[G8,aA λr=>q r.2]
     rw[e,aA (by omega)];exact hm u
   .have M:¬(eN l i).2.1=4:=M;have I:¬(eN l i).2.1=3:=I;have J:xm w l i=sM w l i:=agq (by omega);exact⟨rfl,rfl,sK J,Z J,λu=>by rw[hls (by omega)];exact hm u⟩
  rintro⟨x1,x2,x3,x4,x5,x6⟩ ⟨f1,f2,f3,f4,f5⟩;dsimp only at f1 f2 f3 f4 f5;subst f1;subst f2;subst f3;obtain⟨rfl,rfl⟩:=aD .. ▸f4;exact ar ⟨gM (by omega),rfl,rfl,rfl,rfl,f5⟩
 .rintro⟨x,y,a,b,h,m⟩ ⟨e1,e2,e3,Y,U,hm⟩;dsimp only at e1 e2 e3 Y U hm;subst e1;subst e2;subst e3;subst Y;refine db (ar ?_);dsimp only;rw[NP,NP]
 .refine ⟨rfl,rfl,?_,?_,rfl,λu=>rfl⟩
  .dsimp only;rw[Cq];rfl
  .dsimp only;rw[Cq];rfl
theorem ZP {w:WT} {l:List ET} (tr:TR (w,l)) {a b:Nat} (I:a<l.length) (hb:b<l.length):(eN l a).1=(eN l b).1↔(cQ l a).th=(cQ l b).th:=by
 have:=(uE tr I).th;have:=(uE tr hb).th;omega
theorem Zz (x:ET):vg x=af (decide (x.2.1=3\/x.2.1=4)):=by
 refine cD ?_;unfold vg bd aF;refine gA (aK (λh=>ar (ar ?_)) λh=>ar (ar ?_))
 .exact (aO (.inl h)).symm
 .by_cases q:x.2.1=4<;>simp[h,q]
def ZC (e:EV):Bool:=decide (e.k=3\/e.k=4)
theorem Tv {w:WT} {l:List ET} (tr:TR (w,l)) {j:Nat} (hj:j<l.length):vg (eN l j)=af (ZC (cQ l j)):=by
 rw[Zz,(uE tr hj).k];unfold ZC;congr 1;rw[ZD];omega
def fL (p:Nat->Bool) (i:Nat):List Int:=((dT i).filter p).map aQ
theorem YU:uo=vg:=rfl
def cnB (l:List ET) (a b:Nat):Bool:=decide (¬(cQ l a).th=(cQ l b).th/\ZC (cQ l a)=ai/\ZC (cQ l b)=ai/\(cQ l a).ob=(cQ l b).ob/\((cQ l a).k=4\/(cQ l b).k=4))
theorem zZ {w:WT} {l:List ET} (tr:TR (w,l)) {a:Nat} (I:a<l.length) (h:ZC (cQ l a)=ai):(eN l a).2.2.1=((cQ l a).ob:Int):=(uE tr I).ob (by rcases bf h with h|h<;>rw[h]<;>decide)
theorem Sp {w:WT} {l:List ET} (tr:TR (w,l)) {a b:Nat} (J:a<l.length) (hb:b<l.length):qu ((w,l),(a:Int),(b:Int))=af (cnB l a b&& !wa w.1 (cQ l b).ob):=by
 refine cD ?_;unfold qu cnB aV bh bL bd bI aF;rw[YU];have ka:(eN l a).2.1=(cQ l a).k:=(uE tr J).k;have kb:(eN l b).2.1=(cQ l b).k:=(uE tr hb).k;refine cE (aT (cE (aT ?_)));have fin:∀ {p:Prop} [Decidable p] {v:Bool},¬p->aj=(decide p&&v):=λh=>by rw[bz h];rfl
 refine aX (λx=>x.2=((w,l),eN l a,eN l b)/\(x.1=aj↔¬(eN l a).1=(eN l b).1/\(eN l a).2.2.1=(eN l b).2.2.1)) (aK (λh=>ar ⟨rfl,?_⟩) λh=>ar ⟨rfl,?_⟩) ?_
 .have h:(eN l a).1=(eN l b).1:=h;exact⟨λq=>(by cases q),λq=>(q.1 h).elim⟩
 .have h:¬(eN l a).1=(eN l b).1:=h;change (!decide ((eN l a).2.2.1=(eN l b).2.2.1))=aj↔_;rw[Bool.not_eq_false',bt];exact⟨λq=>⟨h,q⟩,λq=>q.2⟩
 rintro⟨x,y⟩ ⟨e,h⟩;dsimp only at e h;subst e;refine aP (λI=>ar (fin λq=>?_)) λI=>?_
 .have h1:=h.2 ⟨λr=>q.1 ((ZP tr J hb).1 r),by rw[zZ tr J q.2.1,zZ tr hb q.2.2.1,q.2.2.2.1]⟩;rw[show x=ai from I] at h1;cases h1
 obtain⟨U,Y⟩:=h.1 I;have U:¬(cQ l a).th=(cQ l b).th:=λq=>U ((ZP tr J hb).2 q)
 refine aX (λx=>x.2=(eN l a,eN l b)/\(x.1=aj↔ZC (cQ l a)=ai/\ZC (cQ l b)=ai/\wa w.1 (cQ l b).ob=aj)) ?_ ?_
 .refine aU (Tv tr J) (dS (λh1=>ar ⟨rfl,λq=>(by cases q),λq=>(by rw[q.1] at h1;cases h1)⟩) λh1=>aU (Tv tr hb) (dS (λh2=>ar ⟨rfl,λq=>(by cases q),λq=>(by rw[q.2.1] at h2;cases h2)⟩) λh2=>?_));have hk:=bf h2;have ce:=((Jz tr hb).ce hk).2;change Ok (chk (fk (eN l a).2.2.1 (al w.1)) λ_=>lt (aJ (T:=NK) w.1 (eN l a).2.2.1) λz=>af (bW (z.2.2.2.1,eN l a,eN l b))) _;rw[Y,zZ tr hb h2];refine cE (aT (ar ⟨rfl,?_⟩));rw[OK];exact⟨λq=>⟨h1,h2,q⟩,λq=>q.2.2⟩
 rintro⟨x,y⟩ ⟨e,h⟩;dsimp only at e h;subst e;refine aP (λI=>ar ?_) λI=>gA ?_
 .symm
  rw[NC];intro q;obtain⟨M,Z⟩:=dN.1 q;have M:=bf M;have h1:=h.2 ⟨M.2.1,M.2.2.1,by simpa using Z⟩;rw[show x=ai from I] at h1;cases h1
 .obtain⟨h1,h2,h5⟩:=h.1 I;rw[zZ tr J h1,zZ tr hb h2] at Y;rw[h5,Bool.not_false,Bool.and_true];refine aK (λg=>ar (ar ?_)) λg=>ar (ar ?_)
  .have g:(eN l a).2.1=4:=g;exact (aO ⟨U,h1,h2,by omega,by omega⟩).symm
  .have g:¬(eN l a).2.1=4:=g;change decide ((eN l b).2.1=4)=_;rw[ZD];exact⟨λq=>⟨U,h1,h2,by omega,by omega⟩,λq=>by omega⟩
def N2 (w:WT) (l:List ET) (cl:Nat->List Int) (a b:Nat):Bool:=cnB l a b&&(!wa w.1 (cQ l b).ob&& !decide ((tB l (cQ l a).th a:Int)+1<=(cl b).getD (cQ l a).th 0))
def rI (w:WT) (l:List ET) (cl:Nat->List Int) (b:Nat):Nat->List (Int×Int)
 |0=>[]
 |i+1=>if N2 w l cl i b=ai then rI w l cl b i++[((i:Int),(b:Int))] else rI w l cl b i
def rO (w:WT) (l:List ET) (cl:Nat->List Int):Nat->List (Int×Int)
 |0=>[]
 |b+1=>rO w l cl b++rI w l cl b b
theorem N5 (w:WT) (l:List ET) (cl:Nat->List Int) (b:Nat):∀ i,(rI w l cl b i).length<=i
 |0=>bP _
 |i+1=>by
  have:=N5 w l cl b i;rw[rI];split
  .rw[bm,dR];omega
  .omega
theorem Ip (w:WT) (l:List ET) (cl:Nat->List Int):∀ b,b<=1000->(rO w l cl b).length<=b*1000
 |0,_=>jX _
 |b+1,h=>by
  have:=Ip w l cl b (by omega);have:=N5 w l cl b b;rw[rO,bm];omega
theorem Ek {w:WT} {l:List ET} {cl:Nat->List Int} {b:Nat} {p:Int×Int}:∀ i,p∈rI w l cl b i->∃ a:Nat,a<i/\N2 w l cl a b=ai/\p=((a:Int),(b:Int))
 |i+1,h=>by
  rw[rI] at h;split at h
  .rename_i q;rcases bQ.1 h with h|h
   .obtain⟨a,h1,h2⟩:=Ek i h;exact⟨a,by omega,h2⟩
   .exact⟨i,by omega,q,aL.1 h⟩
  .obtain⟨a,h1,h2⟩:=Ek i h;exact⟨a,by omega,h2⟩
theorem N3 {w:WT} {l:List ET} {cl:Nat->List Int} {p:Int×Int}:∀ n,p∈rO w l cl n->∃ a b:Nat,a<b/\b<n/\N2 w l cl a b=ai/\p=((a:Int),(b:Int))
 |n+1,h=>by
  rw[rO] at h;rcases bQ.1 h with h|h
  .obtain⟨a,b,h1,h2,I⟩:=N3 n h;exact⟨a,b,h1,by omega,I⟩
  .obtain⟨a,h1,h2⟩:=Ek n h;exact⟨a,n,h1,by omega,h2⟩
theorem af0 {l:List ET} {cl:Nat->List Int} {i:Nat} (h:i<l.length):aJ (T:=.sl (.int .i64)) ((dT l.length).map cl) (i:Int)=cl i:=by
 rw[lI,ax,a8,md h];rfl
theorem aci {w:WT} {l:List ET} (tr:TR (w,l)):rA (w,l)=af (rO w l (sO w l) l.length,0):=by
 have hl:=tr.len;dsimp only at hl;refine cD ?_;unfold rA Ar bB iF bF bI aY cK aF cC;refine aU (Nv tr) (fJ (aU (Yr tr) ?_));refine gJ l.length (by omega) (λb x=>x=((b:Int),(w,l),rO w l (sO w l) b)) ?_ ?_ rfl
 .rintro b x hb rfl;have hO:=Ip w l (sO w l) b (by omega);refine dg ?_;refine gJ b (by omega) (λi x=>x=((i:Int),(w,l),rO w l (sO w l) b++rI w l (sO w l) b i)) ?_ ?_ ?_
  .rintro i x hi rfl;have I:=N5 w l (sO w l) b i;refine dg ?_;refine aX (λx=>x=((w,l),rO w l (sO w l) b++rI w l (sO w l) b (i+1))) ?_ ?_
   .refine aX (λx=>x=(N2 w l (sO w l) i b,(w,l),rO w l (sO w l) b++rI w l (sO w l) b i)) ?_ ?_
    .refine aU (Sp tr (show i<l.length by omega) hb) ?_;unfold N2;refine aP (λh=>?_) λh=>ar ?_
     .obtain⟨h1,h2⟩:=dN.1 h;refine aR (by dsimp only;omega) (by dsimp only;rw[bY,jT];omega) (aT (aR (by dsimp only;omega) (by dsimp only;rw[bY,jT];omega) (aT ?_)));dsimp only;rw[abe hb,abc (show i<l.length by omega)];refine aU (K9 _ _ _) (ar ?_);rw[h1,h2];rfl
     .rw[<- Bool.and_assoc,h];rfl
    rintro x rfl;rw[rI];refine aP (λh=>bi ?_ (by omega) (ar ?_)) λh=>ar ?_
    .dsimp only;rw[bm,dR];omega
    .dsimp only;rw[aE h,gH]
    .dsimp only at h ⊢;rw[aA (by rw[h];decide)]
   rintro x rfl;refine ar ?_;dsimp only;rw[gM (by omega)]
  .rintro x rfl;refine db (ar ?_);dsimp only;rw[gM (by omega)];rfl
  .rw[rI,hY];rfl
 .rintro x rfl;exact db (ar rfl)
abbrev c4 (l:List ET) (i:Nat):Int×Int×Int×Int:=((tB l 0 i:Int),(tB l 1 i:Int),(tB l 2 i:Int),(tB l 3 i:Int))
theorem th4 {t:Nat} (h:t<4):t=0\/t=1\/t=2\/t=3:=by omega
theorem Qr {w:WT} {l:List ET} (tr:TR (w,l)) {j:Nat} (hj:j<l.length):jz (w,eN l j)=af (ZC (cQ l j)&& !wa w.1 (cQ l j).ob):=by
 refine cD ?_;unfold jz aV bh bd bI aF;have et:=uE tr hj;have J:(eN l j).2.1=((cQ l j).k:Int):=et.k;have vol:ZC (cQ l j)=ai->∀ {Q:Bool->Prop},(Q (!wa w.1 (cQ l j).ob))->Ok (chk (fk (eN l j).2.2.1 (al w.1)) λ_=>lt (aJ (T:=NK) w.1 (eN l j).2.2.1) λz=>af (bW (!z.2.2.2.1))) (jnQ (R:=Bool) (λx=>af x) Q):=λI {Q} q=>by
  have ce:=((Jz tr hj).ce (bf I)).2;rw[zZ tr hj I];refine aR (by omega) (by omega) (aT (ar ?_));rw[OK];exact ar q
 refine Qx (aK (λh=>?_) λh=>aK (λg=>?_) λg=>ar (ar ?_))
 .have h:(eN l j).2.1=3:=h;have I:ZC (cQ l j)=ai:=aO (by omega);exact vol I (by rw[I];rfl)
 .have g:(eN l j).2.1=4:=g;have I:ZC (cQ l j)=ai:=aO (by omega);exact vol I (by rw[I];rfl)
 .have h:¬(eN l j).2.1=3:=h;have g:¬(eN l j).2.1=4:=g;have I:ZC (cQ l j)=aj:=bz (by omega);rw[I];rfl
theorem Xo {l:List ET} {b t:Nat} (h:(cQ l b).th=t) (ht:t<4):c4 l (b+1)=(if t=0 then (tB l 0 b:Int)+1 else tB l 0 b,if t=1 then (tB l 1 b:Int)+1 else tB l 1 b,if t=2 then (tB l 2 b:Int)+1 else tB l 2 b,if t=3 then (tB l 3 b:Int)+1 else tB l 3 b):=by
 have key:∀ u,(tB l u (b+1):Int)=if t=u then (tB l u b:Int)+1 else tB l u b:=λu=>by
  rw[tB,h];split<;>simp
 unfold c4;rw[key,key,key,key]
theorem XN {l:List ET} {a b:Nat} (h:a<b):aJ (T:=tE) (l.take b) (a:Int)=eN l a:=by
 show _=aJ (T:=tE) l (a:Int);rw[uA,uA,ax,cH,aE h,ax]
theorem Z4 {w:WT} {l:List ET} {cl:Nat->List Int} {b:Nat} (h:∀ a,N2 w l cl a b=aj):∀ i,rI w l cl b i=[]
 |0=>rfl
 |i+1=>by rw[rI,aA (by rw[h];decide)];exact Z4 h i
theorem ado {n:Nat} {f:Nat->Int×Int} {i k:Nat} (h:k<i) (g:k<n):aJ (T:=.st (.pr (.int .i64) (.int .i64))) (tA n f (0,0) i) (k:Int)=f k:=by
 rw[uA];unfold tA;rw[ax,a8,md g];simp[h]
theorem TX {w:WT} {l:List ET} (tr:TR (w,l)):mK (w,l)=af (rO w l (sM w l) l.length,0):=by
 have hl:=tr.len;dsimp only at hl;refine cD ?_;unfold mK xC aV bh bw ct dQ iU bL dc cN ck bd bB iF bF bI kF aY cK aF cC;refine aU (Qd tr) (fJ (cW (cW (dv (by dsimp only[au];omega) (dv (by omega) (bi (by simp;omega) (by omega) ?_))))));refine gJ l.length (by omega) (λb x=>x=((b:Int),(w,l),c4 l b,tA l.length (MW l) (0,0) b,rO w l (sM w l) b)) ?_ ?_ ?_
 .rintro b x hb rfl;have hO:=Ip w l (sM w l) b (by omega);have et:=uE tr hb;have th:(eN l b).1=((cQ l b).th:Int):=et.th;have kb:(eN l b).2.1=((cQ l b).k:Int):=et.k;have t4:=(Jz tr hb).th4;have cle:=λu=>Ku l u b
  refine dg ?_;refine aX (λx=>x=((w,l),c4 l (b+1),tA l.length (MW l) (0,0) (b+1),rO w l (sM w l) (b+1))) ?_ ?_
  .refine cE (aT ?_);refine aX (λx=>x=((w,l),c4 l (b+1),tA l.length (MW l) (0,0) b,rO w l (sM w l) b,eN l b)) ?_ ?_
   .have fin:∀ t:Nat,t<4->(aJ (T:=tE) l (b:Int)).1=(t:Int)->(cQ l b).th=t:=λt _ h=>by
     have h:(eN l b).1=(t:Int):=h;omega
    have Y:∀ t:Nat,(cQ l b).th=t->((t:Int),(aJ (T:=tE) l (b:Int)).2)=eN l b:=λt h=>by
     show _=aJ (T:=tE) l (b:Int);rw[<- h,<-th]
    have U:∀ u,bn .i64 ((tB l u b:Int)+1)=(tB l u b:Int)+1:=λu=>io (by omega) (by have:=cle u;omega)
    refine aK (λq=>ar ?_) λq0=>aK (λq=>ar ?_) λM=>aK (λq=>ar ?_) λJ=>aK (λq=>ar ?_) λq3=>?_
    .have h:=fin 0 (by omega) q;rw[Xo h (by omega),<-Y 0 h];dsimp only;rw[U];rfl
    .have h:=fin 1 (by omega) q;rw[Xo h (by omega),<-Y 1 h];dsimp only;rw[U];rfl
    .have h:=fin 2 (by omega) q;rw[Xo h (by omega),<-Y 2 h];dsimp only;rw[U];rfl
    .have h:=fin 3 (by omega) q;rw[Xo h (by omega),<-Y 3 h];dsimp only;rw[U];rfl
    .exfalso;have q0:¬(eN l b).1=0:=q0;have M:¬(eN l b).1=1:=M;have J:¬(eN l b).1=2:=J;have q3:¬(eN l b).1=3:=q3;omega
   rintro x rfl;refine aX (λx=>x=((w,l),c4 l (b+1),tA l.length (MW l) (0,0) (b+1),rO w l (sM w l) b,eN l b)) ?_ ?_
   .have co:=DP l b;have fin:∀ t:Nat,(eN l b).1=(t:Int)->((w,l),c4 l (b+1),cq (tA l.length (MW l) (0,0) b) (b:Int) ((tB l t (b+1):Int),(t:Int)),rO w l (sM w l) b,(t:Int),(eN l b).2)=((w,l),c4 l (b+1),tA l.length (MW l) (0,0) (b+1),rO w l (sM w l) b,eN l b):=λt h=>by
     have e:t=(cQ l b).th:=by omega
     have e2:((tB l t (b+1):Int),(t:Int))=MW l b:=by
      unfold MW;rw[e,co];rfl
     rw[e2,eB,Ee hb,<-h]
    have k1:∀ {R:Type} {k:Option R} {Q:R->Prop},Ok k Q->Ok (chk (fk (b:Int) (tA l.length (MW l) (0,0) b).length) λ_=>k) Q:=λh=>aR (by omega) (by rw[xk];omega) h
    refine aK (λq=>k1 (k1 (ar (fin 0 q)))) λq0=>aK (λq=>k1 (k1 (ar (fin 1 q)))) λM=>aK (λq=>k1 (k1 (ar (fin 2 q)))) λJ=>aK (λq=>k1 (k1 (ar (fin 3 q)))) λq3=>?_
    exfalso;have q0:¬(eN l b).1=0:=q0;have M:¬(eN l b).1=1:=M;have J:¬(eN l b).1=2:=J;have q3:¬(eN l b).1=3:=q3;omega
   rintro x rfl;refine aU (Qr tr hb) (dS (λhp=>ar ?_) λhp=>?_)
   .have:∀ a,N2 w l (sM w l) a b=aj:=λa=>by
     cases hr:N2 w l (sM w l) a b with
     |false=>rfl
     |true=>
      unfold N2 at hr;obtain⟨h1,h2⟩:=dN.1 hr;obtain⟨h2,_⟩:=dN.1 h2;have h1:=(bf h1).2.2.1;rw[h1,h2] at hp;cases hp
    rw[rO,Z4 this,hY]
   obtain⟨hpa,hpv⟩:=dN.1 hp;refine cW (dv (by dsimp only;omega) (dv (by dsimp only;omega) ?_));refine gJ b (by omega) (λa x=>x=((a:Int),(w,l),c4 l (b+1),tA l.length (MW l) (0,0) (b+1),rO w l (sM w l) b++rI w l (sM w l) b a,eN l b)) ?_ ?_ ?_
   .rintro a x Z rfl;have I:a<l.length:=by omega
    have hI:=N5 w l (sM w l) b a;have eta:=uE tr I;have tha:(eN l a).1=((cQ l a).th:Int):=eta.th;have ka:(eN l a).2.1=((cQ l a).k:Int):=eta.k;have htk:(l.take b).length=b:=by rw[bA];omega
    refine dg ?_ (by dsimp only[au];rw[show aS (b:Int)=b from dx b,htk];omega);refine aX (λx=>x=((w,l),c4 l (b+1),tA l.length (MW l) (0,0) (b+1),rO w l (sM w l) b++rI w l (sM w l) b (a+1),eN l b)) ?_ ?_
    .refine aR (by dsimp only;omega) (by dsimp only;rw[show aS (b:Int)=b from dx b,htk];omega) (aT ?_);dsimp only;rw[show aS (b:Int)=b from dx b,XN Z];refine aX (λx=>x=((cnB l a b&& !wa w.1 (cQ l b).ob),(w,l),c4 l (b+1),tA l.length (MW l) (0,0) (b+1),rO w l (sM w l) b++rI w l (sM w l) b a,eN l b)) ?_ ?_
     .refine aU (Qr tr I) (aP (λh=>?_) λh=>ar ?_)
      .obtain⟨h1,h2⟩:=dN.1 h;have fin:∀ {v:Bool},v=cnB l a b->(v,(w,l),c4 l (b+1),tA l.length (MW l) (0,0) (b+1),rO w l (sM w l) b++rI w l (sM w l) b a,eN l b)=((cnB l a b&& !wa w.1 (cQ l b).ob),(w,l),c4 l (b+1),tA l.length (MW l) (0,0) (b+1),rO w l (sM w l) b++rI w l (sM w l) b a,eN l b):=λ{v} e=>by rw[e,hpv,Bool.and_true]
       have oa:=zZ tr I h1;have ob:=zZ tr hb hpa;unfold cnB at fin ⊢;refine aK (λg=>b8 (λf=>aK (λe=>ar (fin ?_)) λe=>ar (fin ?_)) λf=>ar (fin ?_)) λg=>ar (fin ?_)
       .have g:(eN l a).2.2.1=(eN l b).2.2.1:=g;have f:¬(eN l a).1=(eN l b).1:=f;have e:(eN l a).2.1=4:=e;exact (aO ⟨by omega,h1,hpa,by omega,by omega⟩).symm
       .have g:(eN l a).2.2.1=(eN l b).2.2.1:=g;have f:¬(eN l a).1=(eN l b).1:=f;have e:¬(eN l a).2.1=4:=e;change decide ((eN l b).2.1=4)=_;rw[ZD];exact⟨λq=>⟨by omega,h1,hpa,by omega,by omega⟩,λq=>by omega⟩
       .have f:(eN l a).1=(eN l b).1:=f;exact (bz λq=>q.1 (by omega)).symm
       .have g:¬(eN l a).2.2.1=(eN l b).2.2.1:=g;exact (bz λq=>g (by omega)).symm
      .have e:(cnB l a b&& !wa w.1 (cQ l b).ob)=aj:=by
        cases hr:(cnB l a b&& !wa w.1 (cQ l b).ob) with
        |false=>rfl
        |true=>
         obtain⟨h1,h2⟩:=dN.1 hr;have h1:=bf h1;rw[h1.2.1,h1.2.2.2.1,h2] at h;cases h
       rw[e]
     rintro x rfl;refine aX (λx=>x=(N2 w l (sM w l) a b,(w,l),c4 l (b+1),tA l.length (MW l) (0,0) (b+1),rO w l (sM w l) b++rI w l (sM w l) b a,eN l b)) ?_ ?_
     .unfold N2;refine aP (λh=>?_) λh=>ar ?_
      .obtain⟨h1,h2⟩:=dN.1 h;refine aR (by omega) (by rw[bY,jT];omega) (aT (aR (by omega) (by rw[xk];omega) (aR (by omega) (by rw[xk];omega) (aT ?_))));dsimp only;rw[af0 hb,ado (show a<b+1 by omega) I];refine aU (K9 _ _ _) (ar ?_);rw[h1,h2];rfl
      .dsimp only at h ⊢;rw[<- Bool.and_assoc,h];rfl
     rintro x rfl;rw[rI];refine aP (λh=>bi ?_ (by omega) (ar ?_)) λh=>ar ?_
     .dsimp only;rw[bm,dR];omega
     .dsimp only;rw[aE h,gH]
     .dsimp only at h ⊢;rw[aA (by rw[h];decide)]
    rintro x rfl;refine ar ?_;dsimp only;rw[gM (by omega)]
   .rintro x rfl;refine db (ar ?_) (by dsimp only[au];rw[show aS (b:Int)=b from dx b,bA];omega);dsimp only;rw[rO]
   .rw[rI,hY];rfl
  rintro x rfl;refine ar ?_;dsimp only;rw[gM (by omega)]
 .rintro x rfl;exact db (ar rfl)
 .show _=_;rw[Cq];rfl
theorem afk:tH ()=af ai:=by kernel_rfl
end
end Go.Proofs.YtgijlolllojpaaaGreatDoor.AI
