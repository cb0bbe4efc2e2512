/-
  Texts of the proof, part 3 of 6: what is used to prove the statement. No condition.
-/
import Derived.Test.YtgijlolllojpaaaGreatDoorShbRacesQ1
namespace Go.Proofs.YtgijlolllojpaaaGreatDoor.AI
open Go.RowKit
set_option maxRecDepth 100000
set_option maxHeartbeats 4000000
set_option linter.unusedVariables false
set_option linter.unusedSimpArgs false
open _root_.Bool renaming true→ai,false→aj
open _root_.Classical renaming propDecidable→zm
open _root_.Int renaming ofNat_eq_natCast→au,ofNat→aP,toNat→aT,reduceEq→aV,reduceNeg→bt,toNat_natCast→cZ
open _root_.List renaming length→al,replicate→aG,range→bx,length_cons→cf,length_singleton→c9,take→dI,cons_append→gC,length_nil→j8,nil_append→md,foldl_cons→xK,take_zero→L6
open _root_.Nat renaming beq→aC,add_zero→dD
open _root_.Option renaming some→af,none→ah,map_some→cr,getD_some→vD
open _root_.Prod renaming p2→aX,p3→bf,p4→bu,q3→bK,p5→ch,q5→cN,q4→dx,p6→dC,q6→fg,p7→ja,q7→kP,q8→nZ,p8→vC,p10→xF,p9→xG,p11→EM,q11→L4,q9→OO
open _root_.Sum renaming inr→bO,inl→kO
noncomputable section
def NE (op:Int):Prop:=op=1\/op=2\/op=3\/op=14
def ZE (e:Xp):Prop:=GE 4 e\/e= .mk 0 0 [] []
structure NO (nT:Nat) (s:Sx):Prop where
 o0:1<=s.op
 o1:s.op<=15
 vr:s.op=1->s.index=[]->s.name∈NV
 lk:s.op=4->s.name=[109]\/s.name=[110]
 rw:s.op=5\/s.op=6->s.name=[114]
 cn:s.op=9\/s.op=10\/s.op=11->s.name=[99]
 sp:s.op=12\/s.op=13->s.name∈wK.take nT
 se:s.op=14->s.name=[102]
 ge:s.op=15->s.name=[97]/\s.arg=[102]
 el:¬s.op=2->s.els=[]
 bo:s.op=1\/9<=s.op->s.body=[]
variable {nT:Nat}
def GS (nT:Nat):Nat->Sx->Prop
 |0,_=>False
 |d+1,s=>(s.index≠[]->s.name=[113])/\s.index.length<=1/\(∀e∈s.index,GE 4 e)/\(NE s.op->GE 4 s.expr)/\ZE s.expr/\s.body.length<=8/\s.els.length<=8/\(∀x∈s.body,GS nT d x)/\(∀x∈s.els,GS nT d x)/\NO nT s
theorem GS.mono:∀{d:Nat} {s:Sx},GS nT d s->GS nT (d+1) s
 |0,_,h=>h.elim
 |_+1,_,⟨a,b,c,e,f,g,i,j,k,l⟩=>⟨a,b,c,e,f,g,i,λx I=>(j x I).mono,λx I=>(k x I).mono,l⟩
theorem GS.le {d k:Nat} {s:Sx} (h:GS nT d s) (hk:d<=k):GS nT k s:=by
 induction hk with
 |refl=>exact h
 |step _ I=>exact I.mono
theorem NO.asg {s a:ζ} {e:Xp} {i:List Xp} (hs:i=[]->s∈NV):NO nT (.mk 1 0 s a i e [] []):=by
 constructor<;>simp[Sx.op,Sx.name,Sx.index,Sx.els,Sx.body];exact λh=>by simpa using hs h
theorem GS.asg {d:Nat} {s:ζ} (hs:s∈NV) {e:Xp} (h:GE 4 e):GS nT (d+1) (.mk 1 0 s [] [] e [] []):=
 ⟨λh=>(h rfl).elim,by simp[Sx.index],λe he=>(by cases he),λ_=>h,.inl h,by simp[Sx.body],by simp[Sx.els],λx I=>(by cases I),λx I=>(by cases I),NO.asg λ_=>hs⟩
theorem GS.aix {d:Nat} {i e:Xp} (hi:GE 4 i) (h:GE 4 e):GS nT (d+1) (.mk 1 0 [113] [] [i] e [] []):=
 ⟨λ_=>rfl,by simp[Sx.index],λe he=>(by simp only[Sx.index,aL]at he;rw[he];exact hi),λ_=>h,.inl h,by simp[Sx.body],by simp[Sx.els],λx I=>(by cases I),λx I=>(by cases I),NO.asg λh=>(by cases h)⟩
theorem GS.we {d:Nat} {op:Int} {s a:ζ} {e:Xp} {b l:List Sx} (h:GE 4 e) (hb:b.length<=8) (hl:l.length<=8) (I:∀x∈b,GS nT d x) (gl:∀x∈l,GS nT d x) (hn:NO nT (.mk op 0 s a [] e b l)):GS nT (d+1) (.mk op 0 s a [] e b l):=
 ⟨λh=>(h rfl).elim,by simp[Sx.index],λe he=>(by cases he),λ_=>h,.inl h,hb,hl,I,gl,hn⟩
theorem GS.wo {d:Nat} {op ln:Int} {s a:ζ} {b:List Sx} (M:4<=op/\op≠14) (hb:b.length<=8) (J:∀x∈b,GS nT d x) (hn:NO nT (.mk op ln s a [] (.mk 0 0 [] []) b [])):GS nT (d+1) (.mk op ln s a [] (.mk 0 0 [] []) b []):=
 ⟨λh=>(h rfl).elim,by simp[Sx.index],λe he=>(by cases he),λh=>(by have h:op=1\/op=2\/op=3\/op=14:=h;omega),.inr rfl,hb,by simp[Sx.els],J,λx I=>(by cases I),hn⟩
def QS (nT:Nat) (d:Nat) (n:Int) (t:QV) (h:HD) (y:MK×QV×HD×List Sx):Prop:=(y.2.2.2.length:Int)<=max 0 n/\(∀s∈y.2.2.2,GS nT (d+1) s)/\vz t y.2.1/\y.2.2.1.2=h.2
def QT (nT:Nat) (d:Nat) (t:QV) (h:HD) (y:Sx×MK×QV×HD):Prop:=GS nT (d+1) y.1/\vz t y.2.2.1/\y.2.2.2.2=h.2
def QB (nT:Nat) (d:Nat) (t:QV) (h:HD) (y:List Sx×MK×QV×HD):Prop:=y.1.length<=2/\(∀s∈y.1,GS nT (d+1) s)/\vz t y.2.2.1/\y.2.2.2.2=h.2
abbrev RS:Type:=(Γ×MK×QV×HD)->Option (MK×QV×HD×List Sx)
abbrev RT:Type:=(Int×MK×QV×HD)->Option (Sx×MK×QV×HD)
abbrev RBk:Type:=((ζ×Int)×MK×QV×HD)->Option (List Sx×MK×QV×HD)
def SpS (nT:Nat) (rs:RS) (d:Nat):Prop:=∀(n:Int) (m:MK) (t:QV) (h:HD),n<=3->TP t->h.2.length+d<=100->Ok (rs (((d:Int),n),m,t,h)) (QS nT d n t h)
def SpT (nT:Nat) (I:RT) (d:Nat):Prop:=∀(m:MK) (t:QV) (h:HD),TP t->h.2.length+d<=100->Ok (I ((d:Int),m,t,h)) (QT nT d t h)
def SpB (nT:Nat) (I:RBk) (d:Nat):Prop:=∀(s:ζ) (m:MK) (t:QV) (h:HD),TP t->h.2.length+1+d<=100->Ok (I ((s,(d:Int)),m,t,h)) (QB nT d t h)
theorem ZF (rs:RS) (M:RT) (rb:RBk) (d:Nat) (ht:SpT nT M d):SpS nT (mP rs M rb) d:=by
 intro n m t h hn hp hh;unfold mP aX bf bu bK dx cN bd bA bE cK aF cH eA;refine qF (λx=>(n-x.1).toNat) (λx=>0<=x.1/\(x.1<=n\/x.1=0)/\vz t x.2.2.1/\(x.2.2.2.1.length:Int)<=x.1/\(∀s∈x.2.2.2.1,GS nT (d+1) s)/\x.2.2.2.2.2=h.2) ?_ ⟨eE _,.inr rfl,vz.refl hp,by simp,λs hs=>(by cases hs),rfl⟩;rintro⟨(i:Int),m',t',l,h'⟩ ⟨i0,i1,e1,e2,e3,J⟩;dsimp only at i0 i1 e1 e2 e3 J;refine aY (λx=>x.2=(m',t',l,h')/\(x.1=ai->i<n)) ?_ ?_
 .refine bJ (λg=>aJ (λ_=>ar ⟨rfl,λ_=>g⟩) λ_=>ar ⟨rfl,λ_=>g⟩) λ_=>ar ⟨rfl,λh=>(by cases h)⟩
 rintro⟨b,x⟩ ⟨Z,Y⟩;dsimp only at Z Y;subst Z;refine aO (λhb=>?_) λ_=>ar ⟨by dsimp only;omega,e3,e1,J⟩
 have g:=Y hb;refine ax (ht m' t' h' e1.p (by rw[J];exact hh)) λy hy=>?_
 obtain⟨s,m2,t2,h2⟩:=y;obtain⟨k1,k2,U⟩:=hy;dsimp only at k1 k2 U;refine bh (by simp) (bg (by simp;omega) (by omega) (ar ?_));dsimp only;rw[fB,zF,hP (n:=i+1) (by omega) (by omega)];refine ⟨⟨by omega,by omega,e1.trans k2,by simp;omega,λx I=>?_,U.trans J⟩,by omega⟩;rcases bY.1 I with I|I
 .exact e3 x I
 .rw[aL]at I;subst I;exact k1
theorem ZI (rs:RS) (rt:RT) (rb:RBk) (d:Nat) (hs:SpS nT rs d):SpB nT (mQ rs rt rb) d:=by
 intro s m t h hp hh;unfold mQ aX bf bK dx bE aZ;refine bg (by simp;omega) (by omega) ?_;refine ax (gA 2 t hp) λy M=>?_
 obtain⟨k,t1⟩:=y;obtain⟨J,Z,I,_⟩:=M;have I:=I (by decide);dsimp only at J Z I;have ew:bk .i64 (1+k)=1+k:=hP (by omega) (by omega);dsimp only;rw[ew];refine ax (hs (1+k) m t1 (h.1,h.2++[s]) (by omega) J.p (by simp;omega)) λy M=>?_
 obtain⟨m2,t2,h2,l⟩:=y;obtain⟨k1,k2,Y,U⟩:=M;dsimp only at k1 k2 Y U;refine bh (by simp) ?_;dsimp only;rw[U];have el:bk .i64 ((aP (h.2++[s]).length)-1)=(h.2.length:Int):=by
  rw[bm,c9,hP (by simp<;>omega) (by simp<;>omega)];simp<;>omega
 rw[el];refine dc (dN (by omega) (AL (by simp;omega) (ar ?_)));refine ⟨by dsimp only;omega,k2,J.trans Y,?_⟩;show dI (aT (h.2.length:Int)) (h.2++[s])=h.2;simp
theorem DE (s:ζ) (m:MK) (t:QV) (h:HD) (hh:h.2.length<=100):Ok (eX (s,m,t,h)) λy=>y.2=(m,t,h):=by
 unfold eX dx;exact ax (zk h.2 s (by omega)) λy _=>ar rfl
theorem ado (rs:RS) (rt:RT) (rb:RBk) (d:Nat) (hd:d<=5) (h0:1<=d->SpS nT rs 0) (hS:1<=d->SpS nT rs (d-1)) (hB:1<=d->SpB nT rb (d-1)):SpT nT (oB rs rt rb) d:=by
 intro m t h hp hh;unfold oB aX bf bu bK dx cN bd bA bE kl aF eA;refine ax (gA 18 t hp) λy J=>?_
 obtain⟨k,t1⟩:=y;obtain⟨s1,k0,k1,_⟩:=J;have k1:=k1 (by decide);dsimp only at s1 k0 k1;have hE:∀(j:Nat) (m':MK) (t':QV) (h':HD),j<=1->TP t'->Ok (fy ((j:Int),m',t',h')) λy=>GE 4 y.1/\y.2.1=m'/\vz t' y.2.2.1/\y.2.2.2=h':=λj m' t' h' hj ht'=>(acu j (by omega) m' t' h' ht').mono λy J=>⟨J.1.le (by omega),J.2⟩
 have ed:bk .i64 ((d:Int)-1)=(d:Int)-1:=hP (by omega) (by omega);have ed1:1<=d->(d:Int)-1=((d-1:Nat):Int):=λ_=>by omega
 refine aY (λx=>x.2=((m.1,bk .i64 (m.2.1-1),m.2.2),t1,(0,0,[],[],0,0,[]),h)/\(x.1=ai->1<=d)) ?_ ?_
 .refine bJ (λg=>aR (bJ (λ_=>ar ⟨rfl,λ_=>?_⟩) λ_=>ar ⟨rfl,λh=>(by cases h)⟩)) λ_=>ar ⟨rfl,λh=>(by cases h)⟩
  dsimp only at g;omega
 generalize ((m.1,bk .i64 (m.2.1-1),m.2.2):MK)=m0;rintro⟨nest,x⟩ ⟨e,hn⟩;dsimp only at e hn;subst e;refine bJ (λ_=>?_) λg4=>?_
 .refine aS k0 (by dsimp only[al];omega) (aS k0 (by dsimp only[al];omega) (aR ?_));refine ax (hE 1 m0 t1 h (by omega) s1.p) λy J=>?_
  obtain⟨e,m2,t2,h2⟩:=y;obtain⟨v1,v2,v3,v4⟩:=J;dsimp only at v1 v2 v3 v4;subst v2;subst v4;refine bh (by simp) (aU (uv _ _) (ar ?_));dsimp only;rw[fB,zF];have hnv:∀z∈([[120],[121],[120],[118]]:List ζ),z∈NV:=by decide
  exact⟨GS.asg (hnv _ (bL (T:=.str) k0 (by dsimp only[al];omega))) v1,s1.trans v3,rfl⟩
 dsimp only at g4;refine aJ (λ_=>?_) λg5=>?_
 .refine ax (gA 2 t1 s1.p) λy J=>?_
  obtain⟨u1,u2,u3,_⟩:=J;have u3:=u3 (by decide);refine aS u2 u3 (aS u2 u3 (aR ?_));refine ax (hE 1 m0 y.2 h (by omega) u1.p) λz U=>?_
  obtain⟨e,m2,t2,h2⟩:=z;obtain⟨v1,v2,v3,v4⟩:=U;dsimp only at v1 v2 v3 v4;subst v2;subst v4;refine bh (by simp) (aU (uv _ _) (ar ?_));dsimp only;rw[fB,zF];have hnv:∀z∈([[97],[98]]:List ζ),z∈NV:=by decide
  exact⟨GS.asg (hnv _ (bL (T:=.str) u2 u3)) v1,s1.trans (u1.trans v3),rfl⟩
 dsimp only at g5;refine aJ (λ_=>?_) λg6=>?_
 .refine ax (hE 0 m0 t1 h (by omega) s1.p) λz U=>?_
  obtain⟨e,m2,t2,h2⟩:=z;obtain⟨v1,v2,v3,v4⟩:=U;dsimp only at v1 v2 v3 v4;subst v2;subst v4;refine bh (by simp) ?_;refine ax (hE 1 m2 t2 h2 (by omega) v3.p) λz U=>?_
  obtain⟨e',m3,t3,h3⟩:=z;obtain⟨w1,Z,w3,w4⟩:=U;dsimp only at w1 Z w3 w4;subst Z;subst w4;refine bh (by simp) (ar ?_);dsimp only;rw[fB,fB];exact⟨GS.aix v1 w1,s1.trans (v3.trans w3),rfl⟩
 dsimp only at g6;have U:∀(c:Prop),c->c:=λ_ h=>h
 have dd:1<=d->d-1+1=d:=λ_=>by omega
 have w8:8<=k->bk .i64 (k-8)=k-8:=λ_=>hP (by omega) (by omega)
 refine aY (λx=>x.2=(m0,t1,(0,0,[],[],0,0,[]),h)/\(x.1=ai->1<=d)) ?_ ?_
 .refine aJ (λ_=>ar ⟨rfl,λg=>?_⟩) λ_=>ar ⟨rfl,λh=>(by cases h)⟩
  dsimp only at g;rw[ud]at g;omega
 rintro⟨b,x⟩ ⟨e,hb⟩;dsimp only at e hb;subst e;refine aO (λI=>?_) λ_=>?_
 .have M:=hb I;refine ax (hE 1 m0 t1 h (by omega) s1.p) λz U=>?_
  obtain⟨e,m2,t2,h2⟩:=z;obtain⟨v1,v2,v3,v4⟩:=U;dsimp only at v1 v2 v3 v4;subst v2;subst v4;refine bh (by simp) ?_;dsimp only;rw[ed,ed1 M];refine ax (hS M 1 m2 t2 h2 (by omega) v3.p (by omega)) λz U=>?_
  obtain⟨m3,t3,h3,l⟩:=z;obtain⟨w1,Z,w3,w4⟩:=U;dsimp only at w1 Z w3 w4;rw[dd M]at Z;refine bh (by simp) ?_;refine aY (λx=>x.2.2.2.1=(2,0,[],[],e.op,e.n,e.name,e.l)/\vz t1 x.2.1/\x.2.2.2.2.1.2=h2.2/\x.2.2.2.2.2.1=l/\x.2.2.2.2.2.2.length<=8/\∀s∈x.2.2.2.2.2.2,GS nT d s) ?_ ?_
  .refine ax (gA 2 t3 w3.p) λy J=>?_
   refine aJ (λ_=>?_) λ_=>ar ⟨rfl,v3.trans (w3.trans J.1),w4,rfl,by simp,λs hs=>(by cases hs)⟩
   dsimp only;refine ax (hS M 1 m3 y.2 h3 (by omega) J.1.p (by rw[w4];omega)) λz U=>?_
   obtain⟨m4,t4,h4,l2⟩:=z;obtain⟨x1,x2,x3,x4⟩:=U;dsimp only at x1 x2 x3 x4;rw[dd M]at x2;exact bh (by simp) (ar ⟨rfl,v3.trans (w3.trans (J.1.trans x3)),x4.trans w4,rfl,by dsimp only;omega,x2⟩)
  rintro⟨m5,t5,z5,e5,h5,l5,l6⟩ ⟨x1,x2,x3,x4,x5,x6⟩;dsimp only at x1 x2 x3 x4 x5 x6;subst x1;subst x4;refine ar ?_;dsimp only;rw[fB];exact⟨GS.we v1 (by first|omega|(dsimp only;omega)) x5 Z x6 (by constructor<;>simp[Sx.op,Sx.name,Sx.index,Sx.arg,Sx.els,Sx.body]),s1.trans x2,x3⟩
 refine aY (λx=>x.2=(m0,t1,(0,0,[],[],0,0,[]),h)/\(x.1=ai->1<=d)) ?_ ?_
 .refine aJ (λ_=>ar ⟨rfl,λg=>?_⟩) λ_=>ar ⟨rfl,λh=>(by cases h)⟩
  dsimp only at g;rw[ud]at g;omega
 rintro⟨b,x⟩ ⟨e,hb⟩;dsimp only at e hb;subst e;refine aO (λI=>?_) λ_=>?_
 .have M:=hb I;refine aU (Ix _) (aU (Pe _) (aU (F6 _ _ _) ?_));dsimp only;rw[ed,ed1 M];refine ax (hS M 1 _ t1 h (by omega) s1.p (by omega)) λz U=>?_
  obtain⟨m3,t3,h3,l⟩:=z;obtain⟨w1,Z,w3,w4⟩:=U;dsimp only at w1 Z w3 w4;rw[dd M]at Z;refine bh (by simp) ?_;refine aU (Ix _) (aU (Pe _) (aU (F6 _ _ _) (aU (uv _ _) ?_)));refine bg (by simp;omega) (by omega) (ar ?_);dsimp only;rw[fB,fB,zF];refine ⟨GS.we (GE.bin (by omega) (GE.nm (by decide) 2) (GE.num _ 2)) (by simp;omega) (by simp) (λx Y=>?_) (λx Y=>(by cases Y)) (by constructor<;>simp[Sx.op,Sx.name,Sx.index,Sx.arg,Sx.els,Sx.body]),s1.trans w3,w4⟩;rcases bY.1 Y with Y|Y
  .exact Z x Y
  .rw[aL]at Y;subst Y;rw[<- dd M];exact GS.asg (by decide) (GE.bin (by omega) (GE.nm (by decide) 2) (GE.num _ 2))
 refine aY (λx=>x.2=(m0,t1,(0,0,[],[],0,0,[]),h)/\(x.1=ai->nest=ai/\(k=8\/k=9))) ?_ ?_
 .refine aJ (λg=>aO (λgn=>?_) λ_=>ar ⟨rfl,λh=>(by cases h)⟩) λ_=>aJ (λg=>aO (λgn=>?_) λ_=>ar ⟨rfl,λh=>(by cases h)⟩) λ_=>ar ⟨rfl,λh=>(by cases h)⟩
  all_goals
   dsimp only at g ⊢;rw[w8 (by omega)];refine aS (by omega) (by simp;omega) (aS (by omega) (by simp;omega) (aR ?_));refine ax (DE _ m0 t1 h (by omega)) λy J=>?_
   obtain⟨yb,y2⟩:=y;dsimp only at J;subst J;exact bh (by simp) (ar ⟨rfl,λ_=>⟨gn,by omega⟩⟩)
 rintro⟨b,x⟩ ⟨e,hb⟩;dsimp only at e hb;subst e;refine aO (λI=>?_) λ_=>?_
 .obtain⟨q1,q2⟩:=hb I;have M:=hn q1;have hnm:aK (T:=.str) [[109],[110]] (k-8)=[109]\/aK (T:=.str) [[109],[110]] (k-8)=[110]:=by rcases q2 with rfl|rfl<;>simp[aK]
  dsimp only;rw[w8 (by omega),ed,ed1 M];refine aS (by omega) (by simp;omega) (aS (by omega) (by simp;omega) (aR ?_));refine ax (hB M _ m0 t1 h s1.p (by omega)) λz U=>?_
  obtain⟨l,m3,t3,h3⟩:=z;obtain⟨w1,Z,w3,w4⟩:=U;dsimp only at w1 Z w3 w4;rw[dd M]at Z;exact bh (by simp) (ar ⟨GS.wo (by omega) (by first|omega|(dsimp only;omega)) Z (by constructor<;>simp[Sx.op,Sx.name,Sx.index,Sx.arg,Sx.els,Sx.body];exact hnm),s1.trans w3,w4⟩)
 refine aY (λx=>x.2=(m0,t1,(0,0,[],[],0,0,[]),h)/\(x.1=ai->nest=ai/\(k=10\/k=11))) ?_ ?_
 .refine aJ (λg=>aO (λgn=>?_) λ_=>ar ⟨rfl,λh=>(by cases h)⟩) λ_=>aJ (λg=>aO (λgn=>?_) λ_=>ar ⟨rfl,λh=>(by cases h)⟩) λ_=>ar ⟨rfl,λh=>(by cases h)⟩
  all_goals
   dsimp only at g ⊢;refine ax (DE _ m0 t1 h (by omega)) λy J=>?_
   obtain⟨yb,y2⟩:=y;dsimp only at J;subst J;exact bh (by simp) (ar ⟨rfl,λ_=>⟨gn,by omega⟩⟩)
 rintro⟨b,x⟩ ⟨e,hb⟩;dsimp only at e hb;subst e;refine aO (λI=>?_) λ_=>?_
 .obtain⟨q1,q2⟩:=hb I;have M:=hn q1;dsimp only;rw[ed,ed1 M,hP (n:=k-10) (by omega) (by omega),hP (n:=k-10+5) (by omega) (by omega)];refine ax (hB M _ m0 t1 h s1.p (by omega)) λz U=>?_
  obtain⟨l,m3,t3,h3⟩:=z;obtain⟨w1,Z,w3,w4⟩:=U;dsimp only at w1 Z w3 w4;rw[dd M]at Z;exact bh (by simp) (ar ⟨GS.wo (by omega) (by first|omega|(dsimp only;omega)) Z (by constructor<;>simp[Sx.op,Sx.name,Sx.index,Sx.arg,Sx.els,Sx.body]<;>omega),s1.trans w3,w4⟩)
 refine aY (λx=>x.2=(m0,t1,(0,0,[],[],0,0,[]),h)/\(x.1=ai->nest=ai)) ?_ ?_
 .exact aJ (λ_=>ar ⟨rfl,λg=>g⟩) λ_=>ar ⟨rfl,λh=>(by cases h)⟩
 rintro⟨b,x⟩ ⟨e,hb⟩;dsimp only at e hb;subst e;refine aO (λI=>?_) λ_=>?_
 .have M:=hn (hb I);refine ax (gA 2 t1 s1.p) λy J=>?_
  obtain⟨u1,u2,u3,_⟩:=J;have u3:=u3 (by decide);dsimp only;rw[hP (n:=1+y.1) (by omega) (by omega)];refine ax (h0 M (1+y.1) _ y.2 h (by omega) u1.p (by omega)) λz U=>?_
  obtain⟨m3,t3,h3,l⟩:=z;obtain⟨w1,Z,w3,w4⟩:=U;dsimp only at w1 Z w3 w4;exact bh (by simp) (ar ⟨GS.wo (by omega) (by first|omega|(dsimp only;omega)) (λx Y=>(Z x Y).le (by omega)) (by constructor<;>simp[Sx.op,Sx.name,Sx.index,Sx.arg,Sx.els,Sx.body]),s1.trans (u1.trans w3),w4⟩)
 refine aY (λx=>x.2=(m0,t1,(0,0,[],[],0,0,[]),h)/\(x.1=ai->nest=ai)) ?_ ?_
 .exact aJ (λ_=>aO (λgn=>ar ⟨rfl,λ_=>gn⟩) λ_=>ar ⟨rfl,λh=>(by cases h)⟩) λ_=>ar ⟨rfl,λh=>(by cases h)⟩
 rintro⟨b,x⟩ ⟨e,hb⟩;dsimp only at e hb;subst e;refine aO (λI=>?_) λ_=>?_
 .have M:=hn (hb I);dsimp only;rw[ed,ed1 M];refine ax (hS M 2 _ t1 h (by omega) s1.p (by omega)) λz U=>?_
  obtain⟨m3,t3,h3,l⟩:=z;obtain⟨w1,Z,w3,w4⟩:=U;dsimp only at w1 Z w3 w4;rw[dd M]at Z;exact bh (by simp) (ar ⟨GS.wo (by omega) (by first|omega|(dsimp only;omega)) Z (by constructor<;>simp[Sx.op,Sx.name,Sx.index,Sx.arg,Sx.els,Sx.body]),s1.trans w3,w4⟩)
 refine aY (λx=>x.2=(m0,t1,(0,0,[],[],0,0,[]),h)/\(x.1=ai->nest=ai)) ?_ ?_
 .refine aJ (λ_=>aO (λgn=>aO (λ_=>?_) λ_=>ar ⟨rfl,λh=>(by cases h)⟩) λ_=>ar ⟨rfl,λh=>(by cases h)⟩) λ_=>ar ⟨rfl,λh=>(by cases h)⟩
  refine ax (DE _ m0 t1 h (by omega)) λy J=>?_
  obtain⟨yb,y2⟩:=y;dsimp only at J;subst J;exact bh (by simp) (ar ⟨rfl,λ_=>gn⟩)
 rintro⟨b,x⟩ ⟨e,hb⟩;dsimp only at e hb;subst e;refine aO (λI=>?_) λ_=>?_
 .have M:=hn (hb I);refine aU (Ix _) (aU (uv _ _) (ar ?_));dsimp only;rw[fB,zF];refine ⟨GS.wo (by omega) (by simp) (λx Y=>?_) (by constructor<;>simp[Sx.op,Sx.name,Sx.index,Sx.arg,Sx.els,Sx.body]),s1,rfl⟩;simp only[bp,cF,gu]at Y;rw[<- dd M];rcases Y with rfl|rfl
  .exact GS.wo (by omega) (by simp) (λx Y=>(by cases Y)) (by constructor<;>simp[Sx.op,Sx.name,Sx.index,Sx.arg,Sx.els,Sx.body])
  .exact GS.asg (by decide) (GE.nm (by decide) 3)
 refine aY (λx=>x.2=(m0,t1,(0,0,[],[],0,0,[]),h)/\(x.1=ai->nest=ai)) ?_ ?_
 .refine aJ (λ_=>aO (λgn=>?_) λ_=>ar ⟨rfl,λh=>(by cases h)⟩) λ_=>ar ⟨rfl,λh=>(by cases h)⟩
  refine ax (DE _ m0 t1 h (by omega)) λy J=>?_
  obtain⟨yb,y2⟩:=y;dsimp only at J;subst J;exact bh (by simp) (ar ⟨rfl,λ_=>gn⟩)
 rintro⟨b,x⟩ ⟨e,hb⟩;dsimp only at e hb;subst e;refine aO (λI=>?_) λ_=>?_
 .have M:=hn (hb I);refine ax (gA 2 t1 s1.p) λy J=>ar ?_
  obtain⟨u1,u2,u3,_⟩:=J;have u3:=u3 (by decide);dsimp only;rw[hP (n:=10+y.1) (by omega) (by omega)];refine ⟨GS.wo (by omega) (by simp) (λx Y=>?_) (by constructor<;>simp[Sx.op,Sx.name,Sx.index,Sx.arg,Sx.els,Sx.body]),s1.trans u1,rfl⟩;simp only[bp,cF,gu]at Y;rw[Y,<-dd M];exact GS.wo (by omega) (by simp) (λx Y=>(by cases Y)) (by constructor<;>simp[Sx.op,Sx.name,Sx.index,Sx.arg,Sx.els,Sx.body]<;>omega)
 refine aY (λx=>x.2=(m0,t1,(0,0,[],[],0,0,[]),h)) ?_ ?_
 .exact aJ (λ_=>aO (λ_=>aO (λ_=>ar rfl) λ_=>ar rfl) λ_=>ar rfl) λ_=>ar rfl
 rintro⟨b,x⟩ e;dsimp only at e;subst e;refine aO (λI=>?_) λ_=>?_
 .refine ax (hE 1 _ t1 h (by omega) s1.p) λz U=>?_
  obtain⟨e,m2,t2,h2⟩:=z;obtain⟨v1,v2,v3,v4⟩:=U;dsimp only at v1 v2 v3 v4;subst v2;subst v4;refine bh (by simp) (ar ?_);dsimp only;rw[fB];exact⟨GS.we v1 (by simp) (by simp) (λx Y=>(by cases Y)) (λx Y=>(by cases Y)) (by constructor<;>simp[Sx.op,Sx.name,Sx.index,Sx.arg,Sx.els,Sx.body]),s1.trans v3,rfl⟩
 refine aY (λx=>x.2.1=m0/\vz t1 x.2.2.1/\x.2.2.2.2=h) ?_ ?_
 .refine aJ (λ_=>aO (λ_=>?_) λ_=>ar ⟨rfl,vz.refl s1.p,rfl⟩) λ_=>ar ⟨rfl,vz.refl s1.p,rfl⟩
  exact ax (gA 2 t1 s1.p) λy J=>ar ⟨rfl,J.1,rfl⟩
 rintro⟨b,m9,t9,z9,h9⟩ ⟨e1,e2,e3⟩;dsimp only at e1 e2 e3;subst e1;subst e3;refine aO (λI=>?_) λ_=>?_
 .exact ar ⟨GS.wo (by omega) (by simp) (λx Y=>(by cases Y)) (by constructor<;>simp[Sx.op,Sx.name,Sx.index,Sx.arg,Sx.els,Sx.body]),s1.trans e2,rfl⟩
 refine ax (hE 1 _ t9 h9 (by omega) e2.p) λz U=>?_
 obtain⟨e,m2,t2,h2⟩:=z;obtain⟨v1,v2,v3,v4⟩:=U;dsimp only at v1 v2 v3 v4;subst v2;subst v4;refine bh (by simp) (aU (uv _ _) (ar ?_));dsimp only;rw[fB,zF];exact⟨GS.asg (by decide) v1,s1.trans (e2.trans v3),rfl⟩
theorem NY:∀(n:Nat),(∀d:Nat,d<=5->3*d+1<=n->SpT nT (eO n) d)/\(∀d:Nat,d<=5->3*d+2<=n->SpS nT (dP n) d)/\(∀d:Nat,d<=5->3*d+3<=n->SpB nT (ec n) d)
 |0=>⟨λd _ h=>by omega,λd _ h=>by omega,λd _ h=>by omega⟩
 |n+1=>by
  obtain⟨J,I,M⟩:=NY n;refine ⟨λd h1 h2=>?_,λd h1 h2=>?_,λd h1 h2=>?_⟩
  .exact ado (dP n) (eO n) (ec n) d h1 (λh=>I 0 (by omega) (by omega)) (λh=>I (d-1) (by omega) (by omega)) (λh=>M (d-1) (by omega) (by omega))
  .exact ZF (dP n) (eO n) (ec n) d (J d h1 (by omega))
  .exact ZI (dP n) (eO n) (ec n) d (I d h1 (by omega))
theorem Zg (d:Nat) (hd:d<=5):SpS nT qS d:=(NY fuel).2.1 d hd (by rw[jY];omega)
def GX:Nat->Xp->Prop
 |0,_=>False
 |d+1,e=>e.l.length<=2/\∀x∈e.l,GX d x
theorem GE.x:∀{d:Nat} {e:Xp},GE d e->GX d e
 |0,_,h=>h.elim
 |_+1,_,h=>⟨h.2.2.1,λx I=>(h.2.2.2.1 x I).x⟩
theorem ZE.x {e:Xp} (h:ZE e):GX 4 e:=by
 rcases h with h|rfl
 .exact h.x
 .exact⟨by simp[Xp.l],λx I=>(by cases I)⟩
def GT:Nat->Sx->Prop
 |0,_=>False
 |d+1,s=>s.index.length<=1/\(∀e∈s.index,GX 4 e)/\GX 4 s.expr/\s.body.length<=8/\s.els.length<=8/\(∀x∈s.body,GT d x)/\(∀x∈s.els,GT d x)
theorem GS.t {nT:Nat}:∀{d:Nat} {s:Sx},GS nT d s->GT d s
 |0,_,h=>h.elim
 |_+1,_,⟨_,b,c,_,f,g,i,j,k,_⟩=>⟨b,λe he=>(c e he).x,f.x,g,i,λx I=>(j x I).t,λx I=>(k x I).t⟩
theorem yK (s:Sx):oq (Sx.op s,Sx.line s,Sx.name s,Sx.arg s,Sx.index s,em (Xp.op (Sx.expr s),Xp.n (Sx.expr s),Xp.name (Sx.expr s),Xp.l (Sx.expr s)),Sx.body s,Sx.els s)=s:=by
 rw[fB,zF]
theorem Uy (k:Int):Ok (mF k) λ_=>True:=by
 unfold mF bd iY aF;with_reducible repeat' first|(refine OS.ok ?_;constructor)|refine IM.mk λ_=>?_
 all_goals trivial
theorem rm (e:Xp):Ok (pP e) λ_=>True:=by
 unfold pP bd aF;with_reducible repeat' first|(refine OS.ok ?_;constructor)|refine IM.mk λ_=>?_
 all_goals trivial
theorem Ad:∀(n d:Nat) (e:Xp),d<n->GX d e->Ok (ik n e) λ_=>True
 |0,_,_,h,_=>by omega
 |n+1,0,_,_,h=>h.elim
 |n+1,d+1,e,hn,h=>by
  obtain⟨h1,h2⟩:=h;rw[s6];unfold mm bd bA iO bD cK aF cH;refine aY (λx=>x.2=e) (aJ (λ_=>ar (fB e)) λ_=>ar (fB e)) ?_;rintro⟨b,x⟩ J;dsimp only at J;subst J;refine aY (λy=>y.2=x) ?_ ?_
  .refine ax (Uy _) λ_ _=>?_
   with_reducible repeat' first|refine b_ (λ_=>?_) λ_=>?_|refine bJ (λ_=>?_) λ_=>?_|refine dW (λ_=>?_) λ_=>?_|refine aO (λ_=>?_) λ_=>?_|exact ar (fB x)|refine ax (iF _) λ_ _=>?_
  rintro⟨M,y⟩ I;dsimp only at I;subst I;refine aO (λ_=>ar trivial) λ_=>?_
  refine b8 y.l.length (λi x=>x.1=(i:Int)/\x.2=y) ?_ ?_ ⟨rfl,fB y⟩
  .rintro i ⟨a,z⟩ hi ⟨e1,e2⟩;dsimp only at e1 e2;subst e1;subst e2;refine di ?_;refine bZ (aR ?_);refine ax (Ad n d _ (by omega) (h2 _ (bL (T:=.ex) (xs:=z.l) (j:=(i:Int)) (by omega) (by omega)))) λ_ _=>?_
   refine dW (λ_=>ar trivial) λ_=>ar ?_
   dsimp only;exact⟨gE (by omega),fB z⟩
  .rintro⟨a,z⟩ ⟨e1,e2⟩;dsimp only at e1 e2;subst e1;subst e2;exact dj (ar trivial)
theorem gy (e:Xp) (h:GX 4 e):Ok (jp e) λ_=>True:=Ad fuel 4 e (by rw[jY];omega) h
theorem Mf (d:Int×Int×ζ×Int×Int×ζ):Ok (km d) λ_=>True:=by
 unfold km aX bf ch fg bd bA iO aF;refine aY (λ_=>True) ?_ λx _=>aO (λ_=>ar trivial) λ_=>?_
 .with_reducible repeat' first|refine b_ (λ_=>?_) λ_=>?_|refine bJ (λ_=>?_) λ_=>?_|refine dW (λ_=>?_) λ_=>?_|exact ar trivial|refine ax (iF _) λ_ _=>?_
 refine aY (λ_=>True) ?_ λx _=>aO (λ_=>ar trivial) λ_=>?_
 .with_reducible repeat' first|refine b_ (λ_=>?_) λ_=>?_|refine aJ (λ_=>?_) λ_=>?_|refine dW (λ_=>?_) λ_=>?_|exact ar trivial|refine ax (iF _) λ_ _=>?_
 with_reducible repeat' first|(refine OS.ok ?_;constructor)|refine IM.mk λ_=>?_
 all_goals trivial
theorem HZ (I:Sx->Option Bool) (rs:List Sx->Option Bool) (l:List Sx) (hl:l.length<=1000) (h:∀s∈l,Ok (I s) λ_=>True):Ok (jG I rs l) λ_=>True:=by
 unfold jG bA vp aZ cK aF cH;refine b8 l.length (λi x=>x=(i:Int)) ?_ ?_ rfl
 .rintro i x hi rfl;refine di ?_;refine bZ ?_;refine ax (h _ (bL (T:=.sm) (xs:=l) (j:=(i:Int)) (by omega) (by omega))) λ_ _=>?_
  exact dW (λ_=>ar trivial) λ_=>ar (gE (by omega))
 .rintro x rfl;exact dj (ar trivial)
theorem Kc (J:Sx->Option Bool) (rs:List Sx->Option Bool) (s:Sx) (h1:∀e∈s.index,GX 4 e) (h2:GX 4 s.expr) (hb:Ok (rs s.body) λ_=>True) (he:Ok (rs s.els) λ_=>True):Ok (ko J rs s) λ_=>True:=by
 unfold ko bd bA iY iO bD aF eA;refine aY (λx=>x.2=s) ?_ ?_
 .with_reducible repeat' first|refine b_ (λ_=>?_) λ_=>?_|refine aJ (λ_=>?_) λ_=>?_|refine bJ (λ_=>?_) λ_=>?_|refine e_ (λ_=>?_) λ_=>?_|refine dW (λ_=>?_) λ_=>?_|refine aO (λ_=>?_) λ_=>?_|exact ar (yK _)|refine ax (iF _) λ_ _=>?_|refine ax (rm _) λ_ _=>?_|refine ax (gy _ h2x) λ_ _=>?_
 rintro⟨b,x⟩ I;dsimp only at I;have I:=I.symm;subst I;refine aO (λ_=>ar trivial) λ_=>?_
 refine aY (λx=>x.2=s) ?_ ?_
 .with_reducible repeat' first|refine b_ (λ_=>?_) λ_=>?_|refine aJ (λ_=>?_) λ_=>?_|refine bJ (λ_=>?_) λ_=>?_|refine e_ (λ_=>?_) λ_=>?_|refine dW (λ_=>?_) λ_=>?_|refine aO (λ_=>?_) λ_=>?_|exact ar (yK _)|refine ax (iF _) λ_ _=>?_|refine ax (rm _) λ_ _=>?_|refine ax (gy _ h2x) λ_ _=>?_
 rintro⟨b,x⟩ I;dsimp only at I;have I:=I.symm;subst I;refine aY (λx=>x.2=s) ?_ ?_
 .with_reducible repeat' first|refine b_ (λ_=>?_) λ_=>?_|refine aJ (λ_=>?_) λ_=>?_|refine bJ (λ_=>?_) λ_=>?_|refine e_ (λ_=>?_) λ_=>?_|refine dW (λ_=>?_) λ_=>?_|refine aO (λ_=>?_) λ_=>?_|exact ar (yK _)|refine ax (iF _) λ_ _=>?_|refine ax (rm _) λ_ _=>?_|refine ax (gy _ h2x) λ_ _=>?_
 rintro⟨b,x⟩ I;dsimp only at I;have I:=I.symm;subst I;refine aO (λ_=>ar trivial) λ_=>?_
 refine aY (λx=>x.2=s) ?_ ?_
 .with_reducible repeat' first|refine b_ (λ_=>?_) λ_=>?_|refine aJ (λ_=>?_) λ_=>?_|refine bJ (λ_=>?_) λ_=>?_|refine e_ (λ_=>?_) λ_=>?_|refine dW (λ_=>?_) λ_=>?_|refine aO (λ_=>?_) λ_=>?_|exact ar (yK _)|refine ax (iF _) λ_ _=>?_|refine ax (rm _) λ_ _=>?_|refine ax (gy _ h2x) λ_ _=>?_
 rintro⟨b,x⟩ I;dsimp only at I;have I:=I.symm;subst I;refine aO (λ_=>ar trivial) λ_=>?_
 refine aY (λx=>x.2=s) ?_ ?_
 .with_reducible repeat' first|refine b_ (λ_=>?_) λ_=>?_|refine aJ (λ_=>?_) λ_=>?_|refine bJ (λ_=>?_) λ_=>?_|refine e_ (λ_=>?_) λ_=>?_|refine dW (λ_=>?_) λ_=>?_|refine aO (λ_=>?_) λ_=>?_|exact ar (yK _)|refine ax (iF _) λ_ _=>?_|refine ax (rm _) λ_ _=>?_|refine ax (gy _ h2x) λ_ _=>?_
  all_goals
   rename_i g;dsimp only[au]at g;refine bZ (aR ?_);refine ax (gy _ (h1 _ (bL (T:=.ex) (xs:=Sx.index _) (j:=0) (by omega) (by omega)))) λ_ _=>ar (yK _)
 rintro⟨b,x⟩ I;dsimp only at I;have I:=I.symm;subst I;refine aO (λ_=>ar trivial) λ_=>?_
 refine aY (λx=>x.2=s) ?_ ?_
 .with_reducible repeat' first|refine b_ (λ_=>?_) λ_=>?_|refine aJ (λ_=>?_) λ_=>?_|refine bJ (λ_=>?_) λ_=>?_|refine e_ (λ_=>?_) λ_=>?_|refine dW (λ_=>?_) λ_=>?_|refine aO (λ_=>?_) λ_=>?_|exact ar (yK _)|refine ax (iF _) λ_ _=>?_|refine ax (rm _) λ_ _=>?_|refine ax (gy _ h2x) λ_ _=>?_
 rintro⟨b,x⟩ I;dsimp only at I;have I:=I.symm;subst I;refine aY (λx=>x.2=s) ?_ ?_
 .have h2x:GX 4 (em (Xp.op (Sx.expr s),Xp.n (Sx.expr s),Xp.name (Sx.expr s),Xp.l (Sx.expr s))):=by rw[fB];exact h2
  with_reducible repeat' first|refine b_ (λ_=>?_) λ_=>?_|refine aJ (λ_=>?_) λ_=>?_|refine bJ (λ_=>?_) λ_=>?_|refine e_ (λ_=>?_) λ_=>?_|refine dW (λ_=>?_) λ_=>?_|refine aO (λ_=>?_) λ_=>?_|exact ar (yK _)|refine ax (iF _) λ_ _=>?_|refine ax (rm _) λ_ _=>?_|refine ax (gy _ h2x) λ_ _=>?_
 rintro⟨b,x⟩ I;dsimp only at I;have I:=I.symm;subst I;refine aO (λ_=>ar trivial) λ_=>?_
 refine aY (λx=>x.2=s) ?_ ?_
 .with_reducible repeat' first|refine b_ (λ_=>?_) λ_=>?_|refine aJ (λ_=>?_) λ_=>?_|refine bJ (λ_=>?_) λ_=>?_|refine e_ (λ_=>?_) λ_=>?_|refine dW (λ_=>?_) λ_=>?_|refine aO (λ_=>?_) λ_=>?_|exact ar (yK _)|refine ax (iF _) λ_ _=>?_|refine ax (rm _) λ_ _=>?_|refine ax (gy _ h2x) λ_ _=>?_
 rintro⟨b,x⟩ I;dsimp only at I;have I:=I.symm;subst I;refine aY (λx=>x.2=s) ?_ ?_
 .with_reducible repeat' first|refine b_ (λ_=>?_) λ_=>?_|refine aJ (λ_=>?_) λ_=>?_|refine bJ (λ_=>?_) λ_=>?_|refine e_ (λ_=>?_) λ_=>?_|refine dW (λ_=>?_) λ_=>?_|refine aO (λ_=>?_) λ_=>?_|exact ar (yK _)|refine ax (iF _) λ_ _=>?_|refine ax (rm _) λ_ _=>?_|refine ax (gy _ h2x) λ_ _=>?_
 rintro⟨b,x⟩ I;dsimp only at I;have I:=I.symm;subst I;refine aO (λ_=>ar trivial) λ_=>?_
 refine aY (λ_=>True) ?_ λ_ _=>ar trivial
 refine ax hb λ_ _=>aO (λ_=>ax he λ_ _=>ar trivial) λ_=>ar trivial
theorem Kj:∀(n:Nat),(∀(d:Nat) (s:Sx),2*d<n->GT d s->Ok (eK n s) λ_=>True)/\(∀(d:Nat) (l:List Sx),2*d+1<n->l.length<=1000->(∀s∈l,GT d s)->Ok (dM n l) λ_=>True)
 |0=>⟨λd _ h=>by omega,λd _ h=>by omega⟩
 |n+1=>by
  obtain⟨J,I⟩:=Kj n;refine ⟨λd s hd h=>?_,λd l hd hl h=>?_⟩
  .cases d with
   |zero=>exact h.elim
   |succ d=>
    obtain⟨_,Z,Y,g4,g5,U,M⟩:=h;exact Kc (eK n) (dM n) s Z Y (I d _ (by omega) (by omega) U) (I d _ (by omega) (by omega) M)
  .exact HZ (eK n) (dM n) l hl λs hs=>J d s (by omega) (h s hs)
theorem LN (d:Nat) (hd:d<=100) (l:List Sx) (hl:l.length<=1000) (h:∀s∈l,GT d s):Ok (om l) λ_=>True:=(Kj fuel).2 d l (by rw[jY];omega) hl h
abbrev DT:Type:=Int×Int×ζ×Int×Int×ζ
abbrev HT:Type:=ζ×Int×List ζ×List Sx
abbrev PG:Type:=List DT×List HT
structure PX (p:PG):Prop where
 d:p.1.length<=100
 t:p.2.length<=8
 l:∀t∈p.2,t.2.2.1.length<=100
 b:∀t∈p.2,t.2.2.2.length<=100
 s:∀t∈p.2,∀s∈t.2.2.2,GT 5 s
theorem aak (p:PG) (h:PX p):Ok (qh p) λ_=>True:=by
 obtain⟨hd,ht,hl,hb,hs⟩:=h;unfold qh aX bu cN bA bD aZ cK aF cH;refine b8 p.1.length (λi x=>x.1=(i:Int)/\x.2=p) ?_ ?_ ⟨rfl,rfl⟩
 .rintro i ⟨a,x⟩ hi ⟨e1,e2⟩;dsimp only at e1 e2;subst e1;subst e2;refine di ?_;refine bZ (aR ?_);refine ax (Mf _) λ_ _=>?_
  exact dW (λ_=>ar trivial) λ_=>ar ⟨gE (by omega),rfl⟩
 rintro⟨a,x⟩ ⟨e1,e2⟩;dsimp only at e1 e2;subst e1;subst e2;refine dj ?_;refine ax (P:=λ_=>True) ?_ λ_ _=>ar trivial
 refine b8 x.2.length (λi y=>y.1=(i:Int)/\y.2=x) ?_ ?_ ⟨rfl,rfl⟩
 .rintro i ⟨a,x⟩ hi ⟨e1,e2⟩;dsimp only at e1 e2;subst e1;have e2:=e2.symm;subst e2;refine di ?_;refine bZ (aR ?_);have hm:=bL (T:=zD) (xs:=x.2) (j:=(i:Int)) (by omega) (by omega);have h1:=hl _ hm;have h2:=hb _ hm;have M:=hs _ hm;revert h1 h2 M;generalize (aK (T:=zD) x.2 (i:Int))=t;intro h1 h2 M;refine b8 t.2.2.1.length (λk y=>y.1=(k:Int)/\y.2=(x,t)) ?_ ?_ ⟨rfl,rfl⟩
  .rintro k ⟨a,z⟩ hk ⟨J,I⟩;dsimp only at J I;subst J;subst I;refine di ?_;refine bZ (aR ?_);refine ax (iF _) λ_ _=>?_
   exact dW (λ_=>ar trivial) λ_=>ar ⟨gE (by omega),rfl⟩
  .rintro⟨a,z⟩ ⟨J,I⟩;dsimp only at J I;subst J;subst I;refine dj ?_;refine ax (P:=λr=>match r with|.inl y=>y.1=((i+1:Nat):Int)/\y.2=x|.inr _=>True) ?_ ?_
   .refine aY (λy=>y.2=x) ?_ ?_
    .refine ax (iF _) λ_ _=>dW (λ_=>ar rfl) λ_=>?_
     exact ax (LN 5 (by omega) _ (by dsimp only;omega) M) λ_ _=>ar rfl
    rintro⟨b,y⟩ e;dsimp only at e;subst e;exact aO (λ_=>ar trivial) λ_=>ar ⟨gE (by omega),rfl⟩
   .rintro (y|y) U
    .exact ar U
    .exact ar trivial
 .rintro⟨a,y⟩ ⟨e1,e2⟩;dsimp only at e1 e2;subst e1;subst e2;exact dj (ar trivial)
theorem xD (l:List DT) (s:ζ) (hl:l.length<=1000):Ok (ij (l,s)) λr=> -1<=r/\r<(l.length:Int):=by
 unfold ij bA bD aZ cK aF cH;refine b8 l.length (λi x=>x=(i:Int)) ?_ ?_ rfl
 .rintro i x hi rfl;refine di ?_;refine bZ (aR ?_);exact aJ (λ_=>ar ⟨by omega,by omega⟩) λ_=>ar (gE (by omega))
 .rintro x rfl;exact dj (ar ⟨by omega,by omega⟩)
theorem tf (l:List HT) (s:ζ) (hl:l.length<=1000):Ok (g_ (l,s)) λr=> -1<=r/\r<(l.length:Int):=by
 unfold g_ bA bD aZ cK aF cH;refine b8 l.length (λi x=>x=(i:Int)) ?_ ?_ rfl
 .rintro i x hi rfl;refine di ?_;refine bZ (aR ?_);exact aJ (λ_=>ar ⟨by omega,by omega⟩) λ_=>ar (gE (by omega))
 .rintro x rfl;exact dj (ar ⟨by omega,by omega⟩)
def DD (p:PG) (s:ζ):Prop:=∃v,ij (p.1,s)=af v/\0<=v/\v<(p.1.length:Int)
theorem aaw (p:PG) (h:PX p) (t:Int) (s:ζ):Ok (qg (p,t,s)) λk=>k≠0->k≠7->k≠8->DD p s:=by
 have hd:=h.d;have ht:=h.t;unfold qg bd bA iY iO vp bD aZ aF;refine aY (λx=>x.2=p) ?_ ?_
 .refine e_ (λU=>bJ (λM=>?_) λ_=>ar rfl) λ_=>ar rfl
  dsimp only[au]at U M;refine aS U M (aR ?_);have hm:=h.l _ (bL (T:=zD) (xs:=p.2) (j:=t) U M);exact ax (zk _ s (du hm (by omega))) λ_ _=>ar rfl
 rintro⟨b,x⟩ e;dsimp only at e;have e:=e.symm;subst e;refine aO (λ_=>ar λ_ _ h=>(h rfl).elim) λ_=>?_
 obtain⟨v,hv,v0,J⟩:=xD p.1 s (by omega);refine aU hv ?_;refine bJ (λ_=>?_) λg=>?_
 .exact ax (tf p.2 s (by omega)) λ_ _=>e_ (λ_=>ar λ_ h=>(h rfl).elim) λ_=>ar λh=>(h rfl).elim
 have I:DD p s:=⟨v,hv,g,J⟩
 refine aS g J (aR ?_);refine aJ (λ_=>?_) λ_=>?_
 .exact aS g J (aR (b_ (λ_=>ar λ_ _ _=>I) λ_=>ar λ_ _ _=>I))
 refine aJ (λ_=>ar λ_ _ _=>I) λ_=>?_
 refine aY (λx=>x.2=p) (aJ (λ_=>ar rfl) λ_=>aJ (λ_=>ar rfl) λ_=>aJ (λ_=>ar rfl) λ_=>ar rfl) ?_;rintro⟨b,x⟩ e;dsimp only at e;have e:=e.symm;subst e;exact aO (λ_=>aS g J (aR (ar λ_ _ _=>I))) λ_=>ar λ_ _ _=>I
theorem pq (p:PG) (h:PX p) (t:Int) (s:ζ) (a b:Int):Ok (gM (p,t,s,a,b)) λr=>r=0->(a≠7/\a≠8)->(b≠7/\b≠8)->DD p s:=by
 unfold gM aX bf dx bd iO aF;refine ax (aaw p h t s) λk hk=>?_
 refine aJ (λ_=>ar λh=>(by cases h)) λg=>?_
 refine aY (λx=>x=aj->k=a\/k=b) ?_ ?_
 .refine b_ (λ_=>ar λh=>?_) λh=>ar λ_=>.inl h
  simp at h;exact .inr h
 rintro x I;refine aO (λ_=>ar λh=>(by cases h)) λh=>ar λ_ h1 h2=>hk g ?_ ?_
 .rcases I h with h|h<;>omega
 .rcases I h with h|h<;>omega
theorem NZ:∀(n d:Nat) (e:Xp),d<n->GX d e->Ok (nN n e) λ_=>True
 |0,_,_,h,_=>by omega
 |n+1,0,_,_,h=>h.elim
 |n+1,d+1,e,hn,h=>by
  obtain⟨h1,h2⟩:=h;rw[yS];unfold uU bA bD cK aF cH;refine b8 e.l.length (λi x=>x.1.2.2=(i:Int)/\x.2=e) ?_ ?_ ⟨rfl,fB e⟩
  .rintro i ⟨⟨a,b,c⟩,z⟩ hi ⟨e1,e2⟩;dsimp only at e1 e2;subst e1;subst e2;refine di ?_;refine bZ (aR ?_);refine ax (NZ n d _ (by omega) (h2 _ (bL (T:=.ex) (xs:=z.l) (j:=(i:Int)) (by omega) (by omega)))) λ_ _=>ar ?_
   exact⟨gE (by omega),fB z⟩
  .rintro⟨⟨a,b,c⟩,z⟩ ⟨e1,e2⟩;dsimp only at e1 e2;subst e1;subst e2;exact dj (ar trivial)
theorem GP (p:PG) (hp:PX p) (t:Int):∀(n d:Nat) (e:Xp),d<n->GX d e->Ok (nM n (p,t,e)) λ_=>True
 |0,_,_,h,_=>by omega
 |n+1,0,_,_,h=>h.elim
 |n+1,d+1,e,hn,h=>by
  obtain⟨h1,h2⟩:=h;rw[yR];unfold uT bd bA bD cK aF cH;refine aY (λx=>x.2.1=p/\x.2.2=e) ?_ ?_
  .refine aJ (λ_=>ax (pq p hp t _ _ _) λ_ _=>ar ⟨rfl,fB e⟩) λ_=>aJ (λ_=>ax (pq p hp t _ _ _) λ_ _=>ar ⟨rfl,fB e⟩) λ_=>ar ⟨rfl,fB e⟩
  rintro⟨r,M,e'⟩ ⟨J,I⟩;dsimp only at J I;have J:=J.symm;subst J;have I:=I.symm;subst I;refine qF (λx=>((e.l.length:Int)-x.1.2).toNat) (λx=>0<=x.1.2/\x.2.1=p/\x.2.2=e) ?_ ⟨eE _,rfl,fB e⟩;rintro⟨⟨a,(b:Int)⟩,M,e'⟩ ⟨b0,J,I⟩;dsimp only at b0 J I;have J:=J.symm;subst J;have I:=I.symm;subst I;refine aY (λx=>x.2.1=p/\x.2.2=e/\(x.1=ai->b<(e.l.length:Int))) ?_ ?_
  .exact bJ (λg=>ar ⟨rfl,fB e,λ_=>g⟩) λ_=>ar ⟨rfl,fB e,λh=>(by cases h)⟩
  rintro⟨c,M,e'⟩ ⟨J,I,U⟩;dsimp only at J I U;have J:=J.symm;subst J;have I:=I.symm;subst I;refine aO (λhc=>?_) λ_=>ar trivial
  have g:=U hc;refine aS b0 g (aR ?_);refine ax (GP p hp t n d _ (by omega) (h2 _ (bL (T:=.ex) (xs:=e.l) (j:=b) b0 g))) λ_ _=>ar ?_
  dsimp only;rw[hP (n:=b+1) (by omega) (by omega)];exact⟨⟨by omega,rfl,fB e⟩,by omega⟩
theorem xC (p:PG) (hp:PX p) (t:Int) (e:Xp) (h:GX 4 e):Ok (mE (p,t,e)) λ_=>True:=by
 unfold mE bA aF;have M:GX 4 (em (Xp.op e,Xp.n e,Xp.name e,Xp.l e)):=by rw[fB];exact h
 refine ax (gy _ M) λ_ _=>dW (λ_=>ar trivial) λ_=>?_
 refine ax (NZ fuel 4 _ (by rw[jY];omega) M) λ_ _=>?_
 refine aY (λx=>x.2.1=p/\x.2.2=e) (bJ (λ_=>ar ⟨rfl,fB e⟩) λ_=>ar ⟨rfl,fB e⟩) ?_;rintro⟨r,U,e'⟩ ⟨J,I⟩;dsimp only at J I;have J:=J.symm;subst J;have I:=I.symm;subst I;exact aO (λ_=>ar trivial) λ_=>ax (GP p hp t fuel 4 _ (by rw[jY];omega) M) λ_ _=>ar trivial
theorem fQ (b:Bool):Ok (dg b) λ_=>True:=by
 unfold dg;exact aO (λ_=>ar trivial) λ_=>ar trivial
theorem uB (x:Γ):Ok (jh x) λr=>r=0->x.1=0/\x.2=0:=by
 unfold jh iO;exact b_ (λh=>ar λh2=>(h h2).elim) λh=>ar λh2=>⟨h,h2⟩
abbrev WK:Type:=(List DT×List HT×Int)×(Bool×List Sx)×List ζ×List ζ
theorem Zl (a b:Int) (s:ζ) (w:WK) (h:w.2.1.2.length<=100):Ok (dZ ((a,b,s),w)) λy=>y.2=w:=by
 unfold dZ aX bd bA kl aZ cK aF cH;refine b8 w.2.1.2.length (λi x=>x.1=(i:Int)/\x.2=w) ?_ ?_ ⟨rfl,rfl⟩
 .rintro i ⟨c,x⟩ hi ⟨e1,e2⟩;dsimp only at e1 e2;subst e1;have e2:=e2.symm;subst e2;refine di ?_;refine bZ (bZ (aR ?_));refine aY (λx=>x.2=w) ?_ ?_
  .refine aJ (λ_=>aJ (λ_=>ar rfl) λ_=>ar rfl) λ_=>aJ (λ_=>aJ (λ_=>ar rfl) λ_=>ar rfl) λ_=>ar rfl
  rintro⟨c,x⟩ e;dsimp only at e;have e:=e.symm;subst e;exact aO (λ_=>ar rfl) λ_=>ar ⟨gE (by omega),rfl⟩
 .rintro⟨c,x⟩ ⟨e1,e2⟩;dsimp only at e1 e2;subst e1;have e2:=e2.symm;subst e2;exact dj (ar rfl)
def Rc:Nat->Sx->Nat
 |0,_=>0
 |d+1,s=>1+(s.body.map (Rc d)).sum+(s.els.map (Rc d)).sum
def nX (d:Nat) (l:List Sx):Nat:=(l.map (Rc d)).sum
def KS:Nat->Nat
 |0=>0
 |d+1=>1+16*KS d
theorem OY {α:Type} {f:α->Nat} {k:Nat}:∀{l:List α},(∀x∈l,f x<=k)->(l.map f).sum<=l.length*k
 |[],_=>by simp
 |x::r,h=>by
  have:=OY (l:=r) λy I=>h y (cM _ I)
  have:=h x (dw ..);rw[gB,List.sum_cons,cf,jb];omega
theorem WY:∀{d:Nat} {s:Sx},GT d s->Rc d s<=KS d
 |0,_,h=>h.elim
 |d+1,s,⟨_,_,_,Y,U,M,J⟩=>by
  have a:=OY (f:=Rc d) (l:=s.body) λx I=>WY (M x I)
  have b:=OY (f:=Rc d) (l:=s.els) λx I=>WY (J x I)
  have c:=cL (KS d) Y;have e:=cL (KS d) U;show 1+_+_<=1+16*KS d;omega
theorem Qw:∀{d:Nat} {s:Sx},GT d s->Rc (d+1) s=Rc d s
 |0,_,h=>h.elim
 |d+1,s,⟨_,_,_,_,_,M,J⟩=>by
  show 1+(s.body.map (Rc (d+1))).sum+(s.els.map (Rc (d+1))).sum=1+(s.body.map (Rc d)).sum+(s.els.map (Rc d)).sum;rw[qB λx I=>Qw (M x I),qB λx I=>Qw (J x I)]
theorem ae1 {d:Nat} {l:List Sx} (h:∀s∈l,GT d s):nX d l<=l.length*KS d:=OY λx I=>WY (h x I)
theorem xu {d:Nat} {l:List Sx} {i:Nat} (hi:i<l.length):nX d (l.take (i+1))=nX d (l.take i)+Rc d (aK (T:=.sm) l (i:Int)):=by
 unfold nX;rw[mX (T:=.sm) hi,cE,Gh];simp
theorem Qx {d:Nat} (l:List Sx) (i:Nat):nX d (l.take i)<=nX d l:=by
 conv=>rhs;rw[<- B6 i l]
 unfold nX;rw[cE,Gh];omega
theorem FH:∀(n d:Nat) (l:List Sx),d<n->l.length<=1000->(∀s∈l,GT d s)->KS d<=100000->nO n l=af ((nX d l:Nat):Int)
 |0,_,_,h,_,_,_=>by omega
 |n+1,d,l,hn,hl,h,J=>by
  refine ct ?_;rw[yT];unfold uV bA vp aZ cK aF cH;have hb:=ae1 h;have I:=Nat.mul_le_mul hl J;refine b8 l.length (λi x=>x.2=(i:Int)/\x.1=(l.length:Int)-i+(nX d (l.take i):Nat)) ?_ ?_ ⟨rfl,by simp[nX]⟩
  .rintro i ⟨a,b⟩ hi ⟨e1,e2⟩;dsimp only at e1 e2;subst e1;subst e2;have hp:=Qx (d:=d) l (i+1);rw[xu hi]at hp;refine di ?_;refine bZ (aR ?_);rw[xu hi];have hm:=h _ (bL (T:=.sm) (xs:=l) (j:=(i:Int)) (by omega) (by omega));revert hm hp;generalize (aK (T:=.sm) l (i:Int))=s;intro hp hm;cases d with
   |zero=>exact hm.elim
   |succ d=>
    obtain⟨_,_,_,Z,Y,U,M⟩:=hm;have hk:KS (d+1)=1+16*KS d:=rfl;have hc:Rc (d+1) s=1+nX d s.body+nX d s.els:=rfl;rw[hc]at hp ⊢;refine aU (FH n d _ (by omega) (by omega) U (by omega)) ?_;refine bZ (aR ?_);refine aU (FH n d _ (by omega) (by omega) M (by omega)) (ar ⟨gE (by omega),?_⟩);dsimp only;rw[hP (n:=(l.length:Int)-i+(nX (d+1) (l.take i):Nat)+(nX d s.body:Nat)) (by omega) (by omega),hP (by omega) (by omega)];omega
  .rintro⟨a,b⟩ ⟨e1,e2⟩;dsimp only at e1 e2;subst e1;subst e2;rw[cW];exact dj (ar (by dsimp only;omega))
theorem Wk (l:List DT) (hl:l.length<=100):Ok (rV l) λ_=>True:=by
 unfold rV aX bf bu bK dx fg bd bA iY iO bE bD aZ cK aF cH;refine b8 l.length (λi x=>x.2.2.2.2=(i:Int)) ?_ ?_ rfl
 .rintro i ⟨a,b,c,d,e⟩ hi e1;dsimp only at e1;subst e1;refine di ?_;refine aY (λ_=>True) ?_ λx _=>ar (gE (by omega))
  refine bZ (aR ?_);have htk:(dI (aT (i:Int)) l).length<=100:=by rw[bC];omega
  refine dc (dN (by dsimp only;omega) (dN (by dsimp only;omega) ?_));refine ax (xD _ _ (du htk (by omega))) λv hv=>?_
  refine e_ (λ_=>ar trivial) λ_=>bJ (λ_=>ar trivial) λ_=>?_
  refine aY (λ_=>True) ?_ λx _=>?_
  .refine aY (λ_=>True) (aJ (λ_=>ar trivial) λ_=>ar trivial) λx _=>aO (λ_=>ar trivial) λ_=>?_
   refine aY (λ_=>True) (aJ (λ_=>ar trivial) λ_=>ar trivial) λx _=>aO (λ_=>ar trivial) λ_=>?_
   exact aJ (λ_=>ar trivial) λ_=>ar trivial
  refine aY (λ_=>True) (bJ (λ_=>ar trivial) λ_=>bJ (λ_=>ar trivial) λ_=>bJ (λ_=>ar trivial) λ_=>ar trivial) λx _=>aO (λ_=>ar trivial) λ_=>?_
  refine aJ (λ_=>?_) λ_=>ar trivial
  refine dc (dN (by dsimp only;omega) (dN (by dsimp only;omega) ?_));refine ax (xD _ _ (du htk (by omega))) λv hv=>?_
  refine bJ (λ_=>ar trivial) λg=>?_
  have h2:=hv.2;rw[bC]at h2;exact aS g (by dsimp only at h2 ⊢;omega) (aR (b_ (λ_=>ar trivial) λ_=>ar trivial))
 .rintro⟨a,b,c,d,e⟩ e1;dsimp only at e1;subst e1;exact dj (ar trivial)
theorem OW (p:PG) (h:PX p):Ok (ol p) λ_=>True:=by
 have hd:=h.d;have ht:=h.t;unfold ol aX bf bu bA iY bE bD aZ cK aF cH;refine b8 p.2.length (λi x=>x.1=(i:Int)/\x.2=p) ?_ ?_ ⟨rfl,rfl⟩
 .rintro i ⟨a,x⟩ hi ⟨e1,e2⟩;dsimp only at e1 e2;subst e1;have e2:=e2.symm;subst e2;refine di ?_;refine bZ (aR ?_);refine aY (λx=>x.2.1=p) ?_ ?_
  .refine ax (xD _ _ (by dsimp only;omega)) λv hv=>e_ (λ_=>ar rfl) λ_=>?_
   refine dc (dN (by dsimp only;omega) (dN (by dsimp only;omega) ?_));exact ax (tf _ _ (by rw[bC];dsimp only;omega)) λ_ _=>ar rfl
  rintro⟨b,x,z⟩ e;dsimp only at e;have e:=e.symm;subst e;exact aO (λ_=>ar trivial) λ_=>ar ⟨gE (by omega),rfl⟩
 rintro⟨a,x⟩ ⟨e1,e2⟩;dsimp only at e1 e2;subst e1;have e2:=e2.symm;subst e2;refine dj ?_;refine ax (P:=λ_=>True) ?_ λ_ _=>ar trivial
 refine b8 p.2.length (λi x=>x.1=(i:Int)/\x.2=p) ?_ ?_ ⟨rfl,rfl⟩
 .rintro i ⟨a,x⟩ hi ⟨e1,e2⟩;dsimp only at e1 e2;subst e1;have e2:=e2.symm;subst e2;refine di ?_;refine bZ (aR ?_);have hm:=h.l _ (bL (T:=zD) (xs:=p.2) (j:=(i:Int)) (by omega) (by omega));revert hm;generalize (aK (T:=zD) p.2 (i:Int))=t;intro hm;refine bJ (λ_=>ar trivial) λ_=>?_
  refine b8 t.2.2.1.length (λk y=>y.1=(k:Int)/\y.2=(p,t)) ?_ ?_ ⟨rfl,rfl⟩
  .rintro k ⟨a,z⟩ hk ⟨J,I⟩;dsimp only at J I;subst J;subst I;refine di ?_;refine bZ (aR ?_);refine aY (λx=>x.2=(p,t)) ?_ ?_
   .refine ax (xD _ _ (by dsimp only;omega)) λv hv=>e_ (λ_=>ar rfl) λ_=>?_
    refine ax (tf _ _ (by dsimp only;omega)) λv hv=>e_ (λ_=>ar rfl) λ_=>?_
    refine dc (dN (by dsimp only;omega) (dN (by dsimp only;omega) ?_));exact ax (zk _ _ (by rw[bC];dsimp only;omega)) λ_ _=>ar rfl
   rintro⟨b,x⟩ e;dsimp only at e;subst e;exact aO (λ_=>ar trivial) λ_=>ar ⟨gE (by omega),rfl⟩
  .rintro⟨a,z⟩ ⟨J,I⟩;dsimp only at J I;subst J;subst I;exact dj (ar ⟨gE (by omega),rfl⟩)
 .rintro⟨a,x⟩ ⟨e1,e2⟩;dsimp only at e1 e2;subst e1;have e2:=e2.symm;subst e2;exact dj (ar trivial)
structure WQ (w:WK) (y:Int×WK):Prop where
 p:y.2.1=w.1
 a:y.2.2.1=w.2.1
 s:y.2.2.2.1.length<=w.2.2.1.length+1
 t:y.2.2.2.2.length<=w.2.2.2.length+1
theorem WQ.same (w:WK) (e:Int):WQ w (e,w):=⟨rfl,rfl,Nat.le_succ _,Nat.le_succ _⟩
theorem akm (s:Sx) (D:List DT) (T:List HT) (t:Int) (A:Bool×List Sx) (sp se:List ζ) (hp:PX (D,T)) (hA:A.2.length<=100) (h1:sp.length<=100000000) (h2:se.length<=100000000) (J:∀e∈s.index,GX 4 e) (he:GX 4 s.expr):Ok (mD (s,((D,T,t),A,sp,se))) (WQ ((D,T,t),A,sp,se)):=by
 have hex:GX 4 (em (Xp.op s.expr,Xp.n s.expr,Xp.name s.expr,Xp.l s.expr)):=by rw[fB];exact he
 have hin:∀(a b:Int) (n:ζ),Ok (dZ ((a,b,n),((D,T,t),A,sp,se))) λy=>y.2=((D,T,t),A,sp,se):=λa b n=>Zl a b n _ hA
 have hth:T.length<=1000:=by have:=hp.t;dsimp only at this;omega
 have hdl:D.length<=1000:=by have:=hp.d;dsimp only at this;omega
 have sm:∀e,WQ ((D,T,t),A,sp,se) (e,((D,T,t),A,sp,se)):=WQ.same _;unfold mD aX bf bu ch bK dx cN fg bd iY iO bE bD aF eA;refine ax (hin _ _ _) λy I=>?_
 obtain⟨b1,M⟩:=y;dsimp only at I;subst I;refine bh (by simp) ?_;refine ax (hin _ _ _) λy I=>?_
 obtain⟨b2,M⟩:=y;dsimp only at I;subst I;refine bh (by simp) ?_;refine ax (hin _ _ _) λy I=>?_
 obtain⟨Z,M⟩:=y;dsimp only at I;subst I;refine bh (by simp) ?_;refine aJ (λ_=>?_) λ_=>?_
 .refine aJ (λ_=>?_) λg=>?_
  .exact ax (pq _ hp _ _ _ _) λ_ _=>ax (xC _ hp _ _ hex) λ_ _=>ax (uB _) λ_ _=>ar (sm _)
  .refine ax (pq _ hp _ _ _ _) λ_ _=>?_
   dsimp only[au]at g;refine bZ (aR ?_);refine ax (xC _ hp _ _ (J _ (bL (T:=.ex) (xs:=s.index) (j:=0) (by omega) (by omega)))) λ_ _=>?_
   exact ax (xC _ hp _ _ hex) λ_ _=>ax (uB _) λ_ _=>ax (uB _) λ_ _=>ar (sm _)
 refine aY (λx=>x.2=((D,T,t),A,s,(D,T),sp,se)) (aJ (λ_=>ar (by dsimp only;rw[yK])) λ_=>ar (by dsimp only;rw[yK])) ?_;rintro⟨b,x⟩ e;dsimp only at e;subst e;refine aO (λ_=>ax (xC _ hp _ _ hex) λ_ _=>ar (sm _)) λ_=>?_
 refine aJ (λ_=>?_) λ_=>?_
 .refine aY (λx=>WQ ((D,T,t),A,sp,se) x) ?_ λx J=>ar J
  refine ax (pq _ hp _ _ _ _) λ_ _=>aO (λ_=>?_) λ_=>?_
  .exact ax (fQ _) λ_ _=>ax (uB _) λ_ _=>ar (sm _)
  .refine ax (hin _ _ _) λy I=>?_
   obtain⟨U,M⟩:=y;dsimp only at I;subst I;exact bh (by simp) (ax (fQ _) λ_ _=>ax (uB _) λ_ _=>ar (sm _))
 refine aY (λx=>x.2=((D,T,t),A,s,(D,T),sp,se)) (aJ (λ_=>ar (by dsimp only;rw[yK])) λ_=>ar (by dsimp only;rw[yK])) ?_;rintro⟨b,x⟩ e;dsimp only at e;subst e;refine aO (λ_=>?_) λ_=>?_
 .refine aY (λx=>WQ ((D,T,t),A,sp,se) x) ?_ λx J=>ar J
  refine ax (pq _ hp _ _ _ _) λ_ _=>aO (λ_=>?_) λ_=>?_
  .exact ax (fQ _) λ_ _=>ax (uB _) λ_ _=>ar (sm _)
  .refine ax (hin _ _ _) λy I=>?_
   obtain⟨U,M⟩:=y;dsimp only at I;subst I;exact bh (by simp) (ax (fQ _) λ_ _=>ax (uB _) λ_ _=>ar (sm _))
 refine aJ (λ_=>ax (fQ _) λ_ _=>ar (sm _)) λ_=>?_
 refine aJ (λ_=>?_) λ_=>?_
 .refine aY (λx=>WQ ((D,T,t),A,sp,se) x) ?_ λx J=>ar J
  exact aO (λ_=>ax (fQ _) λ_ _=>ar (sm _)) λ_=>ax (fQ _) λ_ _=>ar (sm _)
 refine aY (λx=>x.2=((D,T,t),A,s,(D,T),sp,se)) (aJ (λ_=>ar (by dsimp only;rw[yK])) λ_=>aJ (λ_=>ar (by dsimp only;rw[yK])) λ_=>ar (by dsimp only;rw[yK])) ?_;rintro⟨b,x⟩ e;dsimp only at e;subst e;refine aO (λ_=>?_) λ_=>?_
 .refine ax (pq _ hp _ _ _ _) λr hr=>b_ (λ_=>ar (sm _)) λg=>?_
  obtain⟨v,hv,v0,Y⟩:=hr g (by omega) (by omega);refine aU hv (aS v0 Y (aR ?_));refine ax (hin _ _ _) λy I=>?_
  obtain⟨U,M⟩:=y;dsimp only at I;subst I;refine bh (by simp) ?_;refine aY (λx=>WQ ((D,T,t),A,sp,se) x) ?_ λx J=>ar J
  refine aO (λ_=>ax (fQ _) λ_ _=>ar (sm _)) λ_=>dW (λ_=>ax (fQ _) λ_ _=>ar (sm _)) λ_=>?_
  exact aJ (λ_=>ax (fQ _) λ_ _=>ar (sm _)) λ_=>ax (fQ _) λ_ _=>ar (sm _)
 refine aJ (λ_=>?_) λ_=>?_
 .refine ax (pq _ hp _ _ _ _) λr hr=>b_ (λ_=>ar (sm _)) λg=>?_
  refine ax (tf T _ hth) λv hv=>?_
  refine aY (λx=>x.2=((D,T,t),A,s,sp,se)) ?_ ?_
  .refine aO (λ_=>ar (by dsimp only;rw[yK])) λ_=>aO (λ_=>ar (by dsimp only;rw[yK])) λ_=>aO (λ_=>ar (by dsimp only;rw[yK])) λ_=>aJ (λ_=>ar (by dsimp only;rw[yK])) λ_=>ar (by dsimp only;rw[yK])
  rintro⟨b,x⟩ e;dsimp only at e;subst e;refine aO (λ_=>ar (sm _)) λ_=>?_
  refine ax (zk sp _ (by omega)) λ_ _=>e_ (λ_=>ar (sm _)) λ_=>?_
  exact bg (by simp;omega) (by omega) (ar ⟨rfl,rfl,by simp,Nat.le_succ _⟩)
 refine aJ (λ_=>?_) λ_=>?_
 .refine aY (λx=>WQ ((D,T,t),A,sp,se) x) ?_ λx J=>ar J
  refine ax (pq _ hp _ _ _ _) λr hr=>?_
  refine aO (λ_=>ax (fQ _) λ_ _=>ax (uB _) λ_ _=>ar (sm _)) λ_=>?_
  refine aO (λ_=>ax (fQ _) λ_ _=>ax (uB _) λ_ _=>ar (sm _)) λ_=>?_
  exact ax (tf T _ hth) λv hv=>ax (fQ _) λ_ _=>ax (uB _) λ_ _=>ar (sm _)
 refine aJ (λ_=>?_) λ_=>?_
 .refine aY (λx=>x.2=((D,T,t),A,s,(D,T),sp,se)) ?_ ?_
  .refine ax (pq _ hp _ _ _ _) λr hr=>?_
   exact aO (λ_=>ax (fQ _) λ_ _=>ax (uB _) λ_ _=>ar (by dsimp only;rw[yK])) λ_=>ax (fQ _) λ_ _=>ax (uB _) λ_ _=>ar (by dsimp only;rw[yK])
  rintro⟨b,x⟩ e;dsimp only at e;subst e;refine aY (λx=>x.2=((D,T,t),A,s,(D,T),sp,se)) ?_ ?_
  .refine aY (λx=>x.2=((D,T,t),A,s,(D,T),sp,se)) ?_ ?_
   .exact aJ (λ_=>ax (zk se _ (by omega)) λ_ _=>ar (by dsimp only;rw[yK])) λ_=>ar (by dsimp only;rw[yK])
   rintro⟨b,x⟩ e;dsimp only at e;subst e;exact aO (λ_=>ar (by dsimp only;rw[yK])) λ_=>ar (by dsimp only;rw[yK])
  rintro⟨b,x⟩ e;dsimp only at e;subst e;refine bg (by simp;omega) (by omega) ?_;exact ax (xC _ hp _ _ hex) λ_ _=>ax (uB _) λ_ _=>ar ⟨rfl,rfl,Nat.le_succ _,by simp⟩
 exact ax (pq _ hp _ _ _ _) λ_ _=>ax (pq _ hp _ _ _ _) λ_ _=>ax (fQ _) λ_ _=>ax (uB _) λ_ _=>ax (uB _) λ_ _=>ar (sm _)
abbrev RA4:Type:=(List Sx×WK)->Option (Γ×WK)
structure QA (l:List Sx) (d:Nat) (w:WK) (y:Γ×WK):Prop where
 p:y.2.1=w.1
 a:y.2.2.1.2.length=w.2.1.2.length
 s:y.2.2.2.1.length<=w.2.2.1.length+l.length*KS d
 t:y.2.2.2.2.length<=w.2.2.2.length+l.length*KS d
def SpA (rr:RA4) (d:Nat):Prop:=∀(l:List Sx) (w:WK),l.length<=100->(∀s∈l,GT d s)->PX (w.1.1,w.1.2.1)->w.2.1.2.length+d<=50->w.2.2.1.length+l.length*KS d<=100000000->w.2.2.2.length+l.length*KS d<=100000000->Ok (rr (l,w)) (QA l d w)
theorem ah4 (rr:RA4) (d:Nat) (hr:∀d',d=d'+1->SpA rr d'):SpA (mI rr) d:=by
 rintro l ⟨⟨D,T,t⟩,A,sp,se⟩ hl hg hp hA h1 h2;dsimp only at hp hA h1 h2;have hK:∀i:Nat,i<=l.length->i*KS d<=l.length*KS d:=λi hi=>cL _ hi
 unfold mI aX bf bu bK dx cN ck bd bA iO bE bD aZ cK aF cH eA;refine b8 l.length (λi x=>x.1=(i:Int)/\x.2.1=(D,T,t)/\x.2.2.1.2.length=A.2.length/\x.2.2.2.1.length<=sp.length+i*KS d/\x.2.2.2.2.length<=se.length+i*KS d) ?_ ?_ ⟨rfl,rfl,rfl,by simp,by simp⟩
 .rintro i ⟨a,P,A',sp',se'⟩ hi ⟨e1,e2,e3,Y,U⟩;dsimp only at e1 e2 e3 Y U;subst e1;subst e2;have hKi:=hK (i+1) (by omega);have hKs:=jb i (KS d);rw[Nat.succ_eq_add_one]at hKs;refine di ?_;refine bZ (aR ?_);have hm:=hg _ (bL (T:=.sm) (xs:=l) (j:=(i:Int)) (by omega) (by omega));revert hm;generalize (aK (T:=.sm) l (i:Int))=s;intro hm;cases d with
  |zero=>exact hm.elim
  |succ d=>
   have hR:=hr d rfl;obtain⟨_,g2,g3,g4,g5,g6,g7⟩:=hm;have hk:KS (d+1)=1+16*KS d:=rfl;have kb:s.body.length*KS d<=8*KS d:=cL _ g4;have ke:s.els.length*KS d<=8*KS d:=cL _ g5;dsimp only;rw[yK];refine ax (akm s D T t A' sp' se' hp (by omega) (by omega) (by omega) g2 g3) λy M=>?_
   obtain⟨e,P2,A2,sp2,se2⟩:=y;obtain⟨J,I,q3,q4⟩:=M;dsimp only at J I q3 q4;subst J;subst I;refine bh (by simp) ?_;refine aY (λx=>x.2=((D,T,t),s,A2,sp2,se2)) (bJ (λ_=>ar rfl) λ_=>ar rfl) ?_;rintro⟨e,x⟩ ex;dsimp only at ex;subst ex;refine b_ (λ_=>ar ⟨rfl,e3,by dsimp only;omega,by dsimp only;omega⟩) λ_=>?_
   refine bg (by simp;omega) (by omega) (aS (by simp) (by simp;omega) (aS (by simp) (by simp;omega) ?_));dsimp only;rw[yK];refine ax (hR s.body ((D,T,t),(A2.1,cz (A2.2++[_]) _ s),sp2,se2) (by omega) g6 hp ?_ ?_ ?_) λy M=>?_
   .dsimp only;rw[bW];simp;omega
   .dsimp only;omega
   .dsimp only;omega
   obtain⟨e6,P6,A6,sp6,se6⟩:=y;obtain⟨J,I,q5,q6⟩:=M;dsimp only at J I q5 q6;subst J;rw[bW,bm,c9]at I;refine bh (by simp) ?_;refine aY (λx=>x.2.1=(D,T,t)/\x.2.2.1.2.length=A2.2.length+1/\x.2.2.2.1.length<=sp2.length+16*KS d/\x.2.2.2.2.length<=se2.length+16*KS d) ?_ ?_
   .refine aJ (λ_=>?_) λ_=>ar ⟨rfl,I,by dsimp only;omega,by dsimp only;omega⟩
    refine ax (hR s.els ((D,T,t),A6,sp6,se6) (by omega) g7 hp (by dsimp only;omega) (by dsimp only;omega) (by dsimp only;omega)) λy M=>?_
    obtain⟨e7,P7,A7,sp7,se7⟩:=y;obtain⟨r1,r2,r5,Z⟩:=M;dsimp only at r1 r2 r5 Z;subst r1;exact bh (by simp) (ar ⟨rfl,r2.trans I,by dsimp only;omega,by dsimp only;omega⟩)
   rintro⟨e8,P8,A8,sp8,se8⟩ ⟨r1,r2,r5,Z⟩;dsimp only at r1 r2 r5 Z;subst r1;have el:bk .i64 ((aP A8.2.length)-1)=(A2.2.length:Int):=by
    rw[r2,hP (by simp<;>omega) (by simp<;>omega)];simp<;>omega
   dsimp only;rw[el];have tk:(dI (aT (A2.2.length:Int)) A8.2).length=A2.2.length:=by rw[bC];omega
   refine dc (dN (by omega) (AL (by rw[r2];omega) ?_));refine b_ (λ_=>ar ⟨rfl,by dsimp only;omega,by dsimp only;omega,by dsimp only;omega⟩) λ_=>ar ?_
   exact⟨gE (by omega),rfl,by dsimp only;omega,by dsimp only;omega,by dsimp only;omega⟩
 .rintro⟨a,P,A',sp',se'⟩ ⟨e1,e2,e3,Y,U⟩;dsimp only at e1 e2 e3 Y U;subst e1;subst e2;exact dj (ar ⟨rfl,e3,Y,U⟩)
theorem Yo:∀(n d:Nat),d<n->SpA (iM n) d
 |0,_,h=>by omega
 |n+1,d,h=>ah4 (iM n) d λI hd=>Yo n I (by omega)
theorem EE (p:PG) (h:PX p):Ok (fD p) λr=>r.1=0->(p.2.map λt=>nX 5 t.2.2.2).sum<=60:=by
 have hd:=h.d;have ht:=h.t;unfold fD aX bf bu bK cN bA iO bE bD aZ cK aF cH;refine ax (aak p h) λ_ _=>dW (λ_=>ar λh=>(by cases h)) λ_=>?_
 refine ax (Wk p.1 hd) λ_ _=>b_ (λhn=>ar λh=>(hn h).elim) λ_=>bJ (λ_=>ar λh=>(by cases h)) λ_=>?_
 refine ax (OW p h) λ_ _=>b_ (λhn=>ar λh=>(hn h).elim) λ_=>?_
 have J:KS 5=69905:=rfl;refine b8 p.2.length (λi x=>x.1.2=(i:Int)/\x.2=p/\x.1.1=((((p.2.take i).map λt=>nX 5 t.2.2.2).sum:Nat):Int)/\(x.1.1:Int)<=((i*6990500:Nat):Int)) ?_ ?_ ⟨rfl,rfl,by simp,by simp⟩
 .rintro i ⟨⟨(c:Int),a⟩,x⟩ hi ⟨e1,e2,e3,I⟩;dsimp only at e1 e2 e3 I;subst e1;have e2:=e2.symm;subst e2;refine di ?_;refine bZ (aR ?_);have hm:=bL (T:=zD) (xs:=p.2) (j:=(i:Int)) (by omega) (by omega);have hb:=h.b _ hm;have hcb:=ae1 (h.s _ hm);have hcb2:=cL (KS 5) hb;rw[J]at hcb hcb2;refine aU (FH fuel 5 _ (by rw[jY];omega) (du hb (by omega)) (h.s _ hm) (by rw[J];omega)) (ar ⟨gE (by omega),rfl,?_,?_⟩)
  .dsimp only;rw[mX (T:=zD) hi,cE,Gh,hP (by omega) (by omega),e3];simp
  .dsimp only;rw[hP (by omega) (by omega)];omega
 rintro⟨⟨(c:Int),a⟩,x⟩ ⟨e1,e2,e3,I⟩;dsimp only at e1 e2 e3 I;subst e1;have e2:=e2.symm;subst e2;rw[cW]at e3;refine dj ?_;refine ax (P:=λr=>r.1=0->(p.2.map λt=>nX 5 t.2.2.2).sum<=60) ?_ λ_ h=>ar h
 refine bJ (λ_=>ar λh=>(by cases h)) λM=>?_
 have M:c<=60:=M;refine b8 p.2.length (λi x=>x.1=(i:Int)/\x.2.1=p/\x.2.2.1.1=p.1/\x.2.2.1.2.1=p.2/\x.2.2.2.1.2.length=0/\x.2.2.2.2.1.length<=i*6990500/\x.2.2.2.2.2.length<=i*6990500) ?_ ?_ ⟨rfl,rfl,rfl,rfl,rfl,by simp,by simp⟩
 .rintro i ⟨a,x,⟨D,T,t⟩,A,sp,se⟩ hi ⟨e1,e2,e3,I,e5,e6,e7⟩;dsimp only at e1 e2 e3 I e5 e6 e7;subst e1;have e2:=e2.symm;subst e2;subst e3;subst I;refine di ?_;refine bZ (aR ?_);have hm:=bL (T:=zD) (xs:=p.2) (j:=(i:Int)) (by omega) (by omega);have hb:=h.b _ hm;have hs:=h.s _ hm;revert hb hs;dsimp only;generalize (aK (T:=zD) p.2 (i:Int))=th;intro hb hs;have hk:KS 5=69905:=rfl;have hle:th.2.2.2.length*KS 5<=100*KS 5:=cL _ hb;rw[hk]at hle;refine ax (Yo fuel 5 (by rw[jY];omega) th.2.2.2 ((p.1,p.2,(i:Int)),A,sp,se) hb hs h (by dsimp only;omega) (by dsimp only;rw[hk];omega) (by dsimp only;rw[hk];omega)) λy Z=>?_
  obtain⟨e,P2,A2,sp2,se2⟩:=y;obtain⟨U,Y,q3,q4⟩:=Z;dsimp only at U Y q3 q4;subst U;rw[hk]at q3 q4;refine bh (by simp) (b_ (λhn=>ar λh=>(hn h).elim) λ_=>ar ?_);exact⟨gE (by omega),rfl,rfl,rfl,by dsimp only;omega,by dsimp only;omega,by dsimp only;omega⟩
 .rintro⟨a,x,P,w⟩ ⟨e1,e2,_⟩;dsimp only at e1 e2;subst e1;have e2:=e2.symm;subst e2;exact dj (ar λ_=>by omega)
theorem dh {R:Type} {o o':Option R} {Q:R->Prop} (h:o=o') (hk:Ok o' Q):Ok o Q:=h▸hk
def D0:List DT:=[(1,0,[120],0,0,[]),(1,0,[121],0,1,[]),(2,0,[118],0,0,[]),(1,0,[113],2,0,[]),(3,0,[109],0,0,[]),(3,0,[110],0,0,[]),(4,0,[114],0,0,[]),(5,0,[99],0,0,[109]),(6,0,[102],0,0,[])]
def L0:List ζ:=[[97],[98]]
set_option maxHeartbeats 20000000 in
theorem aof:∃r,fD (D0,[([109,97,105,110],0,L0,[oq (1,0,[120],[],[],em (1,1,[],[]),[],[])])])=af r/\r.1=0:=by
 suffices h:Ok (fD (D0,[([109,97,105,110],0,L0,[oq (1,0,[120],[],[],em (1,1,[],[]),[],[])])])) λr=>r.1=0 by
  obtain⟨y,h1,h2⟩:=h;exact⟨y,h1,h2⟩
 unfold fD aX bf bu bK cN bA iO bE bD aZ cK aF cH;with_reducible repeat' first|exact ar rfl|refine X4 ?_|refine X3 ?_|refine X2 ?_|refine X1 ?_|refine RK ?_|refine agc ?_|refine aR ?_|refine fO rfl ?_|refine fP rfl ?_|refine bh rfl ?_|refine RM ?_|refine RL ?_|refine dh (qh.eq_1 ..) ?_|refine dh (km.eq_1 ..) ?_|refine dh (fA.eq_1 ..) ?_|refine dh (jO.eq_1 ..) ?_|refine dh (kF.eq_1 ..) ?_|refine dh (lJ.eq_1 ..) ?_|refine dh (pQ.eq_1 ..) ?_|refine dh (rW.eq_1 ..) ?_|refine dh (om.eq_1 ..) ?_|refine dh (jG.eq_1 ..) ?_|refine dh (ko.eq_1 ..) ?_|refine dh (mm.eq_1 ..) ?_|refine dh (jp.eq_1 ..) ?_|refine dh (mF.eq_1 ..) ?_|refine dh (pP.eq_1 ..) ?_|refine dh (rV.eq_1 ..) ?_|refine dh (ij.eq_1 ..) ?_|refine dh (ol.eq_1 ..) ?_|refine dh (g_.eq_1 ..) ?_|refine dh (ji.eq_1 ..) ?_|refine dh (Ct.eq_1 ..) ?_|refine dh (uV.eq_1 ..) ?_|refine dh (wv.eq_1 ..) ?_|refine dh (mI.eq_1 ..) ?_|refine dh (mD.eq_1 ..) ?_|refine dh (dZ.eq_1 ..) ?_|refine dh (gM.eq_1 ..) ?_|refine dh (qg.eq_1 ..) ?_|refine dh (mE.eq_1 ..) ?_|refine dh (Cr.eq_1 ..) ?_|refine dh (uU.eq_1 ..) ?_|refine dh (Cq.eq_1 ..) ?_|refine dh (uT.eq_1 ..) ?_|refine dh (jh.eq_1 ..) ?_|refine dh (dg.eq_1 ..) ?_|refine dh (ck.eq_1 ..) ?_|refine dh (congrFun (gX dM jY) _) ?_|refine dh (zq _ _) ?_|refine dh (congrFun (gX eK jY) _) ?_|refine dh (Aa _ _) ?_|refine dh (congrFun (gX ik jY) _) ?_|refine dh (s6 _ _) ?_|refine dh (congrFun (gX nO jY) _) ?_|refine dh (yT _ _) ?_|refine dh (congrFun (gX iM jY) _) ?_|refine dh (CE _ _) ?_|refine dh (congrFun (gX nN jY) _) ?_|refine dh (yS _ _) ?_|refine dh (congrFun (gX nM jY) _) ?_|refine dh (yR _ _) ?_
 all_goals trace_state
structure TM (nT:Nat) (t:HT):Prop where
 l:t.2.2.1=L0
 b:t.2.2.2.length<=8
 s:∀s∈t.2.2.2,GS nT 3 s
structure PJ (p:PG):Prop where
 d:p.1=D0
 t0:1<=p.2.length
 t:p.2.length<=4
 m:∀t∈p.2,TM p.2.length t
 n:p.2.map Prod.fst=wK.take p.2.length
theorem PJ.x {p:PG} (h:PJ p):PX p:=⟨by rw[h.d];decide,by have:=h.t;omega,λt ht=>by rw[(h.m t ht).l];decide,λt ht=>by have:=(h.m t ht).b;omega,λt ht s hs=>((h.m t ht).s s hs).le (by omega:3<=5) |>.t⟩
theorem Th:sW ()=af D0:=rfl
theorem aes:∀m:Nat,m<5->∀j:Nat,j<m->aK (T:=.str) wK (j:Int)∈wK.take m:=by decide
theorem Rq {nT:Nat} (op:Int) {n:ζ} (J:op=12\/op=13) (hn:n∈wK.take nT):GS nT 3 (oq (op,0,n,[],[],em (0,0,[],[]),[],[])):=GS.wo (by omega) (by simp) (λx I=>(by cases I)) (by rcases J with rfl|rfl<;>(constructor<;>simp[Sx.op,Sx.name,Sx.index,Sx.arg,Sx.els,Sx.body]<;>exact hn))
theorem HL (x:η) (hl:x.length<=9223372036854775807) (hx:∀z∈x,0<=z/\z<=255):Ok (pf x) λp=>PJ p/\∃r,fD p=af r/\r.1=0:=by
 unfold pf aX bf bu ch dC ja vC bK fg kP nZ OO bd bA iO bE kl cK aF cH eA;refine aU Th ?_;refine ax (gA 3 (x,0) ⟨hl,hx,by dsimp only;omega,by dsimp only;omega⟩) λy J=>?_
 obtain⟨n,t0⟩:=y;obtain⟨s0,n0,n1,_⟩:=J;have n1:=n1 (by decide);dsimp only at s0 n0 n1;have ew:bk .i64 (2+n)=2+n:=hP (by omega) (by omega);obtain⟨nT,hnT⟩:∃m:Nat,2+n=(m:Int):=⟨(2+n).toNat,by omega⟩
 refine b8 nT (λi x=>x.1=(i:Int)/\x.2.2.1=D0/\x.2.2.2.1=wK/\TP x.2.2.2.2.1/\x.2.2.2.2.2.1.2=[]/\x.2.2.2.2.2.2.map Prod.fst=wK.take i/\∀t∈x.2.2.2.2.2.2,TM nT t) ?_ ?_ ⟨rfl,rfl,rfl,s0.p,rfl,rfl,λt ht=>(by cases ht)⟩
 .rintro i ⟨a,m,D,N,t,h,th⟩ hi ⟨e1,e2,e3,e4,e5,e6,e7⟩;dsimp only at e1 e2 e3 e4 e5 e6 e7;subst e1;subst e2;refine bJ (λg=>?_) λg=>(by dsimp only at g;rw[ew]at g;omega)
  have l4:N.length=4:=by rw[e3];rfl
  refine bZ (bZ (aR ?_));have hthl:th.length=i:=by have:=gX al e6;rw[bS,bC]at this;have q4:wK.length=4:=rfl;omega
  refine aY (λx=>x.2.2.2.1.1=aK (T:=.str) N (i:Int)/\x.2.1=D0/\x.2.2.1=wK/\TP x.2.2.2.2.1/\x.2.2.2.2.2.1.2=[]/\x.2.2.2.2.2.2.1=th/\x.2.2.2.2.2.2.2.1=L0/\x.2.2.2.2.2.2.2.2.length<=3/\∀s∈x.2.2.2.2.2.2.2.2,GS nT 3 s) ?_ ?_
  .refine aJ (λ_=>?_) λ_=>ar ⟨rfl,rfl,e3,e4,e5,rfl,rfl,by simp,λs hs=>(by cases hs)⟩
   refine b8 (1+n).toNat (λk x=>x.2.2.2.2.1.1=aK (T:=.str) N (i:Int)/\x.1=1+(k:Int)/\x.2.2.1=D0/\x.2.2.2.1=wK/\TP x.2.2.2.2.2.1/\x.2.2.2.2.2.2.1.2=[]/\x.2.2.2.2.2.2.2.1=th/\x.2.2.2.2.2.2.2.2.1=L0/\x.2.2.2.2.2.2.2.2.2.length<=k/\∀s∈x.2.2.2.2.2.2.2.2.2,GS nT 3 s) ?_ ?_ ⟨rfl,rfl,rfl,e3,e4,e5,rfl,rfl,by simp,λs hs=>(by cases hs)⟩
   .rintro k ⟨c,m1,D1,N1,z1,t1,h1,th1,l1,b1⟩ hk ⟨fz,f1,f2,I,f4,M,Z,Y,f8,U⟩;dsimp only at fz f1 f2 I f4 M Z Y f8 U;subst f1;refine bJ (λ_=>?_) λg=>(by dsimp only at g;rw[ew]at g;omega)
    have l41:N1.length=4:=by rw[I];rfl
    refine bZ (bZ (aR ?_));refine bg (by simp;omega) (by omega) (ar ?_);dsimp only;rw[hP (n:=1+(k:Int)+1) (by omega) (by omega)];refine ⟨fz,by omega,f2,I,f4,M,Z,Y,by simp;omega,λs hs=>?_⟩;rcases bY.1 hs with hs|hs
    .exact U s hs
    .rw[aL]at hs;rw[hs];refine Rq 12 (.inl rfl) ?_;rw[I,show 1+(k:Int)=((1+k:Nat):Int) by omega];exact aes nT (by omega) (1+k) (by omega)
   .rintro⟨c,m1,D1,N1,z1,t1,h1,th1,l1,b1⟩ ⟨fz,f1,f2,I,f4,M,Z,Y,f8,U⟩;dsimp only at fz f1 f2 I f4 M Z Y f8 U;subst f1;refine bJ (λg=>(by dsimp only at g;rw[ew]at g;omega)) λ_=>ar ?_
    exact⟨fz,f2,I,f4,M,Z,Y,by dsimp only;omega,U⟩
  rintro⟨m1,D1,N1,z1,t1,h1,th1,l1,b1⟩ ⟨fz,f2,I,f4,M,Z,Y,f8,U⟩;dsimp only at fz f2 I f4 M Z Y f8 U;subst f2;subst Z;subst Y;refine ax (gA 3 t1 f4) λy J=>?_
  obtain⟨k2,t2⟩:=y;obtain⟨u1,u2,u3,_⟩:=J;have u3:=u3 (by decide);dsimp only at u1 u2 u3;dsimp only;rw[hP (n:=1+k2) (by omega) (by omega)];refine ax (Zg (nT:=nT) 2 (by omega) (1+k2) m1 t2 h1 (by omega) u1.p (by rw[M];simp)) λy J=>?_
  obtain⟨m3,t3,h3,l3⟩:=y;obtain⟨w1,w2,w3,w4⟩:=J;dsimp only at w1 w2 w3 w4;refine bh (by simp) (bg (by simp;omega) (by omega) ?_);have hbody:∀s∈b1++l3,GS nT 3 s:=λs hs=>by
   rcases bY.1 hs with hs|hs
   .exact U s hs
   .exact w2 s hs
  have hlen:(b1++l3).length<=6:=by rw[bm];omega
  refine aY (λx=>x.2.2.2.1.1=aK (T:=.str) N (i:Int)/\x.2.1=D0/\x.2.2.1=wK/\TP x.2.2.2.2.1/\x.2.2.2.2.2.1.2=[]/\x.2.2.2.2.2.2.1=th1/\x.2.2.2.2.2.2.2.1=L0/\x.2.2.2.2.2.2.2.2.length<=8/\∀s∈x.2.2.2.2.2.2.2.2,GS nT 3 s) ?_ ?_
  .refine aY (λx=>x.2.2.2.2.1.1=aK (T:=.str) N (i:Int)/\x.2.2.1=D0/\x.2.2.2.1=wK/\TP x.2.2.2.2.2.1/\x.2.2.2.2.2.2.1.2=[]/\x.2.2.2.2.2.2.2.1=th1/\x.2.2.2.2.2.2.2.2.1=L0/\x.2.2.2.2.2.2.2.2.2=b1++l3) ?_ ?_
   .refine aJ (λ_=>?_) λ_=>ar ⟨fz,rfl,I,w3.p,w4.trans M,rfl,rfl,rfl⟩
    exact ax (gA 3 t3 w3.p) λy J=>ar ⟨fz,rfl,I,J.1.p,w4.trans M,rfl,rfl,rfl⟩
   rintro⟨b,m4,D4,N4,z4,t4,h4,th4,l4,b4⟩ ⟨pz,p2,p3,p4,p5,p6,p7,p8⟩;dsimp only at pz p2 p3 p4 p5 p6 p7 p8;subst p2;subst p6;subst p7;subst p8;have l44:N4.length=4:=by rw[p3];rfl
   refine aO (λ_=>?_) λ_=>ar ⟨pz,rfl,p3,p4,p5,rfl,rfl,by dsimp only;omega,hbody⟩
   refine bZ (bZ (aR ?_));refine bg (by simp at hlen ⊢;omega) (by omega) (ar ⟨pz,rfl,p3,p4,p5,rfl,rfl,by dsimp only;rw[bm,c9];omega,λs hs=>?_⟩);rcases bY.1 hs with hs|hs
   .exact hbody s hs
   .rw[aL]at hs;rw[hs];refine Rq 13 (.inr rfl) ?_;rw[p3];exact aes nT (by omega) 1 (by omega)
  rintro⟨m4,D4,N4,z4,t4,h4,th4,l4,b4⟩ ⟨pz,p2,p3,p4,p5,p6,p7,p8,p9⟩;dsimp only at pz p2 p3 p4 p5 p6 p7 p8 p9;subst p2;subst p6;subst p7;refine bg (by simp;omega) (by omega) (ar ?_);dsimp only;refine ⟨gE (by omega),rfl,p3,p4,p5,by rw[mX (T:=.str) (xs:=wK) (i:=i) (by have q4:wK.length=4:=rfl;omega),cE,e6,<-e3];show _++[z4.1]=_;rw[pz],λt ht=>?_⟩;rcases bY.1 ht with ht|ht
  .exact e7 t ht
  .rw[aL]at ht;rw[ht];exact⟨rfl,p8,p9⟩
 .rintro⟨a,m,D,N,t,h,th⟩ ⟨e1,e2,e3,e4,e5,e6,e7⟩;dsimp only at e1 e2 e3 e4 e5 e6 e7;subst e1;subst e2;refine bJ (λg=>(by dsimp only at g;rw[ew]at g;omega)) λ_=>?_
  have hthl:th.length=nT:=by have:=gX al e6;rw[bS,bC]at this;have q4:wK.length=4:=rfl;omega
  have hpm:PJ (D0,th):=⟨rfl,by dsimp only;omega,by dsimp only;omega,by dsimp only;rw[hthl];exact e7,by dsimp only;rw[hthl];exact e6⟩
  refine ax (P:=λp=>PJ p/\∃r,fD p=af r/\r.1=0) ?_ λr hr=>ar hr
  obtain⟨y,J,_⟩:=EE (D0,th) hpm.x;refine aU J (b_ (λ_=>?_) λh=>ar ⟨hpm,y,J,h⟩);refine aU Th (aU (Pe _) (aU (uv _ _) (ar ?_)));refine ⟨⟨rfl,by simp,by simp,λt ht=>?_,rfl⟩,aof⟩;simp only[aL]at ht;rw[ht];refine ⟨rfl,by simp,λs hs=>?_⟩;simp only[aL]at hs;rw[hs,fB,zF];exact GS.asg (by decide) (GE.num _ 3)
abbrev iA (l:List IT) (k:Nat):IT:=aK (T:=B') l (k:Int)
def JT (l:List IT) (ρ:Nat->Nat) (a e k:Nat):Prop:=(iA l k).1=5->∃k':Nat,(iA l k).2.1=(k':Int)/\(k'=e\/a<=k'/\k'<e/\ρ k'<ρ k)
def ru (l:List IT) (a e:Nat):Prop:=a<=e/\∃ρ:Nat->Nat,∀k,a<=k->k<e->1<=ρ k/\ρ k<=e-a/\JT l ρ a e k/\((iA l k).1<5->k+1=e\/ρ (k+1)<ρ k)
theorem ru.nil (l:List IT) (a:Nat):ru l a a:=⟨bV _,λ_=>0,λk h1 h2=>by omega⟩
theorem ru.one {l:List IT} {a:Nat} (h:¬(iA l a).1=5):ru l a (a+1):=⟨by omega,λ_=>1,λk h1 h2=>⟨bV 1,by show 1<=a+1-a;omega,λI=>by rw[show k=a by omega]at I;exact (h I).elim,λ_=>.inl (by omega)⟩⟩
theorem ru.congr {l I:List IT} {a e:Nat} (h:ru l a e) (hc:∀k,a<=k->k<e->iA I k=iA l k):ru I a e:=by
 obtain⟨h1,ρ,h2⟩:=h;exact⟨h1,ρ,λk M J=>by unfold JT;rw[hc k M J];exact h2 k M J⟩
theorem ru.app {l:List IT} {a b c:Nat} (h:ru l a b) (k:ru l b c):ru l a c:=by
 obtain⟨h1,ρ,h2⟩:=h;obtain⟨k1,σ,k2⟩:=k;refine ⟨by omega,λk=>if k<b then ρ k+(c-b) else σ k,λk Y U=>?_⟩;by_cases hk:k<b
 .obtain⟨J,M,q3,q4⟩:=h2 k Y hk;simp only[aD hk];refine ⟨by omega,by omega,?_,λI=>?_⟩
  .intro I;simp only[aD hk];obtain⟨k',e,r⟩:=q3 I;refine ⟨k',e,?_⟩;rcases r with r|⟨r1,r2,r3⟩
   .subst r;by_cases hc:k'=c
    .exact .inl hc
    .have:=(k2 k' (bV _) (by omega)).2.1;rw[aA (C1 _)];exact .inr ⟨by omega,by omega,by omega⟩
   .rw[aD r2];exact .inr ⟨r1,by omega,by omega⟩
  .rcases q4 I with r|r
   .by_cases hc:k+1=c
    .exact .inl hc
    .have:=(k2 (k+1) (by omega) (by omega)).2.1;rw[aA (by omega)];exact .inr (by omega)
   .by_cases hb:k+1<b
    .rw[aD hb];exact .inr (by omega)
    .rw[aA hb];by_cases hc:k+1=c
     .exact .inl hc
     .have:=(k2 (k+1) (by omega) (by omega)).2.1;exact .inr (by omega)
 .obtain⟨J,M,q3,q4⟩:=k2 k (by omega) U;simp only[aA hk];refine ⟨J,by omega,?_,λI=>?_⟩
  .intro I;simp only[aA hk];obtain⟨k',e,r⟩:=q3 I;refine ⟨k',e,r.imp id λ⟨r1,r2,r3⟩=>⟨by omega,r2,?_⟩⟩;rw[aA (by omega)];exact r3
  .rw[aA (by omega)];exact q4 I
theorem ru.ite {l:List IT} {a j e:Nat} (h:ru l a j) (hj:(iA l j).1=5) (U:(iA l j).2.1=(e:Int)) (k:ru l (j+1) e):ru l a e:=by
 obtain⟨h1,ρ,h2⟩:=h;obtain⟨k1,σ,k2⟩:=k;refine ⟨by omega,λk=>if k<j then ρ k+(e-j) else if k=j then e-j else σ k,λk Z Y=>?_⟩;by_cases hk:k<j
 .obtain⟨J,M,q3,q4⟩:=h2 k Z hk;simp only[aD hk];refine ⟨by omega,by omega,?_,λI=>?_⟩
  .intro I;simp only[aD hk];obtain⟨k',e',r⟩:=q3 I;refine ⟨k',e',.inr ?_⟩;rcases r with r|⟨r1,r2,r3⟩
   .rw[r,aA (C1 _),aD rfl];exact⟨by omega,by omega,by omega⟩
   .rw[aD r2];exact⟨r1,by omega,by omega⟩
  .refine .inr ?_;by_cases hb:k+1<j
   .rw[aD hb];rcases q4 I with r|r<;>omega
   .rw[aA hb,aD (by omega)];omega
 .by_cases hkj:k=j
  .subst hkj;simp only[aA hk,aD];exact⟨by omega,by omega,λ_=>⟨e,U,.inl rfl⟩,λI=>by rw[hj]at I;omega⟩
  .obtain⟨J,M,q3,q4⟩:=k2 k (by omega) Y;simp only[aA hk,aA hkj];refine ⟨J,by omega,?_,λI=>?_⟩
   .intro I;simp only[aA hk,aA hkj];obtain⟨k',e',r⟩:=q3 I;refine ⟨k',e',r.imp id λ⟨r1,r2,r3⟩=>⟨by omega,r2,?_⟩⟩;rw[aA (by omega),aA (by omega)];exact r3
   .rw[aA (by omega),aA (by omega)];exact q4 I
theorem ru.whl {l:List IT} {a c j:Nat} (h:ru l a c) (hc:(iA l c).1=10) (k:ru l (c+1) j) (hj:(iA l j).1=5) (Y:(iA l j).2.1=(a:Int)):ru l a (j+1):=by
 obtain⟨h1,ρ,h2⟩:=h;obtain⟨k1,σ,k2⟩:=k;refine ⟨by omega,λk=>if k<c then ρ k+1 else if k=c then 1 else if k<j then σ k+(c-a)+2 else c-a+2,λk Z g2=>?_⟩;by_cases hk:k<c
 .obtain⟨U,M,q3,q4⟩:=h2 k Z hk;simp only[aD hk];refine ⟨by omega,by omega,?_,λI=>?_⟩
  .intro I;simp only[aD hk];obtain⟨k',e',r⟩:=q3 I;refine ⟨k',e',.inr ?_⟩;rcases r with r|⟨r1,r2,r3⟩
   .rw[r,aA (C1 _),aD rfl];exact⟨by omega,by omega,by omega⟩
   .rw[aD r2];exact⟨r1,by omega,by omega⟩
  .refine .inr ?_;by_cases hb:k+1<c
   .rw[aD hb];rcases q4 I with r|r<;>omega
   .rw[aA hb,aD (by omega)];omega
 .by_cases hkc:k=c
  .subst hkc;simp only[aA hk,aD];exact⟨by omega,by omega,λI=>by rw[hc]at I;omega,λI=>by rw[hc]at I;omega⟩
  .simp only[aA hk,aA hkc];by_cases hkj:k<j
   .obtain⟨U,M,q3,q4⟩:=k2 k (by omega) hkj;simp only[aD hkj];refine ⟨by omega,by omega,?_,λI=>?_⟩
    .intro I;simp only[aA hk,aA hkc,aD hkj];obtain⟨k',e',r⟩:=q3 I;refine ⟨k',e',.inr ?_⟩;rcases r with r|⟨r1,r2,r3⟩
     .rw[r,aA (by omega),aA (by omega),aA (C1 _)];exact⟨by omega,by omega,by omega⟩
     .rw[aA (by omega),aA (by omega),aD r2];exact⟨by omega,by omega,by omega⟩
    .refine .inr ?_;rw[aA (by omega),aA (by omega)];by_cases hb:k+1<j
     .rw[aD hb];rcases q4 I with r|r<;>omega
     .rw[aA hb];omega
   .have hkj:k=j:=by omega
    subst hkj;simp only[aA (C1 _)];refine ⟨by omega,by omega,λ_=>⟨a,Y,.inr ⟨bV _,by omega,?_⟩⟩,λI=>by rw[hj]at I;omega⟩;simp only[aA hk,aA hkc,aA (C1 _)];by_cases J:a<c
    .rw[aD J];have:=(h2 a (bV _) J).2.1;omega
    .rw[aA J,aD (by omega)];omega
def OB (nT:Nat) (i:IT):Prop:=
 if i.1=6 then 0<=i.2.2.1/\i.2.2.1<=2 else if i.1=8 then 0<=i.2.1/\i.2.1<=2 else if i.1=7 then i.2.2.1=3/\i.2.2.2.2.1=2 else if i.1=9 then i.2.1=3/\i.2.2.2.2.1=2 else if i.1=11\/i.1=12 then i.2.1=0\/i.2.1=1 else if 13<=i.1/\i.1<=16 then i.2.1=2 else if 21<=i.1/\i.1<=23 then i.2.1=0 else if i.1=24\/i.1=25 then 0<=i.2.1/\i.2.1<(nT:Int) else if i.1=26 then i.2.1=0 else if i.1=27 then i.2.2.1=0 else if i.1=4 then 6<=i.2.2.2.2.1/\i.2.2.2.2.1<=18 else ¬i.1=3
structure GO (nT:Nat) (i:IT):Prop where
 o1:1<=i.1
 o2:i.1<=27
 r:∀j:Int,j∈iX i->0<=j/\j<32
 b:OB nT i
def SO (ss:List ν) (t s:Int):Prop:=0<=s/\s<ss.length/\(aK (T:=yI) ss s).1=t
structure GI (nT:Nat) (ss:List ν) (t:Int) (i:IT):Prop where
 o:GO nT i
 s:SO ss t i.2.2.2.2.2
theorem Vw (l:List IT) (hl:l.length<=1000000) (h1:1<=l.length) (hb:ru l 0 (l.length-1)) (he:(iA l (l.length-1)).1=28) (k:Nat) (hk:k<l.length):pO (l,(k:Int))=af ai:=by
 obtain⟨_,ρ,hρ⟩:=hb;refine ct ?_;unfold pO bd bA iY bD aZ cK aF cH;refine qF (λx=>((l.length:Int)+1-x.2).toNat) (λx=>0<=x.2/\∃q:Nat,x.1=(q:Int)/\q<l.length/\((if q<l.length-1 then ρ q else 0:Nat):Int)+x.2<=(l.length:Int)) ?_ ⟨by dsimp only;omega,k,rfl,hk,?_⟩
 .rintro⟨a,(n:Int)⟩ ⟨n0,q,e,hq,hr⟩;dsimp only at n0 e hr;subst e;refine e_ (λ_=>?_) λg=>(by dsimp only[au]at g;omega)
  refine gF ?_;refine gF (bJ (λg=>by dsimp only at g;omega) λ_=>ar ?_);refine fP (by rw[ml];dsimp only[au];omega) ?_;refine bZ (aR ?_);refine aU (Ga _) ?_;refine dW (λ_=>ar rfl) λhs=>?_
  have hs:1<=(iA l q).1/\(iA l q).1<=5:=bi hs;have J:q<l.length-1:=wh λh=>by rw[show q=l.length-1 by omega]at hs;rw[he]at hs;omega
  obtain⟨r1,r2,r3,Z⟩:=hρ q (j7 _) J;rw[aD J]at hr;refine bZ (aR ?_);have fin:∀I:Nat,I=l.length-1\/I<l.length-1/\ρ I<ρ q->0<=n+1/\∃M:Nat,(I:Int)=(M:Int)/\M<l.length/\((if M<l.length-1 then ρ M else 0:Nat):Int)+(n+1)<=(l.length:Int):=λI h=>⟨by omega,I,rfl,by omega,by
   rcases h with h|⟨h,h'⟩
   .rw[aA (by omega)];omega
   .rw[aD h];omega⟩
  refine aJ (λU=>?_) λU=>ar (ar ?_)
  .obtain⟨I,e,Y⟩:=r3 U;refine aS (dX _) (by dsimp only;omega) (aR (ar (ar ?_)));dsimp only;rw[hP (n:=n+1) (by omega) (by omega)];have:=fin I (Y.imp id λh=>⟨h.2.1,h.2.2⟩);rw[<- e]at this;exact⟨this,by omega⟩
  .dsimp only;have U:¬(iA l q).1=5:=U;rw[hP (n:=n+1) (by omega) (by omega),gE (by omega)];refine ⟨fin (q+1) ?_,by omega⟩;rcases Z (by omega) with h|h
   .exact .inl h
   .by_cases hb:q+1=l.length-1
    .exact .inl hb
    .exact .inr ⟨by omega,h⟩
 .dsimp only;split
  .rename_i h;have:=(hρ k (j7 _) h).2.1;omega
  .omega
theorem LC (w:WT) (I:w.1=C0):nI (w,3,2)=af ai:=by
 refine ct ?_;have h0:(0:Int)<=3:=by decide
 have h1:(3:Int)<(w.1.length:Int):=by rw[I];decide
 have J:aK (T:=Q6) w.1 3=([113],0,2,aj,0):=by rw[I];rfl
 unfold nI bd iO bD aZ aF;refine gF (aU (sG _ _) (aJ (λ_=>?_) λh=>(h ⟨h0,h1⟩).elim));dsimp only;rw[J];refine aS h0 h1 (aR (aJ (λ_=>?_) λh=>(h rfl).elim));refine aS h0 h1 (aR (b_ (λ_=>?_) λh=>cX h (by decide)));exact aS h0 h1 (aR (ar (ar rfl)))
theorem Pc {nT:Nat} (w:WT) (i:IT) (hw:WX w) (hT:w.2.2.2.2.1.length=nT) (hb:OB nT i):lU (w,i)=af ai:=by
 obtain⟨hc,hl,hd,hf,_,_,_⟩:=hw;refine ct ?_;unfold lU aX bf bu ch dC bd iY bD aZ aF;unfold OB at hb;simp only[sG,X6];refine aJ (λh=>?_) λn6=>?_
 .rw[aD h]at hb;have J:(aK (T:=Q6) w.1 i.2.2.1).2.2.1=(0:Int):=by
   rw[hc];rcases (by omega:i.2.2.1=0\/i.2.2.1=1\/i.2.2.1=2) with h|h|h<;>rw[h]<;>rfl
  have hi:0<=i.2.2.1/\i.2.2.1<(w.1.length:Int):=⟨hb.1,by rw[hc];have:=hb.2;show i.2.2.1<5;omega⟩
  exact gF (aJ (λ_=>aS hi.1 hi.2 (aR (ar (ar (aQ J))))) λh=>(h hi).elim)
 rw[aA n6]at hb;refine aJ (λh=>?_) λZ=>?_
 .rw[aD h]at hb;have J:(aK (T:=Q6) w.1 i.2.1).2.2.1=(0:Int):=by
   rw[hc];rcases (by omega:i.2.1=0\/i.2.1=1\/i.2.1=2) with h|h|h<;>rw[h]<;>rfl
  have hi:0<=i.2.1/\i.2.1<(w.1.length:Int):=⟨hb.1,by rw[hc];have:=hb.2;show i.2.1<5;omega⟩
  exact gF (aJ (λ_=>aS hi.1 hi.2 (aR (ar (ar (aQ J))))) λh=>(h hi).elim)
 rw[aA Z]at hb;refine aJ (λh=>?_) λn7=>?_
 .rw[aD h]at hb;rw[hb.1,hb.2];exact aU (LC w hc) (ar rfl)
 rw[aA n7]at hb;refine aJ (λh=>?_) λY=>?_
 .rw[aD h]at hb;rw[hb.1,hb.2];exact aU (LC w hc) (ar rfl)
 rw[aA Y]at hb;refine aY (λx=>x.2=(w,i)/\(x.1=ai↔i.1=11\/i.1=12)) (aJ (λh=>ar ⟨rfl,λ_=>.inl h,λ_=>aQ h⟩) λh=>ar ⟨rfl,λh2=>.inr (bi h2),λh2=>aQ (h2.resolve_left h)⟩) ?_;rintro⟨b,x⟩ ⟨e,M⟩;dsimp only at e M;subst e;refine aO (λh=>?_) λh=>?_
 .rw[aD (M.1 h)]at hb;have J:(aK (T:=U8) w.2.1 i.2.1).2=aj:=by
   rw[hl];rcases hb with h|h<;>rw[h]<;>rfl
  have hi:0<=i.2.1/\i.2.1<(w.2.1.length:Int):=⟨by omega,by rw[hl];show i.2.1<3;omega⟩
  exact gF (aJ (λ_=>aS hi.1 hi.2 (aR (ar (ar (by dsimp only;rw[J];rfl))))) λh=>(h hi).elim)
 rw[aA λh2=>by rw[M.2 h2]at h;cases h]at hb;have hj:∀{p:Prop} {b:Bool},(b=ai->p)->(p->b=ai)->b=aj->¬p:=λ_ h2 U I=>by rw[h2 I]at U;cases U
 refine aY (λx=>x.2=(w,i)/\(x.1=ai->13<=i.1/\i.1<=16)/\(13<=i.1/\i.1<=16->x.1=ai)) (aJ (λh=>ar ⟨rfl,λ_=>by first|omega|(dsimp only at h;omega),λ_=>aQ h⟩) λ_=>aJ (λh=>ar ⟨rfl,λ_=>by first|omega|(dsimp only at h;omega),λ_=>aQ h⟩) λ_=>aJ (λh=>ar ⟨rfl,λ_=>by first|omega|(dsimp only at h;omega),λ_=>aQ h⟩) λ_=>ar ⟨rfl,λh=>by have:=bi h;first|omega|(dsimp only at this;omega),λh=>aQ (by first|omega|(dsimp only at *;omega))⟩) ?_;rintro⟨b,x⟩ ⟨e,h1,h2⟩;dsimp only at e h1 h2;subst e;refine aO (λh=>?_) λh=>?_
 .rw[aD (h1 h)]at hb;have hi:0<=i.2.1/\i.2.1<(w.2.1.length:Int):=⟨by omega,by rw[hl];show i.2.1<3;omega⟩
  exact gF (aJ (λ_=>aS hi.1 hi.2 (aR (ar (ar (by dsimp only;rw[hb,hl];rfl))))) λh=>(h hi).elim)
 rw[aA (hj h1 h2 h)]at hb;refine aY (λx=>x.2=(w,i)/\(x.1=ai->21<=i.1/\i.1<=23)/\(21<=i.1/\i.1<=23->x.1=ai)) (aJ (λh=>ar ⟨rfl,λ_=>by first|omega|(dsimp only at h;omega),λ_=>aQ h⟩) λ_=>aJ (λh=>ar ⟨rfl,λ_=>by first|omega|(dsimp only at h;omega),λ_=>aQ h⟩) λ_=>ar ⟨rfl,λh=>by have:=bi h;first|omega|(dsimp only at this;omega),λh=>aQ (by first|omega|(dsimp only at *;omega))⟩) ?_;rintro⟨b,x⟩ ⟨e,h1,h2⟩;dsimp only at e h1 h2;subst e;refine aO (λh=>?_) λh=>?_
 .rw[aD (h1 h)]at hb;exact ar (aQ ⟨by dsimp only;omega,by dsimp only;rw[hd];show i.2.1<1;omega⟩)
 rw[aA (hj h1 h2 h)]at hb;refine aY (λx=>x.2=(w,i)/\(x.1=ai->i.1=24\/i.1=25)/\(i.1=24\/i.1=25->x.1=ai)) (aJ (λh=>ar ⟨rfl,λ_=>.inl h,λ_=>aQ h⟩) λh=>ar ⟨rfl,λh2=>.inr (bi h2),λh2=>aQ (h2.resolve_left h)⟩) ?_;rintro⟨b,x⟩ ⟨e,h1,h2⟩;dsimp only at e h1 h2;subst e;refine aO (λh=>?_) λh=>?_
 .rw[aD (h1 h)]at hb;exact ar (aQ ⟨hb.1,by dsimp only;rw[hT];exact hb.2⟩)
 rw[aA (hj h1 h2 h)]at hb;refine aJ (λh=>?_) λn=>?_
 .rw[aD h]at hb;exact ar (aQ ⟨by dsimp only;omega,by dsimp only;rw[hf];show i.2.1<1;omega⟩)
 rw[aA n]at hb;refine aJ (λh=>?_) λn=>?_
 .rw[aD h]at hb;exact ar (aQ ⟨by dsimp only;omega,by dsimp only;rw[hf];show i.2.2.1<1;omega⟩)
 rw[aA n]at hb;by_cases I:i.1=4
 .rw[aD I]at hb;refine aJ (λh=>by have h:i.1=3:=h;omega) λ_=>aJ (λ_=>?_) λh=>(h I).elim
  refine gF (e_ (λ_=>ar (ar (Pt.2 hb.2))) λh=>by dsimp only at h;omega)
 .rw[aA I]at hb;exact aJ (λh=>(hb h).elim) λ_=>aJ (λh=>(I h).elim) λ_=>ar rfl
structure GC (nT:Nat) (ss:List ν) (k:Int) (c:Int×List IT):Prop where
 r0:1<=c.1
 r1:c.1<=32
 n:1<=c.2.length
 u:c.2.length<=1000000
 e:(iA c.2 (c.2.length-1)).1=28/\(iA c.2 (c.2.length-1)).2.2.2.2.2= -1
 b:ru c.2 0 (c.2.length-1)
 i:∀q:Nat,q<c.2.length-1->GI nT ss k (iA c.2 q)
 r:∀q:Nat,q<c.2.length-1->(iA c.2 q).1=10->0<=(iA c.2 q).2.2.1/\(iA c.2 q).2.2.1<(c.2.length:Int)
 g:∀q:Nat,q<c.2.length-1->∀j:Int,j∈iX (iA c.2 q)->j<c.1
theorem ER {nT:Nat} {w:WT} {k:Int} {c:Int×List IT} (hw:WX w) (hT:w.2.2.2.2.1.length=nT) (hc:GC nT w.2.2.2.2.2 k c):iz (w,k,c)=af ai:=by
 obtain⟨r0,r1,n1,hu,he,hb,hi,hr,hg⟩:=hc;refine ct ?_;unfold iz aX bf bu ch bK cN nZ bd bA iO bD aZ cK aF cH;refine aY (λx=>x.2=(w,c)/\x.1=aj) ?_ ?_
 .refine bJ (λh=>by have h:c.1<0:=h;omega) λ_=>bJ (λh=>by have h:32<c.1:=h;omega) λ_=>ar ⟨rfl,bw λh=>by have h:aP c.2.length=0:=h;dsimp only[au]at h;omega⟩
 rintro⟨b,x⟩ ⟨e,Y⟩;dsimp only at e Y;subst e;subst Y;refine gw ?_;refine b8 c.2.length (λi x=>x.1=(i:Int)/\x.2=(w,c)) ?_ ?_ ⟨rfl,rfl⟩
 .rintro i ⟨a,x⟩ hi2 ⟨e1,e2⟩;dsimp only at e1 e2;subst e1;subst e2;have hla:=Vw c.2 hu n1 hb he.1 i hi2;have Z:∀z:IT,z=iA c.2 i->(i<c.2.length-1->GI nT w.2.2.2.2.2 k z/\(z.1=10->0<=z.2.2.1/\z.2.2.1<(c.2.length:Int))/\(z.1=5->0<=z.2.1/\z.2.1<(c.2.length:Int))/\∀j:Int,j∈iX z->j<c.1)/\(i=c.2.length-1->z.1=28/\z.2.2.2.2.2= -1):=λz Z=>by
   subst Z;refine ⟨λh=>⟨hi i h,hr i h,λh5=>?_,hg i h⟩,λh=>by rw[h];exact he⟩;obtain⟨_,ρ,hρ⟩:=hb;obtain⟨q',e,hq'⟩:=(hρ i (j7 _) h).2.2.1 h5;rw[e];omega
  refine di ?_;refine bZ (aR ?_);generalize hzz:(aK (T:=B') c.2 (i:Int))=z;obtain⟨I,J⟩:=Z z hzz.symm;have hcs:i<c.2.length-1\/i=c.2.length-1:=by omega
  have o1:1<=z.1:=by
   rcases hcs with h|h
   .exact (I h).1.o.o1
   .rw[(J h).1];decide
  have o2:z.1<=28:=by
   rcases hcs with h|h
   .exact Int.le_trans (I h).1.o.o2 (by decide)
   .rw[(J h).1];decide
  have M:z.1=28->i=c.2.length-1:=λh=>hcs.resolve_left λg=>by have:=(I g).1.o.o2;rw[h]at this;exact cX this (by decide)
  have hob:OB nT z:=by
   rcases hcs with h|h
   .exact (I h).1.o.b
   .unfold OB;rw[(J h).1];simp
  have hrg:∀j:Int,j∈iX z->0<=j/\j<c.1:=λj hj=>by
   rcases hcs with h|h
   .exact⟨((I h).1.o.r j hj).1,(I h).2.2.2 j hj⟩
   .unfold iX at hj;rw[(J h).1]at hj;simp at hj
  have hwr:bk .i64 (aP c.2.length-1)=((c.2.length-1:Nat):Int):=by rw[hP (by dsimp only[au];omega) (by dsimp only[au];omega)];dsimp only[au];omega
  have hcd:((decide (z.1=28)==decide ((i:Int)=bk .i64 (aP c.2.length-1))) !=ai)=aj:=by
   rw[hwr];rcases hcs with h|h
   .rw[bw λh2=>by have:=M h2;omega,bw (by omega:¬(i:Int)=((c.2.length-1:Nat):Int))];rfl
   .rw[aQ (J h).1,aQ (by omega:(i:Int)=((c.2.length-1:Nat):Int))];rfl
  refine aY (λx=>x=(aj,w,c,z)) ?_ ?_
  .refine bJ (λh=>cX h (CX.2 o1)) λ_=>bJ (λh=>cX h (CX.2 o2)) λ_=>fP hcd ?_
   refine aU (Pc w z hw hT hob) (fP rfl (aU hla (ar rfl)))
  rintro x rfl;refine gw (aY (λx=>x=(aj,w,c,z)) ?_ ?_)
  .simp only[sG,X6];refine aJ (λh=>?_) λh=>?_
   .have h5:=(J (M h)).2;exact b_ (λg=>(g h5).elim) λ_=>b_ (λg=>(g h).elim) λ_=>ar rfl
   .have hsi:=(I (hcs.resolve_right λg=>h (J g).1)).1.s;refine b_ (λ_=>b_ (λg=>(g ⟨hsi.1,hsi.2.1⟩).elim) λg=>aS g.1 g.2 (aR (ar ?_))) λg=>(h g).elim
    rw[aQ hsi.2.2];rfl
  rintro x rfl;refine gw (aY (λx=>x=(aj,w,c,z)) ?_ ?_)
  .simp only[sG,X6];have U:z.1=5\/z.1=10->i<c.2.length-1:=λh=>hcs.resolve_right λg=>by rw[(J g).1]at h;exact cX h (by decide)
   refine aJ (λh=>?_) λh=>?_
   .have h2:=(I (U (.inl h))).2.2.1 h;refine b_ (λg=>(g h2).elim) λ_=>aJ (λg=>?_) λ_=>ar rfl
    rw[h]at g;exact cX g (by decide)
   .refine aJ (λg=>ar ?_) λ_=>ar rfl
    have h2:=(I (U (.inr g))).2.1 g;rw[aQ (show 0<=z.2.2.1/\z.2.2.1<aP c.2.length from h2)];rfl
  rintro x rfl;refine gw (aU (ui z) ?_);have hrl:=Dg z;refine b8 (iX z).length (λj x=>x=((j:Int),w,c)) ?_ ?_ rfl
  .rintro j x hj rfl;refine di ?_;refine bZ (aR ?_);refine aU (sG _ _) (b_ (λg=>(g (hrg _ (bL (T:=.int .i64) (xs:=iX z) (j:=(j:Int)) (by omega) (by omega)))).elim) λ_=>ar ?_);dsimp only;rw[gE (by omega)]
  .rintro x rfl;exact dj (ar ⟨gE (by omega),rfl⟩)
 .rintro⟨a,x⟩ ⟨e1,e2⟩;dsimp only at e1 e2;subst e1;subst e2;exact dj (ar rfl)
abbrev GN:Type:=List (ζ×Int×Int×Bool×Int)×List (ζ×Bool)×List (ζ×Int)×List ζ×List ζ×List ν×List ζ×Int×Int
theorem NJ (l:List (ζ×Bool)) (s:ζ) (hl:l.length<=1000):Ok (kw (l,s)) λr=> -1<=r/\r<l.length/\(0<=r->(aK (T:=U8) l r).1=s)/\(r<0->∀c∈l,c.1≠s):=by
 unfold kw bA bD aZ cK aF cH;refine b8 l.length (λi x=>x=(i:Int)/\∀k:Nat,k<i->(aK (T:=U8) l (k:Int)).1≠s) ?_ ?_ ⟨rfl,λk hk=>by omega⟩
 .rintro i x hi ⟨rfl,I⟩;refine di ?_;refine bZ (aR ?_);refine aJ (λh=>ar ⟨by omega,by omega,λ_=>h,λh=>by omega⟩) λh=>ar ⟨gE (by omega),λk hk=>?_⟩
  rcases ci k i with h1|h1
  .exact I k h1
  .rw[show k=i by omega];exact h
 .rintro x ⟨rfl,I⟩;exact dj (ar ⟨by omega,by omega,λh=>by omega,λ_=>iD (T:=U8) (p:=λc=>c.1≠s) I⟩)
theorem aje {r:Int} {s:ζ} (h: -1<=r/\r<HE.length/\(0<=r->(aK (T:=U8) HE r).1=s)/\(r<0->∀c∈HE,c.1≠s)):(s=[109]->r=0)/\(s=[110]->r=1)/\(s=[114]->r=2):=by
 obtain⟨h0,h1,h2,I⟩:=h;have h1:r<3:=h1;rcases (by omega:r= -1\/r=0\/r=1\/r=2) with rfl|rfl|rfl|rfl
 .have I:=I (by decide);exact⟨λh=>(I ([109],aj) (by decide) h.symm).elim,λh=>(I ([110],aj) (by decide) h.symm).elim,λh=>(I ([114],ai) (by decide) h.symm).elim⟩
 .have h2:[109]=s:=h2 (by decide);subst h2;exact⟨λ_=>rfl,λh=>(by cases h),λh=>(by cases h)⟩
 .have h2:[110]=s:=h2 (by decide);subst h2;exact⟨λh=>(by cases h),λ_=>rfl,λh=>(by cases h)⟩
 .have h2:[114]=s:=h2 (by decide);subst h2;exact⟨λh=>(by cases h),λh=>(by cases h),λ_=>rfl⟩
theorem Ba (w:WT) (s:ζ) (J:w.1=C0):Ok (lI (w,s)) λr=>(s∈NV->s∉L0->0<=r/\r<=2)/\(s=[113]->r=3):=by
 have hl:w.1.length=5:=by rw[J];rfl
 unfold lI bA bD aZ cK aF cH;refine b8 w.1.length (λi x=>x.1=(i:Int)/\x.2=w/\∀k:Nat,k<i->(aK (T:=Q6) w.1 (k:Int)).1≠s) ?_ ?_ ⟨rfl,rfl,λk hk=>by omega⟩
 .rintro i ⟨a,x⟩ hi ⟨e1,e2,e3⟩;dsimp only at e1 e2 e3;subst e1;have e2:=e2.symm;subst e2;refine di ?_;refine bZ (aR ?_);refine aJ (λh=>ar ?_) λg=>ar ?_
  .rw[J]at h e3;rw[hl]at hi;rcases (by omega:i=0\/i=1\/i=2\/i=3\/i=4) with rfl|rfl|rfl|rfl|rfl
   .have h:[120]=s:=h;subst h;exact⟨λ_ _=>⟨by dsimp only;omega,by dsimp only;omega⟩,λh=>(by cases h)⟩
   .have h:[121]=s:=h;subst h;exact⟨λ_ _=>⟨by dsimp only;omega,by dsimp only;omega⟩,λh=>(by cases h)⟩
   .have h:[118]=s:=h;subst h;exact⟨λ_ _=>⟨by dsimp only;omega,by dsimp only;omega⟩,λh=>(by cases h)⟩
   .have h:[113]=s:=h;subst h;exact⟨λh=>cX h (by decide),λ_=>rfl⟩
   .have h:[113]=s:=h;exact (e3 3 (by omega) h).elim
  .refine ⟨gE (by omega),rfl,λk hk=>?_⟩;rcases ci k i with h1|h1
   .exact e3 k h1
   .rw[show k=i by omega];exact g
 .rintro⟨a,x⟩ ⟨e1,e2,e3⟩;dsimp only at e1 e2 e3;subst e1;have e2:=e2.symm;subst e2;refine dj (ar ?_);have hn:=iD (T:=Q6) (p:=λc=>c.1≠s) e3;rw[J]at hn;have a1:=hn ([120],0,0,aj,0) (by decide);have a2:=hn ([121],0,0,aj,1) (by decide);have a3:=hn ([118],0,0,ai,0) (by decide);have M:=hn ([113],0,2,aj,0) (by decide);refine ⟨λh I=>?_,λh=>(M h.symm).elim⟩;simp only[bp,cF,gu,L0]at h I;rcases h with rfl|rfl|rfl|rfl|rfl
  .exact (I (.inl rfl)).elim
  .exact (I (.inr rfl)).elim
  .exact (a1 rfl).elim
  .exact (a2 rfl).elim
  .exact (a3 rfl).elim
theorem Jb (i:IT) (g:GN) (out:List IT) (h:out.length<=100000000):Ok (cI (i,g,out)) λy=>y.1=g/\y.2=out++[(i.1,i.2.1,i.2.2.1,i.2.2.2.1,i.2.2.2.2.1,g.2.2.2.2.2.2.2.1)]:=by
 unfold cI aX bf bu ja bE;exact bg (by simp;omega) (by omega) (ar ⟨rfl,rfl⟩)
def VE:Nat->Nat
 |0=>0
 |d+1=>1+2*VE d
theorem JI {l m:List IT} {k:Nat} (h:k<l.length):iA (l++m) k=iA l k:=by
 unfold iA;rw[xd,xd,ay,ay,bM h]
theorem xX (l:List IT) (x:IT):iA (l++[x]) l.length=x:=by
 unfold iA;rw[xd,ay,b7 (bV _)];simp
structure QC (nT:Nat) (ss:List ν) (t:Int) (n:Nat) (out o:List IT):Prop where
 l:out.length<=o.length
 u:o.length<=out.length+n
 p:∀k:Nat,k<out.length->iA o k=iA out k
 b:ru o out.length o.length
 i:∀k:Nat,out.length<=k->k<o.length->GI nT ss t (iA o k)
 r:∀k:Nat,out.length<=k->k<o.length->(iA o k).1=10->0<=(iA o k).2.2.1/\(iA o k).2.2.1<=(o.length:Int)
variable {nT:Nat} {ss:List ν} {t:Int}
theorem QC.nil (n:Nat) (out:List IT):QC nT ss t n out out:=⟨bV _,by omega,λ_ _=>rfl,ru.nil _ _,λk h1 h2=>by omega,λk h1 h2=>by omega⟩
theorem QC.trans {a b c:Nat} {x y z:List IT} (h:QC nT ss t a x y) (k:QC nT ss t b y z) (hc:a+b<=c):QC nT ss t c x z:=by
 obtain⟨h1,h2,h3,h4,h5,h6⟩:=h;obtain⟨k1,k2,I,k4,Z,Y⟩:=k;refine ⟨by omega,by omega,λq hq=>(I q (by omega)).trans (h3 q hq),(h4.congr λq _ hq=>I q hq).app k4,λq U M=>?_,λq U M J=>?_⟩
 .by_cases hq:q<y.length
  .rw[I q hq];exact h5 q U hq
  .exact Z q (by omega) M
 .by_cases hq:q<y.length
  .rw[I q hq]at J ⊢;have:=h6 q U hq J;omega
  .exact Y q (by omega) M J
theorem QC.one {out:List IT} {i:IT} (h:GI nT ss t i) (I:¬i.1=5/\¬i.1=10):QC nT ss t 1 out (out++[i]):=by
 have hl:(out++[i]).length=out.length+1:=by rw[bm];rfl
 refine ⟨by omega,by omega,λk hk=>JI hk,?_,λk h1 h2=>?_,λk h1 h2 J=>?_⟩
 .rw[hl];exact ru.one (by rw[xX];exact I.1)
 .rw[show k=out.length by omega,xX];exact h
 .rw[show k=out.length by omega,xX]at J;exact (I.2 J).elim
structure GK (ss:List ν) (t:Int) (g:GN):Prop where
 c:g.1=C0
 l:g.2.2.2.2.2.2.1=L0
 s:SO ss t g.2.2.2.2.2.2.2.1
theorem ZH {nT:Nat} {op A B C N Z:Int} (h1:1<=op) (h2:op<=27) (hr:∀j:Int,j∈iX (op,A,B,C,N,Z)->0<=j/\j<32) (hb:OB nT (op,A,B,C,N,Z)):GO nT (op,A,B,C,N,Z):=⟨h1,h2,hr,hb⟩
theorem E3 {op:Int} {r:υ} {g:GN} {out:List IT} (h:out.length<=100000000) (hg:GK ss t g) (hi:GO nT (op,r)) (J:¬op=5/\¬op=10):Ok (cI ((op,r),g,out)) λy=>y.1=g/\QC nT ss t 1 out y.2:=(Jb (op,r) g out h).mono λy I=>⟨I.1,by rw[I.2];exact QC.one ⟨⟨hi.o1,hi.o2,hi.r,hi.b⟩,hg.s⟩ J⟩
theorem NU:∀(n d:Nat),d<n->∀(e:Xp) (k:Int) (g:GN) (out:List IT),GE d e->GK ss t g->0<=k->k+d<=31->out.length+VE d<=100000000->Ok (iS n ((e,k),g,out)) λy=>y.1=g/\QC nT ss t (VE d) out y.2
 |0,_,h,_,_,_,_,_,_,_,_,_=>by omega
 |n+1,0,_,e,_,_,_,h,_,_,_,_=>h.elim
 |n+1,d+1,hn,e,k,g,out,h,hg,k0,k1,hb=>by
  obtain⟨h1,h2,h3,h4,h5,h6⟩:=h;obtain⟨gc,gl,gs⟩:=id hg;have hv:VE (d+1)=1+2*VE d:=rfl;rw[Bo];unfold qY aX bf bu ch dC bd iY bE bD aF cH;refine aY (λy=>y.1=g/\QC nT ss t (VE (d+1)) out y.2) ?_ λx hx=>ar hx
  have fin:∀{y:GN×List IT},(y.1=g/\QC nT ss t 1 out y.2)->y.1=g/\QC nT ss t (VE (d+1)) out y.2:=λh=>⟨h.1,(QC.nil 0 out).trans h.2 (by omega)⟩
  refine aJ (λ_=>?_) λn1=>?_
  .refine ax (E3 (nT:=nT) (by omega) hg (ZH (by decide) (by decide) (by simp[iX];omega) ((by decide:¬(1:Int)=3))) (by decide)) λy I=>bh (by simp) (ar (fin I))
  refine aJ (λZ=>?_) λZ=>?_
  .refine ax (zk _ _ (by dsimp only;rw[gl];decide)) λv hv=>e_ (λg0=>?_) λg0=>?_
   .have J:=hv.2.1;dsimp only at J g0;rw[gl]at J;have J:v<2:=J;refine ax (E3 (nT:=nT) (by omega) hg (ZH (by decide) (by decide) (by simp[iX];omega) ((by decide:¬(2:Int)=3))) (by decide)) λy I=>bh (by simp) (ar (fin I))
   .have J:=hv.2.2.2 g0;dsimp only at J;rw[gl]at J;refine ax (Ba _ _ gc) λv Y=>?_
    have v2:=Y.1 (h5 Z) J;refine ax (E3 (nT:=nT) (by omega) hg (ZH (by decide) (by decide) (by simp[iX];omega) (v2)) (by decide)) λy I=>bh (by simp) (ar (fin I))
  have hl:=h2 n1 Z;have hrec:∀(j:Nat),j<e.l.length->∀(k':Int) (o:List IT),0<=k'->k'+d<=31->o.length+VE d<=100000000->Ok (iS n ((aK (T:=.ex) e.l (j:Int),k'),g,o)) λy=>y.1=g/\QC nT ss t (VE d) o y.2:=λj hj k' o q0 U ho=>NU n d (by omega) _ k' g o (h4 _ (bL (T:=.ex) (xs:=e.l) (j:=(j:Int)) (by omega) (by omega))) hg q0 U ho
  refine aJ (λn3=>?_) λn3=>?_
  .refine bZ (aR ?_);refine ax (hrec 0 hl k out k0 (by omega) (by omega)) λy I=>?_
   obtain⟨g2,o2⟩:=y;obtain⟨U,M⟩:=I;dsimp only at U M;subst U;have q3:=M.u;refine bh (by simp) ?_;refine ax (Ba _ _ gc) λv Y=>?_
   have v3:=Y.2 (h1 n3);have v3:v=3:=v3;subst v3;refine aS (by decide) (by dsimp only;rw[gc];decide) (aR ?_);refine ax (E3 (nT:=nT) (by omega) hg (ZH (by decide) (by decide) (by simp[iX];omega) (⟨rfl,by dsimp only;rw[gc];rfl⟩)) (by decide)) λy I=>bh (by simp) (ar ⟨I.1,M.trans I.2 (by omega)⟩)
  obtain⟨h7,h8,h9⟩:=h6 n1 Z n3;refine aJ (λn4=>?_) λn4=>?_
  .dsimp only[au]at n4;omega
  .have hl2:1<e.l.length:=by omega
   refine bZ (aR ?_);refine ax (hrec 0 hl k out k0 (by omega) (by omega)) λy I=>?_
   obtain⟨g2,o2⟩:=y;obtain⟨U,M⟩:=I;dsimp only at U M;subst U;have q3:=M.u;refine bh (by simp) ?_;refine bZ (aR ?_);dsimp only;rw[hP (n:=k+1) (by omega) (by omega)];refine ax (hrec 1 hl2 _ o2 (by omega) (by omega) (by omega)) λy I=>?_
   obtain⟨g3,o3⟩:=y;obtain⟨r1,r2⟩:=I;dsimp only at r1 r2;subst r1;have r3:=r2.u;refine bh (by simp) ?_;refine ax (E3 (nT:=nT) (by omega) hg (ZH (by decide) (by decide) (by simp[iX];omega) (⟨h8,h9⟩)) (by decide)) λy I=>bh (by simp) (ar ⟨I.1,(M.trans r2 (bV _)).trans I.2 (by omega)⟩)
theorem U5 (e:Xp) (k:Int) (g:GN) (out:List IT) (he:GE 4 e) (hg:GK ss t g) (I:0<=k) (k1:k<=27) (h:out.length<=99999900):Ok (iQ ((e,k),g,out)) λy=>y.1=g/\QC nT ss t 15 out y.2:=NU fuel 4 (by rw[jY];omega) e k g out he hg I (by omega) (by have:VE 4=15:=rfl;omega)
structure GB (nT:Nat) (g:GN):Prop where
 c:g.1=C0
 l:g.2.1=HE
 d:g.2.2.1=Nn
 f:g.2.2.2.1=UI
 t:g.2.2.2.2.1=wK.take nT
 h:g.2.2.2.2.2.2.1=L0
structure GQ (g y:GN):Prop where
 a:y.1=g.1
 b:y.2.1=g.2.1
 c:y.2.2.1=g.2.2.1
 d:y.2.2.2.1=g.2.2.2.1
 e:y.2.2.2.2.1=g.2.2.2.2.1
 h:y.2.2.2.2.2.2.1=g.2.2.2.2.2.2.1
theorem GQ.refl (g:GN):GQ g g:=⟨rfl,rfl,rfl,rfl,rfl,rfl⟩
theorem GQ.trans {a b c:GN} (h:GQ a b) (k:GQ b c):GQ a c:=⟨k.a.trans h.a,k.b.trans h.b,k.c.trans h.c,k.d.trans h.d,k.e.trans h.e,k.h.trans h.h⟩
variable {nT:Nat} {ss:List ν} {t:Int}
theorem GB.of {g y:GN} (h:GB nT g) (q:GQ g y):GB nT y:=⟨q.a.trans h.c,q.b.trans h.l,q.c.trans h.d,q.d.trans h.f,q.e.trans h.t,q.h.trans h.h⟩
theorem GQ.site (g:GN) (x:List ν) (a b:Int):GQ g (g.1,g.2.1,g.2.2.1,g.2.2.2.1,g.2.2.2.2.1,x,g.2.2.2.2.2.2.1,a,b):=⟨rfl,rfl,rfl,rfl,rfl,rfl⟩
abbrev gS (g:GN):Int:=g.2.2.2.2.2.2.2.1
abbrev gN (g:GN):Int:=g.2.2.2.2.2.2.2.2
structure QG (nT:Nat) (ss:List ν) (t:Int) (n m:Nat) (g:GN) (out:List IT) (y:GN×List IT):Prop where
 q:GQ g y.1
 c:QC nT ss t n out y.2
 x:gN y.1=gN g+(m:Int)
theorem xQ {op:Int} {r:υ} {g:GN} {out:List IT} (h:out.length<=100000000) (hg:GB nT g) (hs:SO ss t (gS g)) (hi:GO nT (op,r)) (I:¬op=5/\¬op=10):Ok (cI ((op,r),g,out)) λy=>y.1=g/\QC nT ss t 1 out y.2:=E3 h ⟨hg.c,hg.h,hs⟩ hi I
theorem C6 (e:Xp) (k:Int) (g:GN) (out:List IT) (he:GE 4 e) (hg:GB nT g) (hs:SO ss t (gS g)) (I:0<=k) (k1:k<=27) (h:out.length<=99999000):Ok (iQ ((e,k),g,out)) λy=>y.1=g/\QC nT ss t 15 out y.2:=U5 e k g out he ⟨hg.c,hg.h,hs⟩ I k1 (by omega)
theorem GB.len {g:GN} (h:GB nT g):aP (al g.2.2.2.2.2.2.1)=2:=by rw[h.h];rfl
theorem Xh (s:Sx) (g:GN) (out:List IT) (h1:s.index≠[]->s.name=[113]) (h2:∀e∈s.index,GE 4 e) (h3:GE 4 s.expr) (h4:s.index=[]->s.name∈NV) (hg:GB nT g) (hs:SO ss t (gS g)) (h:out.length<=99990000):Ok (mg (s,g,out)) λy=>y.1=g/\QC nT ss t 40 out y.2:=by
 have hex:GE 4 (em (Xp.op s.expr,Xp.n s.expr,Xp.name s.expr,Xp.l s.expr)):=by rw[fB];exact h3
 have e3:bk .i64 ((2:Int)+1)=3:=hP (by decide) (by decide);unfold mg aX bf bu ch dC bA iY bE bD aZ;refine bJ (λJ=>?_) λJ=>?_
 .dsimp only[au]at J;refine bZ (aR ?_);refine ax (C6 _ _ g out (h2 _ (bL (T:=.ex) (xs:=s.index) (j:=0) (by omega) (by omega))) hg hs (by rw[hg.len];decide) (by rw[hg.len];decide) (by omega)) λy I=>?_
  obtain⟨g2,o2⟩:=y;obtain⟨Y,U⟩:=I;dsimp only at Y U;subst Y;have q3:=U.u;refine bh (by simp) ?_;dsimp only;rw[hg.len,e3];refine ax (C6 _ _ g2 o2 hex hg hs (by decide) (by decide) (by omega)) λy I=>?_
  obtain⟨g3,o3⟩:=y;obtain⟨r1,r2⟩:=I;dsimp only at r1 r2;subst r1;have r3:=r2.u;refine bh (by simp) ?_;refine ax (Ba _ _ hg.c) λv hv=>?_
  have Z:=hv.2 (h1 (λh=>by rw[h]at J;simp at J));have Z:v=3:=Z;subst Z;refine aS (by decide) (by dsimp only;rw[hg.c];decide) (aR ?_);refine ax (xQ (by omega) hg hs (ZH (by decide) (by decide) (by simp[iX,hg.h,L0]) (⟨rfl,by dsimp only;rw[hg.c];rfl⟩)) (by decide)) λy I=>bh (by simp) (ar ⟨I.1,(U.trans r2 (bV _)).trans I.2 (by omega)⟩)
 .have hi0:s.index=[]:=gW.1 (by dsimp only[au]at J;omega);refine ax (C6 _ _ g out hex hg hs (by rw[hg.len];decide) (by rw[hg.len];decide) (by omega)) λy I=>?_
  obtain⟨g2,o2⟩:=y;obtain⟨Y,U⟩:=I;dsimp only at Y U;subst Y;have q3:=U.u;refine bh (by simp) ?_;refine ax (zk _ _ (by dsimp only;rw[hg.h];decide)) λv hv=>e_ (λJ=>?_) λJ=>?_
  .have M:=hv.2.1;dsimp only at M J;rw[hg.h]at M;have M:v<2:=M;refine ax (xQ (by omega) hg hs (ZH (by decide) (by decide) (by simp[iX,hg.h,L0];omega) ((by decide:¬(2:Int)=3))) (by decide)) λy I=>bh (by simp) (ar ⟨I.1,U.trans I.2 (by omega)⟩)
  .have M:=hv.2.2.2 J;dsimp only at M;rw[hg.h]at M;refine ax (Ba _ _ hg.c) λv hv2=>?_
   have v2:=hv2.1 (h4 hi0) M;refine ax (xQ (by omega) hg hs (ZH (by decide) (by decide) (by simp[iX,hg.h,L0]) (v2)) (by decide)) λy I=>bh (by simp) (ar ⟨I.1,U.trans I.2 (by omega)⟩)
theorem ae0 (s:ζ) (g:GN) (out:List IT) (hg:GB nT g):Ok (jB (s,g,out)) λy=>y.2=(g,out)/\(s=[99]->y.1=0):=by
 have hd:g.2.2.1.length=1:=by rw[hg.d];rfl
 unfold jB aX bA bD aZ cK aF cH;refine b8 1 (λi x=>x.1=(i:Int)/\x.2=(g,out)/\(s=[99]->i=0)) ?_ ?_ ⟨rfl,rfl,λ_=>rfl⟩
 .rintro i ⟨a,x⟩ hi ⟨e1,e2,e3⟩;dsimp only at e1 e2 e3;subst e1;subst e2;refine di ?_;refine bZ (aR ?_);refine aJ (λ_=>ar ⟨rfl,λ_=>by dsimp only;omega⟩) λh=>ar ⟨gE (by omega),rfl,λh2=>?_⟩
  refine (h ?_).elim;dsimp only;rw[hg.d,show i=0 by omega,h2];rfl
 .rintro⟨a,x⟩ ⟨e1,e2,e3⟩;dsimp only at e1 e2 e3;subst e1;subst e2;exact dj (ar ⟨rfl,λh=>by have:=e3 h;omega⟩)
def ME:Nat->Nat
 |0=>0
 |d+1=>50+16*ME d
def SR (ss:List ν) (t a:Int) (m:Nat):Prop:=0<=a/\a+m<=1000/\∀i:Int,a<=i->i<a+m->SO ss t i
def SpG (nT:Nat) (ss:List ν) (t:Int) (I:Sx×GN×List IT->Option (GN×List IT)) (d:Nat):Prop:=∀(s:Sx) (g:GN) (out:List IT),GS nT d s->GB nT g->SR ss t (gN g) (Rc d s)->out.length+ME d<=90000000->Ok (I (s,g,out)) (QG nT ss t (ME d) (Rc d s) g out)
def aew (nT:Nat) (ss:List ν) (t:Int) (rs:List Sx×GN×List IT->Option (GN×List IT)) (d:Nat):Prop:=∀(l:List Sx) (g:GN) (out:List IT),l.length<=100->(∀s∈l,GS nT d s)->GB nT g->SR ss t (gN g) (nX d l)->out.length+l.length*ME d<=90000000->Ok (rs (l,g,out)) (QG nT ss t (l.length*ME d) (nX d l) g out)
abbrev FS6:Type:=List Sx×GN×List IT->Option (GN×List IT)
abbrev FT6:Type:=Sx×GN×List IT->Option (GN×List IT)
abbrev FA6:Type:=(Sx×Int×Int×Int)×GN×List IT->Option (GN×List IT)
variable {nT:Nat} {ss:List ν} {t:Int}
def alu (nT:Nat) (ss:List ν) (t:Int) (I:FT6) (d:Nat):Prop:=∀(s:Sx) (g:GN) (out:List IT),s.op=2\/s.op=3->GE 4 s.expr->s.body.length<=8->s.els.length<=8->(∀x∈s.body,GS nT d x)->(∀x∈s.els,GS nT d x)->(¬s.op=2->s.els=[])->GB nT g->SO ss t (gS g)->SR ss t (gN g) (nX d s.body+nX d s.els)->out.length+ME (d+1)<=90000000->Ok (I (s,g,out)) (QG nT ss t (17+16*ME d) (nX d s.body+nX d s.els) g out)
def alv (nT:Nat) (ss:List ν) (t:Int) (ra:FA6) (d:Nat):Prop:=∀(s:Sx) (a b c:Int) (g:GN) (out:List IT),s.body.length<=8->(∀x∈s.body,GS nT d x)->GO nT (a,c,0,0,0,0)->GO nT (b,c,0,0,0,0)->¬a=5/\¬a=10->¬b=5/\¬b=10->GB nT g->SO ss t (gS g)->SR ss t (gN g) (nX d s.body)->out.length+ME (d+1)<=90000000->Ok (ra ((s,a,b,c),g,out)) (QG nT ss t (17+16*ME d) (nX d s.body) g out)
theorem SR.sub {a b:Int} {m n:Nat} (h:SR ss t a m) (h1:a<=b) (h2:b+n<=a+m):SR ss t b n:=⟨by have:=h.1;omega,by have:=h.2.1;omega,λi J I=>h.2.2 i (by omega) (by omega)⟩
theorem Wg (rs:FS6) (U:FT6) (Z:FT6) (ra:FA6) (d:Nat) (ht:SpG nT ss t U d):aew nT ss t (qZ rs U Z ra) d:=by
 intro l g out hl hs hg hso hb;unfold qZ bA bE bD aZ cK aF cH;refine b8 l.length (λi x=>x.1=(i:Int)/\QG nT ss t (i*ME d) (nX d (l.take i)) g out x.2) ?_ ?_ ⟨rfl,GQ.refl g,QC.nil _ _,by simp[nX]⟩
 .rintro i ⟨a,Y,o2⟩ hi ⟨e1,J,I,q3⟩;dsimp only at e1 J I q3;subst e1;have hK:(i+1)*ME d<=l.length*ME d:=cL _ (by omega);have hKs:=jb i (ME d);rw[Nat.succ_eq_add_one]at hKs;have hp:=Qx (d:=d) l (i+1);rw[xu hi]at hp;have q4:=I.u;refine di ?_;refine bZ (aR ?_);refine ax (ht _ Y o2 (hs _ (bL (T:=.sm) (xs:=l) (j:=(i:Int)) (by omega) (by omega))) (hg.of J) (hso.sub (by rw[q3];omega) (by rw[q3];dsimp only;omega)) (by omega)) λy M=>bh (by simp) (ar ?_)
  rw[xu hi];exact⟨gE (by omega),J.trans M.q,I.trans M.c (by omega),by rw[M.x,q3];dsimp only;omega⟩
 .rintro⟨a,Y,o2⟩ ⟨e1,q⟩;dsimp only at e1;subst e1;rw[cW]at q;exact dj (ar q)
theorem Sz (rs:FS6) (rt:FT6) (rb:FT6) (ra:FA6) (d:Nat) (hS:aew nT ss t rs d):alv nT ss t (pw rs rt rb ra) d:=by
 intro s a b c g out h1 h2 ga gb na nb hg hs hso hb;have hm:ME (d+1)=50+16*ME d:=rfl;have kb:s.body.length*ME d<=8*ME d:=cL _ h1;unfold pw aX bf bu ch dC ja bK nZ bE;refine ax (xQ (by omega) hg hs ga na) λy I=>?_
 obtain⟨Z,o2⟩:=y;obtain⟨Y,J⟩:=I;dsimp only at Y J;subst Y;have q3:=J.u;refine bh (by simp) ?_;refine ax (hS s.body Z o2 (by omega) h2 hg hso (by omega)) λy I=>?_
 obtain⟨M,o3⟩:=y;obtain⟨r1,r2,r3⟩:=I;dsimp only at r1 r2 r3;have r4:=r2.u;refine bh (by simp) ?_;have U:=r1.trans (GQ.site M M.2.2.2.2.2.1 Z.2.2.2.2.2.2.2.1 M.2.2.2.2.2.2.2.2);refine ax (xQ (by dsimp only;omega) (hg.of U) hs gb nb) λy I=>bh (by simp) (ar ⟨?_,?_,?_⟩)
 .rw[I.1];exact U
 .exact (J.trans r2 (bV _)).trans I.2 (by omega)
 .rw[I.1];exact r3
theorem zV {l:List IT} {j k:Nat} {x:IT} (h:j<l.length):iA (cz l (j:Int) x) k=if k=j then x else iA l k:=J8 (T:=B') l j k x h
abbrev ptB (l:List IT) (j:Nat) (b:Int):List IT:=cz l (j:Int) ((iA l j).1,(iA l j).2.1,b,(iA l j).2.2.2.1,(iA l j).2.2.2.2.1,(iA l j).2.2.2.2.2)
abbrev ptA (l:List IT) (j:Nat) (a:Int):List IT:=cz l (j:Int) ((iA l j).1,a,(iA l j).2.2.1,(iA l j).2.2.2.1,(iA l j).2.2.2.2.1,(iA l j).2.2.2.2.2)
theorem GI.pb {i:IT} {b:Int} (h:GI nT ss t i) (h1:i.1=10):GI nT ss t (i.1,i.2.1,b,i.2.2.2.1,i.2.2.2.2.1,i.2.2.2.2.2):=by
 obtain⟨Z,Y,U,M,J,I⟩:=i;dsimp only at h1;subst h1;exact⟨⟨h.o.o1,h.o.o2,h.o.r,(by decide:¬(10:Int)=3)⟩,h.s⟩
theorem QC.cbr {n m:Nat} {out o1 o2 I:List IT} {br:IT} (h1:QC nT ss t n out o1) (h2:o2=o1++[br]) (hb:GI nT ss t br) (U:br.1=10) (M:QC nT ss t m o2 I) (F:List IT) (hl:I.length<=F.length) (Y:∀k:Nat,k<I.length->¬k=o1.length->iA F k=iA I k) (hFb:∃b:Int,(0<=b/\b<=(F.length:Int))/\iA F o1.length=(br.1,br.2.1,b,br.2.2.2.1,br.2.2.2.2.1,br.2.2.2.2.2)):(∀k:Nat,k<out.length->iA F k=iA out k)/\ru F out.length o1.length/\(iA F o1.length).1=10/\ru F (o1.length+1) I.length/\(∀k:Nat,out.length<=k->k<I.length->GI nT ss t (iA F k))/\∀k:Nat,out.length<=k->k<I.length->(iA F k).1=10->0<=(iA F k).2.2.1/\(iA F k).2.2.1<=(F.length:Int):=by
 have l2:o2.length=o1.length+1:=by rw[h2,bm];rfl
 have l1:=h1.l;have l3:=M.l;have e1:∀k:Nat,k<o1.length->iA F k=iA o1 k:=λk hk=>by rw[Y k (by omega) (by omega),M.p k (by omega),h2,JI hk]
 obtain⟨b,hb0,eb⟩:=hFb;refine ⟨λk hk=>(e1 k (by omega)).trans (h1.p k hk),h1.b.congr λk _ hk=>e1 k hk,by rw[eb];exact U,?_,λk g1 J=>?_,λk g1 J Z=>?_⟩
 .have:=M.b;rw[l2]at this;exact this.congr λk g1 J=>Y k J (by omega)
 .rcases OP k o1.length with hk|hk|hk
  .rw[e1 k hk];exact h1.i k g1 hk
  .rw[hk,eb];exact hb.pb U
  .rw[Y k J (by omega)];exact M.i k (by omega) J
 .rcases OP k o1.length with hk|hk|hk
  .rw[e1 k hk]at Z ⊢;have:=h1.r k g1 hk Z;omega
  .rw[hk,eb];exact hb0
  .rw[Y k J (by omega)]at Z ⊢;have:=M.r k (by omega) J Z;omega
theorem MO (rs:FS6) (rt:FT6) (rb:FT6) (ra:FA6) (d:Nat) (hS:aew nT ss t rs d):alu nT ss t (mN rs rt rb ra) d:=by
 intro s g out hop he h1 h2 h3 h4 hel hg hs hso hb;have hm:ME (d+1)=50+16*ME d:=rfl;have kb:s.body.length*ME d<=8*ME d:=cL _ h1;have ke:s.els.length*ME d<=8*ME d:=cL _ h2;have hex:GE 4 (em (Xp.op s.expr,Xp.n s.expr,Xp.name s.expr,Xp.l s.expr)):=by rw[fB];exact he
 unfold mN aX bf bu ch dC ja nZ ck bd bE aZ;refine ax (C6 _ _ g out hex hg hs (by rw[hg.len];decide) (by rw[hg.len];decide) (by omega)) λy hy=>?_
 obtain⟨Y,o1⟩:=y;obtain⟨p1,p2⟩:=hy;dsimp only at p1 p2;subst p1;have p3:=p2.u;have p4:=p2.l;refine bh (by simp) ?_;refine ax (Jb _ Y o1 (by omega)) λy hy=>?_
 obtain⟨J,o2⟩:=y;obtain⟨q1,q2⟩:=hy;dsimp only at q1 q2;subst q1;rw[hg.len]at q2;have hbr:GI nT ss t ((10,2,0,0,0,J.2.2.2.2.2.2.2.1):IT):=⟨ZH (by decide) (by decide) (by simp[iX]) (by decide:¬(10:Int)=3),hs⟩
 have l2:o2.length=o1.length+1:=by rw[q2,bm];rfl
 refine bh (by simp) ?_;refine ax (hS s.body J o2 (by omega) h3 hg (hso.sub (eE _) (by omega)) (by omega)) λy hy=>?_
 obtain⟨U,I⟩:=y;obtain⟨r1,r2,r3⟩:=hy;dsimp only at r1 r2 r3;have r4:=r2.u;have r5:=r2.l;have ebr:iA I o1.length=(10,2,0,0,0,J.2.2.2.2.2.2.2.1):=by rw[r2.p _ (by omega),q2,xX]
 refine bh (by simp) ?_;have qs:=r1.trans (GQ.site U U.2.2.2.2.2.1 J.2.2.2.2.2.2.2.1 U.2.2.2.2.2.2.2.2);refine aJ (λh3w=>?_) λh3w=>?_
 .have hels:nX d s.els=0:=by rw[hel (by have h3w:s.op=3:=h3w;omega)];rfl
  rw[hels,dD];refine ax (Jb _ _ I (by omega)) λy hy=>?_
  obtain⟨g4,M⟩:=y;obtain⟨w1,w2⟩:=hy;dsimp only at w1 w2;have l4:M.length=I.length+1:=by rw[w2,bm];rfl
  refine bh (by simp) (aS (dX _) (by dsimp only[au];omega) (aS (dX _) (by dsimp only[au];omega) (ar ?_)));have hat:o1.length<M.length:=by omega
  have ej:iA M I.length=(5,(out.length:Int),0,0,0,J.2.2.2.2.2.2.2.1):=by rw[w2,xX];rfl
  have e43:∀k:Nat,k<I.length->iA M k=iA I k:=λk hk=>by rw[w2,JI hk]
  refine ⟨by dsimp only;rw[w1];exact qs,?_,by dsimp only;rw[w1];exact r3⟩;dsimp only;have eF:∀{z:IT} {k:Nat},¬k=o1.length->iA (cz M ((o1.length:Nat):Int) z) k=iA M k:=λh=>by rw[zV hat,aA h]
  obtain⟨f1,f2,f3,f4,f5,f6⟩:=p2.cbr q2 hbr rfl r2 (ptB M o1.length (aP M.length)) (by rw[bW];omega) (λk hk hn=>(eF hn).trans (e43 k hk)) ⟨_,⟨dX _,by rw[bW];exact eE _⟩,by rw[zV hat,aD rfl,e43 _ (by omega),ebr];rfl⟩;show QC nT ss t _ out (ptB M o1.length (aP M.length));have ejF:iA (ptB M o1.length (aP M.length)) I.length=(5,(out.length:Int),0,0,0,J.2.2.2.2.2.2.2.1):=(eF (by omega:¬I.length=o1.length)).trans ej;refine ⟨by rw[bW];omega,by rw[bW];omega,f1,?_,λk Y J=>?_,λk Y J U=>?_⟩
  .rw[(bW _ _ _).trans l4];exact f2.whl f3 f4 (by rw[ejF]) (by rw[ejF])
  .rw[bW,l4]at J;by_cases hk:k<I.length
   .exact f5 k Y hk
   .rw[show k=I.length by omega,ejF];exact⟨ZH (by decide) (by decide) (by simp[iX]) (by decide:¬(5:Int)=3),hs⟩
  .have g2':=J;rw[bW,l4]at g2';by_cases hk:k<I.length
   .exact f6 k Y hk U
   .rw[show k=I.length by omega,ejF]at U;cases U
 refine aJ (λhz=>?_) λ_=>?_
 .have hels:nX d s.els=0:=by rw[gW.1 (by dsimp only[au]at hz;omega:s.els.length=0)];rfl
  rw[hels,dD];refine aS (dX _) (by dsimp only[au];omega) (aS (dX _) (by dsimp only[au];omega) (ar ⟨qs,?_,r3⟩));dsimp only;have hat:o1.length<I.length:=by omega
  obtain⟨f1,f2,f3,f4,f5,f6⟩:=p2.cbr q2 hbr rfl r2 (ptB I o1.length (aP I.length)) (by rw[bW];omega) (λk hk hn=>by rw[zV hat,aA hn]) ⟨_,⟨dX _,by rw[bW];exact eE _⟩,by rw[zV hat,aD rfl,ebr];rfl⟩;show QC nT ss t _ out (ptB I o1.length (aP I.length));refine ⟨by rw[bW];omega,by rw[bW];omega,f1,?_,λk Y J=>?_,λk Y J U=>?_⟩
  .rw[bW];exact (f2.app (ru.one (by rw[f3];decide))).app f4
  .rw[bW]at J;exact f5 k Y J
  .exact f6 k Y (by rw[bW]at J;exact J) U
 .refine ax (Jb _ _ I (by omega)) λy hy=>?_
  obtain⟨g4,M⟩:=y;obtain⟨w1,w2⟩:=hy;dsimp only at w1 w2;have l4:M.length=I.length+1:=by rw[w2,bm];rfl
  have qs4:GQ J g4:=by rw[w1];exact qs
  have x4:gN g4=gN J+(nX d s.body:Nat):=by rw[w1];exact r3
  have hat:o1.length<M.length:=by omega
  have ej:iA M I.length=(5,0,0,0,0,J.2.2.2.2.2.2.2.1):=by rw[w2,xX]
  have e43:∀k:Nat,k<I.length->iA M k=iA I k:=λk hk=>by rw[w2,JI hk]
  refine bh (by simp) (aS (dX _) (by dsimp only[au];omega) (aS (dX _) (by dsimp only[au];omega) ?_));have eF:∀{z:IT} {k:Nat},¬k=o1.length->iA (cz M ((o1.length:Nat):Int) z) k=iA M k:=λh=>by rw[zV hat,aA h]
  refine ax (hS s.els g4 (ptB M o1.length (aP M.length)) (by omega) h4 (hg.of qs4) (hso.sub (by rw[x4];omega) (by rw[x4];omega)) (by rw[bW];omega)) λy hy=>?_
  obtain⟨g5,Z⟩:=y;obtain⟨z1,z2,z3⟩:=hy;dsimp only at z1 z2 z3;have z4:=z2.l;have z5:=z2.u;have zp:=z2.p;have zb:=z2.b;have zi:=z2.i;have zr:=z2.r;rw[bW]at z4 z5 zp zb zi zr;have hj5:I.length<Z.length:=by omega
  refine bh (by simp) (aS (dX _) (by dsimp only[au];omega) (aS (dX _) (by dsimp only[au];omega) (ar ⟨qs4.trans z1,?_,by dsimp only;rw[z3,x4];omega⟩)));dsimp only;show QC nT ss t _ out (ptA Z I.length (aP Z.length));have eG:∀{z:IT} {k:Nat},¬k=I.length->iA (cz Z ((I.length:Nat):Int) z) k=iA Z k:=λh=>by rw[zV hj5,aA h]
  have ej5:iA Z I.length=(5,0,0,0,0,J.2.2.2.2.2.2.2.1):=by rw[zp _ (by omega),eF (by omega),ej]
  obtain⟨f1,f2,f3,f4,f5,f6⟩:=p2.cbr q2 hbr rfl r2 (ptA Z I.length (aP Z.length)) (by rw[bW];omega) (λk hk hn=>by rw[eG (by omega),zp k (by omega),eF hn,e43 k hk]) ⟨aP M.length,⟨dX _,by rw[bW];dsimp only[au];omega⟩,by rw[eG (by omega),zp _ (by omega),zV hat,aD rfl,e43 _ (by omega),ebr]⟩;have ejF:iA (ptA Z I.length (aP Z.length)) I.length=(5,aP Z.length,0,0,0,J.2.2.2.2.2.2.2.1):=by rw[zV hj5,aD rfl,ej5]
  refine ⟨by rw[bW];omega,by rw[bW];omega,f1,?_,λk Y J=>?_,λk Y J U=>?_⟩
  .rw[bW];refine ((f2.app (ru.one (by rw[f3];decide))).app f4).ite (by rw[ejF]) (by rw[ejF];rfl) ?_;rw[l4]at zb;exact zb.congr λk Y J=>eG (by omega)
  .rw[bW]at J;rcases OP k I.length with hk|hk|hk
   .exact f5 k Y hk
   .rw[hk,ejF];exact⟨ZH (by decide) (by decide) (by simp[iX]) (by decide:¬(5:Int)=3),hs⟩
   .rw[eG (by omega)];exact zi k (by omega) J
  .have g2':=J;rw[bW]at g2';rcases OP k I.length with hk|hk|hk
   .exact f6 k Y hk U
   .rw[hk,ejF]at U;cases U
   .rw[eG (by omega)]at U ⊢;rw[bW];exact zr k (by omega) g2' U
theorem ZG (rs:FS6) (rt:FT6) (rb:FT6) (ra:FA6) (d:Nat) (hB:alu nT ss t rb d) (hA:alv nT ss t ra d):SpG nT ss t (sH rs rt rb ra) (d+1):=by
 intro s g out hs hg hso hb;have hm:ME (d+1)=50+16*ME d:=rfl;obtain⟨i1,i2,i3,i4,i5,i6,i7,i8,i9,Y⟩:=hs;have hcn:Rc (d+1) s=1+nX d s.body+nX d s.els:=rfl;rw[hcn]at hso ⊢;obtain⟨so0,so1,so2⟩:=id hso;have so0:0<=g.2.2.2.2.2.2.2.2:=so0;have so1:g.2.2.2.2.2.2.2.2+((1+nX d s.body+nX d s.els:Nat):Int)<=1000:=so1;have ew:bk .i64 (g.2.2.2.2.2.2.2.2+1)=g.2.2.2.2.2.2.2.2+1:=hP (by omega) (by omega);have gs:=GQ.site g g.2.2.2.2.2.1 g.2.2.2.2.2.2.2.2 (bk .i64 (g.2.2.2.2.2.2.2.2+1));unfold sH aX bf bu ch dC bK nZ bd bE aZ aF cH eA;refine aY (λx=>QG nT ss t (ME (d+1)) (1+nX d s.body+nX d s.els) g out x) ?_ λx hx=>ar hx
 dsimp only;have Z:SO ss t (gS ((g.1,g.2.1,g.2.2.1,g.2.2.2.1,g.2.2.2.2.1,g.2.2.2.2.2.1,g.2.2.2.2.2.2.1,g.2.2.2.2.2.2.2.2,bk .i64 (g.2.2.2.2.2.2.2.2+1)):GN)):=so2 _ (eE _) (by show g.2.2.2.2.2.2.2.2<g.2.2.2.2.2.2.2.2+((1+nX d s.body+nX d s.els:Nat):Int);omega);have hn1:gN ((g.1,g.2.1,g.2.2.1,g.2.2.2.1,g.2.2.2.2.1,g.2.2.2.2.2.1,g.2.2.2.2.2.2.1,g.2.2.2.2.2.2.2.2,bk .i64 (g.2.2.2.2.2.2.2.2+1)):GN)=gN g+1:=ew;revert gs Z hn1;generalize ((g.1,g.2.1,g.2.2.1,g.2.2.2.1,g.2.2.2.2.1,g.2.2.2.2.2.1,g.2.2.2.2.2.2.1,g.2.2.2.2.2.2.2.2,bk .i64 (g.2.2.2.2.2.2.2.2+1)):GN)=U;intro gs Z hn1;have M:=hg.of gs;have hso1:=hso.sub (b:=gN U) (n:=nX d s.body+nX d s.els) (by rw[hn1];omega) (by rw[hn1];omega);have fin:∀(n m:Nat) (y:GN×List IT),QG nT ss t n m U out y->n<=ME (d+1)->m=nX d s.body+nX d s.els->QG nT ss t (ME (d+1)) (1+nX d s.body+nX d s.els) g out y:=λn m y J hn hm=>⟨gs.trans J.q,(QC.nil 0 out).trans J.c (by omega),by rw[J.x,hn1];omega⟩
 have fin0:s.op=1\/9<=s.op->∀(n:Nat) (y:GN×List IT),y.1=U/\QC nT ss t n out y.2->n<=ME (d+1)->QG nT ss t (ME (d+1)) (1+nX d s.body+nX d s.els) g out y:=λI n y J hn=>fin n 0 y ⟨by rw[J.1];exact GQ.refl U,J.2,by rw[J.1];simp⟩ hn (by rw[Y.bo I,Y.el (by omega)];rfl)
 refine aJ (λI=>?_) λ_=>?_
 .refine ax (Xh (oq _) U out ?_ ?_ ?_ ?_ M Z (by omega)) λy J=>bh (by simp) (ar (fin0 (.inl I) _ _ J (by omega)))
  .rw[yK];exact i1
  .rw[yK];exact i3
  .rw[yK];exact i4 (.inl I)
  .rw[yK];exact Y.vr I
 refine aY (λx=>x.2=(U,s,out)/\(x.1=ai↔s.op=2\/s.op=3)) ?_ ?_
 .exact aJ (λh=>ar ⟨by dsimp only;rw[yK],λ_=>.inl h,λ_=>aQ h⟩) λh=>ar ⟨by dsimp only;rw[yK],λh2=>.inr (bi h2),λh2=>aQ (h2.resolve_left h)⟩
 rintro⟨b,x⟩ ⟨e,hb2⟩;dsimp only at e hb2;subst e;refine aO (λhb3=>?_) λhbf=>?_
 .dsimp only;rw[yK];refine ax (hB s U out (hb2.1 hb3) (i4 (by rcases hb2.1 hb3 with h|h;exact .inr (.inl h);exact .inr (.inr (.inl h)))) i6 i7 i8 i9 Y.el M Z hso1 hb) λy J=>bh (by simp) (ar (fin _ _ _ J (by omega) rfl))
 have har:∀(a b c:Int),4<=s.op->GO nT (a,c,0,0,0,0)->GO nT (b,c,0,0,0,0)->¬a=5/\¬a=10->¬b=5/\¬b=10->Ok (ra ((s,a,b,c),U,out)) λy=>QG nT ss t (ME (d+1)) (1+nX d s.body+nX d s.els) g out y:=λa b c h4 ga gb na nb=>(hA s a b c U out i6 i8 ga gb na nb M Z (hso1.sub (eE _) (by omega)) hb).mono λy J=>fin _ _ _ J (by omega) (by rw[Y.el (by omega)];rfl)
 have hput:∀{op:Int} {r:υ},9<=s.op->GO nT (op,r)->¬op=5/\¬op=10->Ok (cI ((op,r),U,out)) (QG nT ss t (ME (d+1)) (1+nX d s.body+nX d s.els) g out):=λh9 hi h5=>(xQ (by omega) M Z hi h5).mono λy J=>fin0 (.inr h9) _ _ J (by omega)
 have hlk:∀n:ζ,Ok (kw (U.2.1,n)) λr=>(n=[109]->r=0)/\(n=[110]->r=1)/\(n=[114]->r=2):=λn=>(NJ U.2.1 n (by rw[M.l];decide)).mono λr h=>aje (by rw[M.l]at h;exact h)
 have hcond:∀(n:ζ),Ok (jB (n,U,out)) λy=>y.2=(U,out)/\(n=[99]->y.1=0):=λn=>ae0 n U out M
 have hth:Ok (ji (U.2.2.2.2.1,s.name)) λr=>s.op=12\/s.op=13->0<=r/\r<(nT:Int):=(zk U.2.2.2.2.1 s.name (by rw[M.t,bC];have q4:wK.length=4:=rfl;omega)).mono λr hr I=>by
  have hn:=Y.sp I;have hl:(wK.take nT).length<=nT:=qC ..;obtain⟨_,h2,_,h4⟩:=hr;rw[M.t]at h2 h4;exact⟨CX.1 λh=>h4 h hn,by omega⟩
 have hft:∀n:ζ,Ok (ji (U.2.2.2.1,n)) λr=>n=[102]->r=0:=λn=>(zk U.2.2.2.1 n (by rw[M.f];decide)).mono λr hr hn=>by
  obtain⟨h1,h2,_,h4⟩:=hr;rw[M.f]at h2 h4;have h2:r<1:=h2;have:¬r<0:=λh=>h4 h (by rw[hn];decide)
  omega
 dsimp only;rw[yK];have gor:∀{a c:Int},1<=a->a<=27->iX (a,c,0,0,0,0)=[]->OB nT (a,c,0,0,0,0)->GO nT (a,c,0,0,0,0):=λh1 h2 h3 h4=>⟨h1,h2,by rw[h3];exact λj hj=>(by cases hj),h4⟩
 refine aJ (λI=>ax (hlk _) λv hv=>ax (har _ _ _ (by have I:s.op=4:=I;omega) (gor (by decide) (by decide) rfl ?_) (gor (by decide) (by decide) rfl ?_) (by decide) (by decide)) λy J=>bh (by simp) (ar J)) λ_=>?_
 .exact (Y.lk I).imp hv.1 hv.2.1
 .exact (Y.lk I).imp hv.1 hv.2.1
 refine aJ (λI=>ax (hlk _) λv hv=>ax (har _ _ _ (by have I:s.op=5:=I;omega) (gor (by decide) (by decide) rfl ?_) (gor (by decide) (by decide) rfl ?_) (by decide) (by decide)) λy J=>bh (by simp) (ar J)) λ_=>?_
 .exact hv.2.2 (Y.rw (.inl I))
 .exact hv.2.2 (Y.rw (.inl I))
 refine aJ (λI=>ax (hlk _) λv hv=>ax (har _ _ _ (by have I:s.op=6:=I;omega) (gor (by decide) (by decide) rfl ?_) (gor (by decide) (by decide) rfl ?_) (by decide) (by decide)) λy J=>bh (by simp) (ar J)) λ_=>?_
 .exact hv.2.2 (Y.rw (.inr I))
 .exact hv.2.2 (Y.rw (.inr I))
 refine aJ (λI=>ax (har _ _ _ (by have I:s.op=7:=I;omega) (gor (by decide) (by decide) rfl (by decide:¬(17:Int)=3)) (gor (by decide) (by decide) rfl (by decide:¬(18:Int)=3)) (by decide) (by decide)) λy J=>bh (by simp) (ar J)) λ_=>?_
 refine aJ (λI=>ax (har _ _ _ (by have I:s.op=8:=I;omega) (gor (by decide) (by decide) rfl (by decide:¬(19:Int)=3)) (gor (by decide) (by decide) rfl (by decide:¬(20:Int)=3)) (by decide) (by decide)) λy J=>bh (by simp) (ar J)) λ_=>?_
 refine aJ (λI=>ax (hcond _) λy J=>?_) λ_=>?_
 .obtain⟨v,y2⟩:=y;obtain⟨y3,y4⟩:=J;dsimp only at y3;subst y3;exact bh (by simp) (ax (hput (by have I:s.op=9:=I;omega) (gor (by decide) (by decide) rfl (y4 (Y.cn (.inl I)))) (by decide)) λy J=>bh (by simp) (ar J))
 refine aJ (λI=>ax (hcond _) λy J=>?_) λ_=>?_
 .obtain⟨v,y2⟩:=y;obtain⟨y3,y4⟩:=J;dsimp only at y3;subst y3;exact bh (by simp) (ax (hput (by have I:s.op=10:=I;omega) (gor (by decide) (by decide) rfl (y4 (Y.cn (.inr (.inl I))))) (by decide)) λy J=>bh (by simp) (ar J))
 refine aJ (λI=>ax (hcond _) λy J=>?_) λ_=>?_
 .obtain⟨v,y2⟩:=y;obtain⟨y3,y4⟩:=J;dsimp only at y3;subst y3;exact bh (by simp) (ax (hput (by have I:s.op=11:=I;omega) (gor (by decide) (by decide) rfl (y4 (Y.cn (.inr (.inr I))))) (by decide)) λy J=>bh (by simp) (ar J))
 refine aJ (λI=>ax hth λv hv=>ax (hput (by have I:s.op=12:=I;omega) (gor (by decide) (by decide) rfl (hv (.inl I))) (by decide)) λy J=>bh (by simp) (ar J)) λ_=>?_
 refine aJ (λI=>ax hth λv hv=>ax (hput (by have I:s.op=13:=I;omega) (gor (by decide) (by decide) rfl (hv (.inr I))) (by decide)) λy J=>bh (by simp) (ar J)) λ_=>?_
 refine aJ (λI=>?_) λn14=>?_
 .have hex:GE 4 (em (Xp.op s.expr,Xp.n s.expr,Xp.name s.expr,Xp.l s.expr)):=by rw[fB];exact i4 (.inr (.inr (.inr I)))
  refine ax (C6 _ _ U out hex M Z (by rw[hg.len];decide) (by rw[hg.len];decide) (by omega)) λy J=>?_
  obtain⟨g2,o2⟩:=y;obtain⟨q1,q2⟩:=J;dsimp only at q1 q2;subst q1;have q3:=q2.u;refine bh (by simp) (ax (hft _) λv hv=>?_);refine ax (xQ (by omega) M Z (ZH (by decide) (by decide) (by simp[iX,hg.h,L0]) (hv (Y.se I))) (by decide)) λy J=>bh (by simp) (ar (fin0 (.inr (by have I:s.op=14:=I;omega)) 16 _ ⟨J.1,q2.trans J.2 (bV _)⟩ (by omega)))
 refine aJ (λI=>?_) λn15=>?_
 .refine ax (zk _ _ (by rw[M.h];decide)) λv hv=>ax (hft _) λv2 hv2=>?_
  have hge:=Y.ge I;have hl:(0:Int)<=v/\v<2:=by
   obtain⟨_,h2,_,h4⟩:=hv;rw[M.h]at h2 h4;exact⟨CX.1 λh=>h4 h (by rw[hge.1];decide),h2⟩
  exact ax (hput (by have I:s.op=15:=I;omega) (ZH (by decide) (by decide) (by simp[iX];omega) (hv2 hge.2)) (by decide)) λy J=>bh (by simp) (ar J)
 .exfalso;have h1:=Y.o0;have h2:=Y.o1;have h3:¬(s.op=2\/s.op=3):=λh=>by have hbf:b=aj:=hbf;rw[hb2.2 h]at hbf;cases hbf
  omega
variable {nT:Nat} {ss:List ν} {t:Int}
theorem Yn:∀(n:Nat),(∀d:Nat,3*d<n->SpG nT ss t (eY n) d)/\(∀d:Nat,3*d+1<n->aew nT ss t (dS n) d)/\(∀d:Nat,3*d+2<n->alu nT ss t (dk n) d)/\(∀d:Nat,3*d+2<n->alv nT ss t (dO n) d)
 |0=>⟨λd h=>by omega,λd h=>by omega,λd h=>by omega,λd h=>by omega⟩
 |n+1=>by
  obtain⟨J,I,M,hA⟩:=Yn n;refine ⟨λd h=>?_,λd h=>?_,λd h=>?_,λd h=>?_⟩
  .cases d with
   |zero=>exact λs g out hs=>hs.elim
   |succ d=>exact ZG (dS n) (eY n) (dk n) (dO n) d (M d (by omega)) (hA d (by omega))
  .exact Wg (dS n) (eY n) (dk n) (dO n) d (J d (by omega))
  .exact MO (dS n) (eY n) (dk n) (dO n) d (I d (by omega))
  .exact Sz (dS n) (eY n) (dk n) (dO n) d (I d (by omega))
theorem PZ (d:Nat) (hd:d<=100):aew nT ss t uK d:=(Yn fuel).2.1 d (by rw[jY];omega)
structure SL (t k:Int) (m:Nat) (S:List ν):Prop where
 l:S.length=m
 v:∀i:Nat,i<m->(aK (T:=yI) S (i:Int)).1=t/\(aK (T:=yI) S (i:Int)).2.1=k+i
theorem J_ {T:Ty} {l m:List T.den} {k:Nat} (h:k<l.length):aK (l++m) (k:Int)=aK l (k:Int):=by
 rw[xd,xd,ay,ay,bM h]
theorem J9 {T:Ty} {l m:List T.den} {k:Nat} (h:l.length<=k):aK (l++m) (k:Int)=aK m ((k-l.length:Nat):Int):=by
 rw[xd,xd,ay,ay,b7 h]
theorem SL.nil (t k:Int):SL t k 0 []:=⟨rfl,λi h=>by omega⟩
theorem SL.one (t k z:Int):SL t k 1 [(t,k,z)]:=⟨rfl,λi h=>by rw[show i=0 by omega];exact⟨rfl,by show k=k+((0:Nat):Int);omega⟩⟩
theorem SL.app {k k':Int} {a b:Nat} {S S':List ν} (h:SL t k a S) (h':SL t k' b S') (hk:k'=k+a):SL t k (a+b) (S++S'):=by
 obtain⟨h1,h2⟩:=h;obtain⟨J,I⟩:=h';refine ⟨by rw[bm];omega,λi hi=>?_⟩;by_cases hl:i<S.length
 .rw[J_ (T:=yI) hl];exact h2 i (by omega)
 .rw[J9 (T:=yI) (by omega)];have:=I (i-S.length) (by omega);exact⟨this.1,this.2.trans (show k'+((i-S.length:Nat):Int)=k+(i:Int) by omega)⟩
theorem FD:∀(n d:Nat),d<n->∀(t k:Int) (l:List Sx) (out:List ν),l.length<=100->(∀s∈l,GT d s)->0<=k->k+nX d l<=100000000->out.length+nX d l<=100000000->Ok (pZ n ((t,k,l),out)) λy=>y.1=k+nX d l/\∃S,y.2=out++S/\SL t k (nX d l) S
 |0,_,h,_,_,_,_,_,_,_,_,_=>by omega
 |n+1,d,hn,t,k,l,out,hl,hs,k0,hkb,hb=>by
  rw[H0];unfold ya bA vp bE aZ cK aF cH;refine b8 l.length (λi x=>x.1.2=(i:Int)/\x.1.1=k+nX d (l.take i)/\∃S,x.2=out++S/\SL t k (nX d (l.take i)) S) ?_ ?_ ⟨rfl,by simp[nX],[],by simp,by simp[nX];exact SL.nil t k⟩
  .rintro i ⟨⟨a,b⟩,o⟩ hi ⟨e1,e2,S,e3,e4⟩;dsimp only at e1 e2 e3;subst e1;subst e2;subst e3;have hp:=Qx (d:=d) l (i+1);rw[xu hi]at hp;rw[xu hi];refine di ?_;have hin:((i:Nat):Int)<(l.length:Int):=by omega
   have hm:=hs _ (bL (T:=.sm) (xs:=l) (j:=(i:Int)) (by omega) (by omega));have hSl:=e4.l;cases d with
   |zero=>exact hm.elim
   |succ d=>
    obtain⟨_,_,_,g4,g5,g6,g7⟩:=hm;have hc:Rc (d+1) (aK (T:=.sm) l (i:Int))=1+nX d (Sx.body (aK (T:=.sm) l (i:Int)))+nX d (Sx.els (aK (T:=.sm) l (i:Int))):=rfl;rw[hc]at hp ⊢;dsimp only;refine aS (by omega) hin (aR (bg (by simp;omega) (by omega) (aS (by omega) hin (aR ?_))));rw[hP (n:=k+(nX (d+1) (l.take i):Nat)+1) (by omega) (by omega)];refine ax (FD n d (by omega) _ _ _ _ (by omega) g6 (by omega) (by omega) (by simp;omega)) λy I=>bh (by simp) ?_
    obtain⟨a2,o2⟩:=y;obtain⟨Z,S2,Y,U⟩:=I;dsimp only at Z Y;subst Z;subst Y;have hSl2:=U.l;refine aS (by omega) hin (aR ?_);refine ax (FD n d (by omega) _ _ _ _ (by omega) g7 (by omega) (by omega) (by simp;omega)) λy I=>bh (by simp) (ar ?_)
    obtain⟨a3,o3⟩:=y;obtain⟨M,S3,J,z3⟩:=I;dsimp only at M J;subst M;subst J;refine ⟨gE (by omega),by dsimp only;omega,S++([_]++(S2++S3)),by simp only[fY];rfl,?_⟩;refine e4.app ?_ rfl;rw[qa];exact (SL.one t _ _).app (U.app z3 rfl) (by simp)
  .rintro⟨⟨a,b⟩,o⟩ ⟨e1,e2,e3⟩;dsimp only at e1 e2 e3;subst e1;subst e2;rw[cW]at e3 ⊢;exact dj (ar ⟨rfl,e3⟩)
theorem XM {T k' U k:Int} {l S:List ν} {m:Nat} (h:Ma T l=af (k',U)) (Y:SL t k m S) (hk:(k'=t/\U=k)\/(k'<t/\t<T/\k=0)):∀i:Nat,i<=m->Ma T (l++S.take i)=af (if i=0 then (k',U) else (t,k+i))
 |0,_=>by rw[L6,fJ,aD rfl];exact h
 |i+1,hi=>by
  have ih:=XM h Y hk i (by omega);rw[mX (T:=yI) (xs:=S) (i:=i) (by rw[Y.l];omega),<-fY,XO,ih];obtain⟨I,M⟩:=Y.v i (by omega);rw[aA (Nat.succ_ne_zero i)];by_cases J:i=0
  .subst J;rw[aD rfl];unfold UY;dsimp only;rcases hk with ⟨h1,h2⟩|⟨h1,h2,Z⟩
   .rw[aD ⟨by rw[I,h1],by rw[M,h2];simp⟩,h1,h2];simp
   .rw[aA (λh=>by rw[I]at h;omega),aD ⟨by rw[I];exact h1,by rw[I];exact h2,by rw[M,Z];rfl⟩,I,Z];simp
  .rw[aA J];unfold UY;dsimp only;rw[aD ⟨I,M⟩];congr 2;omega
abbrev CE6:Type:=ζ×Int×Int×Bool×Int
abbrev W4T:Type:=List CE6×List (ζ×Bool)×List (ζ×Int)×List ζ
def ceD (z:DT):List CE6:=(bx (aT (iK z.2.2.2.1 1))).map λ(k:Nat)=>(z.2.2.1,(k:Int),z.2.2.2.1,decide (z.1=2),z.2.2.2.2.1)
def adD (y:W4T) (z:DT):W4T:=
 if z.1=1\/z.1=2 then (y.1++ceD z,y.2) else if z.1=3\/z.1=4 then (y.1,y.2.1++[(z.2.2.1,decide (z.1=4))],y.2.2) else if z.1=5 then (y.1,y.2.1,y.2.2.1++[(z.2.2.1,0)],y.2.2.2) else (y.1,y.2.1,y.2.2.1,y.2.2.2++[z.2.2.1])
def W4 (i:Nat):W4T:=(D0.take i).foldl adD ([],[],[],[])
theorem W4_9:W4 9=(C0,HE,Nn,UI):=rfl
theorem W4_s {i:Nat} (hi:i<9):W4 (i+1)=adD (W4 i) (aK (T:=tDc) D0 (i:Int)):=by
 unfold W4;rw[mX (T:=tDc) (xs:=D0) hi,dV];rfl
theorem D0_c:∀i:Nat,i<9->(aK (T:=tDc) D0 (i:Int)).1=5->i=7:=by decide
theorem aox:∀i:Nat,i<9->(W4 i).1.length<=5/\(W4 i).2.1.length<=3/\(W4 i).2.2.1.length<=1/\(W4 i).2.2.2.length<=1/\iK (aK (T:=tDc) D0 (i:Int)).2.2.2.1 1<=2/\1<=iK (aK (T:=tDc) D0 (i:Int)).2.2.2.1 1:=by decide
def bsN (p:PG) (i:Nat):Nat:=((p.2.take i).map λt=>nX 5 t.2.2.2).sum
def boN (p:PG) (i:Nat):Nat:=nX 5 (aK (T:=zD) p.2 (i:Int)).2.2.2
theorem ajn {p:PG} {i:Nat} (hi:i<p.2.length):bsN p (i+1)=bsN p i+boN p i:=by
 unfold bsN boN;rw[mX (T:=zD) hi,cE,Gh];simp
theorem Xc {p:PG} (i:Nat) (h:(p.2.map λt=>nX 5 t.2.2.2).sum<=60):bsN p i<=60:=by
 refine du ?_ h
 conv=>rhs;rw[<- B6 i p.2]
 unfold bsN;rw[cE,Gh];omega
structure SW (p:PG) (i:Nat) (S:List ν):Prop where
 l:S.length=bsN p i
 f:∃a b,Ma p.2.length S=af (a,b)/\(a<i\/a=0/\b=0)
 s:∀j:Nat,j<i->SR S (j:Int) (bsN p j:Nat) (boN p j)
structure WW (p:PG) (w:WT):Prop where
 x:WX w
 t:w.2.2.2.2.1=wK.take p.2.length
 s:∀j:Nat,j<p.2.length->SR w.2.2.2.2.2 (j:Int) (bsN p j:Nat) (boN p j)
theorem SO.app {S S':List ν} {t s:Int} (h:SO S t s):SO (S++S') t s:=by
 obtain⟨h0,h1,h2⟩:=h;obtain⟨s,rfl⟩:∃n:Nat,s=(n:Int):=⟨s.toNat,by omega⟩
 exact⟨h0,by rw[bm];omega,by rw[J_ (T:=yI) (by omega)];exact h2⟩
theorem Xk (p:PG) (hp:PJ p) (r:Γ) (hr:fD p=af r) (h0:r.1=0) (hc:(p.2.map λt=>nX 5 t.2.2.2).sum<=60):Ok (uL p) (WW p):=by
 have hpt:=hp.t;unfold uL aX bf bu ch dC bK dx cN fg kP bd bA iO bE bD aZ cK aF cH;refine aU hr (b_ (λh=>(h h0).elim) λ_=>?_);have hD:p.1=D0:=hp.d;have hlen:p.1.length=9:=by rw[hD];rfl
 refine b8 9 (λi x=>x.1=(i:Int)/\x.2.1=p/\x.2.2=W4 i) ?_ ?_ ⟨rfl,rfl,rfl⟩
 .rintro i ⟨a,p',y⟩ hi ⟨e1,e2,e3⟩;dsimp only at e1 e2 e3;subst e1;have e2:=e2.symm;subst e2;obtain⟨b1,b2,b3,b4,b5,b6⟩:=aox i hi;rw[<- e3]at b1 b2 b3 b4;have hW:=W4_s hi;rw[<- e3]at hW;have hcd:=D0_c i hi;have hlk:i=7->y.2.1=HE/\(aK (T:=tDc) D0 (i:Int)).2.2.2.2.2=[109]:=λh=>by subst h;rw[e3];exact⟨rfl,rfl⟩
  refine di ?_;refine bZ (aR ?_);dsimp only;rw[hD];revert hW hcd hlk b5 b6;generalize (aK (T:=tDc) D0 (i:Int))=z;intro b5 b6 hW hcd hlk;refine aY (λx=>x=(p,W4 (i+1))) ?_ ?_
  .rw[hW];unfold adD;refine aY (λx=>x.2=(p,z,y)/\(x.1=ai↔(z.1=1\/z.1=2))) ?_ ?_
   .exact aJ (λh=>ar ⟨rfl,λ_=>.inl h,λ_=>aQ h⟩) λh=>ar ⟨rfl,λh2=>.inr (bi h2),λh2=>aQ (h2.resolve_left h)⟩
   rintro⟨b,x⟩ ⟨e,hb⟩;dsimp only at e hb;subst e;refine aO (λI=>?_) λI=>?_
   .rw[aD (hb.1 I)];unfold ceD;obtain⟨m,hm⟩:∃m:Nat,iK z.2.2.2.1 1=(m:Int):=⟨(iK z.2.2.2.1 1).toNat,by omega⟩
    rw[hm,cZ];refine b8 m (λk x=>x=((k:Int),p,z,y.1++(bx k).map (λ(k:Nat)=>(z.2.2.1,(k:Int),z.2.2.2.1,decide (z.1=2),z.2.2.2.2.1)),y.2)) ?_ ?_ (by simp)
    .rintro k x hk rfl;refine bJ (λ_=>?_) λg=>(by dsimp only at g;rw[hm]at g;omega)
     refine bg (by simp;omega) (by omega) (ar ?_);dsimp only;rw[gE (by omega),xI,cE,<-fY];rfl
    .rintro x rfl;exact bJ (λg=>(by dsimp only at g;rw[hm]at g;omega)) λ_=>ar rfl
   rw[aA λh=>by have I:b=aj:=I;rw[hb.2 h]at I;cases I];refine aY (λx=>x.2=(p,z,y)/\(x.1=ai↔(z.1=3\/z.1=4))) ?_ ?_
   .exact aJ (λh=>ar ⟨rfl,λ_=>.inl h,λ_=>aQ h⟩) λh=>ar ⟨rfl,λh2=>.inr (bi h2),λh2=>aQ (h2.resolve_left h)⟩
   rintro⟨c,x⟩ ⟨e,U⟩;dsimp only at e U;subst e;refine aO (λh=>?_) λh=>?_
   .rw[aD (U.1 h)];exact bg (by simp;omega) (by omega) (ar rfl)
   rw[aA λh2=>by have h:c=aj:=h;rw[U.2 h2]at h;cases h];refine aJ (λh5=>?_) λh5=>?_
   .obtain⟨l1,l2⟩:=hlk (hcd h5);rw[aD h5];refine ax (NJ _ _ (by dsimp only;rw[l1];decide)) λv hv=>?_
    have hv:=(aje (by dsimp only at hv;rw[l1]at hv;exact hv)).1 l2;subst hv;exact bg (by simp;omega) (by omega) (ar rfl)
   .rw[aA h5];exact bg (by simp;omega) (by omega) (ar rfl)
  rintro x rfl;exact ar ⟨gE (by omega),rfl,rfl⟩
 .rintro⟨a,p',y⟩ ⟨e1,e2,j⟩;dsimp only at e1 e2 j;subst e1;have e2:=e2.symm;subst e2;rw[W4_9]at j;subst j;refine dj ?_;refine ax (P:=WW p) ?_ λr hr=>ar hr
  refine b8 p.2.length (λi x=>x.1=(i:Int)/\x.2.1=p/\x.2.2.1=C0/\x.2.2.2.1=HE/\x.2.2.2.2.1=Nn/\x.2.2.2.2.2.1=UI/\x.2.2.2.2.2.2.1=wK.take i/\SW p i x.2.2.2.2.2.2.2) ?_ ?_ ⟨rfl,rfl,rfl,rfl,rfl,rfl,rfl,rfl,⟨0,0,rfl,.inr ⟨rfl,rfl⟩⟩,λj hj=>by omega⟩
  .rintro i ⟨a,p2,c2,l2,d2,f2,t2,s2⟩ hi ⟨e1,e2,e3,e4,e5,e6,Z,M,⟨fa,fb,f8,f9⟩,J⟩;dsimp only at e1 e2 e3 e4 e5 e6 Z M f8 J;subst e1;have e2:=e2.symm;subst e2;have hb8:=Xc (i+1) hc;have hbs:=ajn hi;refine di ?_;have hin:((i:Nat):Int)<(p.2.length:Int):=by omega
   have hm:=hp.m _ (bL (T:=zD) (xs:=p.2) (j:=(i:Int)) (by omega) hin);have hnm:(aK (T:=zD) p.2 (i:Int)).1=aK (T:=.str) wK (i:Int):=by
    have h1:=mX (T:=zD) hi;have h2:=gX (List.map Prod.fst) h1;rw[cE,kS,kS,hp.n,List.take_take,List.take_take,tm (by omega),tm (by omega),mX (T:=.str) (xs:=wK) (i:=i) (by have q4:wK.length=4:=rfl;omega)]at h2;exact ((List.cons.inj (List.append_cancel_left h2)).1).symm
   have htl:t2.length=i:=by rw[Z,bC];have q4:wK.length=4:=rfl;omega
   dsimp only;refine aS (by omega) hin (aR (bg (by simp;omega) (by omega) (aS (by omega) hin (aR ?_))));refine ax (FD fuel 5 (by rw[jY];omega) _ _ _ s2 (by have:=hm.b;omega) (λs hs=>((hm.s s hs).le (by omega:3<=5)).t) (eE _) ?_ ?_) λy hy=>bh (by simp) (ar ?_)
   .show (0:Int)+(boN p i:Nat)<=_;omega
   .show s2.length+boN p i<=_;omega
   obtain⟨_,S,h2,Y⟩:=hy;have Y:SL (i:Int) 0 (boN p i) S:=Y;refine ⟨gE (by omega),rfl,e3,e4,e5,e6,?_,?_⟩
   .dsimp only;rw[Z,hnm,<-mX (T:=.str) (xs:=wK) (i:=i) (by have q4:wK.length=4:=rfl;omega)]
   .dsimp only;rw[h2];refine ⟨by rw[bm,Y.l,M,hbs],?_,λj hj=>?_⟩
    .have hr:=XM f8 Y (by rcases f9 with h|⟨h,h'⟩;exact .inr ⟨h,by omega,rfl⟩;rcases L5 i with hi0|hi0;exact .inl ⟨by omega,h'⟩;exact .inr ⟨by omega,by omega,rfl⟩) (boN p i) (bV _);rw[<- Y.l,cW]at hr;rw[hr];split
     .exact⟨_,_,rfl,f9.imp (λh=>by omega) id⟩
     .exact⟨_,_,rfl,.inl (by omega)⟩
    .rcases ci j i with h1|h1
     .obtain⟨g1,g2,g3⟩:=J j h1;exact⟨g1,g2,λq q1 q2=>(g3 q q1 q2).app⟩
     .have hj:j=i:=by omega
      subst hj;refine ⟨by omega,by omega,λq q1 q2=>?_⟩;obtain⟨q,rfl⟩:∃n:Nat,q=(n:Int):=⟨q.toNat,by omega⟩
      refine ⟨by omega,by rw[bm,Y.l];omega,?_⟩;rw[J9 (T:=yI) (by omega)];exact (Y.v _ (by omega)).1
  .rintro⟨a,p2,c2,l2,d2,f2,t2,s2⟩ ⟨e1,e2,e3,e4,e5,e6,Z,M,⟨fa,fb,f8,f9⟩,J⟩;dsimp only at e1 e2 e3 e4 e5 e6 Z M f8 J;subst e1;have e2:=e2.symm;subst e2;subst e3;subst e4;subst e5;subst e6;subst Z;refine dj (ar ?_);have hb8:=Xc p.2.length hc;refine ⟨⟨rfl,rfl,rfl,rfl,⟨p.2.length,hp.t0,hp.t,rfl⟩,by dsimp only;omega,?_⟩,rfl,J⟩;unfold SV0;have hTl:(wK.take p.2.length).length=p.2.length:=by rw[bC];have q4:wK.length=4:=rfl;omega
   dsimp only;rw[hTl,f8];simp
def NM9:List ζ:=[[120],[121],[118],[113],[109],[110],[114],[99],[102]]
set_option maxHeartbeats 20000000 in
theorem acp (t:List ζ) (ht:t.length<=4) (s:List ν):pN (C0,HE,Nn,UI,t,s)=af (NM9++t,ai):=by
 refine ct ?_;unfold pN aX bf bu ch dx kP bd bA iO bE bD aZ cK aF cH;with_reducible repeat' first|exact ar rfl|refine X4 ?_|refine X3 ?_|refine X2 ?_|refine X1 ?_|refine agc ?_|refine aR ?_|refine fO rfl ?_|refine fP rfl ?_|refine bh rfl ?_|refine RM ?_|refine RL ?_|refine RK ?_
 refine bg (by show 9+t.length<=1073741824;omega) (by decide) ?_;with_reducible repeat' first|exact ar rfl|refine X4 ?_|refine X3 ?_|refine X2 ?_|refine X1 ?_|refine agc ?_|refine aR ?_|refine fO rfl ?_|refine fP rfl ?_|refine bh rfl ?_|refine RM ?_|refine RL ?_|refine RK ?_
theorem UG:∀x∈NM9++wK,Ok (fA x) λb=>b=ai:=by
 intro x I;simp only[NM9,wK,gC,md,bp,cF,gu]at I;rcases I with rfl|rfl|rfl|rfl|rfl|rfl|rfl|rfl|rfl|rfl|rfl|rfl|rfl;all_goals with_reducible repeat' first|exact ar rfl|refine X4 ?_|refine X3 ?_|refine X2 ?_|refine X1 ?_|refine RK ?_|refine agc ?_|refine aR ?_|refine fO rfl ?_|refine fP rfl ?_|refine bh rfl ?_|refine RM ?_|refine RL ?_|refine dh (fA.eq_1 ..) ?_|refine dh (jO.eq_1 ..) ?_|refine dh (kF.eq_1 ..) ?_|refine dh (lJ.eq_1 ..) ?_|refine dh (pQ.eq_1 ..) ?_|refine dh (rW.eq_1 ..) ?_
theorem GT.up:∀{d:Nat} {s:Sx},GT d s->GT (d+1) s
 |0,_,h=>h.elim
 |_+1,_,⟨a,b,c,e,f,g,i⟩=>⟨a,b,c,e,f,λx I=>GT.up (g x I),λx I=>GT.up (i x I)⟩
theorem al3 {l:List Sx} (h:∀s∈l,GT 3 s):nX 5 l=nX 3 l:=by
 unfold nX;rw[qB λx I=>(Qw (GT.up (h x I))).trans (Qw (h x I))]
theorem aly:∀i:Nat,i<13->∀r:Nat,r<i->aK (T:=.str) (NM9++wK) (r:Int)≠aK (T:=.str) (NM9++wK) (i:Int):=by decide
theorem Rr (T:Int):∀l:List ν,l.foldl (UY T) ah=ah
 |[]=>rfl
 |_::r=>Rr T r
theorem XN {T:Int} {l:List ν} (h:Ma T l≠ah) (i:Nat):Ma T (l.take i)≠ah:=λhn=>h (by
 unfold Ma at hn ⊢;rw[<- B6 i l,dV,hn,Rr])
theorem ac2 {T t n:Int} {z:ν} (h:UY T (af (t,n)) z≠ah):UY T (af (t,n)) z=af (z.1,z.2.1+1)/\(z.1=t/\z.2.1=n\/t<z.1/\z.1<T/\z.2.1=0):=by
 unfold UY at h ⊢;dsimp only at h ⊢;by_cases h1:z.1=t/\z.2.1=n
 .rw[aD h1];exact⟨by rw[h1.1,h1.2],.inl h1⟩
 .rw[aA h1]at h ⊢;by_cases h2:t<z.1/\z.1<T/\z.2.1=0
  .rw[aD h2];exact⟨by rw[h2.2.2];rfl,.inr h2⟩
  .rw[aA h2]at h;exact (h rfl).elim
theorem Cj {R:Type} {a b:Int} {t f:Option R} {Q:R->Prop} (h:b<=a) (hf:Ok f Q):Ok (bcase (gf a b) t f) Q:=fP (gx.2 h) hf
theorem Ig {w:WT} (hx:WX w):ii w=af ai:=by
 obtain⟨w1,w2,w3,w4,I,J⟩:=w;obtain⟨hc,hl,hd,hf,⟨n,n1,n4,ht⟩,hs,hv⟩:=hx;dsimp only at hc hl hd hf ht hs;subst hc;subst hl;subst hd;subst hf;have hT:I.length=n:=by rw[ht,bC];have q4:wK.length=4:=rfl;omega
 have hv:Ma I.length J≠ah:=hv;refine ct ?_;unfold ii aX bf bu ch cN fg bd bA iY iO bE bD aZ cK aF cH;refine aY (λx=>x=(aj,C0,HE,Nn,UI,I,J)) ?_ ?_
 .refine Cj (show (5:Int)<=12 by decide) (Cj (show (3:Int)<=4 by decide) (Cj (show (1:Int)<=2 by decide) (Cj (show (1:Int)<=2 by decide) (Cj (show (1:Int)<=(I.length:Int) by omega) (Cj (show (I.length:Int)<=4 by omega) (ar ?_))))));dsimp only[au];rw[gx.2 (show (J.length:Int)<=60 by omega)]
 rintro x rfl;refine gw (aU (acp I (by omega) J) (fP rfl ?_));have hN:NM9++I=(NM9++wK).take (9+n):=by rw[ht];rcases (by omega:n=1\/n=2\/n=3\/n=4) with rfl|rfl|rfl|rfl<;>rfl
 have hNl:(NM9++I).length=9+n:=by rw[bm,hT];rfl
 have hNg:∀i:Nat,i<9+n->aK (T:=.str) (NM9++I) (i:Int)=aK (T:=.str) (NM9++wK) (i:Int):=λi hi=>by
  rw[hN,xd,xd,ay,ay,List.getElem?_take_of_lt hi]
 refine b8 (9+n) (λi x=>x=((i:Int),C0,HE,Nn,UI,I,J)) ?_ ?_ rfl
 .rintro i x hi rfl;refine bJ (λ_=>?_) λg=>(by dsimp only[au]at g;rw[hNl]at g;omega)
  refine aY (λx=>x=(aj,C0,HE,Nn,UI,I,J)) ?_ ?_
  .refine aS (by dsimp only;omega) (by dsimp only;rw[hNl];omega) (aR ?_);have hmem:aK (T:=.str) (NM9++I) (i:Int)∈NM9++wK:=by rw[hNg i hi];exact bL (T:=.str) (by omega) (by have:(NM9++wK).length=13:=rfl;omega)
   refine ax (UG _ hmem) λb hb=>?_
   refine fP (by rw[hb];rfl) (dc (dN (by dsimp only;omega) (dN (by dsimp only;rw[hNl];omega) ?_)));refine aS (by dsimp only;omega) (by dsimp only;rw[hNl];omega) (aR ?_);refine ax (zk _ _ (by dsimp only;rw[bC,hNl];omega)) λr hr=>ar ?_
   obtain⟨_,h2,Z,_⟩:=hr;dsimp only at h2 Z;rw[bC,hNl]at h2;have hr0:¬0<=r:=λh0=>by
    have Z:=Z h0;obtain⟨r,rfl⟩:∃m:Nat,r=(m:Int):=⟨r.toNat,by omega⟩
    rw[xd,ay,List.getElem?_take_of_lt (by omega),<-ay,<-xd (T:=.str),hNg r (by omega),hNg i hi]at Z;exact aly i (by omega) r (by omega) Z
   rw[ml.2 (by omega)]
  .rintro x rfl;exact gw (ar (by dsimp only;rw[gE (by omega)]))
 rintro x rfl;refine bJ (λg=>(by dsimp only[au]at g;rw[hNl]at g;omega)) λ_=>?_
 refine ax (P:=λb=>b=ai) ?_ λy hy=>ar hy
 refine b8 1 (λi x=>x=((i:Int),C0,HE,Nn,UI,I,J)) ?_ ?_ rfl
 .rintro i x hi rfl;have hi0:i=0:=by omega
  subst hi0;refine fO rfl (bh rfl (aR (aY (λx=>x=(aj,C0,HE,Nn,UI,I,J)) ?_ ?_)))
  .exact fP rfl (fP rfl (bh rfl (aR (ar rfl))))
  .rintro x rfl;exact gw (ar (by dsimp only;rw[gE (by omega)]))
 rintro x rfl;refine bJ (λg=>(by have g:(1:Int)<1:=g;omega)) λ_=>?_
 refine ax (P:=λb=>b=ai) ?_ λy hy=>ar hy
 refine b8 J.length (λi x=>x=((i:Int),C0,HE,Nn,UI,I,J)/\∃t k:Int,Ma I.length (J.take i)=af (t,k)/\0<=t/\t<(I.length:Int)/\(i=0->t=0/\k=0)/\(¬i=0->(aK (T:=yI) J ((i-1:Nat):Int)).1=t/\(aK (T:=yI) J ((i-1:Nat):Int)).2.1+1=k/\0<k/\k<=i)) ?_ ?_ ⟨rfl,0,0,rfl,by omega,by omega,λ_=>⟨rfl,rfl⟩,λh=>(h rfl).elim⟩
 .rintro i x hi ⟨rfl,t,k,hF,t0,tT,hz,hp⟩;have hw:¬(i:Int)=0->bk .i64 ((i:Int)-1)=((i-1:Nat):Int):=λh=>by rw[hP (by omega) (by omega)];omega
  have hnx:=I7 (T:=I.length) hi;have hne:=XN hv (i+1);rw[hnx,hF]at hne;obtain⟨hs1,M⟩:=ac2 hne;rw[hF,hs1]at hnx;refine di ?_;refine aY (λx=>x=(C0,HE,Nn,UI,I,J)) ?_ ?_
  .refine bZ (aR ?_);revert M;generalize (aK (T:=yI) J (i:Int))=z;obtain⟨(U:Int),(z2:Int),z3⟩:=z;intro M;dsimp only at M;refine aY (λx=>x=(aj,(C0,HE,Nn,UI,I,J),U,z2,z3)) ?_ ?_
   .refine Cj (show (0:Int)<=U by omega) (ar ?_);dsimp only[au];rw[ml.2 (show U<(I.length:Int) by omega)]
   rintro x rfl;refine gw (aY (λx=>x.2=((C0,HE,Nn,UI,I,J),U,z2,z3)/\(x.1=ai->i=0\/¬t=U)/\(x.1=aj->¬i=0/\t=U)) ?_ ?_)
   .refine aJ (λh=>ar ⟨rfl,λ_=>.inl (by have h:((i:Nat):Int)=0:=h;omega),λh=>(by cases h)⟩) λh=>?_
    have h:¬((i:Nat):Int)=0:=h;dsimp only;rw[hw h];have hq:=(hp (by omega)).1;exact aS (by omega) (by first|omega|(dsimp only;omega)) (aR (ar ⟨rfl,λh2=>.inr (by rw[<- hq];simpa using h2),λh2=>⟨by omega,by rw[<- hq];simpa using h2⟩⟩))
   rintro⟨c,x⟩ ⟨e,Y,hc⟩;dsimp only at e Y hc;subst e;refine aO (λhct=>?_) λhcf=>?_
   .have hz2:z2=0:=by
     rcases Y hct with h|h
     .have:=hz h;omega
     .omega
    refine aY (λx=>x=(aj,C0,HE,Nn,UI,I,J)) ?_ ?_
    .refine b_ (λh=>(h hz2).elim) λ_=>bJ (λh=>?_) λ_=>ar rfl
     have h:(0:Int)<((i:Nat):Int):=h;dsimp only;rw[hw (by omega)];have hq:=(hp (by omega)).1;refine aS (by omega) (by first|omega|(dsimp only;omega)) (aR (ar ?_));dsimp only;rw[hq,gx.2 (show t<=U by omega)]
    rintro x rfl;exact gw (ar rfl)
   .obtain⟨h1,h2⟩:=hc hcf;obtain⟨_,p2,p3,p4⟩:=hp h1;dsimp only;rw[hw (by omega)];refine aS (by omega) (by first|omega|(dsimp only;omega)) (aR ?_);refine b_ (λh=>(h ?_).elim) λ_=>ar rfl
    try dsimp only
    rw[p2,hP (by omega) (by omega)];omega
  .rintro x rfl;refine ar ⟨by dsimp only;rw[gE (by omega)],_,_,hnx,?_⟩;revert M;rw[show i+1-1=i by omega];generalize (aK (T:=yI) J (i:Int))=z;obtain⟨(U:Int),(z2:Int),z3⟩:=z;intro M;dsimp only at M ⊢;refine ⟨by omega,by omega,λh=>by omega,λ_=>⟨rfl,rfl,?_,?_⟩⟩
   .by_cases h0:i=0
    .have:=hz h0;omega
    .have:=hp h0;omega
   .by_cases h0:i=0
    .have:=hz h0;omega
    .have:=hp h0;omega
 .rintro x ⟨rfl,_⟩;exact dj (ar rfl)
theorem Xm {c:CT} (I:WX c.1) (hl:c.2.length=c.1.2.2.2.2.1.length) (h:∀k:Nat,k<c.2.length->GC c.2.length c.1.2.2.2.2.2 (k:Int) (aK (T:=wI) c.2 (k:Int))):jM c=af ai:=by
 obtain⟨w,l⟩:=c;dsimp only at I hl h;have M:l.length<=4:=by
  obtain⟨n,_,J,ht⟩:=I.t;rw[hl,ht,bC];omega
 refine ct ?_;unfold jM bu bA bD aZ cK aF cH;refine aY (λx=>x=(aj,w,l)) ?_ ?_
 .refine aU (Ig I) (fP rfl (ar ?_));dsimp only;rw[hl];simp
 rintro x rfl;refine gw (b8 l.length (λi x=>x=((i:Int),w,l)) ?_ ?_ rfl)
 .rintro i x hi rfl;refine di ?_;refine bZ (aR (aU (ER I hl.symm (h i hi)) (fP rfl (ar ?_))));dsimp only;rw[gE (by omega)]
 .rintro x rfl;exact dj (ar rfl)
theorem QX (p:PG) (hp:PJ p) (hr4:∃r,fD p=af r/\r.1=0):Ok (qR p) λy=>CB y.1:=by
 have hpt:=hp.t;obtain⟨r,hr,h0⟩:=hr4;obtain⟨r',hr',Y⟩:=EE p hp.x;rw[hr]at hr';cases hr';have Y:=Y h0;unfold qR aX bf bu ch dC bK cN fg nZ bA iO bE bD kl aZ cK aF cH;refine aU hr (b_ (λh=>(h h0).elim) λ_=>?_);refine ax (Xk p hp r hr h0 Y) λw M=>?_
 have hwT:w.2.2.2.2.1.length=p.2.length:=by rw[M.t,bC];have q4:wK.length=4:=rfl;omega
 refine b8 p.2.length (λi x=>x.1.1=((bsN p i:Nat):Int)/\x.1.2=(i:Int)/\x.2.1=p/\x.2.2.1=w/\x.2.2.2.length=i/\∀j:Nat,j<i->GC p.2.length w.2.2.2.2.2 (j:Int) (aK (T:=wI) x.2.2.2 (j:Int))) ?_ ?_ ⟨rfl,rfl,rfl,rfl,rfl,λj hj=>by omega⟩
 .rintro i ⟨⟨a,b⟩,p2,w2,cs⟩ hi ⟨e0,e1,e2,e3,Z,e5⟩;dsimp only at e0 e1 e2 e3 Z e5;subst e0;subst e1;have e2:=e2.symm;subst e2;have e3:=e3.symm;subst e3;have hin:((i:Nat):Int)<(p.2.length:Int):=by omega
  refine di ?_;have hm:=hp.m _ (bL (T:=zD) (xs:=p.2) (j:=(i:Int)) (by omega) hin);have hsr:=M.s i hi;have hbs:=ajn hi;have hb1:=Xc (i+1) Y;have hbo:boN p i=nX 3 (aK (T:=zD) p.2 (i:Int)).2.2.2:=al3 λs hs=>(hm.s s hs).t
  rw[hbo]at hsr hbs;dsimp only;refine aS (by omega) hin (aR (aS (by omega) hin (aR ?_)));revert hm hsr hbs;generalize (aK (T:=zD) p.2 (i:Int))=t;intro hm hsr hbs;have hk:ME 3=50+16*(50+16*50):=rfl;have hle:=cL (ME 3) hm.b;rw[hk]at hle;have hll:t.2.2.1.length=2:=by rw[hm.l];rfl
  refine ax (PZ (nT:=p.2.length) (ss:=w.2.2.2.2.2) (t:=(i:Int)) 3 (by omega) _ _ [] (by have:=hm.b;omega) hm.s ⟨M.x.c,M.x.l,M.x.d,M.x.f,M.t,hm.l⟩ hsr (by rw[hk,j8];omega)) λy hy=>bh (by simp) ?_
  obtain⟨g2,o2⟩:=y;obtain⟨q1,q2,q3⟩:=hy;dsimp only at q1 q2 q3;have q4:=q2.u;rw[hk,j8]at q4;refine ax (Jb _ _ o2 (by omega)) λy hy=>bh (by simp) ?_
  obtain⟨g3,I⟩:=y;obtain⟨hg3,U⟩:=hy;dsimp only at hg3 U;have hL:aP (al g3.2.2.2.2.2.2.1)=2:=by
   rw[hg3];show aP (al g2.2.2.2.2.2.2.1)=2;rw[q1.h];show aP (al t.2.2.1)=2;rw[hll];rfl
  have l3:I.length=o2.length+1:=by rw[U,bm];rfl
  have J:I.length-1=o2.length:=by omega
  have iq:∀q:Nat,q<o2.length->iA I q=iA o2 q:=λq hq=>by rw[U,JI hq]
  have iend:iA I o2.length=(28,0,0,0,0,-1):=by rw[U,xX]
  have hreg:∀q:Nat,q<I.length->∀j:Int,j∈iX (iA I q)->0<=j/\j<32:=λq hq j hj=>by
   by_cases h:q<o2.length
   .rw[iq q h]at hj;exact (q2.i q (j7 _) h).o.r j hj
   .rw[show q=o2.length by omega,iend]at hj;simp[iX]at hj
  dsimp only;rw[hL];refine b8 I.length (λk x=>∃rg:Int,x=((k:Int),p,w,g3,rg,cs,I)/\2<=rg/\rg<=32/\∀q:Nat,q<k->∀j:Int,j∈iX (iA I q)->j<rg) ?_ ?_ ⟨2,rfl,by omega,by omega,λq hq=>by omega⟩
  .rintro k x hk2 ⟨rg,rfl,r0,r1,r2⟩;refine di ?_;dsimp only;refine bZ (bZ (aR (aU (ui _) ?_)));have hrk:=hreg k hk2;have hrl:=Dg (iA I k);revert hrk hrl;generalize hins:(aK (T:=B') I (k:Int))=ins;rw[show iA I k=ins from hins];intro hrk hrl;refine b8 (iX ins).length (λj x=>∃rg':Int,x=((j:Int),p,w,g3,rg',cs,I)/\rg<=rg'/\rg'<=32/\∀q:Nat,q<j->rg'>aK (T:=.int .i64) (iX ins) (q:Int)) ?_ ?_ ⟨rg,rfl,eE _,r1,λq hq=>by omega⟩
   .rintro j x hj ⟨rg',rfl,s0,s1,s2⟩;refine di ?_;refine bZ (aR (ar ?_));have hz:=hrk _ (bL (T:=.int .i64) (xs:=iX ins) (j:=(j:Int)) (by omega) (by omega));dsimp only;obtain⟨z,hzj⟩:∃z:Int,aK (T:=.int .i64) (iX ins) (j:Int)=z:=⟨_,rfl⟩
    rw[hzj]at hz ⊢;have hz0:(0:Int)<=z:=hz.1;have hz1:(32:Int)>z:=hz.2;rw[gE (by omega),hP (n:=z+1) (by omega) (by omega)];have him:rg'<=iK rg' (z+1)/\z+1<=iK rg' (z+1)/\iK rg' (z+1)<=32:=by
     unfold iK;split
     .rename_i h;have h:=ud.1 h;omega
     .rename_i h;have h:=gx.1 (Bool.eq_false_iff.2 h);omega
    refine ⟨_,rfl,by omega,him.2.2,λq hq=>?_⟩;rcases ci q j with h1|h1
    .have:=s2 q h1;omega
    .rw[show q=j by omega,hzj];exact Int.lt_of_lt_of_le (show z<z+1 by omega) him.2.1
   .rintro x ⟨rg',rfl,s0,s1,s2⟩;refine dj (ar ?_);refine ⟨rg',by dsimp only;rw[gE (by omega)],by omega,s1,λq hq j hj=>?_⟩;rcases ci q k with h1|h1
    .have:=r2 q h1 j hj;omega
    .rw[show q=k by omega,show iA I k=ins from hins]at hj;exact iD (T:=.int .i64) (p:=λc=>rg'>c) s2 j hj
  .rintro x ⟨rg,rfl,r0,r1,r2⟩;refine dj (RL (bg (by simp;omega) (by omega) (RK (ar ?_))));dsimp only;have q3':(g2.2.2.2.2.2.2.2.2:Int)=(bsN p i:Nat)+(nX 3 t.2.2.2:Nat):=q3;refine ⟨by rw[q3',hbs];omega,gE (by omega),rfl,rfl,by simp;omega,λj hj=>?_⟩;rcases ci j i with h1|h1
   .rw[J_ (T:=wI) (by rw[Z];exact h1)];exact e5 j h1
   .rw[show j=i by omega,J9 (T:=wI) (by rw[Z];omega),Z,vE];refine ⟨show (1:Int)<=rg by omega,r1,show 1<=I.length by omega,show I.length<=1000000 by omega,?_,?_,?_,?_,?_⟩
    .show (iA I (I.length-1)).1=28/\(iA I (I.length-1)).2.2.2.2.2= -1;rw[J,iend];exact⟨rfl,rfl⟩
    .show ru I 0 (I.length-1);rw[J];exact q2.b.congr λq _ hq=>iq q hq
    .show ∀q:Nat,q<I.length-1->GI p.2.length w.2.2.2.2.2 (i:Int) (iA I q);rw[J];exact λq hq=>by rw[iq q hq];exact q2.i q (j7 _) hq
    .show ∀q:Nat,q<I.length-1->(iA I q).1=10->0<=(iA I q).2.2.1/\(iA I q).2.2.1<(I.length:Int)
     rw[J];intro q hq h10;rw[iq q hq]at h10 ⊢;have:=q2.r q (j7 _) hq h10;omega
    .exact λq hq j hj=>r2 q (show q<I.length by have hq:q<I.length-1:=hq;omega) j hj
 .rintro⟨⟨a,b⟩,p2,w2,cs⟩ ⟨e0,e1,e2,e3,Z,e5⟩;dsimp only at e0 e1 e2 e3 Z e5;subst e1;subst e2;subst e3;refine dj (ar ?_);have hgc:∀t∈cs,∃k:Nat,GC p2.2.length w2.2.2.2.2.2 (k:Int) t:=iD (T:=wI) λk hk=>⟨k,e5 k (by omega)⟩
  refine ⟨by dsimp only;omega,λt ht=>?_,λt ht=>?_,M.x,Xm M.x ?_ ?_⟩
  .obtain⟨k,hk⟩:=hgc t ht;exact hk.u
  .obtain⟨k,hk⟩:=hgc t ht;exact hk.r0
  .dsimp only;rw[Z,hwT]
  .dsimp only;rw[Z];exact e5
theorem Mm (a b:η) (M:a.length<=9223372036854775807) (J:∀z∈a,0<=z/\z<=255) (hb:b.length<=1000000):Ok (sX (a,b)) TR:=by
 unfold sX;refine ax (P:=CB) ?_ λc hc=>ax (Xz b hb) λl hl=>?_
 .unfold xV;exact ax (HL a M J) λp hp=>ax (QX p hp.1 hp.2) λy I=>ar I
 .exact ax (alw c l hc (by omega)) λy I=>ar I
theorem QW (a b c:η) (n:Int) (n0:0<=n) (n1:n<=1000000) (M:a.length<=9223372036854775807) (J:∀z∈a,0<=z/\z<=255) (hc:c.length<=9223372036854775807) (I:∀z∈c,0<=z/\z<=255):Ok (lq ((a,b,c),n)) TR:=by
 unfold lq bA bE aZ;refine bJ (λ_=>ax (I8 c n hc I) λy h=>ar h) λ_=>?_
 have h0:0<=HQ (aP b.length) n/\HQ (aP b.length) n<=(b.length:Int)/\HQ (aP b.length) n<=n:=by
  unfold HQ;split
  .rename_i h;rw[ud]at h;dsimp only[au]at h;exact⟨n0,by omega,eE _⟩
  .rename_i h;have h:=gx.1 (Bool.eq_false_iff.2 h);dsimp only[au]at h ⊢;exact⟨by omega,eE _,h⟩
 refine dc (dN h0.1 (dN h0.2.1 ?_));have h1:(dI (aT (HQ (aP b.length) n)) b).length<=1000000:=by rw[bC];have:=h0.1;have:=h0.2.2;omega
 exact ax (Mm a _ M J h1) λy h=>ar h
def HS.zero (w:vh):HS:=⟨aG w.2.2.2.2.1.length [],aG w.2.2.2.2.1.length [],aG w.2.1.length [],aG w.2.1.length [],aG w.1.length [],aG w.2.2.2.1.length [],[],aG w.2.2.2.2.1.length [],aG w.2.2.2.2.1.length (-1)⟩
theorem HS.zero_ok {w:vh} (h1:w.1.length<=1000) (h2:w.2.1.length<=1000) (J:w.2.2.2.1.length<=1000) (I:w.2.2.2.2.1.length<=1000):Q4 0 (HS.zero w):=by
 have z:(0:Int)<=0:=by omega
 exact⟨z,by omega,B4.repl z _,B4.repl z _,B4.repl z _,B4.repl z _,B4.repl z _,B4.repl z _,En.nil z,B4.repl z _,by simpa[HS.zero] using I,by simp[HS.zero],by simp[HS.zero],by simp[HS.zero],by simpa[HS.zero] using h2,by simp[HS.zero],by simpa[HS.zero] using h1,by simpa[HS.zero] using J⟩
structure YY (w:vh) (h:HS):Prop where
 T:h.T.length=w.2.2.2.2.1.length
 L:h.L.length=w.2.1.length
 C:h.C.length=w.1.length
 F:h.F.length=w.2.2.2.1.length
theorem YY.zero (w:vh):YY w (HS.zero w):=⟨by simp[HS.zero],by simp[HS.zero],by simp[HS.zero],by simp[HS.zero]⟩
theorem YY.ent {w:vh} {h:HS} (f:YY w h) (e:EV) (x:η):YY w (io w h e x):=by
 obtain⟨a,b,c,d,g,i,j,k⟩:=vX w h e x;exact⟨a.trans f.T,c.trans f.L,g.trans f.C,i.trans f.F⟩
theorem YY.step {w:vh} {h:HS} (f:YY w h) (e:EV):YY w (Gi w h e).1:=f.ent e _
def evP (e:ET):EV:=⟨e.1.toNat,e.2.1.toNat,e.2.2.1.toNat,e.2.2.2.1⟩
theorem aoi {w:WT} {e:ET} (f:EvF w e):EvT (evP e) e:=by
 obtain⟨⟨k1,k2,ce,lk,cd,th,fu⟩,t0,_,_⟩:=f;refine ⟨(HH t0).symm,(HH (by omega)).symm,λh=>(HH ?_).symm,rfl⟩;unfold evP at h;simp only[bp,cF,gu]at h;by_cases h1:e.2.1=3\/e.2.1=4
 .exact (ce h1).1
 by_cases h2:6<=e.2.1/\e.2.1<=11
 .exact (lk h2).1
 by_cases M:16<=e.2.1/\e.2.1<=19
 .exact (cd M).1
 by_cases J:e.2.1=20\/e.2.1=21
 .exact (th J).1
 by_cases I:e.2.1=22\/e.2.1=23
 .exact (fu I).1
 omega
theorem Qc {w:WT} {e:ET} (f:EvF w e) (wb:WB w) {h:HS} (I:YY w h):EOK w h (evP e):=by
 obtain⟨⟨k1,k2,ce,lk,cd,th,fu⟩,t0,t1,J⟩:=f;have Z:=wb.t;have Y:=I.T;have U:=I.L;have M:=I.C;have f4:=I.F;unfold evP;refine ⟨by dsimp only;omega,by dsimp only;omega,by dsimp only;omega,by dsimp only;omega,λq=>?_,λq=>?_,λq=>?_,λq=>?_,λq=>?_⟩<;>dsimp only at q ⊢
 .have:=th (by omega);omega
 .have:=lk (by omega);omega
 .have g:=cd (by omega);have hl:e.2.2.1.toNat<w.2.2.1.length:=by omega
  have hm:=J (w.2.2.1.getD e.2.2.1.toNat ([],0)) (by rw[ay,aB hl];exact vH hl);refine ⟨hl,hm.1,?_⟩;unfold Pj;have:=hm.2;have:=hm.1;omega
 .have:=ce (by omega);omega
 .have:=fu (by omega);omega
theorem iJ {σ R:Type} {f:σ->Option (σ⊕R)} {Q:R->Prop} (n:Nat) (hn:n<=1000000) (I:Nat->σ->Prop) (h0:∀i x,i<n->I i x->Ok (f x) λr=>match r with|.inl y=>I (i+1) y|.inr r=>Q r) (h1:∀x,I n x->Ok (f x) λr=>match r with|.inl _=>False|.inr r=>Q r) {x:σ} (U:I 0 x):Ok (gh f x) Q:=by
 have key:∀m i x,i+m=n->I i x->∃r,iterN f (m+1) x=af r/\Q r:=by
  intro m;induction m with
  |zero=>
   intro i x hi U;have:i=n:=by omega
   subst this;obtain⟨r,M,J⟩:=h1 x U;cases r with
   |inl y=>exact J.elim
   |inr r=>exact⟨r,by rw[iterN,M],J⟩
  |succ m Y=>
   intro i x hi U;obtain⟨r,M,J⟩:=h0 i x (by omega) U;cases r with
   |inl y=>
    obtain⟨r,g3,Z⟩:=Y (i+1) y (by omega) J;exact⟨r,by rw[iterN,M];exact g3,Z⟩
   |inr r=>exact⟨r,zS (n:=1) (by rw[iterN,M]) (by omega),J⟩
 obtain⟨r,M,J⟩:=key n 0 x (by omega) U;exact⟨r,zS M (by omega),J⟩
theorem OT (a b:Int):fo (a,b)=af (decide (0<=a/\a<b)):=by
 refine ct ?_;unfold fo iY aF;with_reducible repeat' first|(refine OS.ok ?_;constructor)|refine IM.mk λ_=>?_
 .by_cases h:a<b<;>simp[*,gf]
 .simp;omega
theorem UT (l:η) (t:Int) (hl:l.length<=1000):kH (l,t)=af (l.contains t):=by
 refine ct ?_;unfold kH r8 yh bd bA bD aZ cK aF cH;refine ax (P:=λy:Int=>0<=y↔t∈l) ?_ λy I=>ar ?_
 .refine iJ l.length (by omega) (λi x=>x=(i:Int)/\∀j,j<i->¬l.getD j 0=t) ?_ ?_ ⟨rfl,λj hj=>by omega⟩
  .rintro i x hi ⟨rfl,hn⟩;refine di ?_;refine bZ (aR (aJ (λh=>ar ?_) λh=>ar ?_))
   .refine ⟨λ_=>?_,λ_=>by omega⟩;have h:t=aK (T:=.int .i64) l (i:Int):=h;rw[h];exact bL (T:=.int .i64) (xs:=l) (by omega) (by omega)
   .refine ⟨gE (by omega),λj hj=>?_⟩;have h:¬t=l.getD i 0:=h;by_cases e:j=i
    .subst e;exact λg=>h g.symm
    .exact hn j (by omega)
  .rintro x ⟨rfl,hn⟩;refine dj (ar ?_);refine ⟨λg=>(by omega),λg=>?_⟩;obtain⟨j,hj,e⟩:=List.getElem_of_mem g;exact (hn j hj (by rw[ay,aB hj];exact e)).elim
 .by_cases h:t∈l
  .have:=I.2 h;simp[c_,h,this]
  .have:¬0<=y:=λg=>h (I.1 g)
   simp[c_,h,this]
theorem aka (w:WT) (s:SY) (I:w.2.2.1.length<=1000) (cd:∀c∈w.2.2.1,0<=c.2/\c.2<w.2.1.length) (e1:s.1.length=w.2.1.length) (e2:s.2.2.1.length=w.2.2.2.1.length) (e3:s.2.2.2.length=w.2.2.2.2.1.length):kx (w,s)=af ai:=by
 refine ct ?_;unfold kx ue aX bf bu dx bA iO bD aZ cK aF cH;refine aY (λx=>x=(aj,w)) ?_ ?_
 .refine b_ (λh=>(h (by dsimp only[au];omega)).elim) λ_=>b_ (λh=>(h (by dsimp only[au];omega)).elim) λ_=>ar ?_
  dsimp only[au];rw[e3];simp
 rintro x rfl;refine gw (iJ w.2.2.1.length (by omega) (λi x=>x=((i:Int),w)) ?_ ?_ rfl)
 .rintro i x hi rfl;refine di ?_;refine bZ (aR (aU (OT _ _) (b_ (λh=>(h ?_).elim) λ_=>ar ?_)))
  .exact cd _ (bL (T:=UX) (xs:=w.2.2.1) (j:=(i:Int)) (by omega) (by omega))
  .dsimp only;rw[gE (by omega)]
 .rintro x rfl;exact dj (ar rfl)
theorem aei (w:WT) (k o:Int) (h:NM w k o):mh (w,k,o)=af ai:=by
 refine ct ?_;obtain⟨k1,k2,ce,lk,cn,th,fu,no,mu,rw_⟩:=h;unfold mh aX bf bu ch bd bD aZ aF;rcases @JD k with rfl|rfl|rfl|rfl|rfl|rfl|rfl|rfl|rfl|rfl|rfl|rfl|rfl|rfl|rfl|rfl|rfl|rfl|rfl|rfl|rfl|rfl|rfl|⟨hk,I⟩
 case inr.inr.inr.inr.inr.inr.inr.inr.inr.inr.inr.inr.inr.inr.inr.inr.inr.inr.inr.inr.inr.inr.inr=>omega
 all_goals simp only[aV,bt,tO,OT]
 all_goals with_reducible repeat' first|(refine OS.ok ?_;constructor)|refine IM.mk λ_=>?_
 all_goals try simp only[au,rD] at*
 all_goals first|omega|exact rw_ ⟨by decide,by decide⟩|(simp only[*,Bool.not_false,cS];done)
theorem akj {n:Nat} (w:WT) (s:SY) (hs:SB n s) (hn:n<=1000) (t k o:Int) (he:EN w s t k o) (hr:Xs w s t k o):pd (w,s,t,k,o)=af ai:=by
 refine ct ?_;obtain⟨nm,t0,t1,cd,e1,e2,e3⟩:=id he;obtain⟨_,_,ce,lk,cn,th,fu,no,mu,rw_⟩:=nm;obtain⟨_,_,_,aq,wr,ra,rl,rr,xb,xe,ab,ae,nt,sp,jo,se,ge⟩:=hr;have hm:16<=k/\k<=19->0<=(aK (T:=UX) w.2.2.1 o).2/\(aK (T:=UX) w.2.2.1 o).2<w.2.1.length:=λh=>cd _ (bL (cn h).1 (cn h).2)
 have J:6<=k/\k<=11->kH ((aK (T:=Bb) s.1 o).2,t)=af ((aK (T:=Bb) s.1 o).2.contains t):=λh=>UT _ _ (by
  have:=hs.rd _ (bL (T:=Bb) (lk h).1 (by have:=(lk h).2;omega));omega)
 have lk1:6<=k/\k<=11->0<=o/\o<(s.1.length:Int):=λh=>by have:=lk h;omega
 have I:t<(s.2.2.2.length:Int):=by omega
 have fu1:k=22\/k=23->0<=o/\o<(s.2.2.1.length:Int):=λh=>by have:=fu h;omega
 have th1:k=20\/k=21->0<=o/\o<(s.2.2.2.length:Int):=λh=>by have:=th h;omega
 have tr:∀{p:Prop} [Decidable p],p->decide p=ai:=λh=>aQ h
 unfold pd aX bf bu dx cN bd iO bD aZ aF;refine aJ (λh=>?_) λZ=>?_
 .have h:k=6:=h;exact aS (lk1 (by omega)).1 (lk1 (by omega)).2 (aR (ar (tr (aq (.inl h)))))
 refine aJ (λh=>?_) λM=>?_
 .have h:k=10:=h;refine gF (aS (lk1 (by omega)).1 (lk1 (by omega)).2 (aR (aJ (λ_=>?_) λg=>(g (aq (.inr (.inr h)))).elim)));refine aS (lk1 (by omega)).1 (lk1 (by omega)).2 (aR (ar (ar (tr ?_))));have:=wr h;dsimp only[au]at this ⊢;omega
 refine aJ (λh=>?_) λY=>?_
 .have h:k=8:=h;refine gF (aS (lk1 (by omega)).1 (lk1 (by omega)).2 (aR (aJ (λ_=>?_) λg=>(g (aq (.inr (.inl h)))).elim)));refine aS (lk1 (by omega)).1 (lk1 (by omega)).2 (aR (aU (J (by omega)) (ar (ar ?_))));rw[ra h];rfl
 refine aY (λx=>x.2=(w,s)/\(x.1=ai↔k=7\/k=11)) (aJ (λh=>ar ⟨rfl,λ_=>.inl h,λ_=>tr h⟩) λh=>ar ⟨rfl,λh2=>.inr (bi h2),λh2=>tr (h2.resolve_left h)⟩) ?_;rintro⟨b,x⟩ ⟨e,hb⟩;dsimp only at e hb;subst e;refine aO (λh=>?_) λ_=>?_
 .have h:=hb.1 h;exact aS (lk1 (by omega)).1 (lk1 (by omega)).2 (aR (ar (tr (rl h))))
 refine aJ (λh=>?_) λU=>?_
 .have h:k=9:=h;refine aS (lk1 (by omega)).1 (lk1 (by omega)).2 (aR (aU (J (by omega)) (ar (rr h))))
 refine aJ (λh=>ar (tr (xb h))) λ_=>aJ (λh=>ar (tr (xe h))) λ_=>?_
 refine aJ (λh=>aS t0 I (aR (ar (by have:=ab h;dsimp only at this ⊢;rw[this];rfl)))) λ_=>aJ (λh=>aS t0 I (aR (ar (ae h)))) λ_=>?_
 refine aY (λx=>x.2=(w,s)/\(x.1=ai->k=16\/k=18\/k=19)) (aJ (λh=>ar ⟨rfl,λ_=>.inl h⟩) λ_=>aJ (λh=>ar ⟨rfl,λ_=>.inr (.inl h)⟩) λ_=>ar ⟨rfl,λh=>.inr (.inr (bi h))⟩) ?_;rintro⟨c,x⟩ ⟨e,hc⟩;dsimp only at e hc;subst e;refine aO (λh=>?_) λ_=>?_
 .have h:=hc h;have hq:=hm (by omega);exact aS (cn (by omega)).1 (cn (by omega)).2 (aR (aS hq.1 (by rw[e1];exact hq.2) (aR (ar (tr (nt h))))))
 refine aJ (λh=>?_) λ_=>?_
 .have h:k=20:=h;exact gF (b_ (λ_=>aS (th1 (.inl h)).1 (th1 (.inl h)).2 (aR (ar (ar (tr (sp h).2))))) λg=>((sp h).1 g).elim)
 refine aJ (λh=>?_) λ_=>?_
 .have h:k=21:=h;exact gF (b_ (λ_=>aS (th1 (.inr h)).1 (th1 (.inr h)).2 (aR (ar (ar (tr (jo h).2))))) λg=>((jo h).1 g).elim)
 refine aJ (λh=>aS (fu1 (.inl h)).1 (fu1 (.inl h)).2 (aR (ar (by have:=se h;dsimp only at this ⊢;rw[this];rfl)))) λ_=>aJ (λh=>aS (fu1 (.inr h)).1 (fu1 (.inr h)).2 (aR (ar (ge h)))) λ_=>ar rfl
theorem EJ {n:Nat} (w:WT) (s:SY) (hs:SB n s) (hn:n<=1000) (U:w.2.2.1.length<=1000) (t k o:Int) (he:EN w s t k o) (hr:Xs w s t k o):jq (w,s,t,k,o)=af ai:=by
 refine ct ?_;obtain⟨nm,t0,t1,cd,e1,e2,e3⟩:=id he;have hrd:=akj w s hs hn t k o he hr;have M:t<(s.2.2.2.length:Int):=by omega
 unfold jq aX bf bu bK dx cN bd bD aZ aF;refine aY (λx=>x=(aj,w,s)) ?_ ?_
 .refine aU (aka w s U cd e1 e2 e3) (fP rfl (aU (OT _ _) ?_));refine b_ (λh=>(h ⟨t0,t1⟩).elim) λ_=>aU (aei w k o nm) (ar rfl)
 rintro x rfl;refine gw (aS t0 M (aR ?_));refine aJ (λh=>ar (aQ (hr.b h))) λn1=>?_
 refine aJ (λh=>?_) λn17=>?_
 .have h:k=17:=h;obtain⟨a1,a2,a3⟩:=hr.wk h;obtain⟨J,I⟩:=nm.cd (by omega);have hq:=cd _ (bL (T:=UX) (xs:=w.2.2.1) (j:=o) J I);refine gF (aJ (λ_=>aJ (λ_=>?_) λg=>(g a2).elim) λg=>(g a1).elim);exact aS J I (aR (aS hq.1 (by rw[e1];exact hq.2) (aR (ar (ar (aQ a3))))))
 refine gF (aJ (λ_=>aU hrd (ar (ar rfl))) λg=>(g (hr.r n1 n17)).elim)
theorem aga (w:WT) (e:ET) (h1:e.2.1=1\/e.2.1=2->e.2.2.2.2.1= -1) (h2:¬(e.2.1=1\/e.2.1=2)->0<=e.2.2.2.2.1/\e.2.2.2.2.1<w.2.2.2.2.2.length/\(aK (T:=yI) w.2.2.2.2.2 e.2.2.2.2.1).1=e.1):jK (w,e)=af ai:=by
 refine ct ?_;unfold jK aX dC cN bd bA iY bD aZ aF;refine aY (λx=>x.2=(w,e)/\(x.1=ai↔e.2.1=1\/e.2.1=2)) (aJ (λh=>ar ⟨rfl,λ_=>.inl h,λ_=>rfl⟩) λh=>ar ⟨rfl,λh2=>.inr (bi h2),λh2=>aQ (h2.resolve_left h)⟩) ?_;rintro⟨b,x⟩ ⟨e1,hb⟩;dsimp only at e1 hb;subst e1;refine aO (λh=>ar (aQ (h1 (hb.1 h)))) λh=>?_
 obtain⟨a1,a2,a3⟩:=h2 λg=>by rw[hb.2 g]at h;cases h
 exact gF (e_ (λ_=>di (aS a1 a2 (aR (ar (ar (aQ a3)))))) λg=>(by dsimp only at g;omega))
theorem aeg {l:η} (h:Ik l) (i:Nat) (hi:i<l.length):∀z∈l.drop (i+1),l.getD i 0<z:=by
 induction l generalizing i with
 |nil=>cases hi
 |cons a l I=>
  cases i with
  |zero=>exact λz J=>h.1 z (by simpa using J)
  |succ i=>exact I h.2 i (by simpa using hi)
theorem Tf (w:WT) (s:SN) (e:ET) (ce:e.2.1=3\/e.2.1=4->0<=e.2.2.1/\e.2.2.1<w.1.length) (de:0<e.2.2.2.2.2.1.length->e.2.1=5\/(e.2.1=3\/e.2.1=4)/\¬(aK (T:=Q6) w.1 e.2.2.1).2.2.1=0) (fr:0<e.2.2.2.2.2.2.length->e.2.1=4\/e.2.1=22) (t0:0<=e.1) (t1:e.1<s.2.2.2.length) (nd:AN (aK (T:=.int .i64) s.2.2.2 e.1) e.2.2.2.2.2.1) (nf:AN (aK (T:=.int .i64) s.2.2.2 e.1) e.2.2.2.2.2.2) (ld:e.2.2.2.2.2.1.length<=1000000) (lf:e.2.2.2.2.2.2.length<=1000000):fh (w,s,e)=af ai:=by
 refine ct ?_;unfold fh jz aX bf bu ch bK dx fg bd bA iY bE bD aZ cK aF cH;refine aY (λx=>x.2=(s,e)/\((e.2.1=3\/e.2.1=4)/\¬(aK (T:=Q6) w.1 e.2.2.1).2.2.1=0->x.1=ai)) ?_ ?_
 .refine aJ (λh=>?_) λn3=>aJ (λh=>?_) λn4=>?_
  .exact aS (ce (.inl h)).1 (ce (.inl h)).2 (aR (ar ⟨rfl,λg=>by simpa using g.2⟩))
  .exact aS (ce (.inr h)).1 (ce (.inr h)).2 (aR (ar ⟨rfl,λg=>by simpa using g.2⟩))
  .exact ar ⟨rfl,λg=>(g.1.elim n3 n4).elim⟩
 rintro⟨b,x⟩ ⟨e1,hb⟩;dsimp only at e1 hb;subst e1;refine aY (λx=>x.1=s/\x.2.1=e/\(0<e.2.2.2.2.2.1.length->x.2.2.1=ai)/\(0<e.2.2.2.2.2.2.length->x.2.2.2=ai)) ?_ ?_
 .refine aJ (λZ=>aJ (λI=>ar ⟨rfl,rfl,λ_=>rfl,λ_=>rfl⟩) λI=>ar ⟨rfl,rfl,λ_=>rfl,λg=>?_⟩) λZ=>aJ (λI=>ar ⟨rfl,rfl,λg=>?_,λ_=>rfl⟩) λI=>ar ⟨rfl,rfl,λg=>?_,λg=>?_⟩
  .exact aQ ((fr g).resolve_left I)
  .exact hb ((de g).resolve_left Z)
  .exact hb ((de g).resolve_left Z)
  .exact aQ ((fr g).resolve_left I)
 rintro⟨s',e',a,b'⟩ ⟨e1,e2,h1,h2⟩;dsimp only at e1 e2 h1 h2;subst e1;subst e2;have key:∀(r:η),r.length<=1000000->AN (aK (T:=.int .i64) s'.2.2.2 e'.1) r->∀j:Nat,j<r.length->∀z∈r.drop (j+1),aK (T:=.int .i64) r (j:Int)<z:=λr _ h j hj z U=>aeg h.a j hj z U
 refine iJ 2 (by omega) (λi x=>x=((i:Int),s',e',a,b')) ?_ ?_ rfl
 .rintro i x hi rfl;refine di ?_;refine dc (dN (by dsimp only;omega) (AL (by dsimp only;omega) (aR ?_)));have hr:∃r:η,aK (T:=.sl (.int .i64)) [e'.2.2.2.2.2.1,e'.2.2.2.2.2.2] (i:Int)=r/\AN (aK (T:=.int .i64) s'.2.2.2 e'.1) r/\r.length<=1000000/\(0<r.length->aK (T:=.bool) [a,b'] (i:Int)=ai):=by
   match i,hi with
   |0,_=>exact⟨_,rfl,nd,ld,h1⟩
   |1,_=>exact⟨_,rfl,nf,lf,h2⟩
  obtain⟨r,er,hA,hl,Y⟩:=hr;have er':aK (T:=.sl aM) [e'.2.2.2.2.2.1,e'.2.2.2.2.2.2] (i:Int)=r:=er;dsimp only at er' ⊢;rw[er'];refine aY (λx=>x=(aj,s',e',a,b')) ?_ ?_
  .refine bJ (λg=>?_) λ_=>ar rfl
   have g':0<r.length:=by dsimp only[au]at g;omega
   refine dc (dN (by omega) (AL (by omega) (bZ (aR (ar ?_)))));rw[Y g'];rfl
  rintro x rfl;refine gw ?_;refine iJ r.length (by omega) (λj x=>x.1.2=(j:Int)/\x.2=(s',e',a,b')/\∀z∈r.drop j,x.1.1<z) ?_ ?_ ⟨rfl,rfl,λz U=>?_⟩
  .rintro j ⟨⟨la,ix⟩,x⟩ hj ⟨M,J,g3⟩;dsimp only at M J g3;subst M;subst J;have m:aK (T:=.int .i64) r (j:Int)∈r:=bL (T:=.int .i64) (xs:=r) (by omega) (by omega);have m2:aK (T:=.int .i64) r (j:Int)∈r.drop j:=by
    have:aK (T:=.int .i64) r (j:Int)=r[j]:=by
     show r.getD j 0=_;rw[ay,aB hj];rfl
    rw[this,List.drop_eq_getElem_cons hj];exact dw
   refine di ?_;refine bZ (aR (aY (λx=>x=(aj,s',e',a,b')) ?_ ?_))
   .refine e_ (λg=>?_) λ_=>aS t0 t1 (aR (ar ?_))
    .have q1:=g3 _ m2;exact cX q1 (by dsimp only at g;exact λq=>cX (Int.lt_of_lt_of_le q g) (Int.lt_irrefl _))
    .have:=(hA.m _ m).2;rw[ml.2 (show aK (T:=.int .i64) r (j:Int)<aK (T:=.int .i64) s'.2.2.2 e'.1 from this)]
   rintro x rfl;exact gw (ar ⟨gE (by omega),rfl,key r hl hA j hj⟩)
  .rintro⟨⟨la,ix⟩,x⟩ ⟨M,J,_⟩;dsimp only at M J;subst M;subst J;exact dj (ar (gX (·,s',e',a,b') (gE (by omega))))
  .have:=(hA.m z (by simpa using U)).1;dsimp only;omega
 .rintro x rfl;exact dj (ar rfl)
theorem aoe (w:WT) (s:SN) (I:w.2.2.1.length<=1000) (t k o:Int) (he:EN w s.1 t k o) (hf:F16 w s):lj (w,s)=af ai:=by
 obtain⟨_,_,_,cd,e1,e2,e3⟩:=he;obtain⟨U,M,J⟩:=hf;refine ct ?_;unfold lj aX bf bu dx bd aZ aF;refine gF (aU (aka w s.1 I cd e1 e2 e3) (RN (aJ (λ_=>aJ (λ_=>ar (ar (aQ ?_))) λg=>(g ?_).elim) λg=>(g ?_).elim)));all_goals dsimp only[au];omega
theorem Iq (th:List (Int×Int×Bool)) (c:Int) (i:Nat):wl th c (i+1)=if IX c (aK (T:=jJ) th (i:Int)) then wl th c i++[(i:Int)] else wl th c i:=rfl
theorem afu {n:Nat} (w:WT) (s:SN) (hs:SB n s.1) (e:ET) (hf:F16 w s) (he:EN w s.1 e.1 e.2.1 e.2.2.1) (va:VA w s.1 s.2.1 s.2.2.1 e.1 e.2.1 e.2.2.1 e.2.2.2.1):gH (s,e)=af ai:=by
 refine ct ?_;obtain⟨t,k,o,v,si,de,fr⟩:=e;obtain⟨s1,s2,s3,s4⟩:=s;obtain⟨nm,t0,t1,cd,e1,e2,e3⟩:=he;obtain⟨_,_,ce,lk,cn,th,fu,_,_,_⟩:=nm;obtain⟨f1,f2,f3⟩:=hf;have hth:=hs.th;obtain⟨v3,Y,v5,vel⟩:=va;dsimp only at*
 unfold gH lY aX bf bu ch bK bd bA bD aZ cK aF cH;refine aJ (λh=>?_) λn3=>?_
 .have h:k=3:=h;obtain⟨c0,c1⟩:=ce (.inl h);exact aS c0 (by rw[f1];exact c1) (aR (ar (aQ (v3 h))))
 refine aJ (λh=>?_) λZ=>?_
 .have h:k=23:=h;obtain⟨c0,c1⟩:=fu (.inr h);exact aS c0 (by rw[f2];exact c1) (aR (ar (aQ (Y h))))
 refine aJ (λh=>?_) λn5=>?_
 .have h:k=5:=h;exact gF (aJ (λ_=>ar (ar rfl)) λg=>ar (ar (aQ ((v5 h).resolve_left g))))
 refine aY (λx=>x.2=((s1,s2,s3,s4),t,k,o,v,si,de,fr)/\(x.1=aj->¬k=4/\¬k=22)) (aJ (λh=>ar ⟨rfl,λh2=>(by rw[aQ h]at h2;cases h2)⟩) λh=>ar ⟨rfl,λh2=>⟨h,U1 h2⟩⟩) ?_;rintro⟨b,x⟩ ⟨e,hb⟩;dsimp only at e hb;subst e;refine aO (λh=>ar rfl) λh=>?_
 obtain⟨n4,n22⟩:=hb h;have vel:=vel n3 Z n5 n4 n22;have hWl:=wj s1.2.2.2 o s1.2.2.2.length;refine aJ (λh=>?_) λn18=>?_
 .have h:k=18:=h;subst h;rw[F8]at vel;refine iJ s1.2.2.2.length (by omega) (λi x=>x.1.2.2=(i:Int)/\x.2=(t,18,o,v,si,de,fr)/\x.1.1=((wl s1.2.2.2 o i).length:Int)/\(x.1.2.1=ai↔v∈wl s1.2.2.2 o i)) ?_ ?_ ⟨rfl,rfl,rfl,by simp[wl]⟩
  .rintro i ⟨⟨c,hit,ix⟩,x⟩ hi ⟨J,I,M,U⟩;dsimp only at J I M U;subst J;subst I;subst M;have hl:=wj s1.2.2.2 o i;refine di ?_;refine aY (λx=>x.2=(t,18,o,v,si,de,fr)/\x.1.1=((wl s1.2.2.2 o (i+1)).length:Int)/\(x.1.2=ai↔v∈wl s1.2.2.2 o (i+1))) ?_ ?_
   .refine bZ (aR (aY (λx=>x=(IX o (aK (T:=jJ) s1.2.2.2 (i:Int)),t,18,o,v,si,de,fr)) ?_ ?_))
    .unfold IX;refine aJ (λh=>ar ?_) λh=>ar ?_
     .dsimp only at h ⊢;rw[h];rfl
     .dsimp only at h ⊢;rw[bw h];rfl
    rintro x rfl;rw[Iq];dsimp only;cases hw:IX o (aK (T:=jJ) s1.2.2.2 (i:Int)) with
    |true=>
     refine RN (aO (λh=>ar ⟨rfl,?_,?_⟩) λh=>ar ⟨rfl,?_,?_⟩)
     .dsimp only;rw[gE (by omega)];simp
     .simp[U.1 h]
     .dsimp only;rw[gE (by omega)];simp
     .have:¬v∈wl s1.2.2.2 o i:=λg=>by rw[U.2 g]at h;cases h
      simp[this]
    |false=>exact gw (ar ⟨rfl,rfl,U⟩)
   rintro⟨⟨c,hit'⟩,x⟩ ⟨J,I,M⟩;dsimp only at J I M;subst J;subst I;exact ar ⟨gE (by omega),rfl,rfl,M⟩
  .rintro⟨⟨c,hit,ix⟩,x⟩ ⟨J,I,M,U⟩;dsimp only at J I M U;subst J;subst I;subst M;refine dj (ax (P:=λy=>y=ai) (gF (aO (λ_=>ar (ar rfl)) λh=>?_)) λy hy=>ar hy);have hn:¬v∈wl s1.2.2.2 o s1.2.2.2.length:=λg=>by rw[U.2 g]at h;cases h
   by_cases h0:(wl s1.2.2.2 o s1.2.2.2.length).length=0
   .rw[aD h0]at vel;refine aJ (λ_=>ar (ar (aQ vel))) λg=>(g (by dsimp only;omega)).elim
   .rw[aA h0]at vel;have vel:v=BZ (wl s1.2.2.2 o s1.2.2.2.length) v:=vel;exact (hn (vel▸IL v h0)).elim
 refine aJ (λh=>?_) λn19=>?_
 .have h:k=19:=h;subst h;rw[ald]at vel;refine iJ s1.2.2.2.length (by omega) (λi x=>x.1.2=(i:Int)/\x.2=(t,19,o,v,si,de,fr)/\x.1.1=((wl s1.2.2.2 o i).length:Int)) ?_ ?_ ⟨rfl,rfl,rfl⟩
  .rintro i ⟨⟨c,ix⟩,x⟩ hi ⟨J,I,M⟩;dsimp only at J I M;subst J;subst I;subst M;have hl:=wj s1.2.2.2 o i;refine di ?_;refine aY (λx=>x.2=(t,19,o,v,si,de,fr)/\x.1=((wl s1.2.2.2 o (i+1)).length:Int)) ?_ ?_
   .refine bZ (aR (aY (λx=>x=(IX o (aK (T:=jJ) s1.2.2.2 (i:Int)),t,19,o,v,si,de,fr)) ?_ ?_))
    .unfold IX;refine aJ (λh=>ar ?_) λh=>ar ?_
     .dsimp only at h ⊢;rw[h];rfl
     .dsimp only at h ⊢;rw[bw h];rfl
    rintro x rfl;rw[Iq];dsimp only;cases hw:IX o (aK (T:=jJ) s1.2.2.2 (i:Int)) with
    |true=>
     refine RN (ar ⟨rfl,?_⟩);dsimp only;rw[gE (by omega)];simp
    |false=>exact gw (ar ⟨rfl,rfl⟩)
   rintro⟨c,x⟩ ⟨J,I⟩;dsimp only at J I;subst J;subst I;exact ar ⟨gE (by omega),rfl,rfl⟩
  .rintro⟨⟨c,ix⟩,x⟩ ⟨J,I,M⟩;dsimp only at J I M;subst J;subst I;subst M;exact dj (ar (aQ vel))
 exact ar (aQ (by rw[ajr _ _ _ _ _ _ n18 n19]at vel;exact vel))
theorem abq (x:Int×Int×Bool) (c:Int):mG (x,c)=af (IX c x):=by
 refine ct ?_;unfold mG IX bd aF;refine gF (aJ (λh=>ar (ar ?_)) λh=>ar (ar ?_))
 .have h:x.1=3:=h;rw[h];rfl
 .have h:¬x.1=3:=h;rw[bw h];rfl
theorem ae2 {n:Nat} (s:SY) (hs:SB n s):kG s=af (s.2.1,s.1,s.2.2.1,s.2.2.2):=by
 refine ct ?_;obtain⟨s1,s2,J,I⟩:=s;have hn:=hs.n1;have hlk:=hs.lk;have hdn:=hs.dn;have hth:=hs.th;have hrd:=hs.rd;dsimp only at hlk hdn hth hrd;unfold kG sI aX bK ck bA bE bD aZ cK cH;dsimp only[au];refine dc (dc (dN (by omega) (dN (by omega) (bg (by simp;omega) (by omega) ?_))));refine iJ s1.length (by omega) (λi x=>∃c d,x=((i:Int),(s1,s2,J,I),c,d)/\d.length=s1.length/\∀j,j<i->d.getD j (0,[])=s1.getD j (0,[])) ?_ ?_ ⟨_,_,rfl,by simp,λj hj=>by omega⟩
 .rintro i x hi ⟨c,d,rfl,hd,he⟩;have hr:=hrd _ (bL (T:=Bb) (xs:=s1) (j:=(i:Int)) (by omega) (by omega));refine di ?_;refine bZ (aR (aU (x:=(aK (T:=Bb) s1 (i:Int)).2) (ct ?_) ?_))
  .exact bg (by dsimp only;omega) (by omega) (ar rfl)
  refine bZ (bZ (ar ⟨c,d.set i (aK (T:=Bb) s1 (i:Int)),?_,by simp[hd],λj hj=>?_⟩))
  .dsimp only;rw[gE (by omega)];rfl
  .by_cases e:i=j
   .subst e;rw[ay,List.getElem?_set_self (by omega)];rfl
   .rw[ay,List.getElem?_set_ne e,<-ay];exact he j (by omega)
 .rintro x ⟨c,d,rfl,hd,he⟩;have:d=s1:=by
   refine dJ hd λj Y M=>?_
   have:=he j M;rw[ay,ay,aB Y,aB M]at this;exact this
  subst this;refine dj (ax (P:=λy=>y=(s2,d,J,I)) ?_ λy U=>ar U);refine aU (x:=J) (ct (bg (by dsimp only;omega) (by omega) (ar rfl))) (aU (x:=I) (ct (bg (by dsimp only;omega) (by omega) (ar rfl))) (ar rfl))
theorem YE (l:η) (i u:Int):BZ (l++[i]) u=if l.length=0 then i else if i=u then i else BZ l u:=by
 unfold BZ;cases l with
 |nil=>
  by_cases h:u=i
  .subst h;simp
  .simp[h];rfl
 |cons a r=>
  have e1:¬(a::r++[i]).length=0:=by simp
  have e2:¬(a::r).length=0:=by simp
  simp only[aA e1,aA e2];by_cases h:i=u
  .subst h;simp
  .have h':¬u=i:=λg=>h g.symm
   rw[aA h];have:(a::r++[i]).contains u=(a::r).contains u:=by simp[h']
   rw[this];rfl
theorem QI {th:List (Int×Int×Bool)} {c u:Int} {i:Nat} (h:¬(wl th c i).length=0):0<=BZ (wl th c i) u/\BZ (wl th c i) u<i:=by
 have:=rK.1 (IL u h);exact⟨this.1,this.2.1⟩
theorem Lt {l:η} {u:Int} (h:l.length=0):BZ l u= -1:=by unfold BZ;rw[aD h]
theorem agh (s:SY) (o u:Int) (hs:s.2.2.2.length<=1000):jP ((s.2.1,o,u),s.1,s.2.2.1,s.2.2.2)=af (BZ (wl s.2.2.2 o s.2.2.2.length) u,s.1,s.2.2.1,if (wl s.2.2.2 o s.2.2.2.length).length=0 then s.2.2.2 else yJ s.2.2.2 (BZ (wl s.2.2.2 o s.2.2.2.length) u) 4):=by
 refine ct ?_;obtain⟨s1,s2,J,I⟩:=s;dsimp only at hs ⊢;unfold jP q_ aX bf bK ck bA iY kl aZ cK aF cH;dsimp only[au];refine iJ I.length (by omega) (λi x=>x=((BZ (wl I o i) u,(i:Int)),s1,J,I,s2)) ?_ ?_ rfl
 .rintro i x hi rfl;refine di ?_;refine aY (λx=>x=(BZ (wl I o (i+1)) u,s1,J,I,s2)) ?_ ?_
  .refine bZ (bZ (aR ?_));refine aY (λx=>x=(decide (IX o (aK (T:=jJ) I (i:Int))=ai/\((wl I o i).length=0\/(i:Int)=u)),s1,J,I,s2)) ?_ ?_
   .refine aU (abq _ _) (aO (λh=>?_) λh=>ar ?_)
    .have h:IX o (aK (T:=jJ) I (i:Int))=ai:=h;refine bJ (λg=>ar ?_) λg=>ar ?_
     .have:(wl I o i).length=0:=wh λq=>by have:=(QI (u:=u) q).1;dsimp only at g;omega
      simp[h,this]
     .have:¬(wl I o i).length=0:=λq=>by have:=Lt (u:=u) q;dsimp only at g;omega
      simp[h,this]
    .have h:IX o (aK (T:=jJ) I (i:Int))=aj:=h;simp[h]
   rintro x rfl;rw[Iq];refine aJ (λh=>ar ?_) λh=>ar ?_
   .rw[aD h.1,YE];rcases h.2 with g|g
    .rw[aD g]
    .rw[aD g];simp
   .by_cases g:IX o (aK (T:=jJ) I (i:Int))=ai
    .rw[aD g,YE,aA λq=>h ⟨g,.inl q⟩,aA λq=>h ⟨g,.inr q⟩]
    .rw[aA g]
  rintro x rfl;exact ar (by dsimp only;rw[gE (by omega)])
 .rintro x rfl;refine dj (ax (P:=λy=>y=(BZ (wl I o I.length) u,s1,J,if (wl I o I.length).length=0 then I else yJ I (BZ (wl I o I.length) u) 4)) ?_ λy M=>ar M);refine aY (λx=>x=(s1,J,if (wl I o I.length).length=0 then I else yJ I (BZ (wl I o I.length) u) 4)) ?_ ?_
  .refine e_ (λg=>?_) λg=>ar ?_
   .have h0:¬(wl I o I.length).length=0:=λq=>by have:=Lt (u:=u) q;dsimp only at g;omega
    have hp:=QI (u:=u) h0;refine aS hp.1 hp.2 (aS hp.1 hp.2 (ar ?_));rw[aA h0];rfl
   .have:(wl I o I.length).length=0:=wh λq=>by have:=(QI (u:=u) q).1;dsimp only at g;omega
    rw[aD this]
  rintro x rfl;exact ar rfl
theorem agl (th:List (Int×Int×Bool)) (l:η) (i:Int):Dn th (l++[i])=yJ (Dn th l) i 4:=by unfold Dn;rw[dV];rfl
theorem agk (l:η):∀(th:List (Int×Int×Bool)) (j:Int),0<=j->(∀z∈l,0<=z/\z<th.length/\¬z=j)->aK (T:=jJ) (Dn th l) j=aK (T:=jJ) th j:=by
 induction l with
 |nil=>intro th j _ _;rfl
 |cons x r J=>
  intro th j hj h;have I:=h x (by simp);refine (J (yJ th x 4) j hj λz M=>?_).trans ?_
  .have:=h z (by simp[M]);unfold yJ;rw[bW];exact this
  .unfold yJ;rw[sg (T:=jJ) th x j _ I.1 I.2.1 hj,aA λq=>I.2.2 q.symm]
theorem Vs (s:SY) (o:Int) (hs:s.2.2.2.length<=1000):hY ((s.2.1,o),s.1,s.2.2.1,s.2.2.2)=af (((wl s.2.2.2 o s.2.2.2.length).length:Int),s.1,s.2.2.1,Dn s.2.2.2 (wl s.2.2.2 o s.2.2.2.length)):=by
 refine ct ?_;obtain⟨s1,s2,J,I⟩:=s;dsimp only at hs ⊢;unfold hY mO aX bf bK dx ck bA kl aZ cK aF cH;dsimp only[au];refine iJ I.length (by omega) (λi x=>x=((((wl I o i).length:Int),(i:Int)),s1,J,Dn I (wl I o i),s2)) ?_ ?_ rfl
 .rintro i x hi rfl;have hl:=wj I o i;have hg:aK (T:=jJ) (Dn I (wl I o i)) (i:Int)=aK (T:=jJ) I (i:Int):=agk _ _ _ (by omega) λz M=>by have:=rK.1 M;exact⟨this.1,by omega,by omega⟩
  have hq:=Iy (wl I o i) I;refine di ?_;refine aY (λx=>x=(((wl I o (i+1)).length:Int),s1,J,Dn I (wl I o (i+1)),s2)) ?_ ?_
  .refine bZ (bZ (aR (aU (abq _ _) ?_)));rw[Iq];refine aO (λh=>?_) λh=>ar ?_
   .have h:IX o (aK (T:=jJ) I (i:Int))=ai:=hg▸h;refine bZ (bZ (ar ?_));rw[aD h,agl];dsimp only;rw[gE (by omega)];simp only[bm,cf,j8];rfl
   .have h:IX o (aK (T:=jJ) I (i:Int))=aj:=hg▸h;rw[h];rfl
  rintro x rfl;exact ar (by dsimp only;rw[gE (by omega)])
 .rintro x rfl;exact dj (ar rfl)
theorem aiv {n:Nat} (w:WT) (s:SY) (hs:SB n s) (hn:n<=1000) (U:w.2.2.1.length<=1000) (t k o u:Int) (he:EN w s t k o) (hr:Xs w s t k o) (J:¬k=8) (I:¬k=9):hZ (w,s,t,k,o,u)=af ((rG w s t k o u).1,(rG w s t k o u).2,ai):=by
 refine ct ?_;unfold hZ aX bf bu ch dC bK dx cN fg kP ck bd bE bD kl aF;refine aU (EJ w s hs hn U t k o he hr) (fP rfl (aU (ae2 s hs) ?_));suffices hmain:Ok _ _ from aY (λx=>((x.2.2.2.1,x.2.1,x.2.2.2.2),x.1)=rG w s t k o u) hmain λx M=>ar (by rw[<- M])
 obtain⟨nm,t0,t1,cd,e1,e2,e3⟩:=id he;obtain⟨_,_,ce,lk,cn,th,fu⟩:=nm;have hm:16<=k/\k<=19->0<=(aK (T:=UX) w.2.2.1 o).2/\(aK (T:=UX) w.2.2.1 o).2<w.2.1.length:=λh=>cd _ (bL (cn h).1 (cn h).2)
 rcases @JD k with rfl|rfl|rfl|rfl|rfl|rfl|rfl|rfl|rfl|rfl|rfl|rfl|rfl|rfl|rfl|rfl|rfl|rfl|rfl|rfl|rfl|rfl|rfl|⟨hk,Y⟩
 case inr.inr.inr.inr.inr.inr.inr.inr.inr.inr.inr.inr.inr.inr.inr.inr.inr.inr.inr.inr.inr.inr.inr=>omega
 all_goals first|exact (J rfl).elim|exact (I rfl).elim|skip
 all_goals simp only[aV,bt,tO]
 all_goals with_reducible repeat' first|(refine OS.ok ?_;constructor)|refine IM.mk λ_=>?_
 all_goals try simp only[au,rD] at*
 all_goals try rw[bW]
 all_goals first|omega|exact (hm ⟨by decide,by decide⟩).1|exact e1▸(hm ⟨by decide,by decide⟩).2|exact rfl|skip
 .refine aU (agh s o u hs.th) (bh ?_ (ar ?_))
  .have:al (if (wl s.2.2.2 o s.2.2.2.length).length=0 then s.2.2.2 else yJ s.2.2.2 (BZ (wl s.2.2.2 o s.2.2.2.length) u) 4)=s.2.2.2.length:=by
    split
    .rfl
    .exact bW ..
   dsimp only;rw[this];simp
  .rw[F8];by_cases h:(wl s.2.2.2 o s.2.2.2.length).length=0
   .rw[aD h,aD h,Lt h]
   .rw[aA h,aA h]
 .refine aU (Vs s o hs.th) (bh ?_ (ar rfl));dsimp only;rw[Iy];simp
def Bu:Nat->List η
 |0=>[[]]
 |m+1=>Bu m++(Bu m).map ((3-(m:Int))::·)
theorem Nr:∀m,[]∈Bu m
 |0=>by simp[Bu]
 |m+1=>by simp[Bu,Nr m]
theorem EW:∀(m:Nat) (l:η),Ik l->(∀z∈l,4-(m:Int)<=z/\z<4)->l∈Bu m
 |m,[],_,_=>Nr m
 |0,a::r,_,h=>by have:=h a (by simp);omega
 |m+1,a::r,hA,h=>by
  have J:=h a (by simp);rw[Bu,bY];by_cases e:a=3-(m:Int)
  .refine .inr (dv.2 ⟨r,EW m r hA.2 λz I=>?_,by rw[e]⟩);have:=h z (by simp[I]);have:=hA.1 z I;omega
  .refine .inl (EW m (a::r) hA λz I=>?_);have:=h z I;rcases bp.1 I with rfl|I
   .omega
   .have:=hA.1 z I;omega
theorem aj2 {l:η} (h:Ik l) (h2:∀z∈l,0<=z/\z<4):l∈Bu 4:=EW 4 l h λz I=>by have:=h2 z I;omega
def in4:η:=[0,1,2,3]
theorem Yc {t:Int} (h0:0<=t) (h1:t<4):t∈in4:=by
 have:t=0\/t=1\/t=2\/t=3:=by omega
 rcases this with rfl|rfl|rfl|rfl<;>simp[in4]
def anv (l:η) (t:Int):Bool:=l.contains t||((wZ (l++[t])==af (xM l [t]))&&(lX (xM l [t])==af (xM l [t]))&&aC (xM l [t]).length (l++[t]).length)
def aos (l:η) (t:Int):Bool:= !l.contains t||(jr (l,t)==af (t,wo l t))
theorem afz:((Bu 4).all λl=>in4.all λt=>anv l t)=ai:=by kernel_rfl
theorem aha:((Bu 4).all λl=>in4.all λt=>aos l t)=ai:=by kernel_rfl
theorem srt8 {l:η} {t:Int} (h:Ik l) (h2:∀z∈l,0<=z/\z<4) (h0:0<=t) (h1:t<4) (hn:¬t∈l):wZ (l++[t])=af (xM l [t])/\lX (xM l [t])=af (xM l [t])/\(xM l [t]).length=(l++[t]).length:=by
 have:=gD.1 (gD.1 afz l (aj2 h h2)) t (Yc h0 h1);unfold anv at this;have hc:l.contains t=aj:=by simp[hn]
 rw[hc,Bool.false_or,av,av]at this;exact⟨eq_of_beq this.1.1,eq_of_beq this.1.2,aw this.2⟩
theorem del8 {l:η} {t:Int} (h:Ik l) (h2:∀z∈l,0<=z/\z<4) (h0:0<=t) (h1:t<4) (hn:l.contains t=ai):jr (l,t)=af (t,wo l t):=by
 have:=gD.1 (gD.1 aha l (aj2 h h2)) t (Yc h0 h1);unfold aos at this;rw[hn,Bool.not_true,Bool.false_or]at this;exact eq_of_beq this
theorem ahl (a0 a1 a2:Int) (r0 r1 r2:η) (h:Int) (d:θ) (th:List (Int×Int×Bool)) (h0:r0.length<=1000) (h1:r1.length<=1000) (h2:r2.length<=1000) (hd:d.length<=1000) (ht:th.length<=1000):nJ ([(a0,r0),(a1,r1),(a2,r2)],h,d,th)=af ((h,d,th),(a0,a1,a2),r0,r1,r2):=by
 refine ct ?_;have cl:∀l:η,l.length<=1000->pu l=af l:=λl hl=>ct (bg (by omega) (by omega) (ar rfl))
 unfold nJ aX bK bA bE bD aZ aF;refine bh rfl (aY (λx=>x=(([(a0,r0),(a1,r1),(a2,r2)],h,d,th),0,(a0,a1,a2),r0,r1,r2)) ?_ ?_)
 .exact fO rfl (bh rfl (aR (aU (cl _ h0) (fO rfl (bh rfl (aR (aU (cl _ h1) (fO rfl (bh rfl (aR (aU (cl _ h2) (fP rfl (ar rfl)))))))))))))
 rintro x rfl;refine aU (x:=d) (ct (bg (by dsimp only;omega) (by omega) (ar rfl))) (aU (x:=th) (ct (bg (by dsimp only;omega) (by omega) (ar rfl))) (ar rfl))
theorem aiw {n:Nat} (w:WT) (s:SY) (hs:SB n s) (hn:n<=1000) (I:w.2.2.1.length<=1000) (t k o u:Int) (he:EN w s t k o) (hr:Xs w s t k o) (hk:k=8\/k=9):hZ (w,s,t,k,o,u)=ah:=by
 have h1:=EJ w s hs hn I t k o he hr;have h2:=ae2 s hs;rcases hk with rfl|rfl
 .unfold hZ aX bf bu ch dC bK dx cN fg kP ck bd bE bD kl aF;simp only[h1,h2,aV,bt,tO];cases eP o (al s.1)<;>rfl
 .unfold hZ aX bf bu ch dC bK dx cN fg kP ck bd bE bD kl aF;simp only[h1,h2,aV,bt,tO];cases eP o (al s.1)<;>rfl
theorem aiu {n:Nat} (w:WT) (s:SY) (hs:SB n s) (hn:n<=900) (Y:w.2.2.1.length<=1000) (t k u:Int) (he:EN w s t k 2) (hr:Xs w s t k 2) (hk:k=8\/k=9) (Z:s.1.length=3) (hA:Ik (aK (T:=Bb) s.1 2).2) (I:∀z∈(aK (T:=Bb) s.1 2).2,0<=z/\z<4) (M:t<4):lx (w,s,t,k,2,u)=af ((rG w s t k 2 u).1,(rG w s t k 2 u).2,ai):=by
 have h1:=EJ w s hs (by omega) Y t k 2 he hr;have t0:=he.t0;have ra:=hr.ra;have rr:=hr.rr;have hrd:=hs.rd;have hdn:=hs.dn;have hth:=hs.th;obtain⟨s1,h,d,th⟩:=s
 match s1,Z with
 |[(a0,r0),(a1,r1),(a2,r2)],_=>
  have g0:r0.length<=n:=hrd (a0,r0) (by simp);have g1:r1.length<=n:=hrd (a1,r1) (by simp);have g2:r2.length<=n:=hrd (a2,r2) (by simp);have hA:Ik r2:=hA;have I:∀z∈r2,0<=z/\z<4:=I;dsimp only at hdn hth;have hc:=ahl a0 a1 a2 r0 r1 r2 h d th (by omega) (by omega) (by omega) hdn hth;refine ct ?_;unfold lx aX bf bu ch dC ja dx cN fg nZ bd vp bE aF;rcases hk with rfl|rfl
  .have ra:r2.contains t=aj:=ra rfl;obtain⟨J,U,q3⟩:=srt8 hA I t0 M (by simpa using ra);simp only[h1,hc,aV,bt,tO];refine aY (λx=>x=(0,(h,d,th),0,(((a0,r0),(a1,r1),a2)),ai,xM r2 [t])) ?_ ?_
   .refine bg (by simp;omega) (by omega) (aU J (bh ?_ (aU U (bh ?_ (ar ?_)))))
    .rw[q3];simp
    .simp
    .rfl
   rintro x rfl;exact ar rfl
  .have rr:r2.contains t=ai:=rr rfl;have J:=del8 hA I t0 M rr;simp only[h1,hc,aV,bt,tO];refine aY (λx=>x=(0,(h,d,th),0,(((a0,r0),(a1,r1),a2)),aj,wo r2 t)) ?_ ?_
   .exact aU J (bh (by simp) (ar rfl))
   rintro x rfl;exact ar rfl
theorem and {n:Nat} (w:WT) (s:SY) (hs:SB n s) (hn:n<=900) (I:w.2.2.1.length<=1000) (t k o u:Int) (he:EN w s t k o) (hr:Xs w s t k o) (h2:k=8\/k=9->o=2) (M:s.1.length=3) (hA:∀l∈s.1,Ik l.2/\∀z∈l.2,0<=z/\z<4) (J:t<4):sD (w,s,t,k,o,u)=af ((rG w s t k o u).1,(rG w s t k o u).2,ai):=by
 unfold sD;by_cases hk:k=8\/k=9
 .have:=h2 hk;subst this;have hg:=hA _ (bL (T:=Bb) (xs:=s.1) (j:=2) (by omega) (by omega));rw[aiw w s hs (by omega) I t k 2 u he hr hk,aiu w s hs hn I t k u he hr hk M hg.1 hg.2 J];rfl
 .rw[aiv w s hs (by omega) I t k o u he hr (λh=>hk (.inl h)) λh=>hk (.inr h)];rfl
theorem YC (l:η) (h:l.length<=100000):zP l=af l:=ct (bg (by omega) (by omega) (ar rfl))
theorem ahm (l:η) (h:l.length<=100000):pu l=af l:=ct (bg (by omega) (by omega) (ar rfl))
theorem api {n:Nat} (w:WT) (s:SN) (e:ET) (hs:NB n s) (hn:n<=900) (U:w.2.2.1.length<=1000) (Y:F16 w s) (J:EN w s.1 e.1 e.2.1 e.2.2.1) (hS:S16 w s e) (ld:e.2.2.2.2.2.1.length<=1000000) (lf:e.2.2.2.2.2.2.length<=1000000) (h2:e.2.1=8\/e.2.1=9->e.2.2.1=2) (h3:s.1.1.length=3) (hA:∀l∈s.1.1,Ik l.2/\∀z∈l.2,0<=z/\z<4) (t4:e.1<4):f_ (w,s,e)=af (nxP w s e,ai):=by
 refine ct ?_;obtain⟨rd,q1,q2,de,fr,nd,nf,va⟩:=id hS;obtain⟨nm,t0,t1,cd,e1,e2,e3⟩:=id J;obtain⟨k1,k2,ce,lk,cn,th,fu,_,_,_⟩:=nm;obtain⟨f1,f2,f3⟩:=id Y;have hsc:=hs.c;have hsf:=hs.f;have hsk:=hs.k;unfold f_ aX bf bu bK dx cN ck bd bA iY kl aZ aF cH;refine aY (λx=>x=(aj,w,s,e,0)) ?_ ?_
 .refine aU (aoe w s U _ _ _ J Y) (fP rfl (dj (e_ (λg=>(by dsimp only[au]at g;omega)) λ_=>dj (ar ?_))));rw[gx.2 (show e.2.1<=23 by omega)]
 rintro x rfl;refine gw (aY (λx=>x=(aj,w,s,e,0)) ?_ ?_)
 .exact aU (EJ w s.1 hs.sb (by omega) U _ _ _ J rd) (fP rfl (aU (aga w e q1 q2) (fP rfl (aU (Tf w s e (λh=>ce h) de fr t0 (by rw[f3];exact t1) nd nf ld lf) (fP rfl (aU (afu w s hs.sb e Y J va) (ar rfl)))))))
 rintro x rfl;refine gw (aY (λx=>x.2=(w,s,e,0)/\rG w s.1 e.1 e.2.1 e.2.2.1 x.1=rG w s.1 e.1 e.2.1 e.2.2.1 e.2.2.2.1) ?_ ?_)
 .exact aJ (λ_=>ar ⟨rfl,rfl⟩) λh=>ar ⟨rfl,YP _ _ _ _ _ _ _ h⟩
 rintro⟨u,x⟩ ⟨Z,hu⟩;dsimp only at Z hu;subst Z;refine aU (and w s.1 hs.sb hn U _ _ _ u J rd h2 h3 hA t4) (fP rfl (aU (YC _ (by dsimp only;omega)) (aU (YC _ (by dsimp only;omega)) (aU (ahm _ (by dsimp only;omega)) ?_))));rw[hu];refine aY (λx=>x.1=e/\x.2.2.1=(rG w s.1 e.1 e.2.1 e.2.2.1 e.2.2.2.1).1/\x.2.2.2.1=ceP s.2.1 e/\x.2.2.2.2.1=fuP s.2.2.1 e/\x.2.2.2.2.2=s.2.2.2) ?_ ?_
 .unfold ceP fuP;refine aJ (λh=>?_) λh=>aJ (λh'=>?_) λh'=>ar ⟨rfl,rfl,(aA h).symm,(aA h').symm,rfl⟩
  .have h:e.2.1=4:=h;have I:=ce (.inr h);exact aS I.1 (by rw[f1];exact I.2) (aS I.1 (by rw[f1];exact I.2) (ar ⟨rfl,rfl,(aD h).symm,(aA (by omega)).symm,rfl⟩))
  .have h:e.2.1=22:=h';have I:=fu (.inl h);exact aS I.1 (by rw[f2];exact I.2) (aS I.1 (by rw[f2];exact I.2) (ar ⟨rfl,rfl,(aA (by omega)).symm,(aD h).symm,rfl⟩))
 rintro⟨x1,x2,x3,x4,x5,x6⟩ ⟨h1,h2,h4,h5,h6⟩;simp only at h1 h2 h4 h5 h6;subst h1;subst h2;subst h4;subst h5;subst h6;have M:x1.1<(s.2.2.2.length:Int):=by rw[f3];exact t1
 exact aS t0 M (aS t0 M (aR (aS t0 M (aS t0 M (ar rfl)))))
theorem aa5 (r:θ) (e:ET) (h1:∀y∈e.2.2.2.2.2.1,0<=y/\r.getD y.toNat aj=ai) (h2:∀y∈e.2.2.2.2.2.2,0<=y/\r.getD y.toNat aj=ai) (ld:e.2.2.2.2.2.1.length<=1000000) (I:e.2.2.2.2.2.2.length<=1000000):cu (r,e)=af ai:=by
 refine ct ?_;unfold cu kA dC kP bA iY bE bD aZ cK aF cH;refine iJ 2 (by omega) (λi x=>x=(i:Int)) ?_ ?_ rfl
 .rintro i x hi rfl;refine bJ (λ_=>?_) λg=>(by omega)
  refine dc (dN (by omega) (AL (by omega) (aR ?_)));have hr:∃l:η,aK (T:=.sl (.int .i64)) [e.2.2.2.2.2.1,e.2.2.2.2.2.2] (i:Int)=l/\(∀y∈l,0<=y/\r.getD y.toNat aj=ai)/\l.length<=1000000:=by
   match i,hi with
   |0,_=>exact⟨_,rfl,h1,ld⟩
   |1,_=>exact⟨_,rfl,h2,I⟩
  obtain⟨l,J,hA,hl⟩:=hr;have er':aK (T:=.sl aM) [e.2.2.2.2.2.1,e.2.2.2.2.2.2] (i:Int)=l:=J;dsimp only at er' ⊢;rw[er'];refine iJ l.length (by omega) (λj x=>x=(j:Int)) ?_ ?_ rfl
  .rintro j x hj rfl;refine di ?_;have m:=hA _ (bL (T:=.int .i64) (xs:=l) (j:=(j:Int)) (by omega) (by omega));refine bZ (aR (aY (λx=>x=aj) ?_ ?_))
   .revert m;generalize aK (T:=.int .i64) l (j:Int)=z;intro m;have M:z.toNat<r.length:=by
     rcases ci z.toNat r.length with g|g
     .exact g
     .have:=m.2;rw[ay,bT g]at this;cases this
    refine bJ (λg=>(by have:=m.1;omega)) λ_=>e_ (λg=>(by have:=m.1;dsimp only[au]at g;omega)) λ_=>aS m.1 (by have:=m.1;omega) (aR (ar ?_))
    have:aK (T:=.bool) r z=ai:=m.2;show (!aK (T:=.bool) r z)=aj;rw[this];rfl
   rintro x rfl;exact gw (ar (gE (by omega)))
  .rintro x rfl;exact dj (ar (gE (by omega)))
 .rintro x rfl;exact bJ (λg=>(by omega)) λ_=>ar rfl
abbrev W8 (n:Nat) (s:List ν):WT:=(C0,HE,Nn,UI,wK.take n,s)
theorem WX.w8 {w:WT} (U:WX w):∃n,(n=1\/n=2\/n=3\/n=4)/\w=W8 n w.2.2.2.2.2:=by
 obtain⟨h1,h2,M,J,⟨n,n1,Y,I⟩,_,_⟩:=U;obtain⟨c,l,d,f,t,s⟩:=w;dsimp only at h1 h2 M J I;subst h1;subst h2;subst M;subst J;subst I;exact⟨n,by omega,rfl⟩
abbrev sn8 (w:WT):SN:=(Q9 w,ce0 w,fu0 w,aG w.2.2.2.2.1.length 0)
theorem I6 (s:List ν):dy (W8 1 s)=af (sn8 (W8 1 s)):=by kernel_rfl
theorem st2 (s:List ν):dy (W8 2 s)=af (sn8 (W8 2 s)):=by kernel_rfl
theorem st3 (s:List ν):dy (W8 3 s)=af (sn8 (W8 3 s)):=by kernel_rfl
theorem st4 (s:List ν):dy (W8 4 s)=af (sn8 (W8 4 s)):=by kernel_rfl
theorem CS {w:WT} (I:WX w):dy w=af (sn8 w):=by
 obtain⟨n,hn,e⟩:=I.w8;rw[e];rcases hn with rfl|rfl|rfl|rfl
 .exact I6 _
 .exact st2 _
 .exact st3 _
 .exact st4 _
abbrev VN4:List ζ:=[[120],[121],[118],[113]]
theorem vc8:ib C0=af (VN4,ai):=by kernel_rfl
theorem vn1 (s:List ν):dT (W8 1 s,VN4)=af ai:=by kernel_rfl
theorem vn2 (s:List ν):dT (W8 2 s,VN4)=af ai:=by kernel_rfl
theorem vn3 (s:List ν):dT (W8 3 s,VN4)=af ai:=by kernel_rfl
theorem vn4 (s:List ν):dT (W8 4 s,VN4)=af ai:=by kernel_rfl
theorem vs8 {w:WT} (M:WX w) (hb:VL w):gm w=af ai:=by
 have hv:=M.v;have hs:=M.s;have ht:=hb.t0;unfold SV0 at hv;refine ct ?_;unfold gm kV aX bf ch cN bA iO bD aZ cK aF cH;refine iJ w.2.2.2.2.2.length (by omega) (λi x=>∃t n:Int,x=((t,n,(i:Int)),w)/\Ma w.2.2.2.2.1.length (w.2.2.2.2.2.take i)=af (t,n)/\0<=t/\t<w.2.2.2.2.1.length/\0<=n/\n<=i) ?_ ?_ ⟨0,0,rfl,rfl,by omega,by omega,by omega,by omega⟩
 .rintro i x hi ⟨t,n,rfl,h1,t0,t1,n0,n1⟩;refine di ?_;refine bZ (aR ?_);have h2:=XN hv (i+1);have I:Ma w.2.2.2.2.1.length (w.2.2.2.2.2.take (i+1))=UY w.2.2.2.2.1.length (af (t,n)) (aK (T:=yI) w.2.2.2.2.2 (i:Int)):=by rw[I7 hi,h1]
  rw[I]at h2;dsimp only;revert h2 I;change _->_->Ok _ _;generalize aK (T:=yI) w.2.2.2.2.2 (i:Int)=z;intro h2 I;obtain⟨(a:Int),(b:Int),(c:Int)⟩:=z;have Y:(a=t/\b=n)\/(t<a/\a<w.2.2.2.2.1.length/\b=0):=by
   simp only[UY]at h2;split at h2
   .rename_i h;exact .inl h
   .split at h2
    .rename_i h;exact .inr h
    .exact (h2 rfl).elim
  refine aY (λx=>x=(aj,w,a,b,c)) ?_ ?_
  .refine dj (ar ?_);dsimp only;rw[ml.2 (by dsimp only[au];omega)]
  rintro x rfl;refine gw ?_;rcases Y with ⟨rfl,rfl⟩|⟨U,J,rfl⟩
  .refine aY (λx=>x=((a,b),w,a,b,c)) (dj (ar rfl)) ?_;rintro x rfl;refine b_ (λg=>(g rfl).elim) λ_=>ar ⟨a,b+1,?_,?_,t0,t1,by omega,by omega⟩
   .dsimp only;rw[hP (n:=b+1) (by omega) (by omega),gE (by omega)]
   .rw[I];simp[UY]
  .refine aY (λx=>x=((a,0),w,a,0,c)) (di (ar rfl)) ?_;rintro x rfl;refine b_ (λg=>(g rfl).elim) λ_=>ar ⟨a,1,?_,?_,by omega,J,by omega,by omega⟩
   .dsimp only;rw[hP (n:=0+1) (by omega) (by omega),gE (by omega)];rfl
   .rw[I];show (if a=t/\(0:Int)=n then af (t,n+1) else if t<a/\a<_/\(0:Int)=0 then af (a,1) else ah)=af (a,1);rw[aA (by omega),aD ⟨U,J,rfl⟩]
 .rintro x ⟨t,n,rfl,_⟩;exact dj (ar rfl)
theorem VW8 {w:WT} (M:WX w) (hb:VL w):dU w=af ai:=by
 have hs:=vs8 M hb;have hvn:dT (w,VN4)=af ai:=by
  obtain⟨n,hn,e⟩:=M.w8;rw[e];rcases hn with rfl|rfl|rfl|rfl
  .exact vn1 _
  .exact vn2 _
  .exact vn3 _
  .exact vn4 _
 have hc:=M.c;have hd:=M.d;have hl:=M.l;obtain⟨w1,w2,w3,U,J,I⟩:=w;obtain⟨b1,b2,b3,b4,b0,Z,Y⟩:=hb;dsimp only at hc hd hl b1 b2 b3 b4 Z Y b0;subst hc;subst hd;subst hl;refine ct ?_;unfold dU kW aX bf ch cN bA bD aZ cK aF cH;have f:∀n m:Nat,n<=m->gf (m:Int) (aP n)=aj:=λn m h=>gx.2 (by dsimp only[au];omega)
 refine aY (λx=>x=(aj,C0,HE,Nn,U,J,I)) ?_ ?_
 .refine fP rfl (fP rfl (fP rfl (fP (f _ 2 b4) (ar ?_))));rw[show gf 60 (aP (al I))=aj from f _ 60 Y]
 rintro x rfl;refine gw (aY (λx=>x=(aj,C0,HE,Nn,U,J,I)) ?_ ?_)
 .refine fP (gx.2 (by dsimp only[au];omega)) (ar ?_);rw[show gf 4 (aP (al J))=aj from f _ 4 Z]
 rintro x rfl;refine gw (aU vc8 (aY (λx=>x=(aj,C0,HE,Nn,U,J,I)) ?_ ?_))
 .exact gw (aU hvn (ar rfl))
 rintro x rfl;refine gw (iJ 1 (by omega) (λi x=>x=((i:Int),C0,HE,Nn,U,J,I)) ?_ ?_ rfl)
 .rintro i x hi rfl;have:i=0:=by omega
  subst this;refine fO rfl (bh rfl (aR (aU (x:=ai) ?_ (gw (ar rfl)))));rfl
 .rintro x rfl;exact fP rfl (aU (x:=ai) (by rw[hs];rfl) (ar rfl))
abbrev eN (l:List ET) (i:Nat):ET:=aK (T:=tE) l (i:Int)
theorem CH {l:List ET} {i:Nat} (h:i<l.length):eN l i∈l:=bL (T:=tE) (by omega) (by omega)
theorem al0 {l:List ET} {e:ET} {i:Nat} (h:i<l.length):eN (l++[e]) i=eN l i:=by
 unfold eN;rw[xd,xd,ay,ay,bM h]
theorem ah9 (l:List ET) (e:ET):eN (l++[e]) l.length=e:=by
 unfold eN;rw[xd,ay,b7 (bV _),vE];rfl
def OD (w:WT) (l:List ET):SY×η×η:=l.foldl (λs e=>((rG w s.1 e.1 e.2.1 e.2.2.1 e.2.2.2.1).1,ceP s.2.1 e,fuP s.2.2 e)) (Q9 w,ce0 w,fu0 w)
theorem Uq (w:WT) {l:List ET} {i:Nat} (h:i<l.length):OD w (l.take (i+1))=((rG w (OD w (l.take i)).1 (eN l i).1 (eN l i).2.1 (eN l i).2.2.1 (eN l i).2.2.2.1).1,ceP (OD w (l.take i)).2.1 (eN l i),fuP (OD w (l.take i)).2.2 (eN l i)):=by
 rw[mX (T:=tE) h];unfold OD;rw[dV];rfl
theorem Acw.all {w:WT} {l:List ET} {sy:SY} {ce fu:η} (h:Acw w l sy ce fu):OD w l=(sy,ce,fu)/\∀i,i<l.length->SCx w (l.take i) (OD w (l.take i)).1 (OD w (l.take i)).2.1 (OD w (l.take i)).2.2 (eN l i):=by
 induction h with
 |nil=>exact⟨rfl,λi hi=>cX hi (xH _)⟩
 |snoc h hs I=>
  rename_i l sy ce fu e;obtain⟨h1,h2⟩:=I;refine ⟨by unfold OD at h1 ⊢;rw[dV,h1];rfl,λi hi=>?_⟩;rw[bm,c9]at hi;rcases ci i l.length with g|g
  .rw[lB (by omega),al0 g];exact h2 i g
  .have:i=l.length:=by omega
   subst this;rw[lB (bV _),cW,ah9,h1];exact hs
theorem TR.sc {w:WT} {l:List ET} (tr:TR (w,l)) {i:Nat} (h:i<l.length):SCx w (l.take i) (OD w (l.take i)).1 (OD w (l.take i)).2.1 (OD w (l.take i)).2.2 (eN l i):=by
 obtain⟨sy,ce,fu,ac⟩:=tr.ac;exact ac.all.2 i h
def NP (w:WT) (l:List ET):HS:=l.foldl (λh e=>(Gi w h (evP e)).1) (HS.zero w)
def bQ (l:List ET) (i:Nat):EV:=evP (eN l i)
def IK (w:WT) (l:List ET) (i:Nat):η:=uh w (NP w (l.take i)) (bQ l i)
theorem DB (w:WT) {l:List ET} {i:Nat} (h:i<l.length):NP w (l.take (i+1))=io w (NP w (l.take i)) (bQ l i) (IK w l i):=by
 rw[mX (T:=tE) h];unfold NP;rw[dV];rfl
theorem Pz {w:WT} {l:List ET} (tr:TR (w,l)):∀i:Nat,i<=l.length->Q4 (i:Int) (NP w (l.take i))/\YY w (NP w (l.take i))
 |0,_=>by
  have wb:=tr.wb;dsimp only at wb;exact⟨HS.zero_ok (by have:=wb.c;omega) (by have:=wb.l;omega) (by have:=wb.f;omega) (by have:=wb.t;omega),YY.zero w⟩
 |i+1,h=>by
  obtain⟨o,I⟩:=Pz tr i (by omega);have hl:=tr.len;dsimp only at hl;have ok:=Qc (tr.ev _ (CH (l:=l) (i:=i) (by omega))) tr.wb I;rw[DB w (by omega)];exact⟨aby (w:=w) (e:=bQ l i) o (by omega) ok.th4,I.step (bQ l i)⟩
theorem yl {w:WT} {l:List ET} (tr:TR (w,l)) {i:Nat} (h:i<l.length):EOK w (NP w (l.take i)) (bQ l i):=Qc (tr.ev _ (CH h)) tr.wb (Pz tr i (by omega)).2
theorem kB {w:WT} {l:List ET} (tr:TR (w,l)) {i:Nat} (h:i<l.length):EvT (bQ l i) (eN l i):=aoi (tr.ev _ (CH h))
def LE (a b:η):Prop:=a.length<=b.length/\∀k,a.getD k 0<=b.getD k 0
theorem LE.refl (a:η):LE a a:=⟨bV _,λ_=>eE _⟩
theorem LE.trans {a b c:η} (h:LE a b) (g:LE b c):LE a c:=⟨du h.1 g.1,λk=>Int.le_trans (h.2 k) (g.2 k)⟩
theorem LE.jl {a b:η} (h:LE a b):jl a b=b:=uq (by rw[oy];have:=h.1;omega) λi=>by rw[pW,ky];have:=h.2 i;omega
theorem amy (a b:η):LE a (jl a b):=⟨by rw[oy];omega,λk=>by rw[pW,ky];omega⟩
theorem LE_r (a b:η):LE b (jl a b):=⟨by rw[oy];omega,λk=>by rw[pW,ky];omega⟩
theorem ak8 (a:η) (t:Nat):LE a (tk a t):=⟨by rw[EU];omega,λk=>by rw[uy];split<;>(try subst k)<;>omega⟩
theorem EG:∀(l:List η) (c:η),LE c (l.foldl jl c)
 |[],c=>LE.refl c
 |x::r,c=>(amy c x).trans (EG r _)
theorem aji (w:vh) (h:HS) (e:EV):LE (h.T.getD e.th []) (uh w h e):=(EG _ _).trans (ak8 _ _)
theorem nL {α:Type} (l:List α) (i j:Nat) (x d:α):(l.set i x).getD j d=if i=j/\i<l.length then x else l.getD j d:=by
 rw[ay,pn];by_cases e:i=j
 .subst e;by_cases g:i<l.length
  .rw[aD rfl,aD g,aD ⟨rfl,g⟩];rfl
  .rw[aD rfl,aA g,aA λq=>g q.2,ay,bT (by omega)]
 .rw[aA e,aA λq=>e q.1,ay]
structure mw (P:η->Prop) (h:HS):Prop where
 T:∀u,P (h.T.getD u [])
 S:∀u,P (h.S.getD u [])
 L:∀u,P (h.L.getD u [])
 R:∀u,P (h.R.getD u [])
 C:∀u,P (h.C.getD u [])
 F:∀u,P (h.F.getD u [])
 X:P h.X
 N:∀u,P (h.N.getD u [])
theorem mw.mono {P Q:η->Prop} {h:HS} (a:mw P h) (g:∀x,P x->Q x):mw Q h:=⟨λu=>g _ (a.T u),λu=>g _ (a.S u),λu=>g _ (a.L u),λu=>g _ (a.R u),λu=>g _ (a.C u),λu=>g _ (a.F u),g _ a.X,λu=>g _ (a.N u)⟩
theorem mw.set {P:η->Prop} {l:List η} {c:η} (h:∀u,P (l.getD u [])) (hc:P c) (i:Nat):∀u,P ((l.set i c).getD u []):=λu=>by
 rw[nL];split
 .exact hc
 .exact h u
theorem mw.repl {P:η->Prop} (h:P []) (n:Nat):∀u,P ((aG n []).getD u []):=λu=>by
 rw[ay,lK];split<;>exact h
theorem mw.zero {P:η->Prop} (h:P []) (w:vh):mw P (HS.zero w):=⟨mw.repl h _,mw.repl h _,mw.repl h _,mw.repl h _,mw.repl h _,mw.repl h _,h,mw.repl h _⟩
theorem mw.step {P:η->Prop} (hj:∀a b,P a->P b->P (jl a b)) {w:vh} {h:HS} (a:mw P h) (e:EV) {c:η} (hc:P c):mw P (io w h e c):=by
 have b:mw P {h with T:=h.T.set e.th c}:={a with T:=mw.set a.T hc _}
 unfold io;simp only[];repeat' split
 .exact {b with S:=mw.set a.S hc _}
 .exact {b with L:=mw.set a.L (hj _ _ (a.L _) hc) _}
 .exact {b with R:=mw.set a.R (hj _ _ (a.R _) hc) _}
 .exact {b with L:=mw.set a.L (hj _ _ (a.L _) hc) _}
 .exact {b with C:=mw.set a.C (hj _ _ (a.C _) hc) _}
 .exact b
 .exact {b with F:=mw.set a.F (hj _ _ (a.F _) hc) _}
 .exact {b with X:=hj _ _ a.X hc}
 .exact {b with N:=mw.set a.N hc _}
 .exact b
 .refine {b with N:=λu=>?_};have:=a.N u;simp only[C5];rw[ay]at this ⊢;rw[EO];cases I:h.N[u]? with
  |none=>rw[I]at this;exact this
  |some x=>
   rw[I]at this;simp only[cr,vD];split
   .exact hc
   .exact this
 .exact b
theorem mw.src {P:η->Prop} {w:vh} {h:HS} (a:mw P h) (e:EV):∀x∈qw w h e,P x:=by
 intro c hc;unfold qw at hc;repeat' (split at hc)
 all_goals simp only[bp,cF,gu]at hc
 .subst hc;exact a.S _
 .subst hc;exact a.T _
 .rcases hc with rfl|rfl
  .exact a.L _
  .exact a.R _
 .subst hc;exact a.L _
 .rcases hc with rfl|rfl|rfl
  .exact a.L _
  .exact a.R _
  .exact a.N _
 .subst hc;exact a.C _
 .subst hc;exact a.F _
 .subst hc;exact a.X
theorem P4 {P:η->Prop} (hj:∀a b,P a->P b->P (jl a b)):∀(l:List η) (c:η),P c->(∀x∈l,P x)->P (l.foldl jl c)
 |[],_,hc,_=>hc
 |x::r,_,hc,h=>P4 hj r _ (hj _ _ hc (h x (dw ..))) λy I=>h y (cM _ I)
theorem Yq (w:vh) (h:HS) (e:EV) (c:η):(io w h e c).T=h.T.set e.th c:=by
 unfold io;simp only[];repeat' split
 all_goals rfl
def qA (l:List ET) (u:Nat):Nat->Nat
 |0=>0
 |i+1=>if (bQ l i).th=u then qA l u i+1 else qA l u i
theorem Uc (l:List ET) (u i:Nat):∀j,qA l u i<=qA l u (i+j)
 |0=>bV _
 |j+1=>by
  have:=Uc l u i j;show qA l u i<=qA l u (i+j+1);rw[qA];split<;>omega
theorem Qv (l:List ET) (u:Nat) {i j:Nat} (h:i<=j):qA l u i<=qA l u j:=by
 obtain⟨k,rfl⟩:∃k,j=i+k:=⟨j-i,by omega⟩
 exact Uc l u i k
theorem yB (l:List ET) (i:Nat):qA l (bQ l i).th (i+1)=qA l (bQ l i).th i+1:=by rw[qA,aD rfl]
structure Gd (w:WT) (l:List ET) (i:Nat) (x:η):Prop where
 le:∀u,x.getD u 0<=(qA l u i:Int)
 dn:∀k,k<i->(qA l (bQ l k).th k:Int)+1<=x.getD (bQ l k).th 0->LE (IK w l k) x
theorem Gd.nil (w:WT) (l:List ET) (i:Nat):Gd w l i []:=⟨λu=>by simp,λk _ h=>by simp at h;omega⟩
theorem Gd.jl {w:WT} {l:List ET} {i:Nat} (a b:η) (I:Gd w l i a) (hb:Gd w l i b):Gd w l i (jl a b):=by
 refine ⟨λu=>?_,λk hk h=>?_⟩
 .rw[pW,ky];have:=I.le u;have:=hb.le u;omega
 .rw[pW,ky]at h;by_cases g:(qA l (bQ l k).th k:Int)+1<=a.getD (bQ l k).th 0
  .exact (I.dn k hk g).trans (amy _ _)
  .exact (hb.dn k hk (by omega)).trans (LE_r _ _)
theorem Gd.succ {w:WT} {l:List ET} {i:Nat} {x:η} (h:Gd w l i x):Gd w l (i+1) x:=by
 refine ⟨λu=>?_,λk hk g=>?_⟩
 .have:=h.le u;have:=Qv l u (show i<=i+1 by omega);omega
 .by_cases e:k=i
  .subst e;have:=h.le (bQ l k).th;omega
  .exact h.dn k (by omega) g
structure GS1 (w:WT) (l:List ET) (i:Nat) (h:HS):Prop where
 a:mw (Gd w l i) h
 t:∀u,(h.T.getD u []).getD u 0=(qA l u i:Int)
theorem QH {w:WT} {l:List ET} {i:Nat} (g:GS1 w l i (NP w (l.take i))):Gd w l (i+1) (IK w l i)/\(IK w l i).getD (bQ l i).th 0=(qA l (bQ l i).th i:Int)+1:=by
 have J:Gd w l i ((qw w (NP w (l.take i)) (bQ l i)).foldl AI.jl ((NP w (l.take i)).T.getD (bQ l i).th [])):=P4 Gd.jl _ _ (g.a.T _) (g.a.src (w:=w) _);have M:=g.t (bQ l i).th;have hL:=EG (qw w (NP w (l.take i)) (bQ l i)) ((NP w (l.take i)).T.getD (bQ l i).th []);have U:=(g.a.T (bQ l i).th).dn;have I:=aji w (NP w (l.take i)) (bQ l i);have e:(IK w l i).getD (bQ l i).th 0=(qA l (bQ l i).th i:Int)+1:=by
  unfold IK uh;rw[uy,aD rfl];have:=hL.2 (bQ l i).th;have:=J.le (bQ l i).th;omega
 refine ⟨⟨λu=>?_,λk hk h=>?_⟩,e⟩
 .by_cases hu:(bQ l i).th=u
  .subst hu;rw[e,yB];omega
  .have:=J.le u;unfold IK uh;rw[uy,aA λq=>hu q.symm,qA,aA hu];exact this
 .by_cases hki:k=i
  .subst hki;exact LE.refl _
  have hk:k<i:=by omega
  by_cases hu:(bQ l k).th=(bQ l i).th
  .refine (U k hk ?_).trans I;rw[hu,M];have:=Qv l (bQ l k).th (show k+1<=i from hk);rw[yB,hu]at this;omega
  .refine (J.dn k hk ?_).trans (ak8 _ _);unfold IK uh at h;rw[uy,aA hu]at h;exact h
theorem JL {w:WT} {l:List ET} (tr:TR (w,l)):∀i:Nat,i<=l.length->GS1 w l i (NP w (l.take i))
 |0,_=>⟨mw.zero (Gd.nil w l 0) w,λu=>by have:=mw.repl (P:=λx=>x.getD u 0=0) (by simp) w.2.2.2.2.1.length u;exact this⟩
 |i+1,h=>by
  have g:=JL tr i (by omega);obtain⟨J,I⟩:=QH g;have ht:=(yl tr (show i<l.length by omega)).th;rw[DB w (by omega)];refine ⟨mw.step Gd.jl (g.a.mono λx h=>h.succ) _ J,λu=>?_⟩;rw[Yq,nL];by_cases hu:(bQ l i).th=u
  .subst hu;rw[aD ⟨rfl,ht⟩,I,yB];omega
  .rw[aA λq=>hu q.1,g.t u,qA,aA hu]
theorem YD {w:WT} {l:List ET} (tr:TR (w,l)) {i:Nat} (h:i<l.length):(IK w l i).getD (bQ l i).th 0=(qA l (bQ l i).th i:Int)+1:=(QH (JL tr i (by omega))).2
theorem ae4 {w:WT} {l:List ET} (tr:TR (w,l)) {i:Nat} (h:i<l.length):Gd w l (i+1) (IK w l i):=(QH (JL tr i (by omega))).1
def Cov (w:WT) (l:List ET) (k j:Nat):Prop:=(qA l (bQ l k).th k:Int)+1<=(IK w l j).getD (bQ l k).th 0
theorem Cov.le {w:WT} {l:List ET} (tr:TR (w,l)) {k j:Nat} (hk:k<=j) (hj:j<l.length) (h:Cov w l k j):LE (IK w l k) (IK w l j):=(ae4 tr hj).dn k (by omega) h
theorem Cov.of {w:WT} {l:List ET} (tr:TR (w,l)) {k j:Nat} (hk:k<l.length) (h:LE (IK w l k) (IK w l j)):Cov w l k j:=by
 have:=h.2 (bQ l k).th;rw[YD tr hk]at this;exact this
theorem Cov.own {w:WT} {l:List ET} (tr:TR (w,l)) {k j:Nat} (hk:k<j) (hj:j<l.length) (h:(bQ l k).th=(bQ l j).th):Cov w l k j:=by
 unfold Cov;rw[h,YD tr hj];have:=Qv l (bQ l k).th (show k+1<=j from hk);rw[yB,h]at this;omega
theorem Cov.trans {w:WT} {l:List ET} (tr:TR (w,l)) {i j k:Nat} (hi:i<=j) (hj:j<=k) (hk:k<l.length) (h:Cov w l i j) (g:Cov w l j k):Cov w l i k:=Cov.of tr (by omega) ((h.le tr hi (by omega)).trans (g.le tr hj hk))
def vo (w:WT) (l:List ET) (cl:Nat->η):Nat->HS
 |0=>HS.zero w
 |i+1=>io w (vo w l cl i) (bQ l i) (cl i)
abbrev Mb (w:WT) (l:List ET) (cl:Nat->η) (i:Nat):η:=uh w (vo w l cl i) (bQ l i)
def CL (w:WT) (l:List ET) (cl:Nat->η):Prop:=∀i,i<l.length->cl i=Mb w l cl i\/∃s,s<i/\cl i=jl (Mb w l cl i) (cl s)
theorem CL.le {w:WT} {l:List ET} {cl:Nat->η} (C:CL w l cl) {i:Nat} (h:i<l.length):LE (Mb w l cl i) (cl i):=by
 rcases C i h with e|⟨s,_,e⟩
 .rw[e];exact LE.refl _
 .rw[e];exact amy _ _
theorem IC {w:WT} {l:List ET} {cl:Nat->η} (tr:TR (w,l)) (C:CL w l cl):∀i:Nat,i<=l.length->Q4 (i:Int) (vo w l cl i)/\YY w (vo w l cl i)/\∀k,k<i->En (i:Int) (cl k)
 |0,_=>by
  have wb:=tr.wb;dsimp only at wb;exact⟨HS.zero_ok (by have:=wb.c;omega) (by have:=wb.l;omega) (by have:=wb.f;omega) (by have:=wb.t;omega),YY.zero w,λk hk=>by omega⟩
 |i+1,h=>by
  obtain⟨o,I,en⟩:=IC tr C i (by omega);have hl:=tr.len;dsimp only at hl;have ok:=Qc (tr.ev _ (CH (l:=l) (i:=i) (by omega))) tr.wb I;have h1:En ((i:Int)+1) (Mb w l cl i):=Lr o ok.th4;have h2:En ((i:Int)+1) (cl i):=by
   rcases C i (by omega) with e|⟨s,hs,e⟩
   .rw[e];exact h1
   .rw[e];exact h1.jl ((en s hs).mono (by omega))
  refine ⟨Yr o (by omega) h2,I.ent _ _,λk hk=>?_⟩;by_cases e:k=i
  .subst e;exact h2
  .exact (en k (by omega)).mono (by omega)
section
variable {w:WT} {l:List ET} {cl:Nat->η} (tr:TR (w,l)) (C:CL w l cl) {i:Nat} (h:i<l.length)
include tr C h
theorem PA:Q4 (i:Int) (vo w l cl i):=(IC tr C i (by omega)).1
theorem VK:YY w (vo w l cl i):=(IC tr C i (by omega)).2.1
theorem CF:EOK w (vo w l cl i) (bQ l i):=Qc (tr.ev _ (CH h)) tr.wb (VK tr C h)
theorem QF:En ((i:Int)+1) (cl i):=(IC tr C (i+1) h).2.2 i (by omega)
theorem al6:En ((i:Int)+1) (Mb w l cl i):=Lr (PA tr C h) (CF tr C h).th4
end
def Cn (l:List ET) (i:Nat) (x:η):Prop:=∀u,x.getD u 0<=(qA l u i:Int)
theorem Cn.jl {l:List ET} {i:Nat} (a b:η) (I:Cn l i a) (hb:Cn l i b):Cn l i (jl a b):=λu=>by rw[pW,ky];have:=I u;have:=hb u;omega
theorem Cn.mono {l:List ET} {i j:Nat} {x:η} (h:Cn l i x) (g:i<=j):Cn l j x:=λu=>by have:=h u;have:=Qv l u g;omega
theorem Qy {w:WT} {l:List ET} {cl:Nat->η} (tr:TR (w,l)) (C:CL w l cl):∀i:Nat,i<=l.length->mw (Cn l i) (vo w l cl i)/\(∀u,((vo w l cl i).T.getD u []).getD u 0=(qA l u i:Int))/\∀k,k<i->Cn l (k+1) (cl k)
 |0,_=>⟨mw.zero (λu=>by simp[qA]) w,λu=>by have:=mw.repl (P:=λx=>x.getD u 0=0) (by simp) w.2.2.2.2.1.length u;exact this,λk hk=>by omega⟩
 |i+1,h=>by
  obtain⟨a,t,c⟩:=Qy tr C i (by omega);have ok:=CF tr C (show i<l.length by omega);have I:Cn l i ((qw w (vo w l cl i) (bQ l i)).foldl AI.jl ((vo w l cl i).T.getD (bQ l i).th [])):=P4 Cn.jl _ _ (a.T _) (a.src (w:=w) _);have hL:=(EG (qw w (vo w l cl i) (bQ l i)) ((vo w l cl i).T.getD (bQ l i).th [])).2 (bQ l i).th;have h1:Cn l (i+1) (Mb w l cl i)/\(Mb w l cl i).getD (bQ l i).th 0=(qA l (bQ l i).th i:Int)+1:=by
   have ht:=t (bQ l i).th;have hj:=I (bQ l i).th;refine ⟨λu=>?_,?_⟩
   .unfold Mb uh;rw[uy];by_cases e:u=(bQ l i).th
    .subst e;rw[aD rfl,yB];omega
    .rw[aA e,qA,aA λq=>e q.symm];exact I u
   .unfold Mb uh;rw[uy,aD rfl];omega
  have h2:Cn l (i+1) (cl i)/\(cl i).getD (bQ l i).th 0=(qA l (bQ l i).th i:Int)+1:=by
   rcases C i (by omega) with e|⟨s,hs,e⟩
   .rw[e];exact h1
   .have hc:=(c s hs).mono (show s+1<=i by omega);rw[e];refine ⟨h1.1.jl _ _ (hc.mono (by omega)),?_⟩;have:=hc (bQ l i).th;rw[pW,ky,h1.2];omega
  refine ⟨mw.step Cn.jl (a.mono λx q=>Cn.mono q (by omega)) _ h2.1,λu=>?_,λk hk=>?_⟩
  .show ((io w (vo w l cl i) (bQ l i) (cl i)).T.getD u []).getD u 0=_;rw[Yq,nL];by_cases hu:(bQ l i).th=u
   .subst hu;rw[aD ⟨rfl,ok.th⟩,h2.2,yB];omega
   .rw[aA λq=>hu q.1,t u,qA,aA hu]
  .by_cases e:k=i
   .subst e;exact h2.1
   .exact c k (by omega)
theorem Uz (w:vh) (o:Nat) (h:o<w.2.2.1.length) (h0:0<=(w.2.2.1.getD o ([],0)).2):rN (w,(o:Int))=af ((Pj w.2.2.1 o:Nat):Int):=by
 have e1:(w.2.2.1.getD o ([],0)).2=((Pj w.2.2.1 o:Nat):Int):=by unfold Pj;omega
 unfold rN aX bf bu cN bA vp aZ aF;simp only[];rw[vQ (by omega)];simp only[c6,ju];rw[NL (by simp;omega)];simp only[c6];rw[cg (cY h),PW,e1]
def CR (w:vh) (e:EV):Int×Bool:=if e.k=6\/e.k=10 then ((e.ob:Int),aj) else if e.k=8 then ((e.ob:Int),ai) else if e.k=17 then ((Pj w.2.2.1 e.ob:Nat),aj) else (-1,aj)
def Bd (w:vh) (e:EV):Int×Bool:=if e.k=7\/e.k=11 then ((e.ob:Int),aj) else if e.k=9 then ((e.ob:Int),ai) else if e.k=16 then ((Pj w.2.2.1 e.ob:Nat),aj) else (-1,aj)
theorem ane {w:vh} {h:HS} {e:EV} (ok:EOK w h e) {x:ETp} (hx:EvT e x):pa (w,x)=af (CR w e):=by
 obtain⟨x1,x2,x3,x4,x5,x6,x7⟩:=x;obtain⟨w1,w2,Z,Y,U,M⟩:=w;obtain⟨th,k,ob,va⟩:=e;obtain⟨J,I,q3,q4⟩:=hx;simp only at J I q3 q4;subst J q4;unfold pa aX bf bu ch dC cN kP bd aF;rcases Iz I ok.k1 ok.k2 with ⟨e,e'⟩|⟨e,e'⟩|⟨e,e'⟩|⟨e,e'⟩|⟨e,e'⟩|⟨e,e'⟩|⟨e,e'⟩|⟨e,e'⟩|⟨e,e'⟩|⟨e,e'⟩|⟨e,e'⟩|⟨e,e'⟩|⟨e,e'⟩|⟨e,e'⟩|⟨e,e'⟩|⟨e,e'⟩|⟨e,e'⟩|⟨e,e'⟩|⟨e,e'⟩|⟨e,e'⟩|⟨e,e'⟩|⟨e,e'⟩|⟨e,e'⟩<;>clear I<;>subst e<;>subst e'
 case inr.inr.inr.inr.inr.inl=>
  obtain rfl:=q3 (by decide);simp only[aV,cD,cS,c5,c6,ju,cO];rfl
 case inr.inr.inr.inr.inr.inr.inr.inr.inr.inl=>
  obtain rfl:=q3 (by decide);simp only[aV,cD,cS,c5,c6,ju,cO];rfl
 case inr.inr.inr.inr.inr.inr.inr.inl=>
  obtain rfl:=q3 (by decide);simp only[aV,cD,cS,c5,c6,ju,cO];rfl
 case inr.inr.inr.inr.inr.inr.inr.inr.inr.inr.inr.inr.inr.inr.inr.inr.inl=>
  obtain rfl:=q3 (by decide);obtain⟨d1,d2,d3⟩:=ok.cd (.inr rfl);have mu:=Uz (w1,w2,Z,Y,U,M) ob d1 d2;simp only[aV,cD,cS,c5,c6,ju,cO,mu];rfl
 all_goals
  simp only[aV,cD,cS,c5,c6,ju,cO];rfl
theorem alx {w:vh} {h:HS} {e:EV} (ok:EOK w h e) {x:ETp} (hx:EvT e x):o9 (w,x)=af (Bd w e):=by
 obtain⟨x1,x2,x3,x4,x5,x6,x7⟩:=x;obtain⟨w1,w2,Z,Y,U,M⟩:=w;obtain⟨th,k,ob,va⟩:=e;obtain⟨J,I,q3,q4⟩:=hx;simp only at J I q3 q4;subst J q4;unfold o9 aX bf bu ch dC cN kP bd aF;rcases Iz I ok.k1 ok.k2 with ⟨e,e'⟩|⟨e,e'⟩|⟨e,e'⟩|⟨e,e'⟩|⟨e,e'⟩|⟨e,e'⟩|⟨e,e'⟩|⟨e,e'⟩|⟨e,e'⟩|⟨e,e'⟩|⟨e,e'⟩|⟨e,e'⟩|⟨e,e'⟩|⟨e,e'⟩|⟨e,e'⟩|⟨e,e'⟩|⟨e,e'⟩|⟨e,e'⟩|⟨e,e'⟩|⟨e,e'⟩|⟨e,e'⟩|⟨e,e'⟩|⟨e,e'⟩<;>clear I<;>subst e<;>subst e'
 case inr.inr.inr.inr.inr.inr.inl=>
  obtain rfl:=q3 (by decide);simp only[aV,cD,cS,c5,c6,ju,cO];rfl
 case inr.inr.inr.inr.inr.inr.inr.inr.inr.inr.inl=>
  obtain rfl:=q3 (by decide);simp only[aV,cD,cS,c5,c6,ju,cO];rfl
 case inr.inr.inr.inr.inr.inr.inr.inr.inl=>
  obtain rfl:=q3 (by decide);simp only[aV,cD,cS,c5,c6,ju,cO];rfl
 case inr.inr.inr.inr.inr.inr.inr.inr.inr.inr.inr.inr.inr.inr.inr.inl=>
  obtain rfl:=q3 (by decide);obtain⟨d1,d2,d3⟩:=ok.cd (.inl rfl);have mu:=Uz (w1,w2,Z,Y,U,M) ob d1 d2;simp only[aV,cD,cS,c5,c6,ju,cO,mu];rfl
 all_goals
  simp only[aV,cD,cS,c5,c6,ju,cO];rfl
theorem Ya (a b:η):jl a b=jl b a:=uq (by simp only[oy];omega) λi=>by simp only[pW,ky];omega
def JC (c:Nat->η) (p:Nat->Bool):Nat->η
 |0=>[]
 |i+1=>if p i=ai then jl (JC c p i) (c i) else JC c p i
theorem Xw (c:Nat->η) (p:Nat->Bool):∀i,(∀k,k<i->p k=aj)->JC c p i=[]
 |0,_=>rfl
 |i+1,h=>by rw[JC,h i (by omega),aA (by simp)];exact Xw c p i λk hk=>h k (by omega)
theorem Q2 {c:Nat->η} {p:Nat->Bool} {i:Nat} (h:p i=ai):JC c p (i+1)=jl (JC c p i) (c i):=by rw[JC,aD h]
theorem EI {c:Nat->η} {p:Nat->Bool} {i:Nat} (h:p i=aj):JC c p (i+1)=JC c p i:=by rw[JC,aA (by rw[h];simp)]
theorem aol (w:vh) (h:HS) (e:EV) (c:η):(io w h e c).S=if e.k=20 then h.S.set e.ob c else h.S:=by
 unfold io;simp only[];repeat' split
 all_goals first|rfl|omega
theorem aoo (w:vh) (h:HS) (e:EV) (c:η):(io w h e c).L=if (e.k=7\/e.k=11) then jat h.L e.ob c else if e.k=16 then jat h.L (Pj w.2.2.1 e.ob) c else h.L:=by
 unfold io;simp only[];repeat' split
 all_goals first|rfl|omega
theorem aom (w:vh) (h:HS) (e:EV) (c:η):(io w h e c).R=if e.k=9 then jat h.R e.ob c else h.R:=by
 unfold io;simp only[];repeat' split
 all_goals first|rfl|omega
theorem aor (w:vh) (h:HS) (e:EV) (c:η):(io w h e c).C=if e.k=4/\zo w.1 e.ob=ai then jat h.C e.ob c else h.C:=by
 unfold io;simp only[];repeat' split
 all_goals first|rfl|omega|(rename_i h1 h2;exact cX ⟨by assumption,by assumption⟩ h2)|(rename_i h1 h2;exact cX h2.2 h1)|(rename_i h1;exact cX h1.1 (by assumption))
theorem aoq (w:vh) (h:HS) (e:EV) (c:η):(io w h e c).F=if e.k=22 then jat h.F e.ob c else h.F:=by
 unfold io;simp only[];repeat' split
 all_goals first|rfl|omega
theorem aoj (w:vh) (h:HS) (e:EV) (c:η):(io w h e c).X=if e.k=13 then jl h.X c else h.X:=by
 unfold io;simp only[];repeat' split
 all_goals first|rfl|omega
theorem Dy (l:List η) (i:Nat) (c:η) (o:Nat) (h:i<l.length):(jat l i c).getD o []=if i=o then jl (l.getD o []) c else l.getD o []:=by
 unfold jat;rw[nL];by_cases e:i=o
 .subst e;rw[aD ⟨rfl,h⟩,aD rfl]
 .rw[aA λq=>e q.1,aA e]
abbrev pT (l:List ET) (u k:Nat):Bool:=decide ((bQ l k).th=u)
abbrev pS (l:List ET) (u k:Nat):Bool:=decide ((bQ l k).k=20/\(bQ l k).ob=u)
abbrev pL (w:WT) (l:List ET) (x:Int×Bool) (k:Nat):Bool:=decide (Bd w (bQ l k)=x)
abbrev pC (w:WT) (l:List ET) (o k:Nat):Bool:=decide ((bQ l k).k=4/\(bQ l k).ob=o/\zo w.1 o=ai)
abbrev pF (l:List ET) (o k:Nat):Bool:=decide ((bQ l k).k=22/\(bQ l k).ob=o)
abbrev pX (l:List ET) (k:Nat):Bool:=decide ((bQ l k).k=13)
structure IN (w:WT) (l:List ET) (cl:Nat->η) (i:Nat) (h:HS):Prop where
 T:∀u,h.T.getD u []=JC cl (pT l u) i
 S:∀u,h.S.getD u []=JC cl (pS l u) i
 L:∀o:Nat,h.L.getD o []=JC cl (pL w l ((o:Int),aj)) i
 R:∀o:Nat,h.R.getD o []=JC cl (pL w l ((o:Int),ai)) i
 C:∀o,h.C.getD o []=JC cl (pC w l o) i
 F:∀o,h.F.getD o []=JC cl (pF l o) i
 X:h.X=JC cl (pX l) i
theorem ac7 {w:vh} {e:EV} (h:e.k=7\/e.k=11):Bd w e=((e.ob:Int),aj):=by unfold Bd;rw[aD h]
theorem Vi {w:vh} {e:EV} (h:e.k=9):Bd w e=((e.ob:Int),ai):=by unfold Bd;rw[aA (by omega),aD h]
theorem XS {w:vh} {e:EV} (h:e.k=16):Bd w e=((Pj w.2.2.1 e.ob:Int),aj):=by unfold Bd;rw[aA (by omega),aA (by omega),aD h]
theorem aki {w:vh} {e:EV} (h:¬(e.k=7\/e.k=11)) (h1:¬e.k=9) (h2:¬e.k=16):Bd w e=(-1,aj):=by unfold Bd;rw[aA h,aA h1,aA h2]
theorem IN.zero (w:WT) (l:List ET) (cl:Nat->η):IN w l cl 0 (HS.zero w):=
 have r:∀n:Nat,∀u,(aG n ([]:η)).getD u []=[]:=λn=>mw.repl (P:=λx=>x=[]) rfl n
 ⟨r _,r _,λ_=>r _ _,λ_=>r _ _,r _,r _,rfl⟩
theorem IN.step {w:WT} {l:List ET} {cl:Nat->η} {i:Nat} {h:HS} (a:IN w l cl i h) (n:Int) (o:Q4 n h) (hcT:LE (h.T.getD (bQ l i).th []) (cl i)) (hc:En (n+1) (cl i)) (ok:EOK w h (bQ l i)) (J:(bQ l i).k=20->∀k,k<i->pS l (bQ l i).ob k=aj):IN w l cl (i+1) (io w h (bQ l i) (cl i)):=by
 refine ⟨λu=>?_,λu=>?_,λx=>?_,λx=>?_,λx=>?_,λx=>?_,?_⟩
 .rw[Yq,nL];by_cases e:(bQ l i).th=u
  .rw[aD ⟨e,ok.th⟩,Q2 (by simpa using e),<-a.T u,LE.jl (by rw[<- e];exact hcT)]
  .rw[aA λq=>e q.1,EI (by simpa using e)];exact a.T u
 .rw[aol];by_cases k:(bQ l i).k=20
  .rw[aD k,nL];by_cases e:(bQ l i).ob=u
   .rw[aD ⟨e,by rw[o.lS];exact ok.sp (.inl k)⟩,Q2 (by simp[k,e]),Xw _ _ i (by rw[<- e];exact J k),akn hc]
   .rw[aA λq=>e q.1,EI (by simp[e])];exact a.S u
  .rw[aA k,EI (by simp[k])];exact a.S u
 .rw[aoo];by_cases k:(bQ l i).k=7\/(bQ l i).k=11
  .rw[aD k,Dy _ _ _ _ (ok.lk (by omega))];by_cases e:(bQ l i).ob=x
   .rw[aD e,Q2 (by simp[ac7 k,e]),<-a.L x]
   .rw[aA e,EI (by simp[ac7 k];omega)];exact a.L x
  rw[aA k];by_cases k2:(bQ l i).k=16
  .rw[aD k2,Dy _ _ _ _ (ok.cd (.inl k2)).2.2];by_cases e:Pj w.2.2.1 (bQ l i).ob=x
   .rw[aD e,Q2 (by simp[XS k2,e]),<-a.L x]
   .rw[aA e,EI (by simp[XS k2];omega)];exact a.L x
  rw[aA k2,EI]
  .exact a.L x
  .by_cases I:(bQ l i).k=9
   .simp[Vi I]
   .simp[aki k I k2]
 .rw[aom];by_cases k:(bQ l i).k=9
  .rw[aD k,Dy _ _ _ _ (by rw[o.lR];exact ok.lk (by omega))];by_cases e:(bQ l i).ob=x
   .rw[aD e,Q2 (by simp[Vi k,e]),<-a.R x]
   .rw[aA e,EI (by simp[Vi k];omega)];exact a.R x
  rw[aA k,EI]
  .exact a.R x
  .unfold pL Bd;repeat' split
   all_goals first|omega|simp
 .rw[aor];by_cases k:(bQ l i).k=4/\zo w.1 (bQ l i).ob=ai
  .rw[aD k,Dy _ _ _ _ (ok.ce (.inr k.1)).1];by_cases e:(bQ l i).ob=x
   .rw[aD e,Q2 (by simp[k.1,e];rw[<- e];exact k.2),<-a.C x]
   .rw[aA e,EI (by simp[e])];exact a.C x
  .rw[aA k,EI]
   .exact a.C x
   .refine bw λq=>k ⟨q.1,by rw[q.2.1];exact q.2.2⟩
 .rw[aoq];by_cases k:(bQ l i).k=22
  .rw[aD k,Dy _ _ _ _ (ok.fu (.inl k))];by_cases e:(bQ l i).ob=x
   .rw[aD e,Q2 (by simp[k,e]),<-a.F x]
   .rw[aA e,EI (by simp[e])];exact a.F x
  .rw[aA k,EI (by simp[k])];exact a.F x
 .rw[aoj];by_cases k:(bQ l i).k=13
  .rw[aD k,Q2 (by simp[k]),<-a.X]
  .rw[aA k,EI (by simp[k])];exact a.X
abbrev gT (th:List (Int×Int×Bool)) (u:Int):Int×Int×Bool:=aK (T:=jJ) th u
theorem FB {T:Ty} (xs:List T.den) (j k:Int) (x:T.den) (hj:0<=j) (hk:0<=k) (h2:k<xs.length):aK (cz xs j x) k=if k=j then x else aK xs k:=by
 by_cases h:j<xs.length
 .exact sg xs j k x hj h hk
 .rw[aA (by omega)];unfold aK cz;rw[ay,ay,pn,aA (by omega)]
theorem xN {th:List (Int×Int×Bool)} {t u:Int} (s:Int) (t0:0<=t) (J:0<=u) (I:u<th.length):gT (yJ th t s) u=if u=t then (s,(gT th u).2) else gT th u:=by
 unfold yJ gT;rw[FB _ _ _ _ t0 J I];split
 .rename_i h;subst h;rfl
 .rfl
theorem YF {th:List (Int×Int×Bool)} {t u:Int} (s:Int) (t0:0<=t) (J:0<=u) (I:u<th.length):gT (cdP th t s) u=if u=t then ((gT th u).1,s,(gT th u).2.2) else gT th u:=by
 unfold cdP gT;rw[FB _ _ _ _ t0 J I];split
 .rename_i h;subst h;rfl
 .rfl
theorem YK {th:List (Int×Int×Bool)} {t u:Int} (s:Bool) (t0:0<=t) (J:0<=u) (I:u<th.length):gT (atP th t s) u=if u=t then ((gT th u).1,(gT th u).2.1,s) else gT th u:=by
 unfold atP gT;rw[FB _ _ _ _ t0 J I];split
 .rename_i h;subst h;rfl
 .rfl
theorem ao4 {u:Int} (I:0<=u):∀(l:η) (th:List (Int×Int×Bool)),(∀x∈l,0<=x)->u<th.length->gT (Dn th l) u=if u∈l then (4,(gT th u).2) else gT th u
 |[],th,_,_=>by simp[Dn]
 |x::r,th,h,h2=>by
  have e:Dn th (x::r)=Dn (yJ th x 4) r:=rfl;rw[e,ao4 I r _ (λy J=>h y (cM _ J)) (by unfold yJ;rw[bW];exact h2),xN 4 (h x (dw ..)) I h2];by_cases a:u=x
  .subst a;simp
  .simp[a]
structure TH1 (k o v t u:Int) (g g':Int×Int×Bool):Prop where
 a:u=t->g.1≠0/\g.1≠3/\(k=16->g'.1=3/\g'.2.1=o)/\(k≠16->g'.1≠0/\g'.1≠3/\g'.1≠4)/\(k≠1->k≠17->g.1=2)
 b:u≠t->k=18->v=u->g.1=3/\g.2.1=o/\g'.1=4/\g'.2.1=o
 c:u≠t->k=19->g.1=3->g.2.1=o->g'.1=4/\g'.2.1=o
 d:u≠t->¬(k=18/\v=u)->¬(k=19/\g.1=3/\g.2.1=o)->g'.2.1=g.2.1/\(g'.1=g.1\/k=20/\o=u/\g.1=0/\g'.1=1)
 e:k=20->o=u->g'.1≠0
theorem TH1.same {k o v t u:Int} {g g':Int×Int×Bool} (h2:k≠1->k≠17->u=t->g.1=2) (e1:g'.1=g.1) (e2:g'.2.1=g.2.1) (n1:k≠1) (Y:k≠17) (n3:k≠16) (J:k≠20) (U:k=18->v=u->u=t) (M:k=19->g.1=3->g.2.1=o->u=t):TH1 k o v t u g g':=
 ⟨λh=>(by have:=h2 n1 Y h;rw[e1];omega),λh h1 I=>(h (U h1 I)).elim,λh h1 I Z=>(h (M h1 I Z)).elim,λ_ _ _=>⟨e2,.inl e1⟩,λh=>(J h).elim⟩
theorem alb (w:WT) (s:SY) (t k o v:Int) (en:EN w s t k o) (rd:Xs w s t k o) (va:k=18->v=(rG w s t k o v).2) (u:Int) (J:0<=u) (I:u<s.2.2.2.length):TH1 k o v t u (gT s.2.2.2 u) (gT (rG w s t k o v).1.2.2.2 u):=by
 have t0:=en.t0;have r2:k≠1->k≠17->u=t->(gT s.2.2.2 u).1=2:=λh1 h2 Y=>by subst Y;exact rd.r h1 h2
 have nm:=en.nm;have k1:=nm.k1;have k2:=nm.k2;obtain⟨s1,s2,M,th⟩:=s;dsimp only at I r2;change TH1 k o v t u (gT th u) (gT (rG w (s1,s2,M,th) t k o v).1.2.2.2 u);by_cases a1:k=1
 .subst a1;have e:gT (rG w (s1,s2,M,th) t 1 o v).1.2.2.2 u=if u=t then (2,(gT th u).2) else gT th u:=xN 2 t0 J I
  rw[e];refine ⟨λh=>?_,λ_ h=>by omega,λ_ h=>by omega,λh _ _=>by rw[aA h];exact⟨rfl,.inl rfl⟩,λh=>by omega⟩;have b:=rd.b rfl;rw[aD h];subst h;have b:(gT th u).1=1:=b;dsimp only;omega
 by_cases a2:k=2
 .subst a2;have e:gT (rG w (s1,s2,M,th) t 2 o v).1.2.2.2 u=if u=t then (5,(gT th u).2) else gT th u:=xN 5 t0 J I
  rw[e];refine ⟨λh=>?_,λ_ h=>by omega,λ_ h=>by omega,λh _ _=>by rw[aA h];exact⟨rfl,.inl rfl⟩,λh=>by omega⟩;have:=r2 (by omega) (by omega) h;rw[aD h];dsimp only;omega
 by_cases a14:k=14\/k=15
 .have e:∃b,gT (rG w (s1,s2,M,th) t k o v).1.2.2.2 u=if u=t then ((gT th u).1,(gT th u).2.1,b) else gT th u:=by
   rcases a14 with rfl|rfl
   .exact⟨ai,YK ai t0 J I⟩
   .exact⟨aj,YK aj t0 J I⟩
  obtain⟨b,e⟩:=e;rw[e];refine TH1.same r2 (by split<;>rfl) (by split<;>rfl) a1 (by omega) (by omega) (by omega) (λh=>by omega) λh=>by omega
 by_cases a16:k=16
 .subst a16;have e:gT (rG w (s1,s2,M,th) t 16 o v).1.2.2.2 u=if u=t then (3,o,(gT th u).2.2) else gT th u:=by
   have:gT (cdP (yJ th t 3) t o) u=_:=YF o t0 J (by unfold yJ;rw[bW];exact I);refine Eq.trans this ?_;rw[xN 3 t0 J I];split<;>rfl
  rw[e];refine ⟨λh=>?_,λ_ h=>by omega,λ_ h=>by omega,λh _ _=>by rw[aA h];exact⟨rfl,.inl rfl⟩,λh=>by omega⟩;have:=r2 (by omega) (by omega) h;rw[aD h];exact⟨by omega,by omega,λ_=>⟨rfl,rfl⟩,λh=>(h rfl).elim,λ_ _=>this⟩
 by_cases a17:k=17
 .subst a17;have e:gT (rG w (s1,s2,M,th) t 17 o v).1.2.2.2 u=if u=t then (2,0,(gT th u).2.2) else gT th u:=by
   have:gT (cdP (yJ th t 2) t 0) u=_:=YF 0 t0 J (by unfold yJ;rw[bW];exact I);refine Eq.trans this ?_;rw[xN 2 t0 J I];split<;>rfl
  rw[e];refine ⟨λh=>?_,λ_ h=>by omega,λ_ h=>by omega,λh _ _=>by rw[aA h];exact⟨rfl,.inl rfl⟩,λh=>by omega⟩;have b:=(rd.wk rfl).1;rw[aD h];subst h;have b:(gT th u).1=4:=b;dsimp only;omega
 by_cases a18:k=18
 .subst a18;have va:=va rfl;rw[F8]at va ⊢;dsimp only at va ⊢;by_cases hl:(wl th o th.length).length=0
  .rw[aD hl]at va ⊢;dsimp only at va ⊢;exact TH1.same r2 rfl rfl a1 (by omega) (by omega) (by omega) (λ_ h=>by omega) λh=>by omega
  .rw[aA hl]at va ⊢;dsimp only at va ⊢;have hv:v∈wl th o th.length:=by
    unfold BZ at va;rw[aA hl]at va;split at va
    .rename_i h;simpa using h
    .rw[va];exact bL (T:=.int .i64) (by omega) (by omega)
   rw[<- va];obtain⟨v0,v1,U⟩:=rK.1 hv;unfold IX at U;simp only[av,be]at U;rw[xN 4 v0 J I];refine ⟨λh=>?_,λh _ h2=>?_,λ_ h=>by omega,λh h2 _=>?_,λh=>by omega⟩
   .have:=r2 (by omega) (by omega) h;rw[aA (λq=>by rw[q]at this;exact cX (this.symm.trans U.1) (by decide))];omega
   .subst h2;rw[aD rfl];exact⟨U.1,U.2,rfl,U.2⟩
   .rw[aA λq=>h2 ⟨rfl,q.symm⟩];exact⟨rfl,.inl rfl⟩
 by_cases a19:k=19
 .subst a19;have e:gT (rG w (s1,s2,M,th) t 19 o v).1.2.2.2 u=if u∈wl th o th.length then (4,(gT th u).2) else gT th u:=ao4 J _ th (λx hx=>(rK.1 hx).1) I
  rw[e];have hm:u∈wl th o th.length↔(gT th u).1=3/\(gT th u).2.1=o:=by
   rw[rK];unfold IX;simp only[av,be];exact⟨λh=>h.2.2,λh=>⟨J,I,h⟩⟩
  refine ⟨λh=>?_,λ_ h=>by omega,λh _ Y h4=>?_,λh _ Y=>?_,λh=>by omega⟩
  .have:=r2 (by omega) (by omega) h;rw[aA (λq=>by have:=(hm.1 q).1;omega)];omega
  .rw[aD (hm.2 ⟨Y,h4⟩)];exact⟨rfl,h4⟩
  .rw[aA λq=>Y ⟨rfl,hm.1 q⟩];exact⟨rfl,.inl rfl⟩
 by_cases Z:k=20
 .subst Z;have sp:=rd.sp rfl;have o0:=(nm.th (.inl rfl)).1;have e:gT (rG w (s1,s2,M,th) t 20 o v).1.2.2.2 u=if u=o then (1,(gT th u).2) else gT th u:=xN 1 o0 J I
  rw[e];refine ⟨λh=>?_,λ_ h=>by omega,λ_ h=>by omega,λh _ _=>?_,λ_ h=>?_⟩
  .have:=r2 (by omega) (by omega) h;rw[aA (λq=>sp.1 (by omega))];omega
  .by_cases q:u=o
   .subst q;rw[aD rfl];exact⟨rfl,.inr ⟨rfl,rfl,sp.2,rfl⟩⟩
   .rw[aA q];exact⟨rfl,.inl rfl⟩
  .rw[aD h.symm];show (1:Int)≠0;omega
 have e:(rG w (s1,s2,M,th) t k o v).1.2.2.2=th:=by
  unfold rG;rw[aA a1,aA a2];repeat' split
  all_goals first|rfl|omega
 rw[e];exact TH1.same r2 rfl rfl a1 a17 a16 Z (λh=>(a18 h).elim) λh=>(a19 h).elim
def uA (l:List ET) (u:Nat):Nat->Int
 |0=> -1
 |i+1=>if (bQ l i).th=u then (i:Int) else uA l u i
def mtN (l:List ET) (u i:Nat) (p:Int):Prop:=0<=p/\(bQ l p.toNat).k=16/\((bQ l i).k=18/\(bQ l i).va=u\/(bQ l i).k=19/\(bQ l i).ob=(bQ l p.toNat).ob)
def C4 (l:List ET) (u:Nat):Nat->Int
 |0=> -1
 |i+1=>if (bQ l i).th=u then -1 else if 0<=C4 l u i then C4 l u i else @ite _ (mtN l u i (uA l u i)) (zm _) (i:Int) (-1)
theorem XB {l:List ET} {u i:Nat} (h:(bQ l i).th=u):C4 l u (i+1)= -1:=by rw[C4,aD h]
theorem XC {l:List ET} {u i:Nat} (h:¬(bQ l i).th=u) (g:0<=C4 l u i):C4 l u (i+1)=C4 l u i:=by rw[C4,aA h,aD g]
theorem XE {l:List ET} {u i:Nat} (h:¬(bQ l i).th=u) (g:C4 l u i= -1) (m:mtN l u i (uA l u i)):C4 l u (i+1)=i:=by rw[C4,aA h,aA (by omega),aD m]
theorem XD {l:List ET} {u i:Nat} (h:¬(bQ l i).th=u) (g:C4 l u i= -1) (m:¬mtN l u i (uA l u i)):C4 l u (i+1)= -1:=by rw[C4,aA h,aA (by omega),aA m]
theorem GM {α:Type} (l:List α) (f:Nat->α->α) (u:Nat) (d:α) (h:u<l.length):(l.mapIdx f).getD u d=f u (l.getD u d):=by
 rw[ay,EO,aB h,ay,aB h];rfl
theorem aok (w:vh) (h:HS) (e:EV) (c:η) (u:Nat) (hu:u<h.W.length) (U:h.N.length=h.W.length):(io w h e c).W.getD u 0=if e.k=16/\e.th=u then (e.ob:Int) else if e.k=18/\e.va=u\/e.k=19/\h.W.getD u 0=e.ob then -1 else h.W.getD u 0:=by
 obtain⟨th,k,ob,va⟩:=e;dsimp only;by_cases I:k=16
 .subst I;have e:(io w h ⟨th,16,ob,va⟩ c).W=h.W.set th ob:=rfl;rw[e,nL];by_cases q:th=u
  .rw[aD ⟨q,by omega⟩,aD ⟨rfl,q⟩]
  .rw[aA λx=>q x.1,aA λx=>q x.2,aA (by omega)]
 rw[aA λx=>I x.1];by_cases M:k=18
 .subst M;have e:io w h ⟨th,18,ob,va⟩ c=if 0<=va/\va<h.N.length then {h with T:=h.T.set th c,N:=h.N.set va.toNat c,W:=h.W.set va.toNat (-1)} else {h with T:=h.T.set th c}:=rfl
  rw[e];split
  .show (h.W.set va.toNat (-1)).getD u 0=_;rw[nL];by_cases q:va=u
   .rw[aD ⟨by omega,by omega⟩,aD (.inl ⟨rfl,q⟩)]
   .rw[aA (by omega),aA (by omega)]
  .rw[aA (by omega)]
 by_cases J:k=19
 .subst J;have e:(io w h ⟨th,19,ob,va⟩ c).W=h.W.mapIdx λu x=>if decide (h.W.getD u 0=(ob:Int))=ai then -1 else x:=rfl
  rw[e,GM _ _ _ _ hu];by_cases q:h.W.getD u 0=ob
  .rw[aD (aQ q),aD (.inr ⟨rfl,q⟩)]
  .rw[aA (by simpa using q),aA (by omega)]
 rw[aA (by omega)];have e:(io w h ⟨th,k,ob,va⟩ c).W=h.W:=by
  unfold io;simp only[];repeat' split
  all_goals first|rfl|omega
 rw[e]
theorem aon (w:vh) (h:HS) (e:EV) (c:η) (u:Nat) (hu:u<h.N.length):(io w h e c).N.getD u []=if e.k=18/\e.va=u\/e.k=19/\h.W.getD u 0=e.ob then c else h.N.getD u []:=by
 obtain⟨th,k,ob,va⟩:=e;dsimp only;by_cases J:k=18
 .subst J;have e:io w h ⟨th,18,ob,va⟩ c=if 0<=va/\va<h.N.length then {h with T:=h.T.set th c,N:=h.N.set va.toNat c,W:=h.W.set va.toNat (-1)} else {h with T:=h.T.set th c}:=rfl
  rw[e];split
  .show (h.N.set va.toNat c).getD u []=_;rw[nL];by_cases q:va=u
   .rw[aD ⟨by omega,by omega⟩,aD (.inl ⟨rfl,q⟩)]
   .rw[aA (by omega),aA (by omega)]
  .rw[aA (by omega)]
 by_cases I:k=19
 .subst I;have e:(io w h ⟨th,19,ob,va⟩ c).N=h.N.mapIdx λu x=>if decide (h.W.getD u 0=(ob:Int))=ai then c else x:=rfl
  rw[e,GM _ _ _ _ hu];by_cases q:h.W.getD u 0=ob
  .rw[aD (aQ q),aD (.inr ⟨rfl,q⟩)]
  .rw[aA (by simpa using q),aA (by omega)]
 rw[aA (by omega)];have e:(io w h ⟨th,k,ob,va⟩ c).N=h.N:=by
  unfold io;simp only[];repeat' split
  all_goals first|rfl|omega
 rw[e]
abbrev ZJ (w:WT) (l:List ET) (i u:Nat):Int×Int×Bool:=gT (OD w (l.take i)).1.2.2.2 (u:Int)
structure WI (w:WT) (l:List ET) (cl:Nat->η) (i:Nat) (h:HS) (u:Nat) (g:Int×Int×Bool):Prop where
 W:h.W.getD u 0=if g.1=3 then g.2.1 else -1
 p:g.1=3\/g.1=4->0<=uA l u i/\(bQ l (uA l u i).toNat).k=16/\((bQ l (uA l u i).toNat).ob:Int)=g.2.1
 a:g.1=3->C4 l u i= -1
 n:g.1=4->0<=C4 l u i/\h.N.getD u []=cl (C4 l u i).toNat
 s:g.1=0->∀k,k<i->pS l u k=aj
theorem akg:∀n,∀x∈Y2 n,x.1=0\/x.1=1
 |0,x,h=>by cases h
 |n+1,x,h=>by
  rcases bp.1 h with rfl|h
  .exact .inr rfl
  .rw[qb h];exact .inl rfl
theorem WI.zero (w:WT) (l:List ET) (cl:Nat->η) (u:Nat) (hu:u<w.2.2.2.2.1.length):WI w l cl 0 (HS.zero w) u (ZJ w l 0 u):=by
 have h1:(ZJ w l 0 u).1=0\/(ZJ w l 0 u).1=1:=akg _ _ (bL (T:=jJ) (xs:=Y2 w.2.2.2.2.1.length) (j:=(u:Int)) (by omega) (by rw[Ir];omega));have hW:(HS.zero w).W.getD u 0= -1:=by
  have:(aG w.2.2.2.2.1.length (-1:Int)).getD u 0= -1:=by rw[ay,lK,aD hu];rfl
  exact this
 exact⟨by rw[hW,aA (by omega)],λh=>by omega,λh=>by omega,λh=>by omega,λ_ k hk=>by omega⟩
theorem WI.step {w:WT} {l:List ET} {cl:Nat->η} {i:Nat} {h:HS} {u:Nat} (a:WI w l cl i h u (ZJ w l i u)) (hi:i<l.length) (sc:SCx w (l.take i) (OD w (l.take i)).1 (OD w (l.take i)).2.1 (OD w (l.take i)).2.2 (eN l i)) (et:EvT (bQ l i) (eN l i)) (hu:u<w.2.2.2.2.1.length) (h1:h.W.length=w.2.2.2.2.1.length) (h2:h.N.length=w.2.2.2.2.1.length):WI w l cl (i+1) (io w h (bQ l i) (cl i)) u (ZJ w l (i+1) u):=by
 have en:=sc.en;have eg:ZJ w l (i+1) u=gT (rG w (OD w (l.take i)).1 (eN l i).1 (eN l i).2.1 (eN l i).2.2.1 (eN l i).2.2.2.1).1.2.2.2 (u:Int):=by unfold ZJ;rw[Uq w hi]
 have T1:TH1 (eN l i).2.1 (eN l i).2.2.1 (eN l i).2.2.2.1 (eN l i).1 (u:Int) (ZJ w l i u) (ZJ w l (i+1) u):=by
  rw[eg];exact alb w (OD w (l.take i)).1 (eN l i).1 (eN l i).2.1 (eN l i).2.2.1 (eN l i).2.2.2.1 en sc.rd (λh=>sc.va.el (by omega) (by omega) (by omega) (by omega) (by omega)) (u:Int) (by omega) (by rw[en.e3];omega)
 clear eg;have eW:=aok w h (bQ l i) (cl i) u (by omega) (by omega);have eN9:=aon w h (bQ l i) (cl i) u (by omega);have qt:=et.th;have Z:=et.k;have qv:=et.va;have Y:(bQ l i).k=16\/(bQ l i).k=19\/(bQ l i).k=20->(eN l i).2.2.1=((bQ l i).ob:Int):=λh=>et.ob (by rcases h with h|h|h<;>rw[h]<;>decide)
 have pv':uA l u (i+1)=if (bQ l i).th=u then (i:Int) else uA l u i:=rfl
 have ps:pS l u i=decide ((bQ l i).k=20/\(bQ l i).ob=u):=rfl;clear en sc;obtain⟨aW,ap,aa,an,as'⟩:=a;obtain⟨ta,tb,tc,td,te⟩:=T1;generalize ZJ w l (i+1) u=g' at*
 generalize ZJ w l i u=g at*
 by_cases I:(bQ l i).th=u
 .obtain⟨b1,b2,b3,b4,_⟩:=ta (by rw[qt,I]);have w0:C4 l u (i+1)= -1:=XB I;have hW':h.W.getD u 0= -1:=by rw[aW,aA b2]
  by_cases J:(bQ l i).k=16
  .obtain⟨c1,c2⟩:=b3 (by rw[Z,J];rfl);refine ⟨by rw[eW,aD ⟨J,I⟩,aD c1,c2,Y (.inl J)],λ_=>?_,λ_=>w0,λh=>by omega,λh=>by omega⟩;rw[pv',aD I,cZ];exact⟨by omega,J,by rw[c2,Y (.inl J)]⟩
  .obtain⟨c1,c2,c3⟩:=b4 (by rw[Z];omega);refine ⟨?_,λh=>by omega,λh=>by omega,λh=>by omega,λh=>by omega⟩;rw[eW,aA (λx=>J x.1),aA c2,hW'];split<;>rfl
 have hut:(u:Int)≠(eN l i).1:=by rw[qt];omega
 rw[aA I]at pv';rw[aA (λx=>I x.2)]at eW;by_cases A:(bQ l i).k=18/\(bQ l i).va=u\/(bQ l i).k=19/\h.W.getD u 0=(bQ l i).ob
 .have B:g.1=3/\g'.1=4/\g'.2.1=g.2.1/\((bQ l i).k=19->g.2.1=(bQ l i).ob):=by
   rcases A with ⟨k,v⟩|⟨k,v⟩
   .obtain⟨U,M,d3,d4⟩:=tb hut (by rw[Z,k];rfl) (by rw[qv,v]);exact⟨U,d3,by rw[M,d4],λq=>by omega⟩
   .have g3:g.1=3:=by
     rw[aW]at v;split at v
     .assumption
     .omega
    rw[aW,aD g3]at v;obtain⟨U,M⟩:=tc hut (by rw[Z,k];rfl) g3 (by rw[v,Y (.inr (.inl k))]);exact⟨g3,U,by rw[M,v,Y (.inr (.inl k))],λ_=>v⟩
  obtain⟨U,M,d3,d4⟩:=B;obtain⟨p1,p2,p3⟩:=ap (.inl U);have hw:=XE I (aa U) ⟨p1,p2,by
   rcases A with A|⟨k,_⟩
   .exact .inl A
   .exact .inr ⟨k,by have:=d4 k;omega⟩⟩
  rw[aD A]at eW eN9;refine ⟨by rw[eW,aA (by omega)],λ_=>by rw[pv',d3];exact⟨p1,p2,p3⟩,λh=>by omega,λ_=>by rw[hw,cZ];exact⟨by omega,eN9⟩,λh=>by omega⟩
 rw[aA A]at eW eN9;have nv:¬((eN l i).2.1=18/\(eN l i).2.2.2.1=(u:Int)):=λq=>A (.inl ⟨by omega,by rw[<- qv];exact q.2⟩)
 have nw:¬((eN l i).2.1=19/\g.1=3/\g.2.1=(eN l i).2.2.1):=λq=>A (.inr ⟨by omega,by rw[aW,aD q.2.1,q.2.2,Y (.inr (.inl (by omega)))]⟩)
 obtain⟨U,M⟩:=td hut nv nw;have nm:g.1=3->¬mtN l u i (uA l u i):=λq ⟨_,_,m⟩=>by
  obtain⟨_,_,p3⟩:=ap (.inl q);rcases m with m|⟨k,m⟩
  .exact A (.inl m)
  .exact nw ⟨by omega,q,by rw[Y (.inr (.inl k)),m,p3]⟩
 refine ⟨?_,λq=>?_,λq=>?_,λq=>?_,λq k hk=>?_⟩
 .rw[eW,aW,U];rcases M with M|M
  .rw[M]
  .rw[aA (by omega),aA (by omega)]
 .rw[pv',U];exact ap (by omega)
 .have q:g.1=3:=by omega
  exact XD I (aa q) (nm q)
 .have q:g.1=4:=by omega
  obtain⟨n1,n2⟩:=an q;rw[XC I n1,eN9];exact⟨n1,n2⟩
 .have q0:g.1=0:=by omega
  by_cases e:k=i
  .subst e;rw[ps];exact bw λr=>te (by rw[Z,r.1];rfl) (by rw[Y (.inr (.inr r.1)),r.2]) q
  .exact as' q0 k (by omega)
theorem VH {w:WT} {l:List ET} {cl:Nat->η} (tr:TR (w,l)) (C:CL w l cl):∀i:Nat,i<=l.length->IN w l cl i (vo w l cl i)/\∀u,u<w.2.2.2.2.1.length->WI w l cl i (vo w l cl i) u (ZJ w l i u)
 |0,_=>⟨IN.zero w l cl,λu hu=>WI.zero w l cl u hu⟩
 |i+1,h=>by
  obtain⟨a,b⟩:=VH tr C i (by omega);have hi:i<l.length:=by omega
  have o:=PA tr C hi;have I:=VK tr C hi;have sc:=tr.sc hi;have et:=kB tr hi;have ok:=CF tr C hi;refine ⟨a.step _ o ((aji w _ _).trans (C.le hi)) (QF tr C hi) ok λk=>?_,λu hu=>(b u hu).step hi sc et hu (o.lW.trans I.T) (o.lN.trans I.T)⟩;have sp:=(sc.rd.sp (by rw[et.k,k];rfl)).2;rw[et.ob (by rw[k];decide)]at sp;exact (b _ (by rw[<- I.T];exact ok.sp (.inl k))).s sp
theorem ap0 {w:WT} {l:List ET} {cl:Nat->η} (tr:TR (w,l)) (C:CL w l cl) (u:Nat):∀i:Nat,i<=l.length->(vo w l cl i).T.getD u []=if 0<=uA l u i then cl (uA l u i).toNat else []
 |0,_=>mw.repl (P:=λx=>x=[]) rfl _ _
 |i+1,h=>by
  have I:=ap0 tr C u i (by omega);rw[vo,Yq,nL,uA];by_cases e:(bQ l i).th=u
  .rw[aD ⟨e,(CF tr C (by omega)).th⟩,aD e,aD (by omega),cZ]
  .rw[aA λq=>e q.1,aA e];exact I
theorem vj {c:Nat->η} {p q:Nat->Bool}:∀i,(∀k,k<i->p k=q k)->JC c p i=JC c q i
 |0,_=>rfl
 |i+1,h=>by rw[JC,JC,h i (by omega),vj i λk hk=>h k (by omega)]
theorem ak9 {c:Nat->η} {p q r:Nat->Bool}:∀i,(∀k,k<i->(r k=ai↔p k=ai\/q k=ai)/\¬(p k=ai/\q k=ai))->JC c r i=jl (JC c p i) (JC c q i)
 |0,_=>rfl
 |i+1,h=>by
  have I:=ak9 (c:=c) i λk hk=>h k (by omega)
  obtain⟨h1,h2⟩:=h i (by omega);rw[JC,JC,JC];by_cases a:p i=ai
  .have b:¬q i=ai:=λb=>h2 ⟨a,b⟩
   rw[aD (h1.2 (.inl a)),aD a,aA b,I,qU,qU,Ya (JC c q i)]
  .by_cases b:q i=ai
   .rw[aD (h1.2 (.inr b)),aA a,aD b,I,qU]
   .rw[aA λq=>(h1.1 q).elim a b,aA a,aA b,I]
def ID (w:WT) (l:List ET) (j i:Nat):Prop:=((bQ l j).k=1/\(bQ l i).k=20/\(bQ l i).ob=(bQ l j).th)\/((bQ l j).k=21/\(bQ l i).th=(bQ l j).ob)\/((bQ l j).k=3/\zo w.1 (bQ l j).ob=ai/\(bQ l i).k=4/\(bQ l i).ob=(bQ l j).ob)\/((bQ l j).k=23/\(bQ l i).k=22/\(bQ l i).ob=(bQ l j).ob)
def Q7 (w:WT) (l:List ET) (j i:Nat):Prop:=(0<=(CR w (bQ l j)).1/\(Bd w (bQ l i)).1=(CR w (bQ l j)).1/\¬((CR w (bQ l j)).2=ai/\(Bd w (bQ l i)).2=ai))\/((bQ l j).k=12/\(bQ l i).k=13)
def dB (p:Nat->Prop) (k:Nat):Bool:= @decide (p k) (zm _)
theorem ahb {p:Nat->Prop} {k:Nat}:dB p k=ai↔p k:=by unfold dB;exact @decide_eq_true_iff (p k) (zm _)
theorem ahc {p:Nat->Prop} {k:Nat}:dB p k=aj↔¬p k:=by unfold dB;exact @decide_eq_false_iff_not (p k) (zm _)
theorem Ow {p:Nat->Prop} {q:Bool} {k:Nat} (h:p k↔q=ai):q=dB p k:=by
 cases q with
 |true=>exact (ahb.2 (h.2 rfl)).symm
 |false=>exact (ahc.2 λx=>by have:=h.1 x;cases this).symm
def wkC (l:List ET) (cl:Nat->η) (j:Nat):η:=if (bQ l j).k=17 then cl (C4 l (bQ l j).th j).toNat else []
theorem al4 {w:WT} {l:List ET} {cl:Nat->η} (tr:TR (w,l)) (C:CL w l cl) {j:Nat} (hj:j<l.length):Mb w l cl j=tk (jl (jl (jl (if 0<=uA l (bQ l j).th j then cl (uA l (bQ l j).th j).toNat else []) (JC cl (dB (ID w l j)) j)) (wkC l cl j)) (JC cl (dB (Q7 w l j)) j)) (bQ l j).th:=by
 obtain⟨a,b⟩:=VH tr C j (by omega);have o:=PA tr C hj;have ft:=VK tr C hj;have ok:=CF tr C hj;have sc:=tr.sc hj;have et:=kB tr hj;rw[<- ap0 tr C _ j (by omega)];have nH:∀{p:Nat->Prop},(∀k,¬p k)->JC cl (dB p) j=[]:=λh=>Xw _ _ _ λk _=>ahc.2 (h k)
 have oT:=o.T (bQ l j).th;have z:=En.nil o.n0;have e0:jl (jl ((vo w l cl j).T.getD (bQ l j).th []) []) []=(vo w l cl j).T.getD (bQ l j).th []:=by rw[mK oT,mK oT]
 have sN:¬(bQ l j).k=6->¬(bQ l j).k=10->¬(bQ l j).k=8->¬(bQ l j).k=17->¬(bQ l j).k=12->∀k,¬Q7 w l j k:=λh1 h2 h3 h4 h5 k q=>by
  unfold Q7 CR at q;rw[aA (by omega),aA h3,aA h4]at q;rcases q with ⟨q,_⟩|⟨q,_⟩
  .dsimp only at q;omega
  .exact h5 q
 unfold wkC;show uh w (vo w l cl j) (bQ l j)=_;unfold uh;congr 1;by_cases k1:(bQ l j).k=1
 .rw[aA (by omega),nH (sN (by omega) (by omega) (by omega) (by omega) (by omega))];unfold qw;rw[aD k1,vj (q:=pS l (bQ l j).th) j λk _=>(Ow (by unfold ID pS;rw[be];omega)).symm,<-a.S];rw[mK (oT.jl (o.S _)),mK (oT.jl (o.S _))];rfl
 by_cases I:(bQ l j).k=21
 .rw[aA (by omega),nH (sN (by omega) (by omega) (by omega) (by omega) (by omega))];unfold qw;rw[aA k1,aD I,vj (q:=pT l (bQ l j).ob) j λk _=>(Ow (by unfold ID pT;rw[be];omega)).symm,<-a.T];rw[mK (oT.jl (o.T _)),mK (oT.jl (o.T _))];rfl
 by_cases k3:(bQ l j).k=3
 .rw[aA (by omega),nH (sN (by omega) (by omega) (by omega) (by omega) (by omega))];unfold qw;rw[aA k1,aA I,aA (by omega),aA (by omega),aA (by omega),aD k3,vj (q:=pC w l (bQ l j).ob) j λk _=>(Ow ?_).symm,<-a.C]
  .rw[mK (oT.jl (o.C _)),mK (oT.jl (o.C _))];rfl
  .unfold ID pC;rw[be];constructor
   .rintro (h|h|h|h)
    .omega
    .omega
    .exact⟨h.2.2.1,h.2.2.2,h.2.1⟩
    .omega
   .intro h;exact .inr (.inr (.inl ⟨k3,h.2.2,h.1,h.2.1⟩))
 by_cases Z:(bQ l j).k=23
 .rw[aA (by omega),nH (sN (by omega) (by omega) (by omega) (by omega) (by omega))];unfold qw;rw[aA k1,aA I,aA (by omega),aA (by omega),aA (by omega),aA k3,aD Z,vj (q:=pF l (bQ l j).ob) j λk _=>(Ow (by unfold ID pF;rw[be];omega)).symm,<-a.F];rw[mK (oT.jl (o.F _)),mK (oT.jl (o.F _))];rfl
 have hN:∀k,¬ID w l j k:=λk q=>by unfold ID at q;omega
 rw[nH hN,mK oT];by_cases U:(bQ l j).k=12
 .rw[aA (by omega),mK oT];unfold qw;rw[aA k1,aA I,aA (by omega),aA (by omega),aA (by omega),aA k3,aA Z,aD U,vj (q:=pX l) j λk _=>(Ow ?_).symm,<-a.X]
  .rfl
  .unfold Q7 pX CR;rw[be,aA (by omega),aA (by omega),aA (by omega)];dsimp only;constructor
   .rintro (h|h)
    .omega
    .exact h.2
   .intro h;exact .inr ⟨U,h⟩
 have hor:∀m:Nat,(CR w (bQ l j)).1=(m:Int)->(CR w (bQ l j)).2=aj->JC cl (dB (Q7 w l j)) j=jl ((vo w l cl j).L.getD m []) ((vo w l cl j).R.getD m []):=λm h1 h2=>by
  rw[a.L,a.R];refine ak9 j λk _=>?_
  rw[ahb,be,be];unfold Q7;rw[h1,h2];generalize Bd w (bQ l k)=x;obtain⟨x1,x2⟩:=x;simp only[aE];constructor
  .constructor
   .rintro (h|h)
    .cases x2 with
     |true=>exact .inr ⟨h.2.1,rfl⟩
     |false=>exact .inl ⟨h.2.1,rfl⟩
    .omega
   .rintro (h|h)<;>exact .inl ⟨by omega,h.1,λq=>by cases q.1⟩
  .rintro⟨⟨_,h⟩,⟨_,h'⟩⟩;rw[h]at h';cases h'
 by_cases M:(bQ l j).k=6\/(bQ l j).k=10
 .rw[aA (by omega),mK oT,hor (bQ l j).ob (by unfold CR;rw[aD M]) (by unfold CR;rw[aD M])];unfold qw;rw[aA k1,aA I,aD M,<-qU];rfl
 by_cases Y:(bQ l j).k=8
 .have ha:CR w (bQ l j)=(((bQ l j).ob:Int),ai):=by unfold CR;rw[aA M,aD Y]
  rw[aA (by omega),mK oT];unfold qw;rw[aA k1,aA I,aA M,aD Y,vj (q:=pL w l (((bQ l j).ob:Int),aj)) j λk _=>(Ow ?_).symm,<-a.L]
  .rfl
  .unfold Q7 pL;rw[ha,be];generalize Bd w (bQ l k)=x;obtain⟨x1,x2⟩:=x;simp only[aE];constructor
   .rintro (h|h)
    .exact⟨h.2.1,by simpa using h.2.2⟩
    .omega
   .intro h;exact .inl ⟨by omega,h.1,by simp[h.2]⟩
 by_cases J:(bQ l j).k=17
 .have wk:=sc.rd.wk (by rw[et.k,J];rfl);have hth:(bQ l j).th<w.2.2.2.2.1.length:=by rw[<- ft.T];exact ok.th
  have hn:=(b _ hth).n (by have:=wk.1;rw[et.th]at this;exact this);rw[aD J,hor (Pj w.2.2.1 (bQ l j).ob) (by unfold CR;rw[aA M,aA Y,aD J]) (by unfold CR;rw[aA M,aA Y,aD J]),<-hn.2];unfold qw;rw[aA k1,aA I,aA M,aA Y,aD J];simp only[xK,List.foldl_nil];rw[qU,qU,qU,<-qU _ _ ((vo w l cl j).N.getD _ []),Ya ((vo w l cl j).N.getD _ [])]
 .rw[aA J,nH (sN (by omega) (by omega) Y J U),mK oT,mK oT];unfold qw;rw[aA k1,aA I,aA M,aA Y,aA J,aA k3,aA Z,aA U];rfl
theorem Yj {n:Int} {c:Nat->η} {p:Nat->Bool} {a:η} (I:En n a):∀i,((bx i).filter p).foldl (λx k=>jl x (c k)) a=jl a (JC c p i)
 |0=>(mK I).symm
 |i+1=>by
  rw[xI,yH,dV,Yj I i];by_cases h:p i=ai
  .rw[Q2 h,List.filter_cons_of_pos h,<-qU];rfl
  .rw[EI (by simpa using h),List.filter_cons_of_neg h];rfl
theorem ad9 (w:WT) (l:List ET):∀i:Nat,i<=l.length->vo w l (IK w l) i=NP w (l.take i)
 |0,_=>rfl
 |i+1,h=>by rw[vo,ad9 w l i (by omega),DB w (by omega)]
theorem aou (w:WT) {l:List ET} {i:Nat} (h:i<l.length):Mb w l (IK w l) i=IK w l i:=by unfold Mb;rw[ad9 w l i (by omega)];rfl
theorem CL_N (w:WT) (l:List ET):CL w l (IK w l):=λi h=>.inl (aou w h).symm
theorem akt {w:WT} {l:List ET} (tr:TR (w,l)) (i:Nat) (h:i<=l.length):IN w l (IK w l) i (NP w (l.take i))/\∀u,u<w.2.2.2.2.1.length->WI w l (IK w l) i (NP w (l.take i)) u (ZJ w l i u):=by
 have:=VH tr (CL_N w l) i h;rw[ad9 w l i h]at this;exact this
theorem abo (l:List ET) (u:Nat):∀i:Nat,C4 l u i<i
 |0=>by show (-1:Int)<0;omega
 |i+1=>by
  have:=abo l u i;rw[C4];split
  .omega
  .split
   .omega
   .split<;>omega
theorem aj0 {w:WT} {l:List ET} (tr:TR (w,l)) {j:Nat} (hj:j<l.length) (h:(bQ l j).k=17):0<=uA l (bQ l j).th j/\(bQ l (uA l (bQ l j).th j).toNat).k=16/\0<=C4 l (bQ l j).th j:=by
 have b:=(akt tr j (by omega)).2 (bQ l j).th (by rw[<- (Pz tr j (by omega)).2.T];exact (yl tr hj).th);have wk:=((tr.sc hj).rd.wk (by rw[(kB tr hj).k,h];rfl)).1;rw[(kB tr hj).th]at wk;have g:=b.p (.inr wk);exact⟨g.1,g.2.1,(b.n wk).1⟩
theorem Vk (l:List ET) (u:Nat):∀i:Nat,-1<=uA l u i/\uA l u i<i
 |0=>⟨eE _,by show (-1:Int)<0;omega⟩
 |i+1=>by have:=Vk l u i;rw[uA];split<;>omega
def HM (l:List ET) (o:Nat):Nat->Int
 |0=> -1
 |i+1=>if (bQ l i).k=4/\(bQ l i).ob=o then (i:Int) else HM l o i
theorem acw (l:List ET) (o:Nat):∀i:Nat,-1<=HM l o i/\HM l o i<i
 |0=>⟨eE _,by show (-1:Int)<0;omega⟩
 |i+1=>by have:=acw l o i;rw[HM];split<;>omega
def Ra (l:List ET) (i:Nat):Prop:=(bQ l i).k=3/\0<=HM l (bQ l i).ob i
instance (l:List ET) (i:Nat):Decidable (Ra l i):=by unfold Ra;exact inferInstance
def Q_ (l:List ET) (i:Nat):Nat:=(HM l (bQ l i).ob i).toNat
theorem I9 {l:List ET} {i:Nat} (h:Ra l i):Q_ l i<i:=by have:=acw l (bQ l i).ob i;have:=h.2;unfold Q_;omega
def Va (w:WT) (l:List ET):Nat->HS×List η
 |0=>(HS.zero w,[])
 |i+1=>
  let c:=if Ra l i then jl (uh w (Va w l i).1 (bQ l i)) ((Va w l i).2.getD (Q_ l i) []) else uh w (Va w l i).1 (bQ l i)
  (io w (Va w l i).1 (bQ l i) c,(Va w l i).2++[c])
def nW (w:WT) (l:List ET) (i:Nat):η:=(Va w l (i+1)).2.getD i []
theorem It (w:WT) (l:List ET):∀i,(Va w l i).2.length=i
 |0=>rfl
 |i+1=>by rw[Va];simp[It w l i]
theorem O3 (w:WT) (l:List ET) {k:Nat}:∀i,k<i->(Va w l i).2.getD k []=nW w l k
 |i+1,h=>by
  by_cases e:k=i
  .subst e;rfl
  .rw[<- O3 w l i (by omega),Va];dsimp only;rw[ay,bM (by rw[It];omega),ay]
theorem XP (w:WT) (l:List ET) (i:Nat):nW w l i=if Ra l i then jl (uh w (Va w l i).1 (bQ l i)) (nW w l (Q_ l i)) else uh w (Va w l i).1 (bQ l i):=by
 unfold nW;rw[Va];dsimp only;rw[ay,b7 (by rw[It];omega),It,vE];show (if Ra l i then _ else _)=_;by_cases h:Ra l i
 .rw[aD h,aD h,O3 w l i (I9 h)];rfl
 .rw[aA h,aA h]
theorem ac3 (w:WT) (l:List ET):∀i,(Va w l i).1=vo w l (nW w l) i
 |0=>rfl
 |i+1=>by
  rw[vo,XP,<-ac3 w l i,Va];dsimp only;by_cases h:Ra l i
  .rw[aD h,aD h,O3 w l i (I9 h)]
  .rw[aA h,aA h]
abbrev oK (w:WT) (l:List ET) (i:Nat):η:=Mb w l (nW w l) i
theorem EZ (w:WT) (l:List ET) (i:Nat):nW w l i=if Ra l i then jl (oK w l i) (nW w l (Q_ l i)) else oK w l i:=by
 rw[XP,ac3]
theorem aqv (w:WT) (l:List ET):CL w l (nW w l):=λi _=>by
 rw[EZ];by_cases h:Ra l i
 .rw[aD h];exact .inr ⟨_,I9 h,rfl⟩
 .rw[aA h];exact .inl rfl
theorem aj6 {w:WT} {l:List ET} {i:Nat} (h:¬(bQ l i).k=3):nW w l i=oK w l i:=by rw[EZ,aA λq=>h q.1]
def Q8 (r:η):Prop:=Ik r/\∀z∈r,0<=z/\z<4
def P8 (s:List (Int×η)):Prop:=∀x∈s,Q8 x.2
theorem P8.get {s:List (Int×η)} (h:P8 s) (o:Int):Q8 (aK (T:=Bb) s o).2:=by
 unfold aK;rw[ay];cases e:s[o.toNat]? with
 |none=>exact⟨trivial,λz I=>by cases I⟩
 |some x=>exact h x (bc e)
theorem P8.set {s:List (Int×η)} (h:P8 s) (o a:Int) {r:η} (hr:Q8 r):P8 (cz s o (a,r)):=λx I=>by
 rcases C' I with I|rfl
 .exact h x I
 .exact hr
theorem CQ (p:Int->Bool):∀{l:η},Ik l->Ik (l.filter p)
 |[],_=>trivial
 |x::r,h=>by
  rw[List.filter_cons];split
  .exact⟨λy I=>h.1 y ((xJ.1 I).1),CQ p h.2⟩
  .exact CQ p h.2
theorem P8.ite {c:Prop} [Decidable c] {a b:SY×Int} (I:P8 a.1.1) (hb:P8 b.1.1):P8 (if c then a else b).1.1:=by by_cases h:c<;>simp[h,I,hb]
theorem P8.ap {w:WT} {s:SY} (h:P8 s.1) {t:Int} (k o v:Int) (t0:0<=t) (J:t<4):P8 (rG w s t k o v).1.1:=by
 have ow:∀a b,P8 (owP s.1 a b):=λa b=>h.set a b (h.get a)
 have un:P8 (rdP s.1 o (xM (aK (T:=Bb) s.1 o).2 [t])):=h.set _ _ ⟨Ri _ _,λz I=>by
  rcases I2.1 I with I|I
  .exact (h.get o).2 z I
  .rw[aL]at I;subst I;exact⟨t0,J⟩⟩
 have wt:P8 (rdP s.1 o (wo (aK (T:=Bb) s.1 o).2 t)):=h.set _ _ ⟨CQ _ (h.get o).1,λz I=>(h.get o).2 z (xJ.1 I).1⟩;unfold rG;exact P8.ite h (P8.ite h (P8.ite (ow _ _) (P8.ite (ow _ _) (P8.ite un (P8.ite wt (P8.ite h (P8.ite h (P8.ite h (P8.ite h (P8.ite (ow _ _) (P8.ite (ow _ _) (P8.ite (P8.ite h h) (P8.ite h (P8.ite h (P8.ite h h)))))))))))))))
def iI (w:WT) (l:List ET):SN:=l.foldl (nxP w) (sn8 w)
theorem Nt (w:WT) {l:List ET} {i:Nat} (h:i<l.length):iI w (l.take (i+1))=nxP w (iI w (l.take i)) (eN l i):=by
 rw[mX (T:=tE) h];unfold iI;rw[dV];rfl
structure K8 (w:WT) (l:List ET) (i:Nat) (s:SN):Prop where
 a:(s.1,s.2.1,s.2.2.1)=OD w (l.take i)
 r:P8 s.1.1
 c:s.2.1.length=w.1.length
 f:s.2.2.1.length=w.2.2.2.1.length
 k:s.2.2.2.length=w.2.2.2.2.1.length
 n:CN (l.take i) s.2.2.2
theorem XK {w:WT} {l:List ET} (tr:TR (w,l)):∀i:Nat,i<=l.length->K8 w l i (iI w (l.take i))
 |0,_=>⟨rfl,λx J=>by rw[qb J];exact⟨trivial,λz I=>by cases I⟩,by simp[iI,ce0],by simp[iI,fu0],by simp[iI],λt t0 t1=>by
   have:(aG w.2.2.2.2.1.length (0:Int)).getD t.toNat 0=0:=by rw[ay,lK];split<;>rfl
   exact this⟩
 |i+1,h=>by
  obtain⟨a,r,c,f,k,n⟩:=XK tr i (by omega);have sc:=tr.sc (i:=i) (by omega);have hl:=tr.len;have ht:=tr.wb.t;dsimp only at hl ht;have en:=sc.en;have e1:=en.t1;have htk:=qC i l;rw[Nt w (by omega)];refine ⟨?_,r.ap _ _ _ en.t0 (by omega),?_,?_,?_,?_⟩
  .rw[Uq w (by omega),<-a];rfl
  .unfold nxP ceP;dsimp only;split
   .rw[bW];exact c
   .exact c
  .unfold nxP fuP;dsimp only;split
   .rw[bW];exact f
   .exact f
  .unfold nxP;rw[bW];exact k
  .have:=n.next (eN l i) en.t0 (by rw[k];exact e1) (by omega);rw[mX (T:=tE) (show i<l.length by omega)];exact this
theorem O0 {w:WT} {l:List ET} (tr:TR (w,l)) {i:Nat} (hi:i<l.length):f_ (w,iI w (l.take i),eN l i)=af (iI w (l.take (i+1)),ai):=by
 obtain⟨a,r,c,f,k,n⟩:=XK tr i (by omega);have sc:=tr.sc hi;have I:=tr.wx;have ht:=tr.wb.t;have hls:=tr.ls _ (CH hi);dsimp only at I ht hls;rw[Nt w hi];rw[<- a]at sc;generalize iI w (l.take i)=s at*
 generalize eN l i=e at*
 have en:=sc.en;have e1:=en.t1;have l3:w.2.1.length=3:=by rw[I.l];rfl
 have J:=n e.1 en.t0 (by rw[k];exact e1);have b1:=tr.wb.c;have Z:=tr.wb.f;have b3:=tr.wb.d;dsimp only at b1 Z b3;have Y:=en.e1;have U:=en.e2;have q3:=en.e3;dsimp only at Y U q3;refine api (n:=4) w s e ⟨⟨by omega,by omega,λx M=>?_,by omega,by omega⟩,by omega,by omega,by omega⟩ (by omega) (by omega) ⟨c,f,k⟩ en ⟨sc.rd,sc.s1,sc.s2,sc.de,sc.fr,by rw[J];exact sc.nd,by rw[J];exact sc.nf,sc.va⟩ hls.1 hls.2 (λh=>?_) (by omega) r (by omega)
 .have:=QO x.2 0 4 (r x M).1 (r x M).2;omega
 .have o1:=en.nm.lk (by omega);have o2:=en.nm.rw (by omega);generalize e.2.2.1=o at o1 o2;rw[I.l]at o1 o2;have:o=0\/o=1\/o=2:=by have:HE.length=3:=rfl;omega
  rcases this with rfl|rfl|rfl
  .cases o2
  .cases o2
  .rfl
abbrev fN (l:List ET) (i:Nat) (t:Int):θ:=fl (l.take i) t
theorem P9 {l:List ET} {i:Nat} (h:i<l.length) {t:Int} (e:(eN l i).1=t):fN l (i+1) t=fN l i t++[tZ (eN l i)]:=by
 unfold fN;rw[mX (T:=tE) h,uY,Ab e]
theorem P_ {l:List ET} {i:Nat} (h:i<l.length) {t:Int} (e:¬(eN l i).1=t):fN l (i+1) t=fN l i t:=by
 unfold fN;rw[mX (T:=tE) h,uY,xg e,fJ]
theorem Iv {w:WT} {l:List ET} (tr:TR (w,l)) {i:Nat} (hi:i<l.length) {t:Int} (e:(eN l i).1=t):cu (fN l i t,eN l i)=af ai:=by
 have sc:=tr.sc hi;have hls:=tr.ls _ (CH hi);subst e;exact aa5 _ _ sc.rd1 sc.rd2 hls.1 hls.2
theorem P' (l:List ET) (i:Nat) (t:Int):(fN l i t).length<=l.length:=du (Yk _ _) (List.length_take_le' ..)
theorem afg {w:WT} {l:List ET} (tr:TR (w,l)) (hn:w.2.2.2.2.1.length=4):eB (w,l)=af (0,0):=by
 have hl:=tr.len;dsimp only at hl;refine ct ?_;unfold eB jS aX bf bu ch dC ja bK fg kP nZ bd bA bE bD aZ cK aF cH;refine fP (gx.2 (by dsimp only[au];omega)) (aU (VW8 tr.wx tr.vl) (gw (aU (CS tr.wx) (bh (by show (c_ 0 (aP w.2.2.2.2.1.length)&&c_ (aP w.2.2.2.2.1.length) (aP w.2.2.2.2.1.length)&&a8 (aT (aP w.2.2.2.2.1.length)) 24&&decide ((aP w.2.2.2.2.1.length:Int)=4))=ai;rw[hn];rfl) ?_))));refine iJ l.length (by omega) (λi x=>x=((i:Int),(w,l),iI w (l.take i),fN l i 0,fN l i 1,fN l i 2,fN l i 3)) ?_ ?_ rfl
 .rintro i x hi rfl;have e1:=(tr.sc hi).en.t1;have e0:=(tr.sc hi).en.t0;have st:=O0 tr hi;have fa:=λt=>P' l i t
  have rd:=λt=>Iv tr hi (t:=t)
  have own:=λt=>P9 hi (t:=t)
  have oth:=λt=>P_ hi (t:=t)
  refine di ?_;refine bZ (aR ?_);have ht:(eN l i).1=0\/(eN l i).1=1\/(eN l i).1=2\/(eN l i).1=3:=by omega
  have hg:aK (T:=tE) l (i:Int)=eN l i:=rfl;dsimp only;rw[hg];generalize eN l i=e at*
  refine aU st ?_;obtain⟨(t:Int),e⟩:=e;dsimp only at ht;rcases ht with rfl|rfl|rfl|rfl
  .refine aY (λx=>x=(aj,(w,l),iI w (l.take i),(0,e),iI w (l.take (i+1)),fN l i 0,fN l i 1,fN l i 2,fN l i 3)) ?_ ?_
   .simp only[aV,bt,tO];exact aU (rd 0 rfl) (ar rfl)
   rintro x rfl;refine gw (aY (λx=>x=((w,l),iI w (l.take i),iI w (l.take (i+1)),fN l (i+1) 0,fN l (i+1) 1,fN l (i+1) 2,fN l (i+1) 3)) ?_ ?_)
   .simp only[aV,bt,tO];rw[own 0 rfl,oth 1 (by show ¬(0:Int)=1;decide),oth 2 (by show ¬(0:Int)=2;decide),oth 3 (by show ¬(0:Int)=3;decide)];have:=fa 0;refine aJ (λh=>bg (by simp;omega) (by omega) (ar ?_)) λh=>bg (by simp;omega) (by omega) (ar ?_)
    .have:tZ (0,e)=ai:=by unfold tZ;rw[aQ h];rfl
     rw[this]
    .have:tZ (0,e)=decide (e.1=23):=by unfold tZ;rw[bw h];rfl
     rw[this]
   rintro x rfl;exact ar (by rw[gE (by omega)])
  .refine aY (λx=>x=(aj,(w,l),iI w (l.take i),(1,e),iI w (l.take (i+1)),fN l i 0,fN l i 1,fN l i 2,fN l i 3)) ?_ ?_
   .simp only[aV,bt,tO];exact aU (rd 1 rfl) (ar rfl)
   rintro x rfl;refine gw (aY (λx=>x=((w,l),iI w (l.take i),iI w (l.take (i+1)),fN l (i+1) 0,fN l (i+1) 1,fN l (i+1) 2,fN l (i+1) 3)) ?_ ?_)
   .simp only[aV,bt,tO];rw[own 1 rfl,oth 0 (by show ¬(1:Int)=0;decide),oth 2 (by show ¬(1:Int)=2;decide),oth 3 (by show ¬(1:Int)=3;decide)];have:=fa 1;refine aJ (λh=>bg (by simp;omega) (by omega) (ar ?_)) λh=>bg (by simp;omega) (by omega) (ar ?_)
    .have:tZ (1,e)=ai:=by unfold tZ;rw[aQ h];rfl
     rw[this]
    .have:tZ (1,e)=decide (e.1=23):=by unfold tZ;rw[bw h];rfl
     rw[this]
   rintro x rfl;exact ar (by rw[gE (by omega)])
  .refine aY (λx=>x=(aj,(w,l),iI w (l.take i),(2,e),iI w (l.take (i+1)),fN l i 0,fN l i 1,fN l i 2,fN l i 3)) ?_ ?_
   .simp only[aV,bt,tO];exact aU (rd 2 rfl) (ar rfl)
   rintro x rfl;refine gw (aY (λx=>x=((w,l),iI w (l.take i),iI w (l.take (i+1)),fN l (i+1) 0,fN l (i+1) 1,fN l (i+1) 2,fN l (i+1) 3)) ?_ ?_)
   .simp only[aV,bt,tO];rw[own 2 rfl,oth 0 (by show ¬(2:Int)=0;decide),oth 1 (by show ¬(2:Int)=1;decide),oth 3 (by show ¬(2:Int)=3;decide)];have:=fa 2;refine aJ (λh=>bg (by simp;omega) (by omega) (ar ?_)) λh=>bg (by simp;omega) (by omega) (ar ?_)
    .have:tZ (2,e)=ai:=by unfold tZ;rw[aQ h];rfl
     rw[this]
    .have:tZ (2,e)=decide (e.1=23):=by unfold tZ;rw[bw h];rfl
     rw[this]
   rintro x rfl;exact ar (by rw[gE (by omega)])
  .refine aY (λx=>x=(aj,(w,l),iI w (l.take i),(3,e),iI w (l.take (i+1)),fN l i 0,fN l i 1,fN l i 2,fN l i 3)) ?_ ?_
   .simp only[aV,bt,tO];exact aU (rd 3 rfl) (ar rfl)
   rintro x rfl;refine gw (aY (λx=>x=((w,l),iI w (l.take i),iI w (l.take (i+1)),fN l (i+1) 0,fN l (i+1) 1,fN l (i+1) 2,fN l (i+1) 3)) ?_ ?_)
   .simp only[aV,bt,tO];rw[own 3 rfl,oth 0 (by show ¬(3:Int)=0;decide),oth 1 (by show ¬(3:Int)=1;decide),oth 2 (by show ¬(3:Int)=2;decide)];have:=fa 3;refine aJ (λh=>bg (by simp;omega) (by omega) (ar ?_)) λh=>bg (by simp;omega) (by omega) (ar ?_)
    .have:tZ (3,e)=ai:=by unfold tZ;rw[aQ h];rfl
     rw[this]
    .have:tZ (3,e)=decide (e.1=23):=by unfold tZ;rw[bw h];rfl
     rw[this]
   rintro x rfl;exact ar (by rw[gE (by omega)])
 .rintro x rfl;exact dj (ar rfl)
theorem Gg {w:WT} {l:List ET} (tr:TR (w,l)) (hn:¬w.2.2.2.2.1.length=4):eB (w,l)=ah:=by
 have hl:=tr.len;dsimp only at hl;unfold eB jS aX bf bu ch dC ja bK fg kP nZ bd bA bE bD aZ cK aF cH;rw[show gf 400 (aP (al (w,l).2))=aj from gx.2 (by dsimp only[au];omega)];simp only[aV,bt,tO];rw[VW8 tr.wx tr.vl];simp only[aV,bt,tO];rw[CS tr.wx];simp only[aV,bt,tO];rw[show decide ((aP w.2.2.2.2.1.length:Int)=4)=aj from bw (by dsimp only[au];omega),Bool.and_false];rfl
theorem afh {w:WT} {l:List ET} (tr:TR (w,l)) (hn:w.2.2.2.2.1.length=3):dR (w,l)=af (0,0):=by
 have hl:=tr.len;dsimp only at hl;refine ct ?_;unfold dR jT aX bf bu ch dC bK cN fg kP bd bA bE bD aZ cK aF cH;refine fP (gx.2 (by dsimp only[au];omega)) (aU (VW8 tr.wx tr.vl) (gw (aU (CS tr.wx) (bh (by show (c_ 0 (aP w.2.2.2.2.1.length)&&c_ (aP w.2.2.2.2.1.length) (aP w.2.2.2.2.1.length)&&a8 (aT (aP w.2.2.2.2.1.length)) 24&&decide ((aP w.2.2.2.2.1.length:Int)=3))=ai;rw[hn];rfl) ?_))));refine iJ l.length (by omega) (λi x=>x=((i:Int),(w,l),iI w (l.take i),fN l i 0,fN l i 1,fN l i 2)) ?_ ?_ rfl
 .rintro i x hi rfl;have e1:=(tr.sc hi).en.t1;have e0:=(tr.sc hi).en.t0;have st:=O0 tr hi;have fa:=λt=>P' l i t
  have rd:=λt=>Iv tr hi (t:=t)
  have own:=λt=>P9 hi (t:=t)
  have oth:=λt=>P_ hi (t:=t)
  refine di ?_;refine bZ (aR ?_);have ht:(eN l i).1=0\/(eN l i).1=1\/(eN l i).1=2:=by omega
  have hg:aK (T:=tE) l (i:Int)=eN l i:=rfl;dsimp only;rw[hg];generalize eN l i=e at*
  refine aU st ?_;obtain⟨(t:Int),e⟩:=e;dsimp only at ht;rcases ht with rfl|rfl|rfl
  .refine aY (λx=>x=(aj,(w,l),iI w (l.take i),(0,e),iI w (l.take (i+1)),fN l i 0,fN l i 1,fN l i 2)) ?_ ?_
   .simp only[aV,bt,tO];exact aU (rd 0 rfl) (ar rfl)
   rintro x rfl;refine gw (aY (λx=>x=((w,l),iI w (l.take i),iI w (l.take (i+1)),fN l (i+1) 0,fN l (i+1) 1,fN l (i+1) 2)) ?_ ?_)
   .simp only[aV,bt,tO];rw[own 0 rfl,oth 1 (by show ¬(0:Int)=1;decide),oth 2 (by show ¬(0:Int)=2;decide)];have:=fa 0;refine aJ (λh=>bg (by simp;omega) (by omega) (ar ?_)) λh=>bg (by simp;omega) (by omega) (ar ?_)
    .have:tZ (0,e)=ai:=by unfold tZ;rw[aQ h];rfl
     rw[this]
    .have:tZ (0,e)=decide (e.1=23):=by unfold tZ;rw[bw h];rfl
     rw[this]
   rintro x rfl;exact ar (by rw[gE (by omega)])
  .refine aY (λx=>x=(aj,(w,l),iI w (l.take i),(1,e),iI w (l.take (i+1)),fN l i 0,fN l i 1,fN l i 2)) ?_ ?_
   .simp only[aV,bt,tO];exact aU (rd 1 rfl) (ar rfl)
   rintro x rfl;refine gw (aY (λx=>x=((w,l),iI w (l.take i),iI w (l.take (i+1)),fN l (i+1) 0,fN l (i+1) 1,fN l (i+1) 2)) ?_ ?_)
   .simp only[aV,bt,tO];rw[own 1 rfl,oth 0 (by show ¬(1:Int)=0;decide),oth 2 (by show ¬(1:Int)=2;decide)];have:=fa 1;refine aJ (λh=>bg (by simp;omega) (by omega) (ar ?_)) λh=>bg (by simp;omega) (by omega) (ar ?_)
    .have:tZ (1,e)=ai:=by unfold tZ;rw[aQ h];rfl
     rw[this]
    .have:tZ (1,e)=decide (e.1=23):=by unfold tZ;rw[bw h];rfl
     rw[this]
   rintro x rfl;exact ar (by rw[gE (by omega)])
  .refine aY (λx=>x=(aj,(w,l),iI w (l.take i),(2,e),iI w (l.take (i+1)),fN l i 0,fN l i 1,fN l i 2)) ?_ ?_
   .simp only[aV,bt,tO];exact aU (rd 2 rfl) (ar rfl)
   rintro x rfl;refine gw (aY (λx=>x=((w,l),iI w (l.take i),iI w (l.take (i+1)),fN l (i+1) 0,fN l (i+1) 1,fN l (i+1) 2)) ?_ ?_)
   .simp only[aV,bt,tO];rw[own 2 rfl,oth 0 (by show ¬(2:Int)=0;decide),oth 1 (by show ¬(2:Int)=1;decide)];have:=fa 2;refine aJ (λh=>bg (by simp;omega) (by omega) (ar ?_)) λh=>bg (by simp;omega) (by omega) (ar ?_)
    .have:tZ (2,e)=ai:=by unfold tZ;rw[aQ h];rfl
     rw[this]
    .have:tZ (2,e)=decide (e.1=23):=by unfold tZ;rw[bw h];rfl
     rw[this]
   rintro x rfl;exact ar (by rw[gE (by omega)])
 .rintro x rfl;exact dj (ar rfl)
theorem OM {w:WT} {l:List ET} (tr:TR (w,l)) (hn:¬w.2.2.2.2.1.length=3):dR (w,l)=ah:=by
 have hl:=tr.len;dsimp only at hl;unfold dR jT aX bf bu ch dC bK cN fg kP bd bA bE bD aZ cK aF cH;rw[show gf 400 (aP (al (w,l).2))=aj from gx.2 (by dsimp only[au];omega)];simp only[aV,bt,tO];rw[VW8 tr.wx tr.vl];simp only[aV,bt,tO];rw[CS tr.wx];simp only[aV,bt,tO];rw[show decide ((aP w.2.2.2.2.1.length:Int)=3)=aj from bw (by dsimp only[au];omega),Bool.and_false];rfl
theorem afi {w:WT} {l:List ET} (tr:TR (w,l)) (hn:w.2.2.2.2.1.length=2):dz (w,l)=af (0,0):=by
 have hl:=tr.len;dsimp only at hl;refine ct ?_;unfold dz jU aX bf bu ch bK dx fg bd bA bE bD aZ cK aF cH;refine fP (gx.2 (by dsimp only[au];omega)) (aU (VW8 tr.wx tr.vl) (gw (aU (CS tr.wx) (bh (by show (c_ 0 (aP w.2.2.2.2.1.length)&&c_ (aP w.2.2.2.2.1.length) (aP w.2.2.2.2.1.length)&&a8 (aT (aP w.2.2.2.2.1.length)) 24&&decide ((aP w.2.2.2.2.1.length:Int)=2))=ai;rw[hn];rfl) ?_))));refine iJ l.length (by omega) (λi x=>x=((i:Int),(w,l),iI w (l.take i),fN l i 0,fN l i 1)) ?_ ?_ rfl
 .rintro i x hi rfl;have e1:=(tr.sc hi).en.t1;have e0:=(tr.sc hi).en.t0;have st:=O0 tr hi;have fa:=λt=>P' l i t
  have rd:=λt=>Iv tr hi (t:=t)
  have own:=λt=>P9 hi (t:=t)
  have oth:=λt=>P_ hi (t:=t)
  refine di ?_;refine bZ (aR ?_);have ht:(eN l i).1=0\/(eN l i).1=1:=by omega
  have hg:aK (T:=tE) l (i:Int)=eN l i:=rfl;dsimp only;rw[hg];generalize eN l i=e at*
  refine aU st ?_;obtain⟨(t:Int),e⟩:=e;dsimp only at ht;rcases ht with rfl|rfl
  .refine aY (λx=>x=(aj,(w,l),iI w (l.take i),(0,e),iI w (l.take (i+1)),fN l i 0,fN l i 1)) ?_ ?_
   .simp only[aV,bt,tO];exact aU (rd 0 rfl) (ar rfl)
   rintro x rfl;refine gw (aY (λx=>x=((w,l),iI w (l.take i),iI w (l.take (i+1)),fN l (i+1) 0,fN l (i+1) 1)) ?_ ?_)
   .simp only[aV,bt,tO];rw[own 0 rfl,oth 1 (by show ¬(0:Int)=1;decide)];have:=fa 0;refine aJ (λh=>bg (by simp;omega) (by omega) (ar ?_)) λh=>bg (by simp;omega) (by omega) (ar ?_)
    .have:tZ (0,e)=ai:=by unfold tZ;rw[aQ h];rfl
     rw[this]
    .have:tZ (0,e)=decide (e.1=23):=by unfold tZ;rw[bw h];rfl
     rw[this]
   rintro x rfl;exact ar (by rw[gE (by omega)])
  .refine aY (λx=>x=(aj,(w,l),iI w (l.take i),(1,e),iI w (l.take (i+1)),fN l i 0,fN l i 1)) ?_ ?_
   .simp only[aV,bt,tO];exact aU (rd 1 rfl) (ar rfl)
   rintro x rfl;refine gw (aY (λx=>x=((w,l),iI w (l.take i),iI w (l.take (i+1)),fN l (i+1) 0,fN l (i+1) 1)) ?_ ?_)
   .simp only[aV,bt,tO];rw[own 1 rfl,oth 0 (by show ¬(1:Int)=0;decide)];have:=fa 1;refine aJ (λh=>bg (by simp;omega) (by omega) (ar ?_)) λh=>bg (by simp;omega) (by omega) (ar ?_)
    .have:tZ (1,e)=ai:=by unfold tZ;rw[aQ h];rfl
     rw[this]
    .have:tZ (1,e)=decide (e.1=23):=by unfold tZ;rw[bw h];rfl
     rw[this]
   rintro x rfl;exact ar (by rw[gE (by omega)])
 .rintro x rfl;exact dj (ar rfl)
theorem abc {w:WT} {l:List ET} (tr:TR (w,l)) (hn:¬w.2.2.2.2.1.length=2):dz (w,l)=ah:=by
 have hl:=tr.len;dsimp only at hl;unfold dz jU aX bf bu ch bK dx fg bd bA bE bD aZ cK aF cH;rw[show gf 400 (aP (al (w,l).2))=aj from gx.2 (by dsimp only[au];omega)];simp only[aV,bt,tO];rw[VW8 tr.wx tr.vl];simp only[aV,bt,tO];rw[CS tr.wx];simp only[aV,bt,tO];rw[show decide ((aP w.2.2.2.2.1.length:Int)=2)=aj from bw (by dsimp only[au];omega),Bool.and_false];rfl
theorem afj {w:WT} {l:List ET} (tr:TR (w,l)) (hn:w.2.2.2.2.1.length=1):eC (w,l)=af (0,0):=by
 have hl:=tr.len;dsimp only at hl;refine ct ?_;unfold eC lZ aX bf bu bK cN bd bA bE bD aZ cK aF cH;refine fP (gx.2 (by dsimp only[au];omega)) (aU (VW8 tr.wx tr.vl) (gw (aU (CS tr.wx) (bh (by show (c_ 0 (aP w.2.2.2.2.1.length)&&c_ (aP w.2.2.2.2.1.length) (aP w.2.2.2.2.1.length)&&a8 (aT (aP w.2.2.2.2.1.length)) 24&&decide ((aP w.2.2.2.2.1.length:Int)=1))=ai;rw[hn];rfl) ?_))));refine iJ l.length (by omega) (λi x=>x=((i:Int),(w,l),iI w (l.take i),fN l i 0)) ?_ ?_ rfl
 .rintro i x hi rfl;have e1:=(tr.sc hi).en.t1;have e0:=(tr.sc hi).en.t0;have st:=O0 tr hi;have fa:=λt=>P' l i t
  have rd:=λt=>Iv tr hi (t:=t)
  have own:=λt=>P9 hi (t:=t)
  have oth:=λt=>P_ hi (t:=t)
  refine di ?_;refine bZ (aR ?_);have ht:(eN l i).1=0:=by omega
  have hg:aK (T:=tE) l (i:Int)=eN l i:=rfl;dsimp only;rw[hg];generalize eN l i=e at*
  refine aU st ?_;obtain⟨(t:Int),e⟩:=e;dsimp only at ht;subst ht
  .refine aY (λx=>x=(aj,(w,l),iI w (l.take i),(0,e),iI w (l.take (i+1)),fN l i 0)) ?_ ?_
   .simp only[aV,bt,tO];exact aU (rd 0 rfl) (ar rfl)
   rintro x rfl;refine gw (aY (λx=>x=((w,l),iI w (l.take i),iI w (l.take (i+1)),fN l (i+1) 0)) ?_ ?_)
   .simp only[aV,bt,tO];rw[own 0 rfl];have:=fa 0;refine aJ (λh=>bg (by simp;omega) (by omega) (ar ?_)) λh=>bg (by simp;omega) (by omega) (ar ?_)
    .have:tZ (0,e)=ai:=by unfold tZ;rw[aQ h];rfl
     rw[this]
    .have:tZ (0,e)=decide (e.1=23):=by unfold tZ;rw[bw h];rfl
     rw[this]
   rintro x rfl;exact ar (by rw[gE (by omega)])
 .rintro x rfl;exact dj (ar rfl)
theorem anc {w:WT} {l:List ET} (tr:TR (w,l)):mL (w,l)=af (0,0):=by
 have h1:=tr.vl.t0;have I:=tr.vl.t;dsimp only at h1 I;unfold mL;have:w.2.2.2.2.1.length=4\/w.2.2.2.2.1.length=3\/w.2.2.2.2.1.length=2\/w.2.2.2.2.1.length=1:=by omega
 rcases this with h|h|h|h
 .rw[afg tr h];rfl
 .rw[Gg tr (by omega),afh tr h];rfl
 .rw[Gg tr (by omega),OM tr (by omega),afi tr h];rfl
 .rw[Gg tr (by omega),OM tr (by omega),abc tr (by omega),afj tr h];rfl
theorem Rk {w:WT} {l:List ET} (tr:TR (w,l)):ov w=af (HS.zero w).t:=by
 have wb:=tr.wb;dsimp only at wb;exact aev w (by have:=wb.c;unfold wJ;omega) (by have:=wb.l;unfold wJ;omega) (by have:=wb.f;unfold wJ;omega) (by have:=wb.t;unfold wJ;omega)
theorem afy {w:WT} {l:List ET} (tr:TR (w,l)) {i:Nat} (hi:i<l.length):sY (w,(NP w (l.take i)).t,eN l i)=af ((NP w (l.take (i+1))).t,IK w l i):=by
 have hl:=tr.len;dsimp only at hl;have:=ai6 (Pz tr i (by omega)).1 (by omega) (yl tr hi) (kB tr hi);rw[DB w hi];exact this
def tA {α:Type} (n:Nat) (f:Nat->α) (z:α) (i:Nat):List α:=(bx n).map λk=>if k<i then f k else z
theorem Ca {α:Type} (n:Nat) (f:Nat->α) (z:α) (i:Nat):(tA n f z i).length=n:=by simp[tA]
theorem I3 {α:Type} {n:Nat} {f:Nat->α} {z:α} {i:Nat} (h:i<n):(tA n f z i).set i (f i)=tA n f z (i+1):=by
 unfold tA;apply dJ
 .simp
 intro k h1 h2;simp only[tu,bS,fV]at h1;rw[vG];simp only[ry,nU];by_cases e:i=k
 .subst e;rw[aD rfl,aD (by omega)]
 .rw[aA e];by_cases g:k<i
  .rw[aD g,aD (by omega)]
  .rw[aA g,aA (by omega)]
theorem Is {α:Type} (n:Nat) (f:Nat->α) (z:α):tA n f z 0=aG n z:=by unfold tA;simp[List.map_const']
theorem U9 {α:Type} (n:Nat) (f:Nat->α) (z:α):tA n f z n=(bx n).map f:=qB λk hk=>by rw[aD (lD.1 hk)]
abbrev csN (w:WT) (l:List ET):List η:=(bx l.length).map (IK w l)
theorem abb {w:WT} {l:List ET} (tr:TR (w,l)):pV (w,l)=af (csN w l,0):=by
 have hl:=tr.len;dsimp only at hl;refine ct ?_;unfold pV yd aX bK ck bA iO bE bD aZ cK aF cH;refine aU (anc tr) (gw (aU (Rk tr) (dc (dc (dN (by dsimp only[au];omega) (dN (by omega) (bg (by simp;omega) (by omega) ?_)))))));refine iJ l.length (by omega) (λi x=>x=((i:Int),(w,l),(NP w (l.take i)).t,tA l.length (IK w l) [] i)) ?_ ?_ ?_
 .rintro i x hi rfl;refine di ?_;refine bZ (aR ?_);refine aU (afy tr hi) ?_;refine aS (by dsimp only;omega) (by dsimp only;rw[Ca];omega) (aS (by dsimp only;omega) (by dsimp only;rw[Ca];omega) (ar ?_));dsimp only;rw[gE (by omega),eD,I3 hi]
 .rintro x rfl;refine dj (ar ?_);dsimp only;rw[U9]
 .show _=_;rw[Is];rfl
def lG (x:Int×Int×Int×Int×Int×η×η):Option (Bool):=
 (jn (α:=Bool) (bd x.2.1 3 (aF ai) (aF (decide ((x.2.1:Int)=4)))) λI=>(af I))
def my (x:dt×Int×Int×Int×Int×Int×η×η):Option (Bool):=
 (jn (α:=Bool) (obind (lG x.2) λJ=>(bcase J (iY 0 x.p3 (bA x.p3 (aZ x.1.1) (bD kK x.1.1 x.p3 λI=>(aF I.2.2.2.1)) (aF aj)) (aF aj)) (aF aj))) λM=>(af M))
def o_ (x:gd×Int×Int×Int×Int×Int×η×η):Option (Bool):=
 (jn (α:=Bool) (obind (lG x.1) λJ=>(bcase J (obind (lG x.2) λI=>(bcase I (iO x.1.1 x.2.1 (bd x.1.p2 x.p3 (bd x.1.2.1 4 (aF ai) (aF (decide ((x.p2:Int)=4)))) (aF aj)) (aF aj)) (aF aj))) (aF aj))) λM=>(af M))
def mA (x:(List gd)×Int):Option (Int):=
 (iter (σ:=Int) (λI=>(iY 0 I (bD gr x.1 I λM=>(bD gr x.1 x.2 λJ=>(bd M.1 J.1 (aF I) (cK (bk .i64 (I-1)))))) (aF (-1)))) (bk .i64 (x.2-1)))
def sT (x:(List gd)×Int):Option (Int):=
 (iter (σ:=Γ) (λI=>(bA I.2 x.2 (jn (α:=Int) (bD gr x.1 I.2 λM=>(bD gr x.1 x.2 λJ=>(bd M.1 J.1 (aF (cH I.1)) (aF I.1)))) λU=>(cK (U,(cH I.2)))) (aF I.1))) (0,0))
def uE (x:(List gd)×Int):Option (Int):=
 (obind (mA x) λJ=>(jn (α:=Bool) (bA J 0 (aF ai) (bD gr x.1 J λz3=>(aF (!decide ((z3.2.1:Int)=16))))) λx2=>(bcase x2 (af (-1)) (iter (σ:=Int) (λI=>(bA I x.2 (jn (α:=Bool) (bD gr x.1 I λz6=>(bd z6.2.1 18 (bD gr x.1 I λz7=>(bD gr x.1 x.2 λz8=>(bd z7.2.2.2.1 z8.1 (aF ai) (bD gr x.1 I λz9=>(bd z9.2.1 19 (bD gr x.1 I λz10=>(bD gr x.1 J λZ=>(aF (decide ((z10.2.2.1:Int)=Z.2.2.1))))) (aF aj)))))) (bD gr x.1 I λY=>(bd Y.2.1 19 (bD gr x.1 I λU=>(bD gr x.1 J λM=>(aF (decide ((U.2.2.1:Int)=M.2.2.1))))) (aF aj))))) λx5=>(bcase x5 (aF I) (cK (cH I)))) (aF (-1)))) (cH J)))))
def wQ (x:dt×(List gd)×Int):Option η:=
 (bD gr x.2.1 x.2.2 λz1=>(iter (σ:=Int×dt×η×Int×Int×Int×Int×Int×η×η) (λI=>(bA I.1 x.2.2 (bD gr x.2.1 I.1 λz3=>(jn (α:=dt×η×Int×Int×Int×Int×Int×η×η) (jn (α:=Bool×dt×η×gd×Int×Int×Int×Int×Int×η×η) (bd I.p4 1 (bd z3.2.1 20 (aF ((decide ((z3.p2:Int)=I.p3)),I.2.1,I.p2,I.q3,z3)) (aF (aj,I.2.1,I.p2,I.q3,z3))) (aF (aj,I.2.1,I.p2,I.q3,z3))) λU=>(bcase U.1 (bE (a8 (al U.p2+al ([I.1])) 8) (aF (U.2.1,(U.p2++([I.1])),U.p3))) (jn (α:=Bool×dt×η×gd×Int×Int×Int×Int×Int×η×η) (bd U.p3.2.1 21 (aF ((decide ((U.p4:Int)=U.p3.p2)),U.2)) (aF (aj,U.2))) λM=>(bcase M.1 (bE (a8 (al M.p2+al ([I.1])) 8) (aF (M.2.1,(M.p2++([I.1])),M.p3))) (jn (α:=Bool×dt×η×gd×Int×Int×Int×Int×Int×η×η) (bd M.p3.2.1 3 (obind (my (M.2.1,M.p3)) λy8=>(bcase y8 (bd M.p5 4 (aF ((decide ((M.p6:Int)=M.p3.p2)),M.2)) (aF (aj,M.2))) (aF (aj,M.2)))) (aF (aj,M.2))) λJ=>(bcase J.1 (bE (a8 (al J.p2+al ([I.1])) 8) (aF (J.2.1,(J.p2++([I.1])),J.p3))) (jn (α:=Bool×dt×η×Int×Int×Int×Int×Int×η×η) (bd J.p3.2.1 23 (bd J.p5 22 (aF ((decide ((J.p6:Int)=J.p3.p2)),J.2.1,J.p2,J.p3)) (aF (aj,J.2.1,J.p2,J.p3))) (aF (aj,J.2.1,J.p2,J.p3))) λZ=>(bcase Z.1 (bE (a8 (al Z.p2+al ([I.1])) 8) (aF (Z.2.1,(Z.p2++([I.1])),Z.q3))) (aF Z.2))))))))) λx4=>(cK ((cH I.1),x4)))) (obind (jn (α:=η) (bd I.p4 17 (obind (uE x.2) λY=>(iY 0 Y (bE (a8 (al I.p2+al ([Y])) 8) (aF (I.p2++([Y])))) (aF I.p2))) (aF I.p2)) λx10=>(af x10)) λr=>af (bO r)))) (0,x.1,([]:η),z1)))
def wP (x:dt×(List gd)×Int):Option η:=
 (bD gr x.2.1 x.2.2 λz1=>(obind (pa (x.1,z1)) λy2=>(iter (σ:=Int×dt×η) (λI=>(bA I.1 x.2.2 (jn (α:=dt×η) (bD gr x.2.1 I.1 λz5=>(obind (o9 (I.2.1,z5)) λy6=>(jn (α:=Bool×dt×η) (iY 0 y2.1 (bd y6.1 y2.1 (bcase y2.2 (bcase (!y6.2) (aF (ai,I.2)) (bD gr x.2.1 x.2.2 λz8=>(bd z8.2.1 12 (bD gr x.2.1 I.1 λz9=>(aF ((decide ((z9.2.1:Int)=13)),I.2))) (aF (aj,I.2))))) (aF (ai,I.2))) (bD gr x.2.1 x.2.2 λZ=>(bd Z.2.1 12 (bD gr x.2.1 I.1 λY=>(aF ((decide ((Y.2.1:Int)=13)),I.2))) (aF (aj,I.2))))) (bD gr x.2.1 x.2.2 λU=>(bd U.2.1 12 (bD gr x.2.1 I.1 λM=>(aF ((decide ((M.2.1:Int)=13)),I.2))) (aF (aj,I.2))))) λJ=>(bcase J.1 (bE (a8 (al J.2.2+al ([I.1])) 8) (aF (J.2.1,(J.2.2++([I.1]))))) (aF J.2))))) λx4=>(cK ((cH I.1),x4))) (aF I.2.2))) (0,x.1,([]:η)))))
def vL (x:η×Int×Int):Option (Bool):=
 (obind (Do (x.1,x.2.2)) λI=>(af (c_ x.2.1 I)))
def qN (x:(List gd)×Int):Option Γ:=
 (obind (sT x) λJ=>(bD gr x.1 x.2 λI=>(af ((bk .i64 (1+J)),I.1))))
def ne (x:(dt×List gd)×List η):Option OE:=
 (iter (σ:=Int×(dt×List gd)×List Γ) (λJ=>(bA J.1 (aZ x.1.2) (iter (σ:=Int×(dt×List gd)×List Γ) (λI=>(bA I.1 J.1 (jn (α:=(dt×List gd)×List Γ) (jn (α:=Bool×(dt×List gd)×List Γ) (bD gr I.2.1.2 I.1 λz5=>(bD gr I.2.1.2 J.1 λz6=>(obind (o_ (z5,z6)) λy7=>(bcase y7 (bD gr I.2.1.2 J.1 λz8=>(obind (my (I.2.1.1,z8)) λy9=>(bcase (!y9) (bD (.sl aM) x.2 J.1 λU=>(obind (qN (I.2.1.2,I.1)) λZ=>(obind (vL (U,Z)) λY=>(aF ((!Y),I.2))))) (aF (aj,I.2))))) (aF (aj,I.2)))))) λM=>(bcase M.1 (bE (a8 (al M.2.2+al ([(I.1,J.1)])) 16) (aF (M.2.1,(M.2.2++([(I.1,J.1)]))))) (aF M.2))) λx3=>(cK ((cH I.1),x3))) (aF (kO ((cH J.1),I.2))))) (0,J.2)) (aF J.2.2))) (0,x.1,([]:List Γ)))
def ng (x:OE×List Γ):Option (Bool):=
 (iO (aZ x.1) (aZ x.2) (af aj) (iter (σ:=Int) (λI=>(bA I (aZ x.1) (bD gQ x.1 I λM=>(bD gQ x.2 I λJ=>(bcase (N3 (.pr aM (.pr aM .un)) (M.1,M.2,()) (J.1,J.2,()) !=ai) (aF aj) (cK (cH I))))) (aF ai))) 0))
theorem NG (k j v:Int):∀m:List Γ,tP (K:=.int .i64) (V:=.int .i64) j (Jr (K:=.int .i64) (V:=.int .i64) k v m)=if j=k then af v else tP (K:=.int .i64) (V:=.int .i64) j m
 |[]=>by
  show (if decide (j=k)=ai then af v else ah)=_;by_cases h:j=k<;>simp[h,tP]
 |(a,b)::r=>by
  have I:=NG k j v r;show tP (K:=.int .i64) (V:=.int .i64) j (if decide (k=a)=ai then (k,v)::r else (a,b)::Jr (K:=.int .i64) (V:=.int .i64) k v r)=if j=k then af v else if decide (j=a)=ai then af b else tP (K:=.int .i64) (V:=.int .i64) j r
  by_cases h:k=a
  .subst h;rw[aD (aQ rfl)];show (if decide (j=k)=ai then af v else tP (K:=.int .i64) (V:=.int .i64) j r)=_;by_cases g:j=k<;>simp[g]
  .rw[aA (by simpa using h)];show (if decide (j=a)=ai then af b else tP (K:=.int .i64) (V:=.int .i64) j (Jr (K:=.int .i64) (V:=.int .i64) k v r))=_;rw[I];by_cases g:j=a
   .subst g;rw[aD (aQ rfl),aA λq=>h q.symm,aD (aQ rfl)]
   .simp only[g,cD,cG,ey]
def UZ (l:List ET) (i:Nat):Γ:=((qA l (bQ l i).th i:Int)+1,((bQ l i).th:Int))
theorem Et (l:List ET) (u:Nat):∀i,qA l u i<=i
 |0=>bV _
 |i+1=>by have:=Et l u i;rw[qA];split<;>omega
theorem LZ (c:η) (a:Int) (u:Nat):mH (c,a,(u:Int))=af (decide (a<=c.getD u 0)):=by
 unfold mH;dsimp only;rw[L2];rfl
abbrev Kf0:Ty:=(.st (.pr aM (.pr aM (.pr aM aM))))
abbrev Kf1:Ty:=(.st (.pr EH (.pr EH EH)))
abbrev Yf0:=((List η)×(List η)×(List η)×(List η)×(List η)×η×(List η)×η)
abbrev Yf1:=(π)
abbrev Yf2:=((List η)×(List η)×Int)
def AU (it:zj) (x:dt×YS×Int×Int×Int×Int×Int×η×η):Option (Yf0×η×List η):=
 (obind (rZ (x.2.1.1,x.2.1.2.1,x.2.1.p2,x.2.1.p3,x.2.1.p4,x.2.1.p5,x.2.1.p6,x.2.1.p7,x.2.1.q8)) λU=>(ck (eP x.p2 (al U.2.1)) (obind (r7 ((x.p2,x.p3,x.p4,x.p5,x.p6,x.p7,x.q8),U.1,(x.1.1,x.1.2.1,x.1.p2,x.1.p3,x.1.p4,x.1.q5),U.2.1,U.p2,U.p3,U.p4,U.p5,U.p6,U.p7,U.q8)) λJ=>(bE (aC (al U.q8) (al J.q11)&&(aC (al U.p7) (al J.p10)&&(aC (al U.p6) (al J.p9)&&(aC (al U.p5) (al J.p8)&&(aC (al U.p4) (al J.p7)&&(aC (al U.p3) (al J.p6)&&(aC (al U.p2) (al J.p5)&&(aC (al U.2.1) (al J.p4)&&ai)))))))) (it (Int×dt×gd×η×η×(List η)×(List η)×(List η)×(List η)×(List η)×(List η)×(List η)×η) _ (λI=>(bA I.1 (aZ J.1) (vp I.1 J.1 (obind (iR (I.p4,(aK (T:=(.sl aM)) J.1 I.1))) λZ=>(cK ((cH I.1),(I.2.1.1,I.2.1.2.1,I.2.1.p2,I.2.1.p3,I.2.1.p4,I.2.1.q5),(I.p2.1,I.p2.2.1,I.p2.p2,I.p2.p3,I.p2.p4,I.p2.p5,I.p2.q6),I.p3,Z,I.p5,I.p6,I.p7,I.p8,I.p9,I.p10,I.p11,I.q12)))) (obind (obind (ql (I.p4,I.p2.1)) λY=>(obind (qi (((I.2.1.1,I.2.1.2.1,I.2.1.p2,I.2.1.p3,I.2.1.p4,I.2.1.q5),I.p2.1,I.p2.2.1,I.p2.p2,I.p2.p3,I.p2.p4,I.p2.p5,I.p2.q6),I.p3,I.p5,I.p6,I.p7,I.p8,I.p9,I.p10,I.p11,I.q12,Y)) λM=>(bE (aC (al Y) (al M.q9)&&(aC (al I.q12) (al M.p8)&&(aC (al I.p11) (al M.p7)&&(aC (al I.p10) (al M.p6)&&(aC (al I.p9) (al M.p5)&&(aC (al I.p8) (al M.p4)&&(aC (al I.p7) (al M.p3)&&(aC (al I.p6) (al M.p2)&&(aC (al I.p5) (al M.2.1)&&ai))))))))) (af ((M.p2,M.p3,M.p4,M.p5,M.p6,M.1,M.p7,M.p8),M.q9,M.2.1))))) λr=>af (bO r)))) (0,(J.p3.1,J.p3.2.1,J.p3.p2,J.p3.p3,J.p3.p4,J.p3.q5),(J.2.1.1,J.2.1.2.1,J.2.1.p2,J.2.1.p3,J.2.1.p4,J.2.1.p5,J.2.1.q6),J.p2,(aK (T:=(.sl aM)) U.2.1 x.p2),J.p4,J.p5,J.p6,J.p7,J.p8,J.p9,J.p10,J.q11))))))
def Fb (x:dt×YS×Int×Int×Int×Int×Int×η×η):Option (Yf0×η×List η):=AU @iter x
def qj (x:dt×YS×Int×Int×Int×Int×Int×η×η):Option (Yf0×η×List η):=AU @gh x
def jE (x:dt×Int×Int×Int×Int×Int×η×η):Option (Bool):=
 (jn (α:=Bool) (bd x.p2 3 (bD kK x.1.1 x.p3 λJ=>(aF (!J.2.2.2.1))) (bd x.p2 4 (bD kK x.1.1 x.p3 λI=>(aF (!I.2.2.2.1))) (aF aj))) λM=>(af M))
def vU (it:zj) (x:dt×List gd):Option Yf2:=
 (obind (pV x) λy1=>(iO y1.2 0 (af (([]:List η),([]:List η),y1.2)) (obind (ov x.1) λy2=>(ck (c_ 0 (aZ x.2)&&c_ (aZ x.2) (aZ x.2)&&a8 (aT (aZ x.2)) 24) (it (Int×(dt×List gd)×(List η)×(List η)×YS×List Γ) _ (λI=>(bA I.1 (aZ x.2) (bD gr x.2 I.1 λM=>(obind (qj (I.2.1.1,I.p4,M)) λJ=>(ck (eP I.1 (al I.p2)) (kl (.sl aM) (cz I.p2 I.1 J.2.1) I.1 λz6=>(obind (xW z6) λU=>(ck (eP I.1 (al I.p3)) (jn (α:=(dt×List gd)×(List η)×(List η)×Yf0×OE×List η) (bd M.2.1 3 (bcase (Pk (K:=aM) (V:=aM) M.p2 I.q5) (kl (.sl aM) (cz I.p2 I.1 J.2.1) I.1 λz9=>(kl (.sl aM) (cz I.p3 I.1 U) (Gt (K:=aM) (V:=aM) M.p2 I.q5 0) λz10=>(obind (iR (z9,z10)) λZ=>(ck (eP I.1 (al (cz I.p3 I.1 U))) (kl (.sl aM) (cz (cz I.p3 I.1 U) I.1 Z) I.1 λz12=>(obind (xW z12) λy13=>(ck (eP M.1 (al J.2.2)) (aF (I.2.1,(cz I.p2 I.1 J.2.1),(cz (cz I.p3 I.1 U) I.1 Z),J.1,I.q5,(cz J.2.2 M.1 y13)))))))))) (aF (I.2.1,(cz I.p2 I.1 J.2.1),(cz I.p3 I.1 U),J.1,I.q5,J.2.2))) (bd M.2.1 4 (aF (I.2.1,(cz I.p2 I.1 J.2.1),(cz I.p3 I.1 U),J.1,(Jr (K:=aM) (V:=aM) M.p2 I.1 I.q5),J.2.2)) (aF (I.2.1,(cz I.p2 I.1 J.2.1),(cz I.p3 I.1 U),J.1,I.q5,J.2.2)))) λY=>(cK ((cH I.1),Y.1,Y.2.1,Y.p2,(Y.q5,Y.p3),Y.p4))))))))) (aF (I.p2,I.p3,0)))) (0,x,(aG (aT (aZ x.2)) ([]:η)),(aG (aT (aZ x.2)) ([]:η)),y2,([]:List Γ)))))))
def zL (x:dt×List gd):Option Yf2:=vU @iter x
def m_ (x:dt×List gd):Option Yf2:=vU @gh x
def x_ (it:zj) (x:dt×List gd):Option (OE×Int):=
 (obind (m_ x) λy1=>(iO y1.2.2 0 (af (([]:List Γ),y1.2.2)) (bE (c_ 0 (aZ x.2)&&c_ (aZ x.2) (aZ x.2)&&a8 (aT (aZ x.2)) 16) (it (Int×(dt×List gd)×Yf1×OE×List Γ) _ (λI=>(bA I.1 (aZ x.2) (jn (α:=(dt×List gd)×Yf1×OE×List Γ) (bD gr x.2 I.1 λz4=>(jn (α:=(dt×List gd)×Yf1×OE×OE×Int×Int×Int×Int×Int×η×η) (bd z4.1 0 (aF (I.2.1,((cH I.p2.1),I.p2.2),I.p3,I.q4,0,z4.2)) (bd z4.1 1 (aF (I.2.1,(I.p2.1,(cH I.p2.2.1),I.p2.2.2),I.p3,I.q4,1,z4.2)) (bd z4.1 2 (aF (I.2.1,(I.p2.1,I.p2.2.1,(cH I.p2.p2),I.p2.q3),I.p3,I.q4,2,z4.2)) (bd z4.1 3 (aF (I.2.1,(I.p2.1,I.p2.2.1,I.p2.p2,(cH I.p2.q3)),I.p3,I.q4,3,z4.2)) ah)))) λJ=>(jn (α:=(dt×List gd)×Yf1×OE×OE×Int×Int×Int×Int×Int×η×η) (bd J.p4 0 (ck (eP I.1 (al J.p2)) (aF (J.1,J.2.1,(cz J.p2 I.1 (J.2.1.1,0)),J.p3,0,J.q5))) (bd J.p4 1 (ck (eP I.1 (al J.p2)) (aF (J.1,J.2.1,(cz J.p2 I.1 (J.2.1.2.1,1)),J.p3,1,J.q5))) (bd J.p4 2 (ck (eP I.1 (al J.p2)) (aF (J.1,J.2.1,(cz J.p2 I.1 (J.2.1.p2,2)),J.p3,2,J.q5))) (bd J.p4 3 (ck (eP I.1 (al J.p2)) (aF (J.1,J.2.1,(cz J.p2 I.1 (J.2.1.q3,3)),J.p3,3,J.q5))) ah)))) λY=>(obind (jE (Y.1.1,Y.q4)) λy7=>(bcase (!y7) (aF (Y.1,Y.2.1,Y.p2,Y.p3)) (bE (c_ 0 I.1&&c_ I.1 (al Y.1.2)) (it (Int×(dt×List gd)×Yf1×OE×OE×Int×Int×Int×Int×Int×η×η) _ (λM=>(bA M.1 (aP (al (dI (aT I.1) Y.1.2))) (jn (α:=(dt×List gd)×Yf1×OE×OE×Int×Int×Int×Int×Int×η×η) (bD gr (dI (aT I.1) Y.1.2) M.1 λZ=>(jn (α:=Bool×(dt×List gd)×Yf1×OE×OE×Int×Int×Int×Int×Int×η×η) (obind (jE (M.2.1.1,Z)) λy12=>(bcase y12 (bd Z.p2 M.p7 (iO Z.1 M.p5 (bd Z.2.1 4 (aF (ai,M.2)) (aF ((decide ((M.p6:Int)=4)),M.2))) (aF (aj,M.2))) (aF (aj,M.2))) (aF (aj,M.2)))) λx11=>(jn (α:=Bool×(dt×List gd)×Yf1×OE×OE×Int×Int×Int×Int×Int×η×η) (bcase x11.1 (bD (.sl aM) y1.1 I.1 λz14=>(kl gQ x11.p3 M.1 λz15=>(obind (mH (z14,z15)) λy16=>(aF ((!y16),x11.2))))) (aF (aj,x11.2))) λU=>(bcase U.1 (bE (a8 (al U.p4+al ([(M.1,I.1)])) 16) (aF (U.2.1,U.p2,U.p3,(U.p4++([(M.1,I.1)])),U.q5))) (aF U.2))))) λx9=>(cK ((cH M.1),x9))) (aF (bO (M.2.1,M.p2,M.p3,M.p4))))) (0,Y)))))))) λx3=>(cK ((cH I.1),x3))) (aF (I.q4,0)))) (0,x,(0,0,0,0),(aG (aT (aZ x.2)) ((0,0):Γ)),([]:List Γ))))))
def Ck (x:dt×List gd):Option (OE×Int):=x_ @iter x
def m8 (x:dt×List gd):Option (OE×Int):=x_ @gh x
def lw (x:dt×List gd):Option ((List η)×List η):=
 (iter (σ:=Int×(dt×List gd)×(List η)×List η) (λM=>(bA M.1 (aZ x.2) (bD gr x.2 M.1 λz2=>(jn (α:=η×(dt×List gd)×(List η)×(List η)×Int×Int×Int×Int×Int×η×η) (obind (mA (M.2.1.2,M.1)) λy4=>(iY 0 y4 (kl (.sl aM) M.q3 y4 λz5=>(aF (z5,M.2.1,M.p2,M.q3,z2))) (aF (([]:η),M.2.1,M.p2,M.q3,z2)))) λx3=>(obind (wQ (x3.2.1.1,x3.2.1.2,M.1)) λy6=>(iter (σ:=fH×(dt×List gd)×(List η)×(List η)×Int×Int×Int×Int×Int×η×η) (λY=>(bA Y.1.2 (aZ y6) (bD aM y6 Y.1.2 λz8=>(kl (.sl aM) Y.p3 z8 λz9=>(obind (od (Y.1.1,z9)) λy10=>(cK ((y10,(cH Y.1.2)),Y.2))))) (obind (obind (wP (Y.2.1.1,Y.2.1.2,M.1)) λy11=>(iter (σ:=fH×(dt×List gd)×(List η)×(List η)×Int×Int×Int×Int×Int×η×η) (λI=>(bA I.1.2 (aZ y11) (bD aM y11 I.1.2 λz13=>(kl (.sl aM) I.p3 z13 λz14=>(obind (od (I.1.1,z14)) λy15=>(cK ((y15,(cH I.1.2)),I.2))))) (obind (obind (mz (I.1.1,I.p4)) λy16=>(bE (a8 (al I.p2+al ([y16])) 24) (jn (α:=η×(dt×List gd)×(List η)×(List η)×Int×Int×Int×Int×Int×η×η) (bd I.p5 3 (jn (α:=η×(dt×List gd)×(List η)×(List η)×Int×Int×Int×Int×Int×η×η) (iter (σ:=fH×(dt×List gd)×(List η)×(List η)×Int×Int×Int×Int×Int×η×η) (λJ=>(iY 0 J.1.2 (jn (α:=Bool×(dt×List gd)×(List η)×(List η)×Int×Int×Int×Int×Int×η×η) (bD gr J.2.1.2 J.1.2 λz21=>(bd z21.2.1 4 (bD gr J.2.1.2 J.1.2 λz22=>(aF ((decide ((z22.2.2.1:Int)=J.p6)),J.2))) (aF (aj,J.2)))) λZ=>(bcase Z.1 (kl (.sl aM) Z.p3 J.1.2 λz23=>(obind (od (J.1.1,z23)) λy24=>(aF (bO (y24,Z.2))))) (cK ((J.1.1,(bk .i64 (J.1.2-1))),Z.2)))) (aF (bO (J.1.1,J.2))))) ((I.1.1,(bk .i64 (M.1-1))),I.2.1,(I.p2++([y16])),I.q3)) λx18=>(aF x18)) (aF (I.1.1,I.2.1,(I.p2++([y16])),I.q3))) λU=>(obind (mz (U.1,U.p4)) λy25=>(bE (a8 (al U.p3+al ([y25])) 24) (cK ((cH M.1),U.2.1,U.p2,(U.p3++([y25]))))))))) λr=>af (bO r)))) ((Y.1.1,0),Y.2))) λr=>af (bO r)))) ((x3.1,0),x3.2))))) (aF M.2.2))) (0,x,([]:List η),([]:List η)))
def t_ (x:Unit):Option (Bool):=
 (obind (Dr ()) λM=>(obind (m8 (M,[(0,1,(-1),0,(-1),([]:η),([]:η)),(0,20,1,0,0,([]:η),([]:η)),(1,1,(-1),0,(-1),([]:η),([]:η)),(0,4,0,5,0,([]:η),([]:η)),(0,4,1,6,0,([]:η),([]:η)),(1,3,1,6,6,([]:η),([]:η)),(1,3,0,5,6,([]:η),([]:η))])) λI=>(jn (α:=Bool) (bd I.2 0 (bd (aZ I.1) 1 (bD gQ I.1 0 λJ=>(aF (N3 (.pr aM (.pr aM .un)) (J.1,J.2,()) (4,5,()) !=aj))) (aF aj)) (aF aj)) λU=>(af U))))
def mi (x:η×η×η):Option (Bool):=
 (obind (lq (x,40)) λI=>(obind (m8 I) λJ=>(obind (lw I) λZ=>(jn (α:=Bool) (bd J.2 0 (obind (ne (I,Z.1)) λY=>(obind (ng (J.1,Y)) λU=>(bcase U (obind (t_ ()) λM=>(aF M)) (aF aj)))) (aF aj)) λx4=>(af x4)))))
def HS.tS (h:HS):List η×List η×List η×List η×List η×η×List η×η:=(h.S,h.L,h.R,h.C,h.F,h.X,h.N,h.W)
theorem aeu {n:Int} {w:vh} {h:HS} (o:Q4 n h) (hn:n+1<=1000000) {e:EV} (ok:EOK w h e) {x:ETp} (hx:EvT e x):qj (w,h.t,x)=af ((Gi w h e).1.tS,(Gi w h e).2,(Gi w h e).1.T):=by
 have s2:=Ux o ok hx;have hce:En (n+1) (uh w h e):=Lr o ok.th4;have en:=S7 o hn ok hx hce;have cp:=Ox h.t o.GH;have sE:=O1 (w:=w) o e;have sl:=Gj w h e;have hlen:=vX w h e (uh w h e);obtain⟨x1,x2,x3,x4,x5,x6,x7⟩:=x;obtain⟨Z,Y,U,M,J,I⟩:=w;have t1:=hx.th;simp only at t1;subst t1;unfold HS.t at cp;simp only[]at cp;have fT:eP (e.th:Int) h.T.length=ai:=cY ok.th;unfold qj AU HS.t xF EM aX bf bu ch dC ja vC xG L4 Prod.q12 cN fg nZ OO ck bA vp bE aZ cK cH;simp only[];rw[cp,cO];simp only[];rw[cg fT,cg fT,s2,cO];simp only[];rw[cg (by simp only[Xg rfl,iW])];refine Fk (qw (Z,Y,U,M,J,I) h e).length (by omega) (λi=>((i:Int),(Z,Y,U,M,J,I),((e.th:Int),x2,x3,x4,x5,x6,x7),h.X,((qw (Z,Y,U,M,J,I) h e).take i).foldl jl (h.T.getD e.th []),h.T,h.S,h.L,h.R,h.C,h.F,h.N,h.W)) ?_ ?_ ?_
 .simp only[l7,L6,List.foldl_nil];rfl
 .intro i hi;simp only[];rw[uO (by simp;omega),c5,cg (cY hi),l7,(yk _ _ (o.T e.th) (λy hy=>sE y (gj hy))).join (sE _ (DN hi)),cO,qd hi (by omega),Ke _ _ _ hi]
 .simp only[];rw[vQ (by simp),c6,fw (bV _)];have hl:=ae3 (w:=(Z,Y,U,M,J,I)) o e e.th;rw[YT _ e.th (yk _ _ (o.T e.th) sE).lb ok.th4 hl.1 hl.2,cO];unfold HS.e at en;unfold uh at en hlen;rw[en,cO];simp only[];rw[cg (by rw[hlen.1,hlen.2.1,hlen.2.2.1,hlen.2.2.2.1,hlen.2.2.2.2.1,hlen.2.2.2.2.2.1,hlen.2.2.2.2.2.2.1,hlen.2.2.2.2.2.2.2];simp only[Xg rfl,iW])];rfl
theorem abz {w:WT} {l:List ET} {cl:Nat->η} (tr:TR (w,l)) (C:CL w l cl) {i:Nat} (hi:i<l.length):qj (w,(vo w l cl i).t,eN l i)=af ((io w (vo w l cl i) (bQ l i) (Mb w l cl i)).tS,Mb w l cl i,(io w (vo w l cl i) (bQ l i) (Mb w l cl i)).T):=by
 have hl:=tr.len;dsimp only at hl;exact aeu (PA tr C hi) (by omega) (CF tr C hi) (kB tr hi)
theorem S8 (w:vh) (h:HS) {e:EV} (k:e.k=3) (c:η):io w h e c={h with T:=h.T.set e.th c}:=by
 unfold io;simp only[];repeat' split
 all_goals first|rfl|omega
theorem OX {n:Nat} {f:Nat->η} {i k:Nat} (h:k<i) (g:k<n):aK (T:=.sl (.int .i64)) (tA n f [] i) (k:Int)=f k:=by
 rw[l7];unfold tA;rw[ay,ba,qD g];simp[h]
abbrev mgI (u:Int) (m:List Γ):Option Int:=tP (K:=.int .i64) (V:=.int .i64) u m
theorem X8 {u v:Int} {m:List Γ} (h:mgI u m=af v):Pk (K:=.int .i64) (V:=.int .i64) u m=ai/\Gt (K:=.int .i64) (V:=.int .i64) u m 0=v:=by
 have h:tP (K:=.int .i64) (V:=.int .i64) u m=af v:=h;unfold Pk Gt;rw[h];exact⟨rfl,rfl⟩
theorem agn {u:Int} {m:List Γ} (h:mgI u m=ah):Pk (K:=.int .i64) (V:=.int .i64) u m=aj:=by
 have h:tP (K:=.int .i64) (V:=.int .i64) u m=ah:=h;unfold Pk;rw[h]
theorem Rs {w:WT} {l:List ET} (tr:TR (w,l)):m_ (w,l)=af ((bx l.length).map (oK w l),(bx l.length).map (nW w l),0):=by
 have hl:=tr.len;dsimp only at hl;have C:=aqv w l;refine ct ?_;unfold m_ vU aX bf bu cN ck bd bA iO bD kl aZ cK aF cH;refine aU (abb tr) (gw (aU (Rk tr) ?_));refine dc (dc (dN (by dsimp only[au];omega) (dN (by omega) (bg (by simp;omega) (by omega) ?_))));refine dc (dc (dN (by dsimp only[au];omega) (dN (by omega) (bg (by simp;omega) (by omega) ?_))));refine iJ l.length (by omega) (λi x=>x.1=(i:Int)/\x.2.1=(w,l)/\x.2.2.1=tA l.length (oK w l) [] i/\x.2.2.2.1=tA l.length (nW w l) [] i/\x.2.2.2.2.1=(vo w l (nW w l) i).t/\∀u:Nat,mgI (u:Int) x.2.2.2.2.2=if 0<=HM l u i then af (HM l u i) else ah) ?_ ?_ ?_
 .rintro i ⟨x,y,a,b,h,m⟩ hi ⟨e1,e2,e3,Y,U,hm⟩;dsimp only at e1 e2 e3 Y U hm;subst e1;subst e2;subst e3;subst Y;subst U;have k1:∀{R α:Type} {f:Nat->α} {z:α} {j:Nat} {k:Option R} {Q:R->Prop},Ok k Q->Ok (chk (eP (i:Int) (tA l.length f z j).length) λ_=>k) Q:=λh=>aS (by omega) (by rw[Ca];omega) h
  have s1:cz (tA l.length (oK w l) [] i) (i:Int) (oK w l i)=tA l.length (oK w l) [] (i+1):=by rw[eD,I3 hi]
  have kb:=(al6 tr C hi).lb;have kc:=(QF tr C hi).lb;have et:=kB tr hi;have hz:(eN l i).2.1=((bQ l i).k:Int):=et.k;refine di (bZ (aR (aU (abz tr C hi) ?_)));dsimp only;rw[s1];refine k1 (k1 (k1 (k1 (aR ?_))));rw[OX (rx i) hi];refine aU (EK _ kb) (k1 (k1 ?_));refine aY (λx=>x.1=(w,l)/\x.2.1=tA l.length (oK w l) [] (i+1)/\x.2.2.1=tA l.length (nW w l) [] (i+1)/\(x.2.2.2.2.2,x.2.2.2.1)=((vo w l (nW w l) (i+1)).T,(vo w l (nW w l) (i+1)).tS)/\∀u:Nat,mgI (u:Int) x.2.2.2.2.1=if 0<=HM l u (i+1) then af (HM l u (i+1)) else ah) ?_ ?_
  .have sK:nW w l i=oK w l i->cz (tA l.length (nW w l) [] i) (i:Int) (oK w l i)=tA l.length (nW w l) [] (i+1):=λe=>by rw[<- e,eD,I3 hi]
   have Z:nW w l i=oK w l i->((io w (vo w l (nW w l) i) (bQ l i) (oK w l i)).T,(io w (vo w l (nW w l) i) (bQ l i) (oK w l i)).tS)=((vo w l (nW w l) (i+1)).T,(vo w l (nW w l) (i+1)).tS):=λe=>by rw[vo,e]
   have hls:¬(bQ l i).k=4->∀u,HM l u (i+1)=HM l u i:=λk u=>by rw[HM,aA λq=>k q.1]
   refine aJ (λI=>?_) λI=>aJ (λM=>ar ?_) λM=>ar ?_
   .have I:(eN l i).2.1=3:=I;have I:(bQ l i).k=3:=by omega
    have ob:(eN l i).2.2.1=((bQ l i).ob:Int):=et.ob (by rw[I];decide);change Ok (bcase (Pk (K:=.int .i64) (V:=.int .i64) (eN l i).2.2.1 m) _ _) _;have hmo:=hm (bQ l i).ob;by_cases q:0<=HM l (bQ l i).ob i
    .have rd:Ra l i:=⟨I,q⟩
     have hs:=I9 rd;have hsl:Q_ l i<l.length:=by omega
     have er:HM l (bQ l i).ob i=(Q_ l i:Int):=by unfold Q_;omega
     rw[aD q,er]at hmo;rw[<- ob]at hmo;refine fO (X8 hmo).1 ?_;have U:aK (T:=.sl (.int .i64)) (cz (tA l.length (nW w l) [] i) (i:Int) (oK w l i)) (Q_ l i:Int)=nW w l (Q_ l i):=by
      rw[eD,l7,nL,aA λq=>by omega];have:=OX (f:=nW w l) hs hsl;rw[l7]at this;exact this
     have J:nW w l i=jl (oK w l i) (nW w l (Q_ l i)):=by rw[EZ,aD rd]
     have e7:cz (cz (tA l.length (nW w l) [] i) (i:Int) (oK w l i)) (i:Int) (jl (oK w l i) (nW w l (Q_ l i)))=tA l.length (nW w l) [] (i+1):=by rw[<- J,eD,eD,List.set_set,I3 hi]
     have ln:(cz (tA l.length (nW w l) [] i) (i:Int) (oK w l i)).length=l.length:=by rw[bW,Ca]
     have kd:=(QF tr C hsl).lb;refine k1 (k1 (aR ?_));rw[(X8 hmo).2];refine aS (by omega) (by rw[ln];omega) (aS (by omega) (by rw[ln];omega) (aR ?_));rw[U];refine aU (IV _ _ kb kd) (aS (by omega) (by rw[ln];omega) (aS (by omega) (by rw[ln];omega) ?_));rw[e7];refine k1 (k1 (aR ?_));rw[OX (rx i) hi];have et1:(eN l i).1=((bQ l i).th:Int):=et.th;have hth:(bQ l i).th<(io w (vo w l (nW w l) i) (bQ l i) (Mb w l (nW w l) i)).T.length:=by rw[(vX ..).1];exact (CF tr C hi).th
     refine aU (EK _ kc) (aS (j:=(eN l i).1) (by omega) (by omega) (aS (j:=(eN l i).1) (by omega) (by omega) (ar ⟨rfl,rfl,rfl,?_,λu=>?_⟩)))
     .dsimp only;rw[show (aK (T:=tE) l (i:Int)).1=((bQ l i).th:Int) from et1,eD,vo,S8 _ _ I,S8 _ _ I];simp only[List.set_set];rfl
     .rw[hls (by omega)];exact hm u
    .rw[aA q,<-ob]at hmo;have nr:¬Ra l i:=λr=>q r.2
     have J:nW w l i=oK w l i:=by rw[EZ,aA nr]
     refine fP (agn hmo) (ar ⟨rfl,rfl,sK J,Z J,λu=>?_⟩);rw[hls (by omega)];exact hm u
   .have M:(eN l i).2.1=4:=M;have M:(bQ l i).k=4:=by omega
    have J:nW w l i=oK w l i:=aj6 (by omega);have ob:(aK (T:=tE) l (i:Int)).2.2.1=((bQ l i).ob:Int):=et.ob (by rw[M];decide);refine ⟨rfl,rfl,sK J,Z J,λu=>?_⟩;dsimp only;rw[ob];unfold mgI;rw[NG];by_cases q:(bQ l i).ob=u
    .have e:HM l u (i+1)=i:=by rw[HM,aD ⟨M,q⟩]
     rw[e,aD (by omega),aD (by omega)]
    .have e:HM l u (i+1)=HM l u i:=by rw[HM,aA λr=>q r.2]
     rw[e,aA (by omega)];exact hm u
   .have M:¬(eN l i).2.1=4:=M;have I:¬(eN l i).2.1=3:=I;have J:nW w l i=oK w l i:=aj6 (by omega);exact⟨rfl,rfl,sK J,Z J,λu=>by rw[hls (by omega)];exact hm u⟩
  rintro⟨x1,x2,x3,x4,x5,x6⟩ ⟨f1,f2,f3,f4,f5⟩;dsimp only at f1 f2 f3 f4 f5;subst f1;subst f2;subst f3;obtain⟨rfl,rfl⟩:=aE .. ▸f4;exact ar ⟨gE (by omega),rfl,rfl,rfl,rfl,f5⟩
 .rintro⟨x,y,a,b,h,m⟩ ⟨e1,e2,e3,Y,U,hm⟩;dsimp only at e1 e2 e3 Y U hm;subst e1;subst e2;subst e3;subst Y;refine dj (ar ?_);dsimp only;rw[U9,U9]
 .refine ⟨rfl,rfl,?_,?_,rfl,λu=>rfl⟩
  .dsimp only;rw[Is];rfl
  .dsimp only;rw[Is];rfl
theorem B_ {w:WT} {l:List ET} (tr:TR (w,l)) {a b:Nat} (I:a<l.length) (hb:b<l.length):(eN l a).1=(eN l b).1↔(bQ l a).th=(bQ l b).th:=by
 have:=(kB tr I).th;have:=(kB tr hb).th;omega
theorem O9 {l:List ET} {u:Nat}:∀(j k:Nat),uA l u j<k->k<j->¬(bQ l k).th=u
 |j+1,k,h,hk=>by
  rw[uA]at h;by_cases q:(bQ l j).th=u
  .rw[aD q]at h;omega
  .rw[aA q]at h;by_cases e:k=j
   .subst e;exact q
   .exact O9 j k h (by omega)
theorem XV {l:List ET} {u:Nat}:∀j:Nat,0<=uA l u j->(bQ l (uA l u j).toNat).th=u
 |0,h=>cX h (by show ¬(0:Int)<= -1;omega)
 |j+1,h=>by
  rw[uA]at h ⊢;by_cases q:(bQ l j).th=u
  .rw[aD q];exact q
  .rw[aA q]at h ⊢;exact XV j h
theorem RC {l:List ET} {u:Nat}:∀(j k:Nat),uA l u j<k->k<=j->uA l u k=uA l u j
 |0,k,_,hk=>by rw[show k=0 by omega]
 |j+1,k,h,hk=>by
  by_cases e:k=j+1
  .rw[e]
  .have q:¬(bQ l j).th=u:=O9 (j+1) j (by omega) (by omega);rw[uA,aA q]at h ⊢;exact RC j k h (by omega)
theorem HC {w:WT} {l:List ET} (tr:TR (w,l)) {j:Nat} (hj:j<l.length):mA (l,(j:Int))=af (uA l (bQ l j).th j):=by
 have hl:=tr.len;dsimp only at hl;refine ct ?_;unfold mA bd iY bD cK aF;refine b8 j (λi x=>x=((j:Int)-1-i)/\uA l (bQ l j).th (j-i)=uA l (bQ l j).th j) ?_ ?_ ⟨?_,by rw[Nat.sub_zero]⟩
 .rintro i x hi ⟨rfl,e⟩;refine e_ (λ_=>?_) λg=>by omega
  rw[show (j:Int)-1-i=((j-i-1:Nat):Int) by omega];refine bZ (aR (bZ (aR (aJ (λg=>ar ?_) λg=>ar ?_))))
  .have g:=(B_ tr (show j-i-1<l.length by omega) hj).1 g;dsimp only;rw[<- e,show j-i=j-i-1+1 by omega,uA,Nat.add_sub_cancel,aD g]
  .have g:¬_:=λq=>g ((B_ tr (show j-i-1<l.length by omega) hj).2 q)
   dsimp only;refine ⟨by rw[hP (by omega) (by omega)];omega,?_⟩;rw[<- e,show j-i=j-(i+1)+1 by omega,uA,show j-(i+1)=j-i-1 by omega,aA g]
 .rintro x ⟨rfl,e⟩;refine e_ (λg=>by omega) λ_=>ar ?_
  rw[vE]at e;exact e
 .dsimp only;rw[hP (by omega) (by omega)];omega
theorem abf (x:ET):lG x=af (decide (x.2.1=3\/x.2.1=4)):=by
 refine ct ?_;unfold lG bd aF;refine gF (aJ (λh=>ar (ar ?_)) λh=>ar (ar ?_))
 .exact (aQ (.inl h)).symm
 .by_cases q:x.2.1=4<;>simp[h,q]
def acB (e:EV):Bool:=decide (e.k=3\/e.k=4)
theorem L3 {w:WT} {l:List ET} (tr:TR (w,l)) {j:Nat} (hj:j<l.length):lG (eN l j)=af (acB (bQ l j)):=by
 rw[abf,(kB tr hj).k];unfold acB;congr 1;rw[abj];omega
theorem HB {w:WT} {l:List ET} (tr:TR (w,l)) {j:Nat} (hj:j<l.length):my (w,eN l j)=af (acB (bQ l j)&&zo w.1 (bQ l j).ob):=by
 refine ct ?_;unfold my bf bA iY bD aZ aF;refine gF (aU (L3 tr hj) (aO (λh=>?_) λh=>ar (ar ?_)))
 .have hk:=bi h;have ce:=((yl tr hj).ce hk).2;have ob:(eN l j).2.2.1=((bQ l j).ob:Int):=(kB tr hj).ob (by rcases hk with h|h<;>rw[h]<;>decide);rw[ob];refine e_ (λ_=>di (bZ (aR (ar (ar ?_))))) λg=>(by omega)
  rw[h,PU];rfl
 .rw[h];rfl
def fL (p:Nat->Bool) (i:Nat):η:=((bx i).filter p).map aP
theorem aog {p:Nat->Bool} {i:Nat} (h:p i=ai):fL p (i+1)=fL p i++[(i:Int)]:=by
 unfold fL;rw[xI,yH,cE,List.filter_cons_of_pos h];rfl
theorem aoh {p:Nat->Bool} {i:Nat} (h:p i=aj):fL p (i+1)=fL p i:=by
 unfold fL;rw[xI,yH,cE,List.filter_cons_of_neg (by rw[h];decide)];simp
theorem Kk (p:Nat->Bool) (i:Nat):(fL p i).length<=i:=by
 unfold fL;rw[bS];exact du (B7 p _) (Nat.le_of_eq fV)
theorem Qa {p:Nat->Bool} {i:Nat} {z:Int} (h:z∈fL p i):0<=z/\z<i:=by
 obtain⟨k,hk,rfl⟩:=dv.1 h;have:=lD.1 (xJ.1 hk).1;exact⟨dX k,Int.ofNat_lt.2 this⟩
theorem ai7 {w:WT} {l:List ET} (tr:TR (w,l)) {j:Nat} (hj:j<l.length):wP (w,l,(j:Int))=af (fL (dB (Q7 w l j)) j):=by
 have hl:=tr.len;dsimp only at hl;refine ct ?_;unfold wP bd bA iY bE bD cK aF cH;refine bZ (aR (aU (ane (yl tr hj) (kB tr hj)) ?_));have U:=(kB tr hj).k;refine b8 j (λi x=>x=((i:Int),w,fL (dB (Q7 w l j)) i)) ?_ ?_ rfl
 .rintro i x hi rfl;have J:i<l.length:=by omega
  have Y:=(kB tr J).k;refine di ?_;refine aY (λx=>x=(w,fL (dB (Q7 w l j)) (i+1))) ?_ ?_
  .refine bZ (aR (aU (alx (yl tr J) (kB tr J)) ?_));refine aY (λx=>x.2=(w,fL (dB (Q7 w l j)) i)/\(x.1=ai↔Q7 w l j i)) ?_ ?_
   .unfold Q7;generalize CR w (bQ l j)=A;generalize Bd w (bQ l i)=R;obtain⟨A,a⟩:=A;obtain⟨R,r⟩:=R;refine e_ (λM=>aJ (λhr=>aO (λhb=>dW (λhs=>ar ⟨rfl,λ_=>.inl ⟨M,hr,λq=>by dsimp only at q hs;rw[hs]at q;cases q.2⟩,λ_=>rfl⟩) λhs=>?_) λhb=>ar ⟨rfl,λ_=>.inl ⟨M,hr,λq=>by dsimp only at q hb;rw[hb]at q;cases q.1⟩,λ_=>rfl⟩) λhr=>?_) λM=>?_
    all_goals refine bZ (aR (aJ (λI=>bZ (aR (ar ⟨rfl,?_⟩))) λI=>ar ⟨rfl,?_⟩))
    all_goals dsimp only at I M ⊢
    all_goals rw[U]at I
    all_goals try rw[be,Y]
    all_goals try change ((bQ l i).k:Int)=13↔_
    all_goals first|(have I:((bQ l j).k:Int)=12:=I)|(have I:¬((bQ l j).k:Int)=12:=I)
    all_goals
     have hn:¬(0<=A/\R=A/\¬(a=ai/\r=ai)):=λq=>by first|exact q.2.2 ⟨hb,hs⟩|exact hr q.2.1|exact cX q.1 (by omega)
     rw[or_iff_right hn];first|exact⟨λq=>(by cases q),λq=>by omega⟩|omega
   rintro⟨x,y⟩ ⟨e,h⟩;dsimp only at e h;subst e;refine aO (λhb=>?_) λhb=>ar ?_
   .have hn:=Kk (dB (Q7 w l j)) i;refine bg (by dsimp only[c9];omega) (by omega) (ar ?_);dsimp only;rw[aog (ahb.2 (h.1 hb))]
   .dsimp only;rw[aoh (ahc.2 λq=>cX (h.2 q) (by rw[show x=aj from hb];decide))]
  rintro x rfl;refine ar ?_;dsimp only;rw[gE (by omega)]
 .rintro x rfl;exact dj (ar rfl)
theorem Rh {l:List ET} {u k:Nat} (h:0<=C4 l u k):∀m:Nat,(∀n,k<=n->n<k+m->¬(bQ l n).th=u)->C4 l u (k+m)=C4 l u k
 |0,_=>rfl
 |m+1,hn=>by
  have I:=Rh h m λn h1 h2=>hn n h1 (by omega)
  rw[<- qa,XC (hn (k+m) (by omega) (by omega)) (by rw[I];exact h)];exact I
theorem aeq {w:WT} {l:List ET} (tr:TR (w,l)) {j:Nat} (hj:j<l.length) (h0:0<=uA l (bQ l j).th j) (I:(bQ l (uA l (bQ l j).th j).toNat).k=16) (hw:0<=C4 l (bQ l j).th j):uE (l,(j:Int))=af (C4 l (bQ l j).th j):=by
 have hl:=tr.len;dsimp only at hl;have hlt:=(Vk l (bQ l j).th j).2;have hown:=XV j h0;have hnot:=λk=>O9 (l:=l) (u:=(bQ l j).th) j k
 have hsame:=λk=>RC (l:=l) (u:=(bQ l j).th) j k
 refine ct ?_;unfold uE bd bA bD cK aF cH;refine aU (HC tr hj) ?_;generalize uA l (bQ l j).th j=p at*
 obtain⟨p,rfl⟩:∃k:Nat,p=k:=⟨p.toNat,by omega⟩
 rw[cZ]at I hown;have hp:p<l.length:=by omega
 have Y:=kB tr hp;have ej:=kB tr hj;have op:(eN l p).2.2.1=((bQ l p).ob:Int):=Y.ob (by rw[I];decide);refine aY (λx=>x=aj) (bJ (λg=>by omega) λ_=>bZ (aR (ar ?_))) ?_
 .show (!decide ((eN l p).2.1=16))=aj;rw[Y.k,I];rfl
 rintro x rfl;refine gw ?_;rw[gE (show p<9223372036854775807 by omega)];refine b8 (j-(p+1)) (λi x=>x=((p+1+i:Nat):Int)/\C4 l (bQ l j).th (p+1+i)= -1) ?_ ?_ ⟨rfl,XB hown⟩
 .rintro i x hi ⟨rfl,e⟩;have hk:p+1+i<l.length:=by omega
  have hu:=hnot (p+1+i) (by omega) (by omega);have hs:=hsame (p+1+i) (by omega) (by omega);have M:=kB tr hk;refine di ?_;generalize hkk:p+1+i=k at*
  have ok':(bQ l k).k=19->(eN l k).2.2.1=((bQ l k).ob:Int):=λh=>M.ob (by rw[h];decide)
  have ekk:=M.k;have ekv:=M.va;have ejt:=ej.th;refine aY (λx=>x=ai↔(bQ l k).k=18/\(bQ l k).va=(bQ l j).th\/(bQ l k).k=19/\(bQ l k).ob=(bQ l p).ob) ?_ ?_
  .have J:∀{R:Type} {Q:R⊕Bool->Prop},¬((bQ l k).k=18/\(bQ l k).va=(bQ l j).th)->(∀x,(x=ai↔(bQ l k).k=18/\(bQ l k).va=(bQ l j).th\/(bQ l k).k=19/\(bQ l k).ob=(bQ l p).ob)->Q (.inr x))->Ok (chk (eP (k:Int) (al l)) λ_=>lt (aK (T:=tE) l (k:Int)) λz=>bcase (decide ((z.2.1:Int)=19)) (chk (eP (k:Int) (al l)) λ_=>lt (aK (T:=tE) l (k:Int)) λz=>chk (eP (p:Int) (al l)) λ_=>lt (aK (T:=tE) l (p:Int)) λy=>af (bO (decide ((z.2.2.1:Int)=y.2.2.1)))) (af (bO aj))) Q:=λhn U=>by
    refine bZ (aR (aJ (λh=>?_) λh=>ar (U _ ?_)))
    .have h:(eN l k).2.1=19:=h;refine bZ (aR (bZ (aR (ar (U _ ?_)))));have o2:=ok' (by omega);change decide ((eN l k).2.2.1=(eN l p).2.2.1)=ai↔_;rw[o2,op,be,or_iff_right hn];omega
    .have h:¬(eN l k).2.1=19:=h;rw[or_iff_right hn];exact⟨λq=>(by cases q),λq=>by omega⟩
   refine bZ (aR (aJ (λh=>?_) λh=>?_))
   .have h:(eN l k).2.1=18:=h;refine bZ (aR (bZ (aR (aJ (λg=>ar ?_) λg=>?_))))
    .have g:(eN l k).2.2.2.1=(eN l j).1:=g;exact⟨λ_=>.inl ⟨by omega,by omega⟩,λ_=>rfl⟩
    .have g:¬(eN l k).2.2.2.1=(eN l j).1:=g;exact J (λq=>g (by omega)) λx h=>h
   .have h:¬(eN l k).2.1=18:=h;exact J (λq=>h (by omega)) λx h=>h
  rintro x Z;have hm:mtN l (bQ l j).th k (uA l (bQ l j).th k)↔x=ai:=by
   rw[Z,hs];unfold mtN;rw[cZ];exact⟨λq=>q.2.2,λq=>⟨by omega,I,q⟩⟩
  refine aO (λhb=>ar ?_) λhb=>ar ?_
  .have e2:=XE hu e (hm.2 hb);have e3:=Rh (k:=k+1) (by omega) (j-(k+1)) λn h1 h2=>hnot n (by omega) (by omega)
   rw[show k+1+(j-(k+1))=j by omega,e2]at e3;exact e3.symm
  .have e2:=XD hu e λq=>by rw[hm.1 q]at hb;cases hb
   exact⟨by rw[gE (by omega)];omega,by rw[<- e2];congr 1;omega⟩
 .rintro x ⟨rfl,e⟩;rw[show p+1+(j-(p+1))=j by omega]at e;omega
def Zz (w:WT) (l:List ET) (j:Nat):η:=fL (dB (ID w l j)) j++if (bQ l j).k=17 then [C4 l (bQ l j).th j] else []
theorem aip {w:WT} {l:List ET} (tr:TR (w,l)) {j:Nat} (hj:j<l.length):wQ (w,l,(j:Int))=af (Zz w l j):=by
 have hl:=tr.len;dsimp only at hl;refine ct ?_;unfold wQ aX bf bu ch dC bK bd bA iY bE bD cK aF cH;refine bZ (aR ?_);have U:=kB tr hj;have kj:(eN l j).2.1=(bQ l j).k:=U.k;refine b8 j (λi x=>x=((i:Int),w,fL (dB (ID w l j)) i,eN l j)) ?_ ?_ rfl
 .rintro i x hi rfl;have hi':i<l.length:=by omega
  have Y:=kB tr hi';have ki:(eN l i).2.1=(bQ l i).k:=Y.k;have hn:=Kk (dB (ID w l j)) i;have Z:∀{R:Type} {Q:(R⊕(WT×η×ET))->Prop},ID w l j i->Q (.inr (w,fL (dB (ID w l j)) (i+1),eN l j))->Ok (chk (a8 ((fL (dB (ID w l j)) i).length+[(i:Int)].length) 8) λ_=>af (bO (w,fL (dB (ID w l j)) i++[(i:Int)],eN l j))) Q:=λh q=>by
   refine bg (by rw[c9];omega) (by omega) (ar ?_);rw[<- aog (ahb.2 h)];exact q
  refine di ?_;refine bZ (aR ?_);refine aY (λx=>x=(w,fL (dB (ID w l j)) (i+1),eN l j)) ?_ ?_
  .refine aY (λx=>x.2=(w,fL (dB (ID w l j)) i,eN l j,eN l i)/\(x.1=ai↔(bQ l j).k=1/\(bQ l i).k=20/\(bQ l i).ob=(bQ l j).th)) ?_ ?_
   .refine aJ (λh=>aJ (λg=>ar ⟨rfl,?_⟩) λg=>ar ⟨rfl,?_⟩) λh=>ar ⟨rfl,?_⟩
    .have h:(eN l j).2.1=1:=h;have g:(eN l i).2.1=20:=g;have o:(eN l i).2.2.1=(bQ l i).ob:=Y.ob (by rw[show (bQ l i).k=20 by omega];decide);have t:(eN l j).1=(bQ l j).th:=U.th;change decide ((eN l i).2.2.1=(eN l j).1)=ai↔_;rw[be];omega
    .have g:¬(eN l i).2.1=20:=g;exact⟨λq=>(by cases q),λq=>by omega⟩
    .have h:¬(eN l j).2.1=1:=h;exact⟨λq=>(by cases q),λq=>by omega⟩
   rintro⟨x,y⟩ ⟨e,h1⟩;dsimp only at e h1;subst e;refine aO (λhb=>Z (.inl (h1.1 hb)) rfl) λI=>?_
   have h1:¬_:=λq=>cX (h1.2 q) (by rw[show x=aj from I];decide)
   clear I;refine aY (λx=>x.2=(w,fL (dB (ID w l j)) i,eN l j,eN l i)/\(x.1=ai↔(bQ l j).k=21/\(bQ l i).th=(bQ l j).ob)) ?_ ?_
   .refine aJ (λh=>ar ⟨rfl,?_⟩) λh=>ar ⟨rfl,?_⟩
    .have h:(eN l j).2.1=21:=h;have o:(eN l j).2.2.1=(bQ l j).ob:=U.ob (by rw[show (bQ l j).k=21 by omega];decide);have t:(eN l i).1=(bQ l i).th:=Y.th;change decide ((eN l i).1=(eN l j).2.2.1)=ai↔_;rw[be];omega
    .have h:¬(eN l j).2.1=21:=h;exact⟨λq=>(by cases q),λq=>by omega⟩
   rintro⟨x,y⟩ ⟨e,h2⟩;dsimp only at e h2;subst e;refine aO (λhb=>Z (.inr (.inl (h2.1 hb))) rfl) λI=>?_
   have h2:¬_:=λq=>cX (h2.2 q) (by rw[show x=aj from I];decide)
   clear I;refine aY (λx=>x.2=(w,fL (dB (ID w l j)) i,eN l j,eN l i)/\(x.1=ai↔(bQ l j).k=3/\zo w.1 (bQ l j).ob=ai/\(bQ l i).k=4/\(bQ l i).ob=(bQ l j).ob)) ?_ ?_
   .refine aJ (λh=>?_) λh=>ar ⟨rfl,?_⟩
    .have h:(eN l j).2.1=3:=h;have h:(bQ l j).k=3:=by omega
     have o:(eN l j).2.2.1=(bQ l j).ob:=U.ob (by rw[h];decide);refine aU (HB tr hj) (aO (λhv=>aJ (λg=>ar ⟨rfl,?_⟩) λg=>ar ⟨rfl,?_⟩) λhv=>ar ⟨rfl,?_⟩)
     .have hv:=(eH.1 hv).2;have g:(eN l i).2.1=4:=g;have o':(eN l i).2.2.1=(bQ l i).ob:=Y.ob (by rw[show (bQ l i).k=4 by omega];decide);change decide ((eN l i).2.2.1=(eN l j).2.2.1)=ai↔_;rw[be];exact⟨λq=>⟨h,hv,by omega,by omega⟩,λq=>by omega⟩
     .have g:¬(eN l i).2.1=4:=g;exact⟨λq=>(by cases q),λq=>by omega⟩
     .refine ⟨λq=>(by cases q),λq=>?_⟩;rw[q.2.1]at hv;unfold acB at hv;rw[aQ (.inl h)]at hv;cases hv
    .have h:¬(eN l j).2.1=3:=h;exact⟨λq=>(by cases q),λq=>by omega⟩
   rintro⟨x,y⟩ ⟨e,M⟩;dsimp only at e M;subst e;refine aO (λhb=>Z (.inr (.inr (.inl (M.1 hb)))) rfl) λI=>?_
   have M:¬_:=λq=>cX (M.2 q) (by rw[show x=aj from I];decide)
   clear I;refine aY (λx=>x.2=(w,fL (dB (ID w l j)) i,eN l j)/\(x.1=ai↔(bQ l j).k=23/\(bQ l i).k=22/\(bQ l i).ob=(bQ l j).ob)) ?_ ?_
   .refine aJ (λh=>aJ (λg=>ar ⟨rfl,?_⟩) λg=>ar ⟨rfl,?_⟩) λh=>ar ⟨rfl,?_⟩
    .have h:(eN l j).2.1=23:=h;have g:(eN l i).2.1=22:=g;have o:(eN l i).2.2.1=(bQ l i).ob:=Y.ob (by rw[show (bQ l i).k=22 by omega];decide);have o':(eN l j).2.2.1=(bQ l j).ob:=U.ob (by rw[show (bQ l j).k=23 by omega];decide);change decide ((eN l i).2.2.1=(eN l j).2.2.1)=ai↔_;rw[be];omega
    .have g:¬(eN l i).2.1=22:=g;exact⟨λq=>(by cases q),λq=>by omega⟩
    .have h:¬(eN l j).2.1=23:=h;exact⟨λq=>(by cases q),λq=>by omega⟩
   rintro⟨x,y⟩ ⟨e,J⟩;dsimp only at e J;subst e;refine aO (λhb=>Z (.inr (.inr (.inr (J.1 hb)))) rfl) λI=>?_
   have J:¬_:=λq=>cX (J.2 q) (by rw[show x=aj from I];decide)
   refine ar ?_;dsimp only;rw[aoh (ahc.2 λq=>q.elim h1 λq=>q.elim h2 λq=>q.elim M J)]
  rintro x rfl;refine ar ?_;dsimp only;rw[gE (by omega)]
 .rintro x rfl;refine dj ?_;have hn:=Kk (dB (ID w l j)) j;refine ax (P:=λy=>y=Zz w l j) (aY (λx=>x=Zz w l j) ?_ λx hx=>ar hx) λx hx=>ar hx
  unfold Zz;refine aJ (λh=>?_) λh=>ar ?_
  .have h:(eN l j).2.1=17:=h;have h:(bQ l j).k=17:=by omega
   obtain⟨h0,h1,h2⟩:=aj0 tr hj h;refine aU (aeq tr hj h0 h1 h2) (e_ (λ_=>bg (by dsimp only[c9];omega) (by omega) (ar ?_)) λg=>(by omega));dsimp only;rw[aD h]
  .have h:¬(eN l j).2.1=17:=h;dsimp only;rw[aA (by omega),fJ]
theorem ab0:vL=mH:=rfl
def cnB (l:List ET) (a b:Nat):Bool:=decide (¬(bQ l a).th=(bQ l b).th/\acB (bQ l a)=ai/\acB (bQ l b)=ai/\(bQ l a).ob=(bQ l b).ob/\((bQ l a).k=4\/(bQ l b).k=4))
theorem yE {w:WT} {l:List ET} (tr:TR (w,l)) {a:Nat} (I:a<l.length) (h:acB (bQ l a)=ai):(eN l a).2.2.1=((bQ l a).ob:Int):=(kB tr I).ob (by rcases bi h with h|h<;>rw[h]<;>decide)
theorem UU {w:WT} {l:List ET} (tr:TR (w,l)) {a b:Nat} (J:a<l.length) (hb:b<l.length):o_ (eN l a,eN l b)=af (cnB l a b):=by
 refine ct ?_;unfold o_ cnB aX bf bd iO aF;have Z:(eN l a).2.1=(bQ l a).k:=(kB tr J).k;have Y:(eN l b).2.1=(bQ l b).k:=(kB tr hb).k;refine gF (aU (L3 tr J) (aO (λh1=>aU (L3 tr hb) (aO (λh2=>b_ (λM=>aJ (λI=>aJ (λU=>?_) λU=>?_) λI=>?_) λM=>?_) λh2=>?_)) λh1=>?_));all_goals refine ar (ar ?_)
 .have M:¬(bQ l a).th=(bQ l b).th:=λq=>M ((B_ tr J hb).2 q)
  have I:(eN l a).2.2.1=(eN l b).2.2.1:=I;have U:(eN l a).2.1=4:=U;rw[yE tr J h1,yE tr hb h2]at I;exact (aQ ⟨M,h1,h2,by omega,by omega⟩).symm
 .have M:¬(bQ l a).th=(bQ l b).th:=λq=>M ((B_ tr J hb).2 q)
  have I:(eN l a).2.2.1=(eN l b).2.2.1:=I;have U:¬(eN l a).2.1=4:=U;rw[yE tr J h1,yE tr hb h2]at I;change decide ((eN l b).2.1=4)=_;rw[abj];exact⟨λq=>⟨M,h1,h2,by omega,by omega⟩,λq=>by omega⟩
 .have I:¬(eN l a).2.2.1=(eN l b).2.2.1:=I;rw[yE tr J h1,yE tr hb h2]at I;exact (bw λq=>I (by omega)).symm
 .exact (bw λq=>q.1 ((B_ tr J hb).1 M)).symm
 .exact (bw λq=>by rw[q.2.2.1]at h2;cases h2).symm
 .exact (bw λq=>by rw[q.2.1]at h1;cases h1).symm
theorem aan {w:WT} {l:List ET} (tr:TR (w,l)) {j:Nat} (hj:j<l.length):sT (l,(j:Int))=af (qA l (bQ l j).th j:Int):=by
 have hl:=tr.len;dsimp only at hl;refine ct ?_;unfold sT bd bA bD cK aF cH;refine b8 j (λi x=>x=((qA l (bQ l j).th i:Int),(i:Int))) ?_ ?_ rfl
 .rintro i x hi rfl;have hc:=Et l (bQ l j).th i;refine di ?_;refine aY (λx=>x=(qA l (bQ l j).th (i+1):Int)) ?_ ?_
  .rw[qA];refine bZ (aR (bZ (aR (aJ (λh=>ar ?_) λh=>ar ?_))))
   .rw[aD ((B_ tr (show i<l.length by omega) hj).1 h)];exact gE (by omega)
   .rw[aA λq=>h ((B_ tr (show i<l.length by omega) hj).2 q)]
  rintro x rfl;refine ar ?_;dsimp only;rw[gE (by omega)]
 .rintro x rfl;exact dj (ar rfl)
theorem Xy {w:WT} {l:List ET} (tr:TR (w,l)) {j:Nat} (hj:j<l.length):qN (l,(j:Int))=af (UZ l j):=by
 have hl:=tr.len;dsimp only at hl;have hc:=Et l (bQ l j).th j;refine ct ?_;unfold qN bD;refine aU (aan tr hj) (bZ (aR (ar ?_)));change (bk .i64 (1+(qA l (bQ l j).th j:Int)),(eN l j).1)=_;rw[(kB tr hj).th,hP (by omega) (by omega),Int.add_comm];rfl
def rcB (w:WT) (l:List ET) (cl:Nat->η) (a b:Nat):Bool:=cnB l a b&&(!zo w.1 (bQ l b).ob&& !decide ((qA l (bQ l a).th a:Int)+1<=(cl b).getD (bQ l a).th 0))
def rI (w:WT) (l:List ET) (cl:Nat->η) (b:Nat):Nat->List Γ
 |0=>[]
 |i+1=>if rcB w l cl i b=ai then rI w l cl b i++[((i:Int),(b:Int))] else rI w l cl b i
def rO (w:WT) (l:List ET) (cl:Nat->η):Nat->List Γ
 |0=>[]
 |b+1=>rO w l cl b++rI w l cl b b
theorem O8 (w:WT) (l:List ET) (cl:Nat->η) (b:Nat):∀i,(rI w l cl b i).length<=i
 |0=>bV _
 |i+1=>by
  have:=O8 w l cl b i;rw[rI];split
  .rw[bm,c9];omega
  .omega
theorem O7 (w:WT) (l:List ET) (cl:Nat->η):∀b,b<=1000->(rO w l cl b).length<=b*1000
 |0,_=>j7 _
 |b+1,h=>by
  have:=O7 w l cl b (by omega);have:=O8 w l cl b b;rw[rO,bm];omega
theorem YA {l:List ET} {cl:Nat->η} {i:Nat} (h:i<l.length):aK (T:=.sl (.int .i64)) ((bx l.length).map cl) (i:Int)=cl i:=by
 rw[l7,ay,ba,qD h];rfl
theorem QU {w:WT} {l:List ET} (tr:TR (w,l)) (cl:Nat->η):ne ((w,l),(bx l.length).map cl)=af (rO w l cl l.length):=by
 have hl:=tr.len;dsimp only at hl;refine ct ?_;unfold ne bA bE bD aZ cK aF cH;refine b8 l.length (λb x=>x=((b:Int),(w,l),rO w l cl b)) ?_ ?_ rfl
 .rintro b x hb rfl;have hO:=O7 w l cl b (by omega);refine di ?_;refine b8 b (λi x=>x=((i:Int),(w,l),rO w l cl b++rI w l cl b i)) ?_ ?_ ?_
  .rintro i x hi rfl;have J:=O8 w l cl b i;have I:i<l.length:=by omega
   refine di ?_;refine aY (λx=>x=((w,l),rO w l cl b++rI w l cl b (i+1))) ?_ ?_
   .refine aY (λx=>x=(rcB w l cl i b,(w,l),rO w l cl b++rI w l cl b i)) ?_ ?_
    .refine bZ (aR (bZ (aR (aU (UU tr I hb) ?_))));unfold rcB;refine aO (λh=>?_) λh=>ar ?_
     .have hab:=(bi h).2.2.1;refine bZ (aR (aU (HB tr hb) (dW (λh2=>?_) λh2=>ar ?_)))
      .rw[hab,kT]at h2;refine aS (by dsimp only;omega) (by dsimp only;rw[bS,fV];omega) (aR (aU (Xy tr I) ?_));dsimp only;rw[YA hb,ab0];refine aU (LZ _ _ _) (ar ?_);rw[h,h2];rfl
      .rw[hab,kT]at h2;rw[h,h2];rfl
     .rw[h];rfl
    rintro x rfl;rw[rI];refine aO (λh=>bg ?_ (by omega) (ar ?_)) λh=>ar ?_
    .dsimp only;rw[bm,c9];omega
    .dsimp only;rw[aD h,fY]
    .dsimp only at h ⊢;rw[aA (by rw[h];decide)]
   rintro x rfl;refine ar ?_;dsimp only;rw[gE (by omega)]
  .rintro x rfl;refine dj (ar ?_);dsimp only;rw[gE (by omega)];rfl
  .rw[rI,fJ];rfl
 .rintro x rfl;exact dj (ar rfl)
theorem LO (r:List Γ) (h:r.length<=1000000):ng (r,r)=af ai:=by
 refine ct ?_;unfold ng bA iO bD aZ cK aF cH;refine b_ (λq=>(q rfl).elim) λ_=>?_
 refine b8 r.length (λi x=>x=(i:Int)) ?_ ?_ rfl
 .rintro i x hi rfl;refine di ?_;refine bZ (aR (bZ (aR ?_)));generalize (aK (T:=.st (.pr (.int .i64) (.int .i64))) r (i:Int))=z;refine fP ?_ (ar (gE (by omega)));obtain⟨(J:Int),(I:Int)⟩:=z;simp[N3]
 .rintro x rfl;exact dj (ar rfl)
end
end Go.Proofs.YtgijlolllojpaaaGreatDoor.AI
