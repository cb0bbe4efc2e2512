/-
  Texts of the proof, part 3 of 6: what is used to prove the statement. No condition.
-/
import Derived.Test.YtgijlolllojpaaaGreatDoorShbClocksQ1
import Derived.KernelRfl
namespace Go.Proofs.YtgijlolllojpaaaGreatDoor.AI
open Go.RowKit
set_option maxRecDepth 100000
set_option maxHeartbeats 4000000
set_option linter.unusedVariables false
set_option linter.unusedSimpArgs false
open _root_.Bool renaming true→ai,false→aj
open _root_.Classical renaming propDecidable→yY
open _root_.Int renaming ofNat_eq_natCast→au,ofNat→aO,toNat→aT,reduceEq→aV,reduceNeg→bn,toNat_natCast→dC
open _root_.List renaming length→al,replicate→aG,range→bt,length_cons→b_,take→dF,length_singleton→dS,cons_append→gr,length_nil→j6,nil_append→l9,foldl_cons→xD,take_zero→LG
open _root_.Nat renaming beq→aC,add_zero→dx
open _root_.Option renaming some→af,none→ah,map_some→co,getD_some→vu
open _root_.Prod renaming p2→aX,p3→bf,p4→bp,q3→bL,p5→ch,q5→cR,q4→dw,p6→dA,q6→fc,p7→jt,q7→kK,q8→nM,p8→vq,p10→xv,p9→xz,p11→Eu,q11→LD,q9→Oi
open _root_.Sum renaming inr→bP,inl→lD
noncomputable section
def NE (op:Int):Prop:=op=1\/op=2\/op=3\/op=14
def ZE (e:Xp):Prop:=GE 4 e\/e= .mk 0 0 [] []
structure NO (nT:Nat) (s:Sx):Prop where
 o0:1<=s.op
 o1:s.op<=15
 vr:s.op=1->s.index=[]->s.name∈NV
 lk:s.op=4->s.name=[109]\/s.name=[110]
 rw:s.op=5\/s.op=6->s.name=[114]
 cn:s.op=9\/s.op=10\/s.op=11->s.name=[99]
 sp:s.op=12\/s.op=13->s.name∈wB.take nT
 se:s.op=14->s.name=[102]
 ge:s.op=15->s.name=[97]/\s.arg=[102]
 el:¬s.op=2->s.els=[]
 bo:s.op=1\/9<=s.op->s.body=[]
variable {nT:Nat}
def GS (nT:Nat):Nat->Sx->Prop
 |0,_=>False
 |d+1,s=>(s.index≠[]->s.name=[113])/\s.index.length<=1/\(∀e∈s.index,GE 4 e)/\(NE s.op->GE 4 s.expr)/\ZE s.expr/\s.body.length<=8/\s.els.length<=8/\(∀x∈s.body,GS nT d x)/\(∀x∈s.els,GS nT d x)/\NO nT s
theorem GS.mono:∀{d:Nat} {s:Sx},GS nT d s->GS nT (d+1) s
 |0,_,h=>h.elim
 |_+1,_,⟨a,b,c,e,f,g,i,j,k,l⟩=>⟨a,b,c,e,f,g,i,λx I=>(j x I).mono,λx I=>(k x I).mono,l⟩
theorem GS.le {d k:Nat} {s:Sx} (h:GS nT d s) (hk:d<=k):GS nT k s:=by
 induction hk with
 |refl=>exact h
 |step _ I=>exact I.mono
theorem NO.asg {s a:ζ} {e:Xp} {i:List Xp} (hs:i=[]->s∈NV):NO nT (.mk 1 0 s a i e [] []):=by
 constructor<;>simp[Sx.op,Sx.name,Sx.index,Sx.els,Sx.body];exact λh=>by simpa using hs h
theorem GS.asg {d:Nat} {s:ζ} (hs:s∈NV) {e:Xp} (h:GE 4 e):GS nT (d+1) (.mk 1 0 s [] [] e [] []):=
 ⟨λh=>(h rfl).elim,by simp[Sx.index],λe he=>(by cases he),λ_=>h,.inl h,by simp[Sx.body],by simp[Sx.els],λx I=>(by cases I),λx I=>(by cases I),NO.asg λ_=>hs⟩
theorem GS.aix {d:Nat} {i e:Xp} (hi:GE 4 i) (h:GE 4 e):GS nT (d+1) (.mk 1 0 [113] [] [i] e [] []):=
 ⟨λ_=>rfl,by simp[Sx.index],λe he=>(by simp only[Sx.index,aL]at he;rw[he];exact hi),λ_=>h,.inl h,by simp[Sx.body],by simp[Sx.els],λx I=>(by cases I),λx I=>(by cases I),NO.asg λh=>(by cases h)⟩
theorem GS.we {d:Nat} {op:Int} {s a:ζ} {e:Xp} {b l:List Sx} (h:GE 4 e) (hb:b.length<=8) (hl:l.length<=8) (I:∀x∈b,GS nT d x) (gl:∀x∈l,GS nT d x) (hn:NO nT (.mk op 0 s a [] e b l)):GS nT (d+1) (.mk op 0 s a [] e b l):=
 ⟨λh=>(h rfl).elim,by simp[Sx.index],λe he=>(by cases he),λ_=>h,.inl h,hb,hl,I,gl,hn⟩
theorem GS.wo {d:Nat} {op ln:Int} {s a:ζ} {b:List Sx} (M:4<=op/\op≠14) (hb:b.length<=8) (J:∀x∈b,GS nT d x) (hn:NO nT (.mk op ln s a [] (.mk 0 0 [] []) b [])):GS nT (d+1) (.mk op ln s a [] (.mk 0 0 [] []) b []):=
 ⟨λh=>(h rfl).elim,by simp[Sx.index],λe he=>(by cases he),λh=>(by have h:op=1\/op=2\/op=3\/op=14:=h;omega),.inr rfl,hb,by simp[Sx.els],J,λx I=>(by cases I),hn⟩
def QS (nT:Nat) (d:Nat) (n:Int) (t:Qo) (h:HD) (y:MK×Qo×HD×List Sx):Prop:=(y.2.2.2.length:Int)<=max 0 n/\(∀s∈y.2.2.2,GS nT (d+1) s)/\vo t y.2.1/\y.2.2.1.2=h.2
def QT (nT:Nat) (d:Nat) (t:Qo) (h:HD) (y:Sx×MK×Qo×HD):Prop:=GS nT (d+1) y.1/\vo t y.2.2.1/\y.2.2.2.2=h.2
def QB (nT:Nat) (d:Nat) (t:Qo) (h:HD) (y:List Sx×MK×Qo×HD):Prop:=y.1.length<=2/\(∀s∈y.1,GS nT (d+1) s)/\vo t y.2.2.1/\y.2.2.2.2=h.2
abbrev RS:Type:=(ν×MK×Qo×HD)->Option (MK×Qo×HD×List Sx)
abbrev RT:Type:=(Int×MK×Qo×HD)->Option (Sx×MK×Qo×HD)
abbrev RBk:Type:=((ζ×Int)×MK×Qo×HD)->Option (List Sx×MK×Qo×HD)
def SpS (nT:Nat) (rs:RS) (d:Nat):Prop:=∀(n:Int) (m:MK) (t:Qo) (h:HD),n<=3->TP t->h.2.length+d<=100->Ok (rs (((d:Int),n),m,t,h)) (QS nT d n t h)
def SpT (nT:Nat) (I:RT) (d:Nat):Prop:=∀(m:MK) (t:Qo) (h:HD),TP t->h.2.length+d<=100->Ok (I ((d:Int),m,t,h)) (QT nT d t h)
def SpB (nT:Nat) (I:RBk) (d:Nat):Prop:=∀(s:ζ) (m:MK) (t:Qo) (h:HD),TP t->h.2.length+1+d<=100->Ok (I ((s,(d:Int)),m,t,h)) (QB nT d t h)
theorem Y' (rs:RS) (M:RT) (rb:RBk) (d:Nat) (ht:SpT nT M d):SpS nT (mI rs M rb) d:=by
 intro n m t h hn hp hh;unfold mI aX bf bp bL dw cR bd bz bB cK aF cF eh;refine qr (λx=>(n-x.1).toNat) (λx=>0<=x.1/\(x.1<=n\/x.1=0)/\vo t x.2.2.1/\(x.2.2.2.1.length:Int)<=x.1/\(∀s∈x.2.2.2.1,GS nT (d+1) s)/\x.2.2.2.2.2=h.2) ?_ ⟨eB _,.inr rfl,vo.refl hp,by simp,λs hs=>(by cases hs),rfl⟩;rintro⟨(i:Int),m',t',l,h'⟩ ⟨i0,i1,e1,e2,e3,J⟩;dsimp only at i0 i1 e1 e2 e3 J;refine aZ (λx=>x.2=(m',t',l,h')/\(x.1=ai->i<n)) ?_ ?_
 .refine bI (λg=>aK (λ_=>ar ⟨rfl,λ_=>g⟩) λ_=>ar ⟨rfl,λ_=>g⟩) λ_=>ar ⟨rfl,λh=>(by cases h)⟩
 rintro⟨b,x⟩ ⟨Z,Y⟩;dsimp only at Z Y;subst Z;refine aP (λhb=>?_) λ_=>ar ⟨by dsimp only;omega,e3,e1,J⟩
 have g:=Y hb;refine ax (ht m' t' h' e1.p (by rw[J];exact hh)) λy hy=>?_
 obtain⟨s,m2,t2,h2⟩:=y;obtain⟨k1,k2,U⟩:=hy;dsimp only at k1 k2 U;refine bg (by simp) (bh (by simp;omega) (by omega) (ar ?_));dsimp only;rw[fx,zk,ic (n:=i+1) (by omega) (by omega)];refine ⟨⟨by omega,by omega,e1.trans k2,by simp;omega,λx I=>?_,U.trans J⟩,by omega⟩;rcases bV.1 I with I|I
 .exact e3 x I
 .rw[aL]at I;subst I;exact k1
theorem Zc (rs:RS) (rt:RT) (rb:RBk) (d:Nat) (hs:SpS nT rs d):SpB nT (mJ rs rt rb) d:=by
 intro s m t h hp hh;unfold mJ aX bf bL dw bB aY;refine bh (by simp;omega) (by omega) ?_;refine ax (gp 2 t hp) λy M=>?_
 obtain⟨k,t1⟩:=y;obtain⟨J,Z,I,_⟩:=M;have I:=I (by decide);dsimp only at J Z I;have ew:bk .i64 (1+k)=1+k:=ic (by omega) (by omega);dsimp only;rw[ew];refine ax (hs (1+k) m t1 (h.1,h.2++[s]) (by omega) J.p (by simp;omega)) λy M=>?_
 obtain⟨m2,t2,h2,l⟩:=y;obtain⟨k1,k2,Y,U⟩:=M;dsimp only at k1 k2 Y U;refine bg (by simp) ?_;dsimp only;rw[U];have el:bk .i64 ((aO (h.2++[s]).length)-1)=(h.2.length:Int):=by
  rw[bx,dS,ic (by simp<;>omega) (by simp<;>omega)];simp<;>omega
 rw[el];refine di (eA (by omega) (Av (by simp;omega) (ar ?_)));refine ⟨by dsimp only;omega,k2,J.trans Y,?_⟩;show dF (aT (h.2.length:Int)) (h.2++[s])=h.2;simp
theorem Dn (s:ζ) (m:MK) (t:Qo) (h:HD) (hh:h.2.length<=100):Ok (eQ (s,m,t,h)) λy=>y.2=(m,t,h):=by
 unfold eQ dw;exact ax (yW h.2 s (by omega)) λy _=>ar rfl
theorem acr (rs:RS) (rt:RT) (rb:RBk) (d:Nat) (hd:d<=5) (h0:1<=d->SpS nT rs 0) (hS:1<=d->SpS nT rs (d-1)) (hB:1<=d->SpB nT rb (d-1)):SpT nT (og rs rt rb) d:=by
 intro m t h hp hh;unfold og aX bf bp bL dw cR bd bz bB kl aF eh;refine ax (gp 18 t hp) λy J=>?_
 obtain⟨k,t1⟩:=y;obtain⟨s1,k0,k1,_⟩:=J;have k1:=k1 (by decide);dsimp only at s1 k0 k1;have hE:∀(j:Nat) (m':MK) (t':Qo) (h':HD),j<=1->TP t'->Ok (fo ((j:Int),m',t',h')) λy=>GE 4 y.1/\y.2.1=m'/\vo t' y.2.2.1/\y.2.2.2=h':=λj m' t' h' hj ht'=>(abx j (by omega) m' t' h' ht').mono λy J=>⟨J.1.le (by omega),J.2⟩
 have ed:bk .i64 ((d:Int)-1)=(d:Int)-1:=ic (by omega) (by omega);have ed1:1<=d->(d:Int)-1=((d-1:Nat):Int):=λ_=>by omega
 refine aZ (λx=>x.2=((m.1,bk .i64 (m.2.1-1),m.2.2),t1,(0,0,[],[],0,0,[]),h)/\(x.1=ai->1<=d)) ?_ ?_
 .refine bI (λg=>aS (bI (λ_=>ar ⟨rfl,λ_=>?_⟩) λ_=>ar ⟨rfl,λh=>(by cases h)⟩)) λ_=>ar ⟨rfl,λh=>(by cases h)⟩
  dsimp only at g;omega
 generalize ((m.1,bk .i64 (m.2.1-1),m.2.2):MK)=m0;rintro⟨nest,x⟩ ⟨e,hn⟩;dsimp only at e hn;subst e;refine bI (λ_=>?_) λg4=>?_
 .refine aR k0 (by dsimp only[al];omega) (aR k0 (by dsimp only[al];omega) (aS ?_));refine ax (hE 1 m0 t1 h (by omega) s1.p) λy J=>?_
  obtain⟨e,m2,t2,h2⟩:=y;obtain⟨v1,v2,v3,v4⟩:=J;dsimp only at v1 v2 v3 v4;subst v2;subst v4;refine bg (by simp) (aU (ul _ _) (ar ?_));dsimp only;rw[fx,zk];have hnv:∀z∈([[120],[121],[120],[118]]:List ζ),z∈NV:=by decide
  exact⟨GS.asg (hnv _ (bJ (T:=.str) k0 (by dsimp only[al];omega))) v1,s1.trans v3,rfl⟩
 dsimp only at g4;refine aK (λ_=>?_) λg5=>?_
 .refine ax (gp 2 t1 s1.p) λy J=>?_
  obtain⟨u1,u2,u3,_⟩:=J;have u3:=u3 (by decide);refine aR u2 u3 (aR u2 u3 (aS ?_));refine ax (hE 1 m0 y.2 h (by omega) u1.p) λz U=>?_
  obtain⟨e,m2,t2,h2⟩:=z;obtain⟨v1,v2,v3,v4⟩:=U;dsimp only at v1 v2 v3 v4;subst v2;subst v4;refine bg (by simp) (aU (ul _ _) (ar ?_));dsimp only;rw[fx,zk];have hnv:∀z∈([[97],[98]]:List ζ),z∈NV:=by decide
  exact⟨GS.asg (hnv _ (bJ (T:=.str) u2 u3)) v1,s1.trans (u1.trans v3),rfl⟩
 dsimp only at g5;refine aK (λ_=>?_) λg6=>?_
 .refine ax (hE 0 m0 t1 h (by omega) s1.p) λz U=>?_
  obtain⟨e,m2,t2,h2⟩:=z;obtain⟨v1,v2,v3,v4⟩:=U;dsimp only at v1 v2 v3 v4;subst v2;subst v4;refine bg (by simp) ?_;refine ax (hE 1 m2 t2 h2 (by omega) v3.p) λz U=>?_
  obtain⟨e',m3,t3,h3⟩:=z;obtain⟨w1,Z,w3,w4⟩:=U;dsimp only at w1 Z w3 w4;subst Z;subst w4;refine bg (by simp) (ar ?_);dsimp only;rw[fx,fx];exact⟨GS.aix v1 w1,s1.trans (v3.trans w3),rfl⟩
 dsimp only at g6;have U:∀(c:Prop),c->c:=λ_ h=>h
 have dd:1<=d->d-1+1=d:=λ_=>by omega
 have w8:8<=k->bk .i64 (k-8)=k-8:=λ_=>ic (by omega) (by omega)
 refine aZ (λx=>x.2=(m0,t1,(0,0,[],[],0,0,[]),h)/\(x.1=ai->1<=d)) ?_ ?_
 .refine aK (λ_=>ar ⟨rfl,λg=>?_⟩) λ_=>ar ⟨rfl,λh=>(by cases h)⟩
  dsimp only at g;rw[tX]at g;omega
 rintro⟨b,x⟩ ⟨e,hb⟩;dsimp only at e hb;subst e;refine aP (λI=>?_) λ_=>?_
 .have M:=hb I;refine ax (hE 1 m0 t1 h (by omega) s1.p) λz U=>?_
  obtain⟨e,m2,t2,h2⟩:=z;obtain⟨v1,v2,v3,v4⟩:=U;dsimp only at v1 v2 v3 v4;subst v2;subst v4;refine bg (by simp) ?_;dsimp only;rw[ed,ed1 M];refine ax (hS M 1 m2 t2 h2 (by omega) v3.p (by omega)) λz U=>?_
  obtain⟨m3,t3,h3,l⟩:=z;obtain⟨w1,Z,w3,w4⟩:=U;dsimp only at w1 Z w3 w4;rw[dd M]at Z;refine bg (by simp) ?_;refine aZ (λx=>x.2.2.2.1=(2,0,[],[],e.op,e.n,e.name,e.l)/\vo t1 x.2.1/\x.2.2.2.2.1.2=h2.2/\x.2.2.2.2.2.1=l/\x.2.2.2.2.2.2.length<=8/\∀s∈x.2.2.2.2.2.2,GS nT d s) ?_ ?_
  .refine ax (gp 2 t3 w3.p) λy J=>?_
   refine aK (λ_=>?_) λ_=>ar ⟨rfl,v3.trans (w3.trans J.1),w4,rfl,by simp,λs hs=>(by cases hs)⟩
   dsimp only;refine ax (hS M 1 m3 y.2 h3 (by omega) J.1.p (by rw[w4];omega)) λz U=>?_
   obtain⟨m4,t4,h4,l2⟩:=z;obtain⟨x1,x2,x3,x4⟩:=U;dsimp only at x1 x2 x3 x4;rw[dd M]at x2;exact bg (by simp) (ar ⟨rfl,v3.trans (w3.trans (J.1.trans x3)),x4.trans w4,rfl,by dsimp only;omega,x2⟩)
  rintro⟨m5,t5,z5,e5,h5,l5,l6⟩ ⟨x1,x2,x3,x4,x5,x6⟩;dsimp only at x1 x2 x3 x4 x5 x6;subst x1;subst x4;refine ar ?_;dsimp only;rw[fx];exact⟨GS.we v1 (by first|omega|(dsimp only;omega)) x5 Z x6 (by constructor<;>simp[Sx.op,Sx.name,Sx.index,Sx.arg,Sx.els,Sx.body]),s1.trans x2,x3⟩
 refine aZ (λx=>x.2=(m0,t1,(0,0,[],[],0,0,[]),h)/\(x.1=ai->1<=d)) ?_ ?_
 .refine aK (λ_=>ar ⟨rfl,λg=>?_⟩) λ_=>ar ⟨rfl,λh=>(by cases h)⟩
  dsimp only at g;rw[tX]at g;omega
 rintro⟨b,x⟩ ⟨e,hb⟩;dsimp only at e hb;subst e;refine aP (λI=>?_) λ_=>?_
 .have M:=hb I;refine aU (Ig _) (aU (OQ _) (aU (FM _ _ _) ?_));dsimp only;rw[ed,ed1 M];refine ax (hS M 1 _ t1 h (by omega) s1.p (by omega)) λz U=>?_
  obtain⟨m3,t3,h3,l⟩:=z;obtain⟨w1,Z,w3,w4⟩:=U;dsimp only at w1 Z w3 w4;rw[dd M]at Z;refine bg (by simp) ?_;refine aU (Ig _) (aU (OQ _) (aU (FM _ _ _) (aU (ul _ _) ?_)));refine bh (by simp;omega) (by omega) (ar ?_);dsimp only;rw[fx,fx,zk];refine ⟨GS.we (GE.bin (by omega) (GE.nm (by decide) 2) (GE.num _ 2)) (by simp;omega) (by simp) (λx Y=>?_) (λx Y=>(by cases Y)) (by constructor<;>simp[Sx.op,Sx.name,Sx.index,Sx.arg,Sx.els,Sx.body]),s1.trans w3,w4⟩;rcases bV.1 Y with Y|Y
  .exact Z x Y
  .rw[aL]at Y;subst Y;rw[<- dd M];exact GS.asg (by decide) (GE.bin (by omega) (GE.nm (by decide) 2) (GE.num _ 2))
 refine aZ (λx=>x.2=(m0,t1,(0,0,[],[],0,0,[]),h)/\(x.1=ai->nest=ai/\(k=8\/k=9))) ?_ ?_
 .refine aK (λg=>aP (λgn=>?_) λ_=>ar ⟨rfl,λh=>(by cases h)⟩) λ_=>aK (λg=>aP (λgn=>?_) λ_=>ar ⟨rfl,λh=>(by cases h)⟩) λ_=>ar ⟨rfl,λh=>(by cases h)⟩
  all_goals
   dsimp only at g ⊢;rw[w8 (by omega)];refine aR (by omega) (by simp;omega) (aR (by omega) (by simp;omega) (aS ?_));refine ax (Dn _ m0 t1 h (by omega)) λy J=>?_
   obtain⟨yb,y2⟩:=y;dsimp only at J;subst J;exact bg (by simp) (ar ⟨rfl,λ_=>⟨gn,by omega⟩⟩)
 rintro⟨b,x⟩ ⟨e,hb⟩;dsimp only at e hb;subst e;refine aP (λI=>?_) λ_=>?_
 .obtain⟨q1,q2⟩:=hb I;have M:=hn q1;have hnm:aJ (T:=.str) [[109],[110]] (k-8)=[109]\/aJ (T:=.str) [[109],[110]] (k-8)=[110]:=by rcases q2 with rfl|rfl<;>simp[aJ]
  dsimp only;rw[w8 (by omega),ed,ed1 M];refine aR (by omega) (by simp;omega) (aR (by omega) (by simp;omega) (aS ?_));refine ax (hB M _ m0 t1 h s1.p (by omega)) λz U=>?_
  obtain⟨l,m3,t3,h3⟩:=z;obtain⟨w1,Z,w3,w4⟩:=U;dsimp only at w1 Z w3 w4;rw[dd M]at Z;exact bg (by simp) (ar ⟨GS.wo (by omega) (by first|omega|(dsimp only;omega)) Z (by constructor<;>simp[Sx.op,Sx.name,Sx.index,Sx.arg,Sx.els,Sx.body];exact hnm),s1.trans w3,w4⟩)
 refine aZ (λx=>x.2=(m0,t1,(0,0,[],[],0,0,[]),h)/\(x.1=ai->nest=ai/\(k=10\/k=11))) ?_ ?_
 .refine aK (λg=>aP (λgn=>?_) λ_=>ar ⟨rfl,λh=>(by cases h)⟩) λ_=>aK (λg=>aP (λgn=>?_) λ_=>ar ⟨rfl,λh=>(by cases h)⟩) λ_=>ar ⟨rfl,λh=>(by cases h)⟩
  all_goals
   dsimp only at g ⊢;refine ax (Dn _ m0 t1 h (by omega)) λy J=>?_
   obtain⟨yb,y2⟩:=y;dsimp only at J;subst J;exact bg (by simp) (ar ⟨rfl,λ_=>⟨gn,by omega⟩⟩)
 rintro⟨b,x⟩ ⟨e,hb⟩;dsimp only at e hb;subst e;refine aP (λI=>?_) λ_=>?_
 .obtain⟨q1,q2⟩:=hb I;have M:=hn q1;dsimp only;rw[ed,ed1 M,ic (n:=k-10) (by omega) (by omega),ic (n:=k-10+5) (by omega) (by omega)];refine ax (hB M _ m0 t1 h s1.p (by omega)) λz U=>?_
  obtain⟨l,m3,t3,h3⟩:=z;obtain⟨w1,Z,w3,w4⟩:=U;dsimp only at w1 Z w3 w4;rw[dd M]at Z;exact bg (by simp) (ar ⟨GS.wo (by omega) (by first|omega|(dsimp only;omega)) Z (by constructor<;>simp[Sx.op,Sx.name,Sx.index,Sx.arg,Sx.els,Sx.body]<;>omega),s1.trans w3,w4⟩)
 refine aZ (λx=>x.2=(m0,t1,(0,0,[],[],0,0,[]),h)/\(x.1=ai->nest=ai)) ?_ ?_
 .exact aK (λ_=>ar ⟨rfl,λg=>g⟩) λ_=>ar ⟨rfl,λh=>(by cases h)⟩
 rintro⟨b,x⟩ ⟨e,hb⟩;dsimp only at e hb;subst e;refine aP (λI=>?_) λ_=>?_
 .have M:=hn (hb I);refine ax (gp 2 t1 s1.p) λy J=>?_
  obtain⟨u1,u2,u3,_⟩:=J;have u3:=u3 (by decide);dsimp only;rw[ic (n:=1+y.1) (by omega) (by omega)];refine ax (h0 M (1+y.1) _ y.2 h (by omega) u1.p (by omega)) λz U=>?_
  obtain⟨m3,t3,h3,l⟩:=z;obtain⟨w1,Z,w3,w4⟩:=U;dsimp only at w1 Z w3 w4;exact bg (by simp) (ar ⟨GS.wo (by omega) (by first|omega|(dsimp only;omega)) (λx Y=>(Z x Y).le (by omega)) (by constructor<;>simp[Sx.op,Sx.name,Sx.index,Sx.arg,Sx.els,Sx.body]),s1.trans (u1.trans w3),w4⟩)
 refine aZ (λx=>x.2=(m0,t1,(0,0,[],[],0,0,[]),h)/\(x.1=ai->nest=ai)) ?_ ?_
 .exact aK (λ_=>aP (λgn=>ar ⟨rfl,λ_=>gn⟩) λ_=>ar ⟨rfl,λh=>(by cases h)⟩) λ_=>ar ⟨rfl,λh=>(by cases h)⟩
 rintro⟨b,x⟩ ⟨e,hb⟩;dsimp only at e hb;subst e;refine aP (λI=>?_) λ_=>?_
 .have M:=hn (hb I);dsimp only;rw[ed,ed1 M];refine ax (hS M 2 _ t1 h (by omega) s1.p (by omega)) λz U=>?_
  obtain⟨m3,t3,h3,l⟩:=z;obtain⟨w1,Z,w3,w4⟩:=U;dsimp only at w1 Z w3 w4;rw[dd M]at Z;exact bg (by simp) (ar ⟨GS.wo (by omega) (by first|omega|(dsimp only;omega)) Z (by constructor<;>simp[Sx.op,Sx.name,Sx.index,Sx.arg,Sx.els,Sx.body]),s1.trans w3,w4⟩)
 refine aZ (λx=>x.2=(m0,t1,(0,0,[],[],0,0,[]),h)/\(x.1=ai->nest=ai)) ?_ ?_
 .refine aK (λ_=>aP (λgn=>aP (λ_=>?_) λ_=>ar ⟨rfl,λh=>(by cases h)⟩) λ_=>ar ⟨rfl,λh=>(by cases h)⟩) λ_=>ar ⟨rfl,λh=>(by cases h)⟩
  refine ax (Dn _ m0 t1 h (by omega)) λy J=>?_
  obtain⟨yb,y2⟩:=y;dsimp only at J;subst J;exact bg (by simp) (ar ⟨rfl,λ_=>gn⟩)
 rintro⟨b,x⟩ ⟨e,hb⟩;dsimp only at e hb;subst e;refine aP (λI=>?_) λ_=>?_
 .have M:=hn (hb I);refine aU (Ig _) (aU (ul _ _) (ar ?_));dsimp only;rw[fx,zk];refine ⟨GS.wo (by omega) (by simp) (λx Y=>?_) (by constructor<;>simp[Sx.op,Sx.name,Sx.index,Sx.arg,Sx.els,Sx.body]),s1,rfl⟩;simp only[bm,cD,gh]at Y;rw[<- dd M];rcases Y with rfl|rfl
  .exact GS.wo (by omega) (by simp) (λx Y=>(by cases Y)) (by constructor<;>simp[Sx.op,Sx.name,Sx.index,Sx.arg,Sx.els,Sx.body])
  .exact GS.asg (by decide) (GE.nm (by decide) 3)
 refine aZ (λx=>x.2=(m0,t1,(0,0,[],[],0,0,[]),h)/\(x.1=ai->nest=ai)) ?_ ?_
 .refine aK (λ_=>aP (λgn=>?_) λ_=>ar ⟨rfl,λh=>(by cases h)⟩) λ_=>ar ⟨rfl,λh=>(by cases h)⟩
  refine ax (Dn _ m0 t1 h (by omega)) λy J=>?_
  obtain⟨yb,y2⟩:=y;dsimp only at J;subst J;exact bg (by simp) (ar ⟨rfl,λ_=>gn⟩)
 rintro⟨b,x⟩ ⟨e,hb⟩;dsimp only at e hb;subst e;refine aP (λI=>?_) λ_=>?_
 .have M:=hn (hb I);refine ax (gp 2 t1 s1.p) λy J=>ar ?_
  obtain⟨u1,u2,u3,_⟩:=J;have u3:=u3 (by decide);dsimp only;rw[ic (n:=10+y.1) (by omega) (by omega)];refine ⟨GS.wo (by omega) (by simp) (λx Y=>?_) (by constructor<;>simp[Sx.op,Sx.name,Sx.index,Sx.arg,Sx.els,Sx.body]),s1.trans u1,rfl⟩;simp only[bm,cD,gh]at Y;rw[Y,<-dd M];exact GS.wo (by omega) (by simp) (λx Y=>(by cases Y)) (by constructor<;>simp[Sx.op,Sx.name,Sx.index,Sx.arg,Sx.els,Sx.body]<;>omega)
 refine aZ (λx=>x.2=(m0,t1,(0,0,[],[],0,0,[]),h)) ?_ ?_
 .exact aK (λ_=>aP (λ_=>aP (λ_=>ar rfl) λ_=>ar rfl) λ_=>ar rfl) λ_=>ar rfl
 rintro⟨b,x⟩ e;dsimp only at e;subst e;refine aP (λI=>?_) λ_=>?_
 .refine ax (hE 1 _ t1 h (by omega) s1.p) λz U=>?_
  obtain⟨e,m2,t2,h2⟩:=z;obtain⟨v1,v2,v3,v4⟩:=U;dsimp only at v1 v2 v3 v4;subst v2;subst v4;refine bg (by simp) (ar ?_);dsimp only;rw[fx];exact⟨GS.we v1 (by simp) (by simp) (λx Y=>(by cases Y)) (λx Y=>(by cases Y)) (by constructor<;>simp[Sx.op,Sx.name,Sx.index,Sx.arg,Sx.els,Sx.body]),s1.trans v3,rfl⟩
 refine aZ (λx=>x.2.1=m0/\vo t1 x.2.2.1/\x.2.2.2.2=h) ?_ ?_
 .refine aK (λ_=>aP (λ_=>?_) λ_=>ar ⟨rfl,vo.refl s1.p,rfl⟩) λ_=>ar ⟨rfl,vo.refl s1.p,rfl⟩
  exact ax (gp 2 t1 s1.p) λy J=>ar ⟨rfl,J.1,rfl⟩
 rintro⟨b,m9,t9,z9,h9⟩ ⟨e1,e2,e3⟩;dsimp only at e1 e2 e3;subst e1;subst e3;refine aP (λI=>?_) λ_=>?_
 .exact ar ⟨GS.wo (by omega) (by simp) (λx Y=>(by cases Y)) (by constructor<;>simp[Sx.op,Sx.name,Sx.index,Sx.arg,Sx.els,Sx.body]),s1.trans e2,rfl⟩
 refine ax (hE 1 _ t9 h9 (by omega) e2.p) λz U=>?_
 obtain⟨e,m2,t2,h2⟩:=z;obtain⟨v1,v2,v3,v4⟩:=U;dsimp only at v1 v2 v3 v4;subst v2;subst v4;refine bg (by simp) (aU (ul _ _) (ar ?_));dsimp only;rw[fx,zk];exact⟨GS.asg (by decide) v1,s1.trans (e2.trans v3),rfl⟩
theorem Ns:∀(n:Nat),(∀d:Nat,d<=5->3*d+1<=n->SpT nT (eK n) d)/\(∀d:Nat,d<=5->3*d+2<=n->SpS nT (dL n) d)/\(∀d:Nat,d<=5->3*d+3<=n->SpB nT (dX n) d)
 |0=>⟨λd _ h=>by omega,λd _ h=>by omega,λd _ h=>by omega⟩
 |n+1=>by
  obtain⟨J,I,M⟩:=Ns n;refine ⟨λd h1 h2=>?_,λd h1 h2=>?_,λd h1 h2=>?_⟩
  .exact acr (dL n) (eK n) (dX n) d h1 (λh=>I 0 (by omega) (by omega)) (λh=>I (d-1) (by omega) (by omega)) (λh=>M (d-1) (by omega) (by omega))
  .exact Y' (dL n) (eK n) (dX n) d (J d h1 (by omega))
  .exact Zc (dL n) (eK n) (dX n) d (I d h1 (by omega))
theorem YM (d:Nat) (hd:d<=5):SpS nT qG d:=(Ns fuel).2.1 d hd (by rw[jW];omega)
def GX:Nat->Xp->Prop
 |0,_=>False
 |d+1,e=>e.l.length<=2/\∀x∈e.l,GX d x
theorem GE.x:∀{d:Nat} {e:Xp},GE d e->GX d e
 |0,_,h=>h.elim
 |_+1,_,h=>⟨h.2.2.1,λx I=>(h.2.2.2.1 x I).x⟩
theorem ZE.x {e:Xp} (h:ZE e):GX 4 e:=by
 rcases h with h|rfl
 .exact h.x
 .exact⟨by simp[Xp.l],λx I=>(by cases I)⟩
def GT:Nat->Sx->Prop
 |0,_=>False
 |d+1,s=>s.index.length<=1/\(∀e∈s.index,GX 4 e)/\GX 4 s.expr/\s.body.length<=8/\s.els.length<=8/\(∀x∈s.body,GT d x)/\(∀x∈s.els,GT d x)
theorem GS.t {nT:Nat}:∀{d:Nat} {s:Sx},GS nT d s->GT d s
 |0,_,h=>h.elim
 |_+1,_,⟨_,b,c,_,f,g,i,j,k,_⟩=>⟨b,λe he=>(c e he).x,f.x,g,i,λx I=>(j x I).t,λx I=>(k x I).t⟩
theorem yB (s:Sx):nY (Sx.op s,Sx.line s,Sx.name s,Sx.arg s,Sx.index s,d_ (Xp.op (Sx.expr s),Xp.n (Sx.expr s),Xp.name (Sx.expr s),Xp.l (Sx.expr s)),Sx.body s,Sx.els s)=s:=by
 rw[fx,zk]
theorem T6 (k:Int):Ok (mz k) λ_=>True:=by
 unfold mz bd iT aF;with_reducible repeat' first|(refine OS.ok ?_;constructor)|refine IM.mk λ_=>?_
 all_goals trivial
theorem qW (e:Xp):Ok (pD e) λ_=>True:=by
 unfold pD bd aF;with_reducible repeat' first|(refine OS.ok ?_;constructor)|refine IM.mk λ_=>?_
 all_goals trivial
theorem zQ:∀(n d:Nat) (e:Xp),d<n->GX d e->Ok (h_ n e) λ_=>True
 |0,_,_,h,_=>by omega
 |n+1,0,_,_,h=>h.elim
 |n+1,d+1,e,hn,h=>by
  obtain⟨h1,h2⟩:=h;rw[sQ];unfold mf bd bz iR bF cK aF cF;refine aZ (λx=>x.2=e) (aK (λ_=>ar (fx e)) λ_=>ar (fx e)) ?_;rintro⟨b,x⟩ J;dsimp only at J;subst J;refine aZ (λy=>y.2=x) ?_ ?_
  .refine ax (T6 _) λ_ _=>?_
   with_reducible repeat' first|refine ci (λ_=>?_) λ_=>?_|refine bI (λ_=>?_) λ_=>?_|refine em (λ_=>?_) λ_=>?_|refine aP (λ_=>?_) λ_=>?_|exact ar (fx x)|refine ax (iy _) λ_ _=>?_
  rintro⟨M,y⟩ I;dsimp only at I;subst I;refine aP (λ_=>ar trivial) λ_=>?_
  refine ca y.l.length (λi x=>x.1=(i:Int)/\x.2=y) ?_ ?_ ⟨rfl,fx y⟩
  .rintro i ⟨a,z⟩ hi ⟨e1,e2⟩;dsimp only at e1 e2;subst e1;subst e2;refine du ?_;refine cg (aS ?_);refine ax (zQ n d _ (by omega) (h2 _ (bJ (T:=.ex) (xs:=z.l) (j:=(i:Int)) (by omega) (by omega)))) λ_ _=>?_
   refine em (λ_=>ar trivial) λ_=>ar ?_
   dsimp only;exact⟨gO (by omega),fx z⟩
  .rintro⟨a,z⟩ ⟨e1,e2⟩;dsimp only at e1 e2;subst e1;subst e2;exact dv (ar trivial)
theorem gk (e:Xp) (h:GX 4 e):Ok (jh e) λ_=>True:=zQ fuel 4 e (by rw[jW];omega) h
theorem LQ (d:Int×Int×ζ×Int×Int×ζ):Ok (ka d) λ_=>True:=by
 unfold ka aX bf ch fc bd bz iR aF;refine aZ (λ_=>True) ?_ λx _=>aP (λ_=>ar trivial) λ_=>?_
 .with_reducible repeat' first|refine ci (λ_=>?_) λ_=>?_|refine bI (λ_=>?_) λ_=>?_|refine em (λ_=>?_) λ_=>?_|exact ar trivial|refine ax (iy _) λ_ _=>?_
 refine aZ (λ_=>True) ?_ λx _=>aP (λ_=>ar trivial) λ_=>?_
 .with_reducible repeat' first|refine ci (λ_=>?_) λ_=>?_|refine aK (λ_=>?_) λ_=>?_|refine em (λ_=>?_) λ_=>?_|exact ar trivial|refine ax (iy _) λ_ _=>?_
 with_reducible repeat' first|(refine OS.ok ?_;constructor)|refine IM.mk λ_=>?_
 all_goals trivial
theorem HH (I:Sx->Option Bool) (rs:List Sx->Option Bool) (l:List Sx) (hl:l.length<=1000) (h:∀s∈l,Ok (I s) λ_=>True):Ok (jD I rs l) λ_=>True:=by
 unfold jD bz tO aY cK aF cF;refine ca l.length (λi x=>x=(i:Int)) ?_ ?_ rfl
 .rintro i x hi rfl;refine du ?_;refine cg ?_;refine ax (h _ (bJ (T:=.sm) (xs:=l) (j:=(i:Int)) (by omega) (by omega))) λ_ _=>?_
  exact em (λ_=>ar trivial) λ_=>ar (gO (by omega))
 .rintro x rfl;exact dv (ar trivial)
theorem JU (J:Sx->Option Bool) (rs:List Sx->Option Bool) (s:Sx) (h1:∀e∈s.index,GX 4 e) (h2:GX 4 s.expr) (hb:Ok (rs s.body) λ_=>True) (he:Ok (rs s.els) λ_=>True):Ok (kg J rs s) λ_=>True:=by
 unfold kg bd bz iT iR bF aF eh;refine aZ (λx=>x.2=s) ?_ ?_
 .with_reducible repeat' first|refine ci (λ_=>?_) λ_=>?_|refine aK (λ_=>?_) λ_=>?_|refine bI (λ_=>?_) λ_=>?_|refine eV (λ_=>?_) λ_=>?_|refine em (λ_=>?_) λ_=>?_|refine aP (λ_=>?_) λ_=>?_|exact ar (yB _)|refine ax (iy _) λ_ _=>?_|refine ax (qW _) λ_ _=>?_|refine ax (gk _ h2x) λ_ _=>?_
 rintro⟨b,x⟩ I;dsimp only at I;have I:=I.symm;subst I;refine aP (λ_=>ar trivial) λ_=>?_
 refine aZ (λx=>x.2=s) ?_ ?_
 .with_reducible repeat' first|refine ci (λ_=>?_) λ_=>?_|refine aK (λ_=>?_) λ_=>?_|refine bI (λ_=>?_) λ_=>?_|refine eV (λ_=>?_) λ_=>?_|refine em (λ_=>?_) λ_=>?_|refine aP (λ_=>?_) λ_=>?_|exact ar (yB _)|refine ax (iy _) λ_ _=>?_|refine ax (qW _) λ_ _=>?_|refine ax (gk _ h2x) λ_ _=>?_
 rintro⟨b,x⟩ I;dsimp only at I;have I:=I.symm;subst I;refine aZ (λx=>x.2=s) ?_ ?_
 .with_reducible repeat' first|refine ci (λ_=>?_) λ_=>?_|refine aK (λ_=>?_) λ_=>?_|refine bI (λ_=>?_) λ_=>?_|refine eV (λ_=>?_) λ_=>?_|refine em (λ_=>?_) λ_=>?_|refine aP (λ_=>?_) λ_=>?_|exact ar (yB _)|refine ax (iy _) λ_ _=>?_|refine ax (qW _) λ_ _=>?_|refine ax (gk _ h2x) λ_ _=>?_
 rintro⟨b,x⟩ I;dsimp only at I;have I:=I.symm;subst I;refine aP (λ_=>ar trivial) λ_=>?_
 refine aZ (λx=>x.2=s) ?_ ?_
 .with_reducible repeat' first|refine ci (λ_=>?_) λ_=>?_|refine aK (λ_=>?_) λ_=>?_|refine bI (λ_=>?_) λ_=>?_|refine eV (λ_=>?_) λ_=>?_|refine em (λ_=>?_) λ_=>?_|refine aP (λ_=>?_) λ_=>?_|exact ar (yB _)|refine ax (iy _) λ_ _=>?_|refine ax (qW _) λ_ _=>?_|refine ax (gk _ h2x) λ_ _=>?_
 rintro⟨b,x⟩ I;dsimp only at I;have I:=I.symm;subst I;refine aP (λ_=>ar trivial) λ_=>?_
 refine aZ (λx=>x.2=s) ?_ ?_
 .with_reducible repeat' first|refine ci (λ_=>?_) λ_=>?_|refine aK (λ_=>?_) λ_=>?_|refine bI (λ_=>?_) λ_=>?_|refine eV (λ_=>?_) λ_=>?_|refine em (λ_=>?_) λ_=>?_|refine aP (λ_=>?_) λ_=>?_|exact ar (yB _)|refine ax (iy _) λ_ _=>?_|refine ax (qW _) λ_ _=>?_|refine ax (gk _ h2x) λ_ _=>?_
  all_goals
   rename_i g;dsimp only[au]at g;refine cg (aS ?_);refine ax (gk _ (h1 _ (bJ (T:=.ex) (xs:=Sx.index _) (j:=0) (by omega) (by omega)))) λ_ _=>ar (yB _)
 rintro⟨b,x⟩ I;dsimp only at I;have I:=I.symm;subst I;refine aP (λ_=>ar trivial) λ_=>?_
 refine aZ (λx=>x.2=s) ?_ ?_
 .with_reducible repeat' first|refine ci (λ_=>?_) λ_=>?_|refine aK (λ_=>?_) λ_=>?_|refine bI (λ_=>?_) λ_=>?_|refine eV (λ_=>?_) λ_=>?_|refine em (λ_=>?_) λ_=>?_|refine aP (λ_=>?_) λ_=>?_|exact ar (yB _)|refine ax (iy _) λ_ _=>?_|refine ax (qW _) λ_ _=>?_|refine ax (gk _ h2x) λ_ _=>?_
 rintro⟨b,x⟩ I;dsimp only at I;have I:=I.symm;subst I;refine aZ (λx=>x.2=s) ?_ ?_
 .have h2x:GX 4 (d_ (Xp.op (Sx.expr s),Xp.n (Sx.expr s),Xp.name (Sx.expr s),Xp.l (Sx.expr s))):=by rw[fx];exact h2
  with_reducible repeat' first|refine ci (λ_=>?_) λ_=>?_|refine aK (λ_=>?_) λ_=>?_|refine bI (λ_=>?_) λ_=>?_|refine eV (λ_=>?_) λ_=>?_|refine em (λ_=>?_) λ_=>?_|refine aP (λ_=>?_) λ_=>?_|exact ar (yB _)|refine ax (iy _) λ_ _=>?_|refine ax (qW _) λ_ _=>?_|refine ax (gk _ h2x) λ_ _=>?_
 rintro⟨b,x⟩ I;dsimp only at I;have I:=I.symm;subst I;refine aP (λ_=>ar trivial) λ_=>?_
 refine aZ (λx=>x.2=s) ?_ ?_
 .with_reducible repeat' first|refine ci (λ_=>?_) λ_=>?_|refine aK (λ_=>?_) λ_=>?_|refine bI (λ_=>?_) λ_=>?_|refine eV (λ_=>?_) λ_=>?_|refine em (λ_=>?_) λ_=>?_|refine aP (λ_=>?_) λ_=>?_|exact ar (yB _)|refine ax (iy _) λ_ _=>?_|refine ax (qW _) λ_ _=>?_|refine ax (gk _ h2x) λ_ _=>?_
 rintro⟨b,x⟩ I;dsimp only at I;have I:=I.symm;subst I;refine aZ (λx=>x.2=s) ?_ ?_
 .with_reducible repeat' first|refine ci (λ_=>?_) λ_=>?_|refine aK (λ_=>?_) λ_=>?_|refine bI (λ_=>?_) λ_=>?_|refine eV (λ_=>?_) λ_=>?_|refine em (λ_=>?_) λ_=>?_|refine aP (λ_=>?_) λ_=>?_|exact ar (yB _)|refine ax (iy _) λ_ _=>?_|refine ax (qW _) λ_ _=>?_|refine ax (gk _ h2x) λ_ _=>?_
 rintro⟨b,x⟩ I;dsimp only at I;have I:=I.symm;subst I;refine aP (λ_=>ar trivial) λ_=>?_
 refine aZ (λ_=>True) ?_ λ_ _=>ar trivial
 refine ax hb λ_ _=>aP (λ_=>ax he λ_ _=>ar trivial) λ_=>ar trivial
theorem J1:∀(n:Nat),(∀(d:Nat) (s:Sx),2*d<n->GT d s->Ok (eD n s) λ_=>True)/\(∀(d:Nat) (l:List Sx),2*d+1<n->l.length<=1000->(∀s∈l,GT d s)->Ok (dI n l) λ_=>True)
 |0=>⟨λd _ h=>by omega,λd _ h=>by omega⟩
 |n+1=>by
  obtain⟨J,I⟩:=J1 n;refine ⟨λd s hd h=>?_,λd l hd hl h=>?_⟩
  .cases d with
   |zero=>exact h.elim
   |succ d=>
    obtain⟨_,Z,Y,g4,g5,U,M⟩:=h;exact JU (eD n) (dI n) s Z Y (I d _ (by omega) (by omega) U) (I d _ (by omega) (by omega) M)
  .exact HH (eD n) (dI n) l hl λs hs=>J d s (by omega) (h s hs)
theorem Lr (d:Nat) (hd:d<=100) (l:List Sx) (hl:l.length<=1000) (h:∀s∈l,GT d s):Ok (nW l) λ_=>True:=(J1 fuel).2 d l (by rw[jW];omega) hl h
abbrev DT:Type:=Int×Int×ζ×Int×Int×ζ
abbrev HT:Type:=ζ×Int×List ζ×List Sx
abbrev PG:Type:=List DT×List HT
structure PX (p:PG):Prop where
 d:p.1.length<=100
 t:p.2.length<=8
 l:∀t∈p.2,t.2.2.1.length<=100
 b:∀t∈p.2,t.2.2.2.length<=100
 s:∀t∈p.2,∀s∈t.2.2.2,GT 5 s
theorem Z2 (p:PG) (h:PX p):Ok (pZ p) λ_=>True:=by
 obtain⟨hd,ht,hl,hb,hs⟩:=h;unfold pZ aX bp cR bz bF aY cK aF cF;refine ca p.1.length (λi x=>x.1=(i:Int)/\x.2=p) ?_ ?_ ⟨rfl,rfl⟩
 .rintro i ⟨a,x⟩ hi ⟨e1,e2⟩;dsimp only at e1 e2;subst e1;subst e2;refine du ?_;refine cg (aS ?_);refine ax (LQ _) λ_ _=>?_
  exact em (λ_=>ar trivial) λ_=>ar ⟨gO (by omega),rfl⟩
 rintro⟨a,x⟩ ⟨e1,e2⟩;dsimp only at e1 e2;subst e1;subst e2;refine dv ?_;refine ax (P:=λ_=>True) ?_ λ_ _=>ar trivial
 refine ca x.2.length (λi y=>y.1=(i:Int)/\y.2=x) ?_ ?_ ⟨rfl,rfl⟩
 .rintro i ⟨a,x⟩ hi ⟨e1,e2⟩;dsimp only at e1 e2;subst e1;have e2:=e2.symm;subst e2;refine du ?_;refine cg (aS ?_);have hm:=bJ (T:=zh) (xs:=x.2) (j:=(i:Int)) (by omega) (by omega);have h1:=hl _ hm;have h2:=hb _ hm;have M:=hs _ hm;revert h1 h2 M;generalize (aJ (T:=zh) x.2 (i:Int))=t;intro h1 h2 M;refine ca t.2.2.1.length (λk y=>y.1=(k:Int)/\y.2=(x,t)) ?_ ?_ ⟨rfl,rfl⟩
  .rintro k ⟨a,z⟩ hk ⟨J,I⟩;dsimp only at J I;subst J;subst I;refine du ?_;refine cg (aS ?_);refine ax (iy _) λ_ _=>?_
   exact em (λ_=>ar trivial) λ_=>ar ⟨gO (by omega),rfl⟩
  .rintro⟨a,z⟩ ⟨J,I⟩;dsimp only at J I;subst J;subst I;refine dv ?_;refine ax (P:=λr=>match r with|.inl y=>y.1=((i+1:Nat):Int)/\y.2=x|.inr _=>True) ?_ ?_
   .refine aZ (λy=>y.2=x) ?_ ?_
    .refine ax (iy _) λ_ _=>em (λ_=>ar rfl) λ_=>?_
     exact ax (Lr 5 (by omega) _ (by dsimp only;omega) M) λ_ _=>ar rfl
    rintro⟨b,y⟩ e;dsimp only at e;subst e;exact aP (λ_=>ar trivial) λ_=>ar ⟨gO (by omega),rfl⟩
   .rintro (y|y) U
    .exact ar U
    .exact ar trivial
 .rintro⟨a,y⟩ ⟨e1,e2⟩;dsimp only at e1 e2;subst e1;subst e2;exact dv (ar trivial)
theorem xt (l:List DT) (s:ζ) (hl:l.length<=1000):Ok (hZ (l,s)) λr=> -1<=r/\r<(l.length:Int):=by
 unfold hZ bz bF aY cK aF cF;refine ca l.length (λi x=>x=(i:Int)) ?_ ?_ rfl
 .rintro i x hi rfl;refine du ?_;refine cg (aS ?_);exact aK (λ_=>ar ⟨by omega,by omega⟩) λ_=>ar (gO (by omega))
 .rintro x rfl;exact dv (ar ⟨by omega,by omega⟩)
theorem sV (l:List HT) (s:ζ) (hl:l.length<=1000):Ok (gR (l,s)) λr=> -1<=r/\r<(l.length:Int):=by
 unfold gR bz bF aY cK aF cF;refine ca l.length (λi x=>x=(i:Int)) ?_ ?_ rfl
 .rintro i x hi rfl;refine du ?_;refine cg (aS ?_);exact aK (λ_=>ar ⟨by omega,by omega⟩) λ_=>ar (gO (by omega))
 .rintro x rfl;exact dv (ar ⟨by omega,by omega⟩)
def DD (p:PG) (s:ζ):Prop:=∃v,hZ (p.1,s)=af v/\0<=v/\v<(p.1.length:Int)
theorem aa2 (p:PG) (h:PX p) (t:Int) (s:ζ):Ok (pY (p,t,s)) λk=>k≠0->k≠7->k≠8->DD p s:=by
 have hd:=h.d;have ht:=h.t;unfold pY bd bz iT iR tO bF aY aF;refine aZ (λx=>x.2=p) ?_ ?_
 .refine eV (λU=>bI (λM=>?_) λ_=>ar rfl) λ_=>ar rfl
  dsimp only[au]at U M;refine aR U M (aS ?_);have hm:=h.l _ (bJ (T:=zh) (xs:=p.2) (j:=t) U M);exact ax (yW _ s (dg hm (by omega))) λ_ _=>ar rfl
 rintro⟨b,x⟩ e;dsimp only at e;have e:=e.symm;subst e;refine aP (λ_=>ar λ_ _ h=>(h rfl).elim) λ_=>?_
 obtain⟨v,hv,v0,J⟩:=xt p.1 s (by omega);refine aU hv ?_;refine bI (λ_=>?_) λg=>?_
 .exact ax (sV p.2 s (by omega)) λ_ _=>eV (λ_=>ar λ_ h=>(h rfl).elim) λ_=>ar λh=>(h rfl).elim
 have I:DD p s:=⟨v,hv,g,J⟩
 refine aR g J (aS ?_);refine aK (λ_=>?_) λ_=>?_
 .exact aR g J (aS (ci (λ_=>ar λ_ _ _=>I) λ_=>ar λ_ _ _=>I))
 refine aK (λ_=>ar λ_ _ _=>I) λ_=>?_
 refine aZ (λx=>x.2=p) (aK (λ_=>ar rfl) λ_=>aK (λ_=>ar rfl) λ_=>aK (λ_=>ar rfl) λ_=>ar rfl) ?_;rintro⟨b,x⟩ e;dsimp only at e;have e:=e.symm;subst e;exact aP (λ_=>aR g J (aS (ar λ_ _ _=>I))) λ_=>ar λ_ _ _=>I
theorem pe (p:PG) (h:PX p) (t:Int) (s:ζ) (a b:Int):Ok (gF (p,t,s,a,b)) λr=>r=0->(a≠7/\a≠8)->(b≠7/\b≠8)->DD p s:=by
 unfold gF aX bf dw bd iR aF;refine ax (aa2 p h t s) λk hk=>?_
 refine aK (λ_=>ar λh=>(by cases h)) λg=>?_
 refine aZ (λx=>x=aj->k=a\/k=b) ?_ ?_
 .refine ci (λ_=>ar λh=>?_) λh=>ar λ_=>.inl h
  simp at h;exact .inr h
 rintro x I;refine aP (λ_=>ar λh=>(by cases h)) λh=>ar λ_ h1 h2=>hk g ?_ ?_
 .rcases I h with h|h<;>omega
 .rcases I h with h|h<;>omega
theorem Nt:∀(n d:Nat) (e:Xp),d<n->GX d e->Ok (nA n e) λ_=>True
 |0,_,_,h,_=>by omega
 |n+1,0,_,_,h=>h.elim
 |n+1,d+1,e,hn,h=>by
  obtain⟨h1,h2⟩:=h;rw[yI];unfold uO bz bF cK aF cF;refine ca e.l.length (λi x=>x.1.2.2=(i:Int)/\x.2=e) ?_ ?_ ⟨rfl,fx e⟩
  .rintro i ⟨⟨a,b,c⟩,z⟩ hi ⟨e1,e2⟩;dsimp only at e1 e2;subst e1;subst e2;refine du ?_;refine cg (aS ?_);refine ax (Nt n d _ (by omega) (h2 _ (bJ (T:=.ex) (xs:=z.l) (j:=(i:Int)) (by omega) (by omega)))) λ_ _=>ar ?_
   exact⟨gO (by omega),fx z⟩
  .rintro⟨⟨a,b,c⟩,z⟩ ⟨e1,e2⟩;dsimp only at e1 e2;subst e1;subst e2;exact dv (ar trivial)
theorem Gs (p:PG) (hp:PX p) (t:Int):∀(n d:Nat) (e:Xp),d<n->GX d e->Ok (nz n (p,t,e)) λ_=>True
 |0,_,_,h,_=>by omega
 |n+1,0,_,_,h=>h.elim
 |n+1,d+1,e,hn,h=>by
  obtain⟨h1,h2⟩:=h;rw[yH];unfold uN bd bz bF cK aF cF;refine aZ (λx=>x.2.1=p/\x.2.2=e) ?_ ?_
  .refine aK (λ_=>ax (pe p hp t _ _ _) λ_ _=>ar ⟨rfl,fx e⟩) λ_=>aK (λ_=>ax (pe p hp t _ _ _) λ_ _=>ar ⟨rfl,fx e⟩) λ_=>ar ⟨rfl,fx e⟩
  rintro⟨r,M,e'⟩ ⟨J,I⟩;dsimp only at J I;have J:=J.symm;subst J;have I:=I.symm;subst I;refine qr (λx=>((e.l.length:Int)-x.1.2).toNat) (λx=>0<=x.1.2/\x.2.1=p/\x.2.2=e) ?_ ⟨eB _,rfl,fx e⟩;rintro⟨⟨a,(b:Int)⟩,M,e'⟩ ⟨b0,J,I⟩;dsimp only at b0 J I;have J:=J.symm;subst J;have I:=I.symm;subst I;refine aZ (λx=>x.2.1=p/\x.2.2=e/\(x.1=ai->b<(e.l.length:Int))) ?_ ?_
  .exact bI (λg=>ar ⟨rfl,fx e,λ_=>g⟩) λ_=>ar ⟨rfl,fx e,λh=>(by cases h)⟩
  rintro⟨c,M,e'⟩ ⟨J,I,f3⟩;dsimp only at J I f3;have J:=J.symm;subst J;have I:=I.symm;subst I;refine aP (λhc=>?_) λ_=>ar trivial
  have g:=f3 hc;refine aR b0 g (aS ?_);refine ax (Gs p hp t n d _ (by omega) (h2 _ (bJ (T:=.ex) (xs:=e.l) (j:=b) b0 g))) λ_ _=>ar ?_
  dsimp only;rw[ic (n:=b+1) (by omega) (by omega)];exact⟨⟨by omega,rfl,fx e⟩,by omega⟩
theorem xr (p:PG) (hp:PX p) (t:Int) (e:Xp) (h:GX 4 e):Ok (my (p,t,e)) λ_=>True:=by
 unfold my bz aF;have M:GX 4 (d_ (Xp.op e,Xp.n e,Xp.name e,Xp.l e)):=by rw[fx];exact h
 refine ax (gk _ M) λ_ _=>em (λ_=>ar trivial) λ_=>?_
 refine ax (Nt fuel 4 _ (by rw[jW];omega) M) λ_ _=>?_
 refine aZ (λx=>x.2.1=p/\x.2.2=e) (bI (λ_=>ar ⟨rfl,fx e⟩) λ_=>ar ⟨rfl,fx e⟩) ?_;rintro⟨r,U,e'⟩ ⟨J,I⟩;dsimp only at J I;have J:=J.symm;subst J;have I:=I.symm;subst I;exact aP (λ_=>ar trivial) λ_=>ax (Gs p hp t fuel 4 _ (by rw[jW];omega) M) λ_ _=>ar trivial
theorem fJ (b:Bool):Ok (c8 b) λ_=>True:=by
 unfold c8;exact aP (λ_=>ar trivial) λ_=>ar trivial
theorem uu (x:ν):Ok (jb x) λr=>r=0->x.1=0/\x.2=0:=by
 unfold jb iR;exact ci (λh=>ar λh2=>(h h2).elim) λh=>ar λh2=>⟨h,h2⟩
abbrev WK:Type:=(List DT×List HT×Int)×(Bool×List Sx)×List ζ×List ζ
theorem YR (a b:Int) (s:ζ) (w:WK) (h:w.2.1.2.length<=100):Ok (dV ((a,b,s),w)) λy=>y.2=w:=by
 unfold dV aX bd bz kl aY cK aF cF;refine ca w.2.1.2.length (λi x=>x.1=(i:Int)/\x.2=w) ?_ ?_ ⟨rfl,rfl⟩
 .rintro i ⟨c,x⟩ hi ⟨e1,e2⟩;dsimp only at e1 e2;subst e1;have e2:=e2.symm;subst e2;refine du ?_;refine cg (cg (aS ?_));refine aZ (λx=>x.2=w) ?_ ?_
  .refine aK (λ_=>aK (λ_=>ar rfl) λ_=>ar rfl) λ_=>aK (λ_=>aK (λ_=>ar rfl) λ_=>ar rfl) λ_=>ar rfl
  rintro⟨c,x⟩ e;dsimp only at e;have e:=e.symm;subst e;exact aP (λ_=>ar rfl) λ_=>ar ⟨gO (by omega),rfl⟩
 .rintro⟨c,x⟩ ⟨e1,e2⟩;dsimp only at e1 e2;subst e1;have e2:=e2.symm;subst e2;exact dv (ar rfl)
def QK:Nat->Sx->Nat
 |0,_=>0
 |d+1,s=>1+(s.body.map (QK d)).sum+(s.els.map (QK d)).sum
def nK (d:Nat) (l:List Sx):Nat:=(l.map (QK d)).sum
def KS:Nat->Nat
 |0=>0
 |d+1=>1+16*KS d
theorem Oy {α:Type} {f:α->Nat} {k:Nat}:∀{l:List α},(∀x∈l,f x<=k)->(l.map f).sum<=l.length*k
 |[],_=>by simp
 |x::r,h=>by
  have:=Oy (l:=r) λy I=>h y (cM _ I)
  have:=h x (dh ..);rw[gq,List.sum_cons,b_,iW];omega
theorem Wn:∀{d:Nat} {s:Sx},GT d s->QK d s<=KS d
 |0,_,h=>h.elim
 |d+1,s,⟨_,_,_,Y,U,M,J⟩=>by
  have a:=Oy (f:=QK d) (l:=s.body) λx I=>Wn (M x I)
  have b:=Oy (f:=QK d) (l:=s.els) λx I=>Wn (J x I)
  have c:=cL (KS d) Y;have e:=cL (KS d) U;show 1+_+_<=1+16*KS d;omega
theorem P9:∀{d:Nat} {s:Sx},GT d s->QK (d+1) s=QK d s
 |0,_,h=>h.elim
 |d+1,s,⟨_,_,_,_,_,M,J⟩=>by
  show 1+(s.body.map (QK (d+1))).sum+(s.els.map (QK (d+1))).sum=1+(s.body.map (QK d)).sum+(s.els.map (QK d)).sum;rw[qm λx I=>P9 (M x I),qm λx I=>P9 (J x I)]
theorem ad5 {d:Nat} {l:List Sx} (h:∀s∈l,GT d s):nK d l<=l.length*KS d:=Oy λx I=>Wn (h x I)
theorem xj {d:Nat} {l:List Sx} {i:Nat} (hi:i<l.length):nK d (l.take (i+1))=nK d (l.take i)+QK d (aJ (T:=.sm) l (i:Int)):=by
 unfold nK;rw[mP (T:=.sm) hi,cC,F3];simp
theorem P_ {d:Nat} (l:List Sx) (i:Nat):nK d (l.take i)<=nK d l:=by
 conv=>rhs;rw[<- BP i l]
 unfold nK;rw[cC,F3];omega
theorem Fr:∀(n d:Nat) (l:List Sx),d<n->l.length<=1000->(∀s∈l,GT d s)->KS d<=100000->nB n l=af ((nK d l:Nat):Int)
 |0,_,_,h,_,_,_=>by omega
 |n+1,d,l,hn,hl,h,J=>by
  refine cI ?_;rw[yJ];unfold uP bz tO aY cK aF cF;have hb:=ad5 h;have I:=Nat.mul_le_mul hl J;refine ca l.length (λi x=>x.2=(i:Int)/\x.1=(l.length:Int)-i+(nK d (l.take i):Nat)) ?_ ?_ ⟨rfl,by simp[nK]⟩
  .rintro i ⟨a,b⟩ hi ⟨e1,e2⟩;dsimp only at e1 e2;subst e1;subst e2;have hp:=P_ (d:=d) l (i+1);rw[xj hi]at hp;refine du ?_;refine cg (aS ?_);rw[xj hi];have hm:=h _ (bJ (T:=.sm) (xs:=l) (j:=(i:Int)) (by omega) (by omega));revert hm hp;generalize (aJ (T:=.sm) l (i:Int))=s;intro hp hm;cases d with
   |zero=>exact hm.elim
   |succ d=>
    obtain⟨_,_,_,Z,Y,U,M⟩:=hm;have hk:KS (d+1)=1+16*KS d:=rfl;have hc:QK (d+1) s=1+nK d s.body+nK d s.els:=rfl;rw[hc]at hp ⊢;refine aU (Fr n d _ (by omega) (by omega) U (by omega)) ?_;refine cg (aS ?_);refine aU (Fr n d _ (by omega) (by omega) M (by omega)) (ar ⟨gO (by omega),?_⟩);dsimp only;rw[ic (n:=(l.length:Int)-i+(nK (d+1) (l.take i):Nat)+(nK d s.body:Nat)) (by omega) (by omega),ic (by omega) (by omega)];omega
  .rintro⟨a,b⟩ ⟨e1,e2⟩;dsimp only at e1 e2;subst e1;subst e2;rw[cX];exact dv (ar (by dsimp only;omega))
theorem VP (l:List DT) (hl:l.length<=100):Ok (rH l) λ_=>True:=by
 unfold rH aX bf bp bL dw fc bd bz iT iR bB bF aY cK aF cF;refine ca l.length (λi x=>x.2.2.2.2=(i:Int)) ?_ ?_ rfl
 .rintro i ⟨a,b,c,d,e⟩ hi e1;dsimp only at e1;subst e1;refine du ?_;refine aZ (λ_=>True) ?_ λx _=>ar (gO (by omega))
  refine cg (aS ?_);have htk:(dF (aT (i:Int)) l).length<=100:=by rw[bH];omega
  refine di (eA (by dsimp only;omega) (eA (by dsimp only;omega) ?_));refine ax (xt _ _ (dg htk (by omega))) λv hv=>?_
  refine eV (λ_=>ar trivial) λ_=>bI (λ_=>ar trivial) λ_=>?_
  refine aZ (λ_=>True) ?_ λx _=>?_
  .refine aZ (λ_=>True) (aK (λ_=>ar trivial) λ_=>ar trivial) λx _=>aP (λ_=>ar trivial) λ_=>?_
   refine aZ (λ_=>True) (aK (λ_=>ar trivial) λ_=>ar trivial) λx _=>aP (λ_=>ar trivial) λ_=>?_
   exact aK (λ_=>ar trivial) λ_=>ar trivial
  refine aZ (λ_=>True) (bI (λ_=>ar trivial) λ_=>bI (λ_=>ar trivial) λ_=>bI (λ_=>ar trivial) λ_=>ar trivial) λx _=>aP (λ_=>ar trivial) λ_=>?_
  refine aK (λ_=>?_) λ_=>ar trivial
  refine di (eA (by dsimp only;omega) (eA (by dsimp only;omega) ?_));refine ax (xt _ _ (dg htk (by omega))) λv hv=>?_
  refine bI (λ_=>ar trivial) λg=>?_
  have h2:=hv.2;rw[bH]at h2;exact aR g (by dsimp only at h2 ⊢;omega) (aS (ci (λ_=>ar trivial) λ_=>ar trivial))
 .rintro⟨a,b,c,d,e⟩ e1;dsimp only at e1;subst e1;exact dv (ar trivial)
theorem Ot (p:PG) (h:PX p):Ok (nV p) λ_=>True:=by
 have hd:=h.d;have ht:=h.t;unfold nV aX bf bp bz iT bB bF aY cK aF cF;refine ca p.2.length (λi x=>x.1=(i:Int)/\x.2=p) ?_ ?_ ⟨rfl,rfl⟩
 .rintro i ⟨a,x⟩ hi ⟨e1,e2⟩;dsimp only at e1 e2;subst e1;have e2:=e2.symm;subst e2;refine du ?_;refine cg (aS ?_);refine aZ (λx=>x.2.1=p) ?_ ?_
  .refine ax (xt _ _ (by dsimp only;omega)) λv hv=>eV (λ_=>ar rfl) λ_=>?_
   refine di (eA (by dsimp only;omega) (eA (by dsimp only;omega) ?_));exact ax (sV _ _ (by rw[bH];dsimp only;omega)) λ_ _=>ar rfl
  rintro⟨b,x,z⟩ e;dsimp only at e;have e:=e.symm;subst e;exact aP (λ_=>ar trivial) λ_=>ar ⟨gO (by omega),rfl⟩
 rintro⟨a,x⟩ ⟨e1,e2⟩;dsimp only at e1 e2;subst e1;have e2:=e2.symm;subst e2;refine dv ?_;refine ax (P:=λ_=>True) ?_ λ_ _=>ar trivial
 refine ca p.2.length (λi x=>x.1=(i:Int)/\x.2=p) ?_ ?_ ⟨rfl,rfl⟩
 .rintro i ⟨a,x⟩ hi ⟨e1,e2⟩;dsimp only at e1 e2;subst e1;have e2:=e2.symm;subst e2;refine du ?_;refine cg (aS ?_);have hm:=h.l _ (bJ (T:=zh) (xs:=p.2) (j:=(i:Int)) (by omega) (by omega));revert hm;generalize (aJ (T:=zh) p.2 (i:Int))=t;intro hm;refine bI (λ_=>ar trivial) λ_=>?_
  refine ca t.2.2.1.length (λk y=>y.1=(k:Int)/\y.2=(p,t)) ?_ ?_ ⟨rfl,rfl⟩
  .rintro k ⟨a,z⟩ hk ⟨J,I⟩;dsimp only at J I;subst J;subst I;refine du ?_;refine cg (aS ?_);refine aZ (λx=>x.2=(p,t)) ?_ ?_
   .refine ax (xt _ _ (by dsimp only;omega)) λv hv=>eV (λ_=>ar rfl) λ_=>?_
    refine ax (sV _ _ (by dsimp only;omega)) λv hv=>eV (λ_=>ar rfl) λ_=>?_
    refine di (eA (by dsimp only;omega) (eA (by dsimp only;omega) ?_));exact ax (yW _ _ (by rw[bH];dsimp only;omega)) λ_ _=>ar rfl
   rintro⟨b,x⟩ e;dsimp only at e;subst e;exact aP (λ_=>ar trivial) λ_=>ar ⟨gO (by omega),rfl⟩
  .rintro⟨a,z⟩ ⟨J,I⟩;dsimp only at J I;subst J;subst I;exact dv (ar ⟨gO (by omega),rfl⟩)
 .rintro⟨a,x⟩ ⟨e1,e2⟩;dsimp only at e1 e2;subst e1;have e2:=e2.symm;subst e2;exact dv (ar trivial)
structure WQ (w:WK) (y:Int×WK):Prop where
 p:y.2.1=w.1
 a:y.2.2.1=w.2.1
 s:y.2.2.2.1.length<=w.2.2.1.length+1
 t:y.2.2.2.2.length<=w.2.2.2.length+1
theorem WQ.same (w:WK) (e:Int):WQ w (e,w):=⟨rfl,rfl,Nat.le_succ _,Nat.le_succ _⟩
theorem aju (s:Sx) (D:List DT) (T:List HT) (t:Int) (A:Bool×List Sx) (sp se:List ζ) (hp:PX (D,T)) (hA:A.2.length<=100) (h1:sp.length<=100000000) (h2:se.length<=100000000) (J:∀e∈s.index,GX 4 e) (he:GX 4 s.expr):Ok (mw (s,((D,T,t),A,sp,se))) (WQ ((D,T,t),A,sp,se)):=by
 have hex:GX 4 (d_ (Xp.op s.expr,Xp.n s.expr,Xp.name s.expr,Xp.l s.expr)):=by rw[fx];exact he
 have hin:∀(a b:Int) (n:ζ),Ok (dV ((a,b,n),((D,T,t),A,sp,se))) λy=>y.2=((D,T,t),A,sp,se):=λa b n=>YR a b n _ hA
 have hth:T.length<=1000:=by have:=hp.t;dsimp only at this;omega
 have hdl:D.length<=1000:=by have:=hp.d;dsimp only at this;omega
 have sm:∀e,WQ ((D,T,t),A,sp,se) (e,((D,T,t),A,sp,se)):=WQ.same _;unfold mw aX bf bp ch bL dw cR fc bd iT iR bB bF aF eh;refine ax (hin _ _ _) λy I=>?_
 obtain⟨b1,M⟩:=y;dsimp only at I;subst I;refine bg (by simp) ?_;refine ax (hin _ _ _) λy I=>?_
 obtain⟨b2,M⟩:=y;dsimp only at I;subst I;refine bg (by simp) ?_;refine ax (hin _ _ _) λy I=>?_
 obtain⟨Z,M⟩:=y;dsimp only at I;subst I;refine bg (by simp) ?_;refine aK (λ_=>?_) λ_=>?_
 .refine aK (λ_=>?_) λg=>?_
  .exact ax (pe _ hp _ _ _ _) λ_ _=>ax (xr _ hp _ _ hex) λ_ _=>ax (uu _) λ_ _=>ar (sm _)
  .refine ax (pe _ hp _ _ _ _) λ_ _=>?_
   dsimp only[au]at g;refine cg (aS ?_);refine ax (xr _ hp _ _ (J _ (bJ (T:=.ex) (xs:=s.index) (j:=0) (by omega) (by omega)))) λ_ _=>?_
   exact ax (xr _ hp _ _ hex) λ_ _=>ax (uu _) λ_ _=>ax (uu _) λ_ _=>ar (sm _)
 refine aZ (λx=>x.2=((D,T,t),A,s,(D,T),sp,se)) (aK (λ_=>ar (by dsimp only;rw[yB])) λ_=>ar (by dsimp only;rw[yB])) ?_;rintro⟨b,x⟩ e;dsimp only at e;subst e;refine aP (λ_=>ax (xr _ hp _ _ hex) λ_ _=>ar (sm _)) λ_=>?_
 refine aK (λ_=>?_) λ_=>?_
 .refine aZ (λx=>WQ ((D,T,t),A,sp,se) x) ?_ λx J=>ar J
  refine ax (pe _ hp _ _ _ _) λ_ _=>aP (λ_=>?_) λ_=>?_
  .exact ax (fJ _) λ_ _=>ax (uu _) λ_ _=>ar (sm _)
  .refine ax (hin _ _ _) λy I=>?_
   obtain⟨U,M⟩:=y;dsimp only at I;subst I;exact bg (by simp) (ax (fJ _) λ_ _=>ax (uu _) λ_ _=>ar (sm _))
 refine aZ (λx=>x.2=((D,T,t),A,s,(D,T),sp,se)) (aK (λ_=>ar (by dsimp only;rw[yB])) λ_=>ar (by dsimp only;rw[yB])) ?_;rintro⟨b,x⟩ e;dsimp only at e;subst e;refine aP (λ_=>?_) λ_=>?_
 .refine aZ (λx=>WQ ((D,T,t),A,sp,se) x) ?_ λx J=>ar J
  refine ax (pe _ hp _ _ _ _) λ_ _=>aP (λ_=>?_) λ_=>?_
  .exact ax (fJ _) λ_ _=>ax (uu _) λ_ _=>ar (sm _)
  .refine ax (hin _ _ _) λy I=>?_
   obtain⟨U,M⟩:=y;dsimp only at I;subst I;exact bg (by simp) (ax (fJ _) λ_ _=>ax (uu _) λ_ _=>ar (sm _))
 refine aK (λ_=>ax (fJ _) λ_ _=>ar (sm _)) λ_=>?_
 refine aK (λ_=>?_) λ_=>?_
 .refine aZ (λx=>WQ ((D,T,t),A,sp,se) x) ?_ λx J=>ar J
  exact aP (λ_=>ax (fJ _) λ_ _=>ar (sm _)) λ_=>ax (fJ _) λ_ _=>ar (sm _)
 refine aZ (λx=>x.2=((D,T,t),A,s,(D,T),sp,se)) (aK (λ_=>ar (by dsimp only;rw[yB])) λ_=>aK (λ_=>ar (by dsimp only;rw[yB])) λ_=>ar (by dsimp only;rw[yB])) ?_;rintro⟨b,x⟩ e;dsimp only at e;subst e;refine aP (λ_=>?_) λ_=>?_
 .refine ax (pe _ hp _ _ _ _) λr hr=>ci (λ_=>ar (sm _)) λg=>?_
  obtain⟨v,hv,v0,Y⟩:=hr g (by omega) (by omega);refine aU hv (aR v0 Y (aS ?_));refine ax (hin _ _ _) λy I=>?_
  obtain⟨U,M⟩:=y;dsimp only at I;subst I;refine bg (by simp) ?_;refine aZ (λx=>WQ ((D,T,t),A,sp,se) x) ?_ λx J=>ar J
  refine aP (λ_=>ax (fJ _) λ_ _=>ar (sm _)) λ_=>em (λ_=>ax (fJ _) λ_ _=>ar (sm _)) λ_=>?_
  exact aK (λ_=>ax (fJ _) λ_ _=>ar (sm _)) λ_=>ax (fJ _) λ_ _=>ar (sm _)
 refine aK (λ_=>?_) λ_=>?_
 .refine ax (pe _ hp _ _ _ _) λr hr=>ci (λ_=>ar (sm _)) λg=>?_
  refine ax (sV T _ hth) λv hv=>?_
  refine aZ (λx=>x.2=((D,T,t),A,s,sp,se)) ?_ ?_
  .refine aP (λ_=>ar (by dsimp only;rw[yB])) λ_=>aP (λ_=>ar (by dsimp only;rw[yB])) λ_=>aP (λ_=>ar (by dsimp only;rw[yB])) λ_=>aK (λ_=>ar (by dsimp only;rw[yB])) λ_=>ar (by dsimp only;rw[yB])
  rintro⟨b,x⟩ e;dsimp only at e;subst e;refine aP (λ_=>ar (sm _)) λ_=>?_
  refine ax (yW sp _ (by omega)) λ_ _=>eV (λ_=>ar (sm _)) λ_=>?_
  exact bh (by simp;omega) (by omega) (ar ⟨rfl,rfl,by simp,Nat.le_succ _⟩)
 refine aK (λ_=>?_) λ_=>?_
 .refine aZ (λx=>WQ ((D,T,t),A,sp,se) x) ?_ λx J=>ar J
  refine ax (pe _ hp _ _ _ _) λr hr=>?_
  refine aP (λ_=>ax (fJ _) λ_ _=>ax (uu _) λ_ _=>ar (sm _)) λ_=>?_
  refine aP (λ_=>ax (fJ _) λ_ _=>ax (uu _) λ_ _=>ar (sm _)) λ_=>?_
  exact ax (sV T _ hth) λv hv=>ax (fJ _) λ_ _=>ax (uu _) λ_ _=>ar (sm _)
 refine aK (λ_=>?_) λ_=>?_
 .refine aZ (λx=>x.2=((D,T,t),A,s,(D,T),sp,se)) ?_ ?_
  .refine ax (pe _ hp _ _ _ _) λr hr=>?_
   exact aP (λ_=>ax (fJ _) λ_ _=>ax (uu _) λ_ _=>ar (by dsimp only;rw[yB])) λ_=>ax (fJ _) λ_ _=>ax (uu _) λ_ _=>ar (by dsimp only;rw[yB])
  rintro⟨b,x⟩ e;dsimp only at e;subst e;refine aZ (λx=>x.2=((D,T,t),A,s,(D,T),sp,se)) ?_ ?_
  .refine aZ (λx=>x.2=((D,T,t),A,s,(D,T),sp,se)) ?_ ?_
   .exact aK (λ_=>ax (yW se _ (by omega)) λ_ _=>ar (by dsimp only;rw[yB])) λ_=>ar (by dsimp only;rw[yB])
   rintro⟨b,x⟩ e;dsimp only at e;subst e;exact aP (λ_=>ar (by dsimp only;rw[yB])) λ_=>ar (by dsimp only;rw[yB])
  rintro⟨b,x⟩ e;dsimp only at e;subst e;refine bh (by simp;omega) (by omega) ?_;exact ax (xr _ hp _ _ hex) λ_ _=>ax (uu _) λ_ _=>ar ⟨rfl,rfl,Nat.le_succ _,by simp⟩
 exact ax (pe _ hp _ _ _ _) λ_ _=>ax (pe _ hp _ _ _ _) λ_ _=>ax (fJ _) λ_ _=>ax (uu _) λ_ _=>ax (uu _) λ_ _=>ar (sm _)
abbrev RA4:Type:=(List Sx×WK)->Option (ν×WK)
structure QA (l:List Sx) (d:Nat) (w:WK) (y:ν×WK):Prop where
 p:y.2.1=w.1
 a:y.2.2.1.2.length=w.2.1.2.length
 s:y.2.2.2.1.length<=w.2.2.1.length+l.length*KS d
 t:y.2.2.2.2.length<=w.2.2.2.length+l.length*KS d
def SpA (rr:RA4) (d:Nat):Prop:=∀(l:List Sx) (w:WK),l.length<=100->(∀s∈l,GT d s)->PX (w.1.1,w.1.2.1)->w.2.1.2.length+d<=50->w.2.2.1.length+l.length*KS d<=100000000->w.2.2.2.length+l.length*KS d<=100000000->Ok (rr (l,w)) (QA l d w)
theorem aga (rr:RA4) (d:Nat) (hr:∀d',d=d'+1->SpA rr d'):SpA (mB rr) d:=by
 rintro l ⟨⟨D,T,t⟩,A,sp,se⟩ hl hg hp hA h1 h2;dsimp only at hp hA h1 h2;have hK:∀i:Nat,i<=l.length->i*KS d<=l.length*KS d:=λi hi=>cL _ hi
 unfold mB aX bf bp bL dw cR ck bd bz iR bB bF aY cK aF cF eh;refine ca l.length (λi x=>x.1=(i:Int)/\x.2.1=(D,T,t)/\x.2.2.1.2.length=A.2.length/\x.2.2.2.1.length<=sp.length+i*KS d/\x.2.2.2.2.length<=se.length+i*KS d) ?_ ?_ ⟨rfl,rfl,rfl,by simp,by simp⟩
 .rintro i ⟨a,P,A',sp',se'⟩ hi ⟨e1,e2,e3,Y,U⟩;dsimp only at e1 e2 e3 Y U;subst e1;subst e2;have hKi:=hK (i+1) (by omega);have hKs:=iW i (KS d);rw[Nat.succ_eq_add_one]at hKs;refine du ?_;refine cg (aS ?_);have hm:=hg _ (bJ (T:=.sm) (xs:=l) (j:=(i:Int)) (by omega) (by omega));revert hm;generalize (aJ (T:=.sm) l (i:Int))=s;intro hm;cases d with
  |zero=>exact hm.elim
  |succ d=>
   have hR:=hr d rfl;obtain⟨_,g2,g3,g4,g5,g6,g7⟩:=hm;have hk:KS (d+1)=1+16*KS d:=rfl;have kb:s.body.length*KS d<=8*KS d:=cL _ g4;have ke:s.els.length*KS d<=8*KS d:=cL _ g5;dsimp only;rw[yB];refine ax (aju s D T t A' sp' se' hp (by omega) (by omega) (by omega) g2 g3) λy M=>?_
   obtain⟨e,P2,A2,sp2,se2⟩:=y;obtain⟨J,I,q3,q4⟩:=M;dsimp only at J I q3 q4;subst J;subst I;refine bg (by simp) ?_;refine aZ (λx=>x.2=((D,T,t),s,A2,sp2,se2)) (bI (λ_=>ar rfl) λ_=>ar rfl) ?_;rintro⟨e,x⟩ ex;dsimp only at ex;subst ex;refine ci (λ_=>ar ⟨rfl,e3,by dsimp only;omega,by dsimp only;omega⟩) λ_=>?_
   refine bh (by simp;omega) (by omega) (aR (by simp) (by simp;omega) (aR (by simp) (by simp;omega) ?_));dsimp only;rw[yB];refine ax (hR s.body ((D,T,t),(A2.1,cw (A2.2++[_]) _ s),sp2,se2) (by omega) g6 hp ?_ ?_ ?_) λy M=>?_
   .dsimp only;rw[bT];simp;omega
   .dsimp only;omega
   .dsimp only;omega
   obtain⟨e6,P6,A6,sp6,se6⟩:=y;obtain⟨J,I,q5,q6⟩:=M;dsimp only at J I q5 q6;subst J;rw[bT,bx,dS]at I;refine bg (by simp) ?_;refine aZ (λx=>x.2.1=(D,T,t)/\x.2.2.1.2.length=A2.2.length+1/\x.2.2.2.1.length<=sp2.length+16*KS d/\x.2.2.2.2.length<=se2.length+16*KS d) ?_ ?_
   .refine aK (λ_=>?_) λ_=>ar ⟨rfl,I,by dsimp only;omega,by dsimp only;omega⟩
    refine ax (hR s.els ((D,T,t),A6,sp6,se6) (by omega) g7 hp (by dsimp only;omega) (by dsimp only;omega) (by dsimp only;omega)) λy M=>?_
    obtain⟨e7,P7,A7,sp7,se7⟩:=y;obtain⟨r1,r2,r5,Z⟩:=M;dsimp only at r1 r2 r5 Z;subst r1;exact bg (by simp) (ar ⟨rfl,r2.trans I,by dsimp only;omega,by dsimp only;omega⟩)
   rintro⟨e8,P8,A8,sp8,se8⟩ ⟨r1,r2,r5,Z⟩;dsimp only at r1 r2 r5 Z;subst r1;have el:bk .i64 ((aO A8.2.length)-1)=(A2.2.length:Int):=by
    rw[r2,ic (by simp<;>omega) (by simp<;>omega)];simp<;>omega
   dsimp only;rw[el];have tk:(dF (aT (A2.2.length:Int)) A8.2).length=A2.2.length:=by rw[bH];omega
   refine di (eA (by omega) (Av (by rw[r2];omega) ?_));refine ci (λ_=>ar ⟨rfl,by dsimp only;omega,by dsimp only;omega,by dsimp only;omega⟩) λ_=>ar ?_
   exact⟨gO (by omega),rfl,by dsimp only;omega,by dsimp only;omega,by dsimp only;omega⟩
 .rintro⟨a,P,A',sp',se'⟩ ⟨e1,e2,e3,Y,U⟩;dsimp only at e1 e2 e3 Y U;subst e1;subst e2;exact dv (ar ⟨rfl,e3,Y,U⟩)
theorem XX:∀(n d:Nat),d<n->SpA (iG n) d
 |0,_,h=>by omega
 |n+1,d,h=>aga (iG n) d λI hd=>XX n I (by omega)
theorem Ek (p:PG) (h:PX p):Ok (fy p) λr=>r.1=0->(p.2.map λt=>nK 5 t.2.2.2).sum<=60:=by
 have hd:=h.d;have ht:=h.t;unfold fy aX bf bp bL cR bz iR bB bF aY cK aF cF;refine ax (Z2 p h) λ_ _=>em (λ_=>ar λh=>(by cases h)) λ_=>?_
 refine ax (VP p.1 hd) λ_ _=>ci (λhn=>ar λh=>(hn h).elim) λ_=>bI (λ_=>ar λh=>(by cases h)) λ_=>?_
 refine ax (Ot p h) λ_ _=>ci (λhn=>ar λh=>(hn h).elim) λ_=>?_
 have J:KS 5=69905:=rfl;refine ca p.2.length (λi x=>x.1.2=(i:Int)/\x.2=p/\x.1.1=((((p.2.take i).map λt=>nK 5 t.2.2.2).sum:Nat):Int)/\(x.1.1:Int)<=((i*6990500:Nat):Int)) ?_ ?_ ⟨rfl,rfl,by simp,by simp⟩
 .rintro i ⟨⟨(c:Int),a⟩,x⟩ hi ⟨e1,e2,e3,I⟩;dsimp only at e1 e2 e3 I;subst e1;have e2:=e2.symm;subst e2;refine du ?_;refine cg (aS ?_);have hm:=bJ (T:=zh) (xs:=p.2) (j:=(i:Int)) (by omega) (by omega);have hb:=h.b _ hm;have hcb:=ad5 (h.s _ hm);have hcb2:=cL (KS 5) hb;rw[J]at hcb hcb2;refine aU (Fr fuel 5 _ (by rw[jW];omega) (dg hb (by omega)) (h.s _ hm) (by rw[J];omega)) (ar ⟨gO (by omega),rfl,?_,?_⟩)
  .dsimp only;rw[mP (T:=zh) hi,cC,F3,ic (by omega) (by omega),e3];simp
  .dsimp only;rw[ic (by omega) (by omega)];omega
 rintro⟨⟨(c:Int),a⟩,x⟩ ⟨e1,e2,e3,I⟩;dsimp only at e1 e2 e3 I;subst e1;have e2:=e2.symm;subst e2;rw[cX]at e3;refine dv ?_;refine ax (P:=λr=>r.1=0->(p.2.map λt=>nK 5 t.2.2.2).sum<=60) ?_ λ_ h=>ar h
 refine bI (λ_=>ar λh=>(by cases h)) λM=>?_
 have M:c<=60:=M;refine ca p.2.length (λi x=>x.1=(i:Int)/\x.2.1=p/\x.2.2.1.1=p.1/\x.2.2.1.2.1=p.2/\x.2.2.2.1.2.length=0/\x.2.2.2.2.1.length<=i*6990500/\x.2.2.2.2.2.length<=i*6990500) ?_ ?_ ⟨rfl,rfl,rfl,rfl,rfl,by simp,by simp⟩
 .rintro i ⟨a,x,⟨D,T,t⟩,A,sp,se⟩ hi ⟨e1,e2,e3,I,e5,e6,e7⟩;dsimp only at e1 e2 e3 I e5 e6 e7;subst e1;have e2:=e2.symm;subst e2;subst e3;subst I;refine du ?_;refine cg (aS ?_);have hm:=bJ (T:=zh) (xs:=p.2) (j:=(i:Int)) (by omega) (by omega);have hb:=h.b _ hm;have hs:=h.s _ hm;revert hb hs;dsimp only;generalize (aJ (T:=zh) p.2 (i:Int))=th;intro hb hs;have hk:KS 5=69905:=rfl;have hle:th.2.2.2.length*KS 5<=100*KS 5:=cL _ hb;rw[hk]at hle;refine ax (XX fuel 5 (by rw[jW];omega) th.2.2.2 ((p.1,p.2,(i:Int)),A,sp,se) hb hs h (by dsimp only;omega) (by dsimp only;rw[hk];omega) (by dsimp only;rw[hk];omega)) λy Z=>?_
  obtain⟨e,P2,A2,sp2,se2⟩:=y;obtain⟨U,Y,q3,q4⟩:=Z;dsimp only at U Y q3 q4;subst U;rw[hk]at q3 q4;refine bg (by simp) (ci (λhn=>ar λh=>(hn h).elim) λ_=>ar ?_);exact⟨gO (by omega),rfl,rfl,rfl,by dsimp only;omega,by dsimp only;omega,by dsimp only;omega⟩
 .rintro⟨a,x,P,w⟩ ⟨e1,e2,_⟩;dsimp only at e1 e2;subst e1;have e2:=e2.symm;subst e2;exact dv (ar λ_=>by omega)
theorem c9 {R:Type} {o o':Option R} {Q:R->Prop} (h:o=o') (hk:Ok o' Q):Ok o Q:=h▸hk
def D0:List DT:=[(1,0,[120],0,0,[]),(1,0,[121],0,1,[]),(2,0,[118],0,0,[]),(1,0,[113],2,0,[]),(3,0,[109],0,0,[]),(3,0,[110],0,0,[]),(4,0,[114],0,0,[]),(5,0,[99],0,0,[109]),(6,0,[102],0,0,[])]
def L0:List ζ:=[[97],[98]]
set_option maxHeartbeats 20000000 in
theorem anm:∃r,fy (D0,[([109,97,105,110],0,L0,[nY (1,0,[120],[],[],d_ (1,1,[],[]),[],[])])])=af r/\r.1=0:=by
 suffices h:Ok (fy (D0,[([109,97,105,110],0,L0,[nY (1,0,[120],[],[],d_ (1,1,[],[]),[],[])])])) λr=>r.1=0 by
  obtain⟨y,h1,h2⟩:=h;exact⟨y,h1,h2⟩
 unfold fy aX bf bp bL cR bz iR bB bF aY cK aF cF;with_reducible repeat' first|exact ar rfl|refine XA ?_|refine Xz ?_|refine Xy ?_|refine Xw ?_|refine Rl ?_|refine afj ?_|refine aS ?_|refine fI rfl ?_|refine fP rfl ?_|refine bg rfl ?_|refine Xx ?_|refine Rm ?_|refine c9 (pZ.eq_1 ..) ?_|refine c9 (ka.eq_1 ..) ?_|refine c9 (fw.eq_1 ..) ?_|refine c9 (jL.eq_1 ..) ?_|refine c9 (kA.eq_1 ..) ?_|refine c9 (lB.eq_1 ..) ?_|refine c9 (pE.eq_1 ..) ?_|refine c9 (rI.eq_1 ..) ?_|refine c9 (nW.eq_1 ..) ?_|refine c9 (jD.eq_1 ..) ?_|refine c9 (kg.eq_1 ..) ?_|refine c9 (mf.eq_1 ..) ?_|refine c9 (jh.eq_1 ..) ?_|refine c9 (mz.eq_1 ..) ?_|refine c9 (pD.eq_1 ..) ?_|refine c9 (rH.eq_1 ..) ?_|refine c9 (hZ.eq_1 ..) ?_|refine c9 (nV.eq_1 ..) ?_|refine c9 (gR.eq_1 ..) ?_|refine c9 (jd.eq_1 ..) ?_|refine c9 (B'.eq_1 ..) ?_|refine c9 (uP.eq_1 ..) ?_|refine c9 (v8.eq_1 ..) ?_|refine c9 (mB.eq_1 ..) ?_|refine c9 (mw.eq_1 ..) ?_|refine c9 (dV.eq_1 ..) ?_|refine c9 (gF.eq_1 ..) ?_|refine c9 (pY.eq_1 ..) ?_|refine c9 (my.eq_1 ..) ?_|refine c9 (B_.eq_1 ..) ?_|refine c9 (uO.eq_1 ..) ?_|refine c9 (B9.eq_1 ..) ?_|refine c9 (uN.eq_1 ..) ?_|refine c9 (jb.eq_1 ..) ?_|refine c9 (c8.eq_1 ..) ?_|refine c9 (ck.eq_1 ..) ?_|refine c9 (congrFun (gM dI jW) _) ?_|refine c9 (y_ _ _) ?_|refine c9 (congrFun (gM eD jW) _) ?_|refine c9 (zN _ _) ?_|refine c9 (congrFun (gM h_ jW) _) ?_|refine c9 (sQ _ _) ?_|refine c9 (congrFun (gM nB jW) _) ?_|refine c9 (yJ _ _) ?_|refine c9 (congrFun (gM iG jW) _) ?_|refine c9 (Ck _ _) ?_|refine c9 (congrFun (gM nA jW) _) ?_|refine c9 (yI _ _) ?_|refine c9 (congrFun (gM nz jW) _) ?_|refine c9 (yH _ _) ?_
 all_goals trace_state
structure TM (nT:Nat) (t:HT):Prop where
 l:t.2.2.1=L0
 b:t.2.2.2.length<=8
 s:∀s∈t.2.2.2,GS nT 3 s
structure PJ (p:PG):Prop where
 d:p.1=D0
 t0:1<=p.2.length
 t:p.2.length<=4
 m:∀t∈p.2,TM p.2.length t
 n:p.2.map Prod.fst=wB.take p.2.length
theorem PJ.x {p:PG} (h:PJ p):PX p:=⟨by rw[h.d];decide,by have:=h.t;omega,λt ht=>by rw[(h.m t ht).l];decide,λt ht=>by have:=(h.m t ht).b;omega,λt ht s hs=>((h.m t ht).s s hs).le (by omega:3<=5) |>.t⟩
theorem Sy:sG ()=af D0:=rfl
theorem adz:∀m:Nat,m<5->∀j:Nat,j<m->aJ (T:=.str) wB (j:Int)∈wB.take m:=by decide
theorem Q2 {nT:Nat} (op:Int) {n:ζ} (J:op=12\/op=13) (hn:n∈wB.take nT):GS nT 3 (nY (op,0,n,[],[],d_ (0,0,[],[]),[],[])):=GS.wo (by omega) (by simp) (λx I=>(by cases I)) (by rcases J with rfl|rfl<;>(constructor<;>simp[Sx.op,Sx.name,Sx.index,Sx.arg,Sx.els,Sx.body]<;>exact hn))
theorem Hs (x:η) (hl:x.length<=9223372036854775807) (hx:∀z∈x,0<=z/\z<=255):Ok (oX x) λp=>PJ p/\∃r,fy p=af r/\r.1=0:=by
 unfold oX aX bf bp ch dA jt vq bL fc kK nM Oi bd bz iR bB kl cK aF cF eh;refine aU Sy ?_;refine ax (gp 3 (x,0) ⟨hl,hx,by dsimp only;omega,by dsimp only;omega⟩) λy I=>?_
 obtain⟨n,t0⟩:=y;obtain⟨s0,n0,n1,_⟩:=I;have n1:=n1 (by decide);dsimp only at s0 n0 n1;have ew:bk .i64 (2+n)=2+n:=ic (by omega) (by omega);obtain⟨nT,hnT⟩:∃m:Nat,2+n=(m:Int):=⟨(2+n).toNat,by omega⟩
 refine ca nT (λi x=>x.1=(i:Int)/\x.2.2.1=D0/\x.2.2.2.1=wB/\TP x.2.2.2.2.1/\x.2.2.2.2.2.1.2=[]/\x.2.2.2.2.2.2.map Prod.fst=wB.take i/\∀t∈x.2.2.2.2.2.2,TM nT t) ?_ ?_ ⟨rfl,rfl,rfl,s0.p,rfl,rfl,λt ht=>(by cases ht)⟩
 .rintro i ⟨a,m,D,N,t,h,th⟩ hi ⟨e1,e2,e3,e4,e5,e6,e7⟩;dsimp only at e1 e2 e3 e4 e5 e6 e7;subst e1;subst e2;refine bI (λg=>?_) λg=>(by dsimp only at g;rw[ew]at g;omega)
  have l4:N.length=4:=by rw[e3];rfl
  refine cg (cg (aS ?_));have hthl:th.length=i:=by have:=gM al e6;rw[bY,bH]at this;have q4:wB.length=4:=rfl;omega
  refine aZ (λx=>x.2.2.2.1.1=aJ (T:=.str) N (i:Int)/\x.2.1=D0/\x.2.2.1=wB/\TP x.2.2.2.2.1/\x.2.2.2.2.2.1.2=[]/\x.2.2.2.2.2.2.1=th/\x.2.2.2.2.2.2.2.1=L0/\x.2.2.2.2.2.2.2.2.length<=3/\∀s∈x.2.2.2.2.2.2.2.2,GS nT 3 s) ?_ ?_
  .refine aK (λ_=>?_) λ_=>ar ⟨rfl,rfl,e3,e4,e5,rfl,rfl,by simp,λs hs=>(by cases hs)⟩
   refine ca (1+n).toNat (λk x=>x.2.2.2.2.1.1=aJ (T:=.str) N (i:Int)/\x.1=1+(k:Int)/\x.2.2.1=D0/\x.2.2.2.1=wB/\TP x.2.2.2.2.2.1/\x.2.2.2.2.2.2.1.2=[]/\x.2.2.2.2.2.2.2.1=th/\x.2.2.2.2.2.2.2.2.1=L0/\x.2.2.2.2.2.2.2.2.2.length<=k/\∀s∈x.2.2.2.2.2.2.2.2.2,GS nT 3 s) ?_ ?_ ⟨rfl,rfl,rfl,e3,e4,e5,rfl,rfl,by simp,λs hs=>(by cases hs)⟩
   .rintro k ⟨c,m1,D1,N1,z1,t1,h1,th1,l1,b1⟩ hk ⟨fz,f1,f2,f3,Z,J,Y,U,f8,M⟩;dsimp only at fz f1 f2 f3 Z J Y U f8 M;subst f1;refine bI (λ_=>?_) λg=>(by dsimp only at g;rw[ew]at g;omega)
    have l41:N1.length=4:=by rw[f3];rfl
    refine cg (cg (aS ?_));refine bh (by simp;omega) (by omega) (ar ?_);dsimp only;rw[ic (n:=1+(k:Int)+1) (by omega) (by omega)];refine ⟨fz,by omega,f2,f3,Z,J,Y,U,by simp;omega,λs hs=>?_⟩;rcases bV.1 hs with hs|hs
    .exact M s hs
    .rw[aL]at hs;rw[hs];refine Q2 12 (.inl rfl) ?_;rw[f3,show 1+(k:Int)=((1+k:Nat):Int) by omega];exact adz nT (by omega) (1+k) (by omega)
   .rintro⟨c,m1,D1,N1,z1,t1,h1,th1,l1,b1⟩ ⟨fz,f1,f2,f3,Z,J,Y,U,f8,M⟩;dsimp only at fz f1 f2 f3 Z J Y U f8 M;subst f1;refine bI (λg=>(by dsimp only at g;rw[ew]at g;omega)) λ_=>ar ?_
    exact⟨fz,f2,f3,Z,J,Y,U,by dsimp only;omega,M⟩
  rintro⟨m1,D1,N1,z1,t1,h1,th1,l1,b1⟩ ⟨fz,f2,f3,Z,J,Y,U,f8,M⟩;dsimp only at fz f2 f3 Z J Y U f8 M;subst f2;subst Y;subst U;refine ax (gp 3 t1 Z) λy I=>?_
  obtain⟨k2,t2⟩:=y;obtain⟨u1,u2,u3,_⟩:=I;have u3:=u3 (by decide);dsimp only at u1 u2 u3;dsimp only;rw[ic (n:=1+k2) (by omega) (by omega)];refine ax (YM (nT:=nT) 2 (by omega) (1+k2) m1 t2 h1 (by omega) u1.p (by rw[J];simp)) λy I=>?_
  obtain⟨m3,t3,h3,l3⟩:=y;obtain⟨w1,w2,w3,w4⟩:=I;dsimp only at w1 w2 w3 w4;refine bg (by simp) (bh (by simp;omega) (by omega) ?_);have hbody:∀s∈b1++l3,GS nT 3 s:=λs hs=>by
   rcases bV.1 hs with hs|hs
   .exact M s hs
   .exact w2 s hs
  have hlen:(b1++l3).length<=6:=by rw[bx];omega
  refine aZ (λx=>x.2.2.2.1.1=aJ (T:=.str) N (i:Int)/\x.2.1=D0/\x.2.2.1=wB/\TP x.2.2.2.2.1/\x.2.2.2.2.2.1.2=[]/\x.2.2.2.2.2.2.1=th1/\x.2.2.2.2.2.2.2.1=L0/\x.2.2.2.2.2.2.2.2.length<=8/\∀s∈x.2.2.2.2.2.2.2.2,GS nT 3 s) ?_ ?_
  .refine aZ (λx=>x.2.2.2.2.1.1=aJ (T:=.str) N (i:Int)/\x.2.2.1=D0/\x.2.2.2.1=wB/\TP x.2.2.2.2.2.1/\x.2.2.2.2.2.2.1.2=[]/\x.2.2.2.2.2.2.2.1=th1/\x.2.2.2.2.2.2.2.2.1=L0/\x.2.2.2.2.2.2.2.2.2=b1++l3) ?_ ?_
   .refine aK (λ_=>?_) λ_=>ar ⟨fz,rfl,f3,w3.p,w4.trans J,rfl,rfl,rfl⟩
    exact ax (gp 3 t3 w3.p) λy I=>ar ⟨fz,rfl,f3,I.1.p,w4.trans J,rfl,rfl,rfl⟩
   rintro⟨b,m4,D4,N4,z4,t4,h4,th4,l4,b4⟩ ⟨pz,p2,p3,p4,p5,p6,p7,p8⟩;dsimp only at pz p2 p3 p4 p5 p6 p7 p8;subst p2;subst p6;subst p7;subst p8;have l44:N4.length=4:=by rw[p3];rfl
   refine aP (λ_=>?_) λ_=>ar ⟨pz,rfl,p3,p4,p5,rfl,rfl,by dsimp only;omega,hbody⟩
   refine cg (cg (aS ?_));refine bh (by simp at hlen ⊢;omega) (by omega) (ar ⟨pz,rfl,p3,p4,p5,rfl,rfl,by dsimp only;rw[bx,dS];omega,λs hs=>?_⟩);rcases bV.1 hs with hs|hs
   .exact hbody s hs
   .rw[aL]at hs;rw[hs];refine Q2 13 (.inr rfl) ?_;rw[p3];exact adz nT (by omega) 1 (by omega)
  rintro⟨m4,D4,N4,z4,t4,h4,th4,l4,b4⟩ ⟨pz,p2,p3,p4,p5,p6,p7,p8,p9⟩;dsimp only at pz p2 p3 p4 p5 p6 p7 p8 p9;subst p2;subst p6;subst p7;refine bh (by simp;omega) (by omega) (ar ?_);dsimp only;refine ⟨gO (by omega),rfl,p3,p4,p5,by rw[mP (T:=.str) (xs:=wB) (i:=i) (by have q4:wB.length=4:=rfl;omega),cC,e6,<-e3];show _++[z4.1]=_;rw[pz],λt ht=>?_⟩;rcases bV.1 ht with ht|ht
  .exact e7 t ht
  .rw[aL]at ht;rw[ht];exact⟨rfl,p8,p9⟩
 .rintro⟨a,m,D,N,t,h,th⟩ ⟨e1,e2,e3,e4,e5,e6,e7⟩;dsimp only at e1 e2 e3 e4 e5 e6 e7;subst e1;subst e2;refine bI (λg=>(by dsimp only at g;rw[ew]at g;omega)) λ_=>?_
  have hthl:th.length=nT:=by have:=gM al e6;rw[bY,bH]at this;have q4:wB.length=4:=rfl;omega
  have hpm:PJ (D0,th):=⟨rfl,by dsimp only;omega,by dsimp only;omega,by dsimp only;rw[hthl];exact e7,by dsimp only;rw[hthl];exact e6⟩
  refine ax (P:=λp=>PJ p/\∃r,fy p=af r/\r.1=0) ?_ λr hr=>ar hr
  obtain⟨y,I,_⟩:=Ek (D0,th) hpm.x;refine aU I (ci (λ_=>?_) λh=>ar ⟨hpm,y,I,h⟩);refine aU Sy (aU (OQ _) (aU (ul _ _) (ar ?_)));refine ⟨⟨rfl,by simp,by simp,λt ht=>?_,rfl⟩,anm⟩;simp only[aL]at ht;rw[ht];refine ⟨rfl,by simp,λs hs=>?_⟩;simp only[aL]at hs;rw[hs,fx,zk];exact GS.asg (by decide) (GE.num _ 3)
abbrev iA (l:List IT) (k:Nat):IT:=aJ (T:=BT) l (k:Int)
def JT (l:List IT) (ρ:Nat->Nat) (a e k:Nat):Prop:=(iA l k).1=5->∃k':Nat,(iA l k).2.1=(k':Int)/\(k'=e\/a<=k'/\k'<e/\ρ k'<ρ k)
def qZ (l:List IT) (a e:Nat):Prop:=a<=e/\∃ρ:Nat->Nat,∀k,a<=k->k<e->1<=ρ k/\ρ k<=e-a/\JT l ρ a e k/\((iA l k).1<5->k+1=e\/ρ (k+1)<ρ k)
theorem qZ.nil (l:List IT) (a:Nat):qZ l a a:=⟨bX _,λ_=>0,λk h1 h2=>by omega⟩
theorem qZ.one {l:List IT} {a:Nat} (h:¬(iA l a).1=5):qZ l a (a+1):=⟨by omega,λ_=>1,λk h1 h2=>⟨bX 1,by show 1<=a+1-a;omega,λI=>by rw[show k=a by omega]at I;exact (h I).elim,λ_=>.inl (by omega)⟩⟩
theorem qZ.congr {l I:List IT} {a e:Nat} (h:qZ l a e) (hc:∀k,a<=k->k<e->iA I k=iA l k):qZ I a e:=by
 obtain⟨h1,ρ,h2⟩:=h;exact⟨h1,ρ,λk M J=>by unfold JT;rw[hc k M J];exact h2 k M J⟩
theorem qZ.app {l:List IT} {a b c:Nat} (h:qZ l a b) (k:qZ l b c):qZ l a c:=by
 obtain⟨h1,ρ,h2⟩:=h;obtain⟨k1,σ,k2⟩:=k;refine ⟨by omega,λk=>if k<b then ρ k+(c-b) else σ k,λk Y U=>?_⟩;by_cases hk:k<b
 .obtain⟨J,M,q3,q4⟩:=h2 k Y hk;simp only[aD hk];refine ⟨by omega,by omega,?_,λI=>?_⟩
  .intro I;simp only[aD hk];obtain⟨k',e,r⟩:=q3 I;refine ⟨k',e,?_⟩;rcases r with r|⟨r1,r2,r3⟩
   .subst r;by_cases hc:k'=c
    .exact .inl hc
    .have:=(k2 k' (bX _) (by omega)).2.1;rw[ay (CI _)];exact .inr ⟨by omega,by omega,by omega⟩
   .rw[aD r2];exact .inr ⟨r1,by omega,by omega⟩
  .rcases q4 I with r|r
   .by_cases hc:k+1=c
    .exact .inl hc
    .have:=(k2 (k+1) (by omega) (by omega)).2.1;rw[ay (by omega)];exact .inr (by omega)
   .by_cases hb:k+1<b
    .rw[aD hb];exact .inr (by omega)
    .rw[ay hb];by_cases hc:k+1=c
     .exact .inl hc
     .have:=(k2 (k+1) (by omega) (by omega)).2.1;exact .inr (by omega)
 .obtain⟨J,M,q3,q4⟩:=k2 k (by omega) U;simp only[ay hk];refine ⟨J,by omega,?_,λI=>?_⟩
  .intro I;simp only[ay hk];obtain⟨k',e,r⟩:=q3 I;refine ⟨k',e,r.imp id λ⟨r1,r2,r3⟩=>⟨by omega,r2,?_⟩⟩;rw[ay (by omega)];exact r3
  .rw[ay (by omega)];exact q4 I
theorem qZ.ite {l:List IT} {a j e:Nat} (h:qZ l a j) (hj:(iA l j).1=5) (U:(iA l j).2.1=(e:Int)) (k:qZ l (j+1) e):qZ l a e:=by
 obtain⟨h1,ρ,h2⟩:=h;obtain⟨k1,σ,k2⟩:=k;refine ⟨by omega,λk=>if k<j then ρ k+(e-j) else if k=j then e-j else σ k,λk Z Y=>?_⟩;by_cases hk:k<j
 .obtain⟨J,M,q3,q4⟩:=h2 k Z hk;simp only[aD hk];refine ⟨by omega,by omega,?_,λI=>?_⟩
  .intro I;simp only[aD hk];obtain⟨k',e',r⟩:=q3 I;refine ⟨k',e',.inr ?_⟩;rcases r with r|⟨r1,r2,r3⟩
   .rw[r,ay (CI _),aD rfl];exact⟨by omega,by omega,by omega⟩
   .rw[aD r2];exact⟨r1,by omega,by omega⟩
  .refine .inr ?_;by_cases hb:k+1<j
   .rw[aD hb];rcases q4 I with r|r<;>omega
   .rw[ay hb,aD (by omega)];omega
 .by_cases hkj:k=j
  .subst hkj;simp only[ay hk,aD];exact⟨by omega,by omega,λ_=>⟨e,U,.inl rfl⟩,λI=>by rw[hj]at I;omega⟩
  .obtain⟨J,M,q3,q4⟩:=k2 k (by omega) Y;simp only[ay hk,ay hkj];refine ⟨J,by omega,?_,λI=>?_⟩
   .intro I;simp only[ay hk,ay hkj];obtain⟨k',e',r⟩:=q3 I;refine ⟨k',e',r.imp id λ⟨r1,r2,r3⟩=>⟨by omega,r2,?_⟩⟩;rw[ay (by omega),ay (by omega)];exact r3
   .rw[ay (by omega),ay (by omega)];exact q4 I
theorem qZ.whl {l:List IT} {a c j:Nat} (h:qZ l a c) (hc:(iA l c).1=10) (k:qZ l (c+1) j) (hj:(iA l j).1=5) (Y:(iA l j).2.1=(a:Int)):qZ l a (j+1):=by
 obtain⟨h1,ρ,h2⟩:=h;obtain⟨k1,σ,k2⟩:=k;refine ⟨by omega,λk=>if k<c then ρ k+1 else if k=c then 1 else if k<j then σ k+(c-a)+2 else c-a+2,λk Z g2=>?_⟩;by_cases hk:k<c
 .obtain⟨U,M,q3,q4⟩:=h2 k Z hk;simp only[aD hk];refine ⟨by omega,by omega,?_,λI=>?_⟩
  .intro I;simp only[aD hk];obtain⟨k',e',r⟩:=q3 I;refine ⟨k',e',.inr ?_⟩;rcases r with r|⟨r1,r2,r3⟩
   .rw[r,ay (CI _),aD rfl];exact⟨by omega,by omega,by omega⟩
   .rw[aD r2];exact⟨r1,by omega,by omega⟩
  .refine .inr ?_;by_cases hb:k+1<c
   .rw[aD hb];rcases q4 I with r|r<;>omega
   .rw[ay hb,aD (by omega)];omega
 .by_cases hkc:k=c
  .subst hkc;simp only[ay hk,aD];exact⟨by omega,by omega,λI=>by rw[hc]at I;omega,λI=>by rw[hc]at I;omega⟩
  .simp only[ay hk,ay hkc];by_cases hkj:k<j
   .obtain⟨U,M,q3,q4⟩:=k2 k (by omega) hkj;simp only[aD hkj];refine ⟨by omega,by omega,?_,λI=>?_⟩
    .intro I;simp only[ay hk,ay hkc,aD hkj];obtain⟨k',e',r⟩:=q3 I;refine ⟨k',e',.inr ?_⟩;rcases r with r|⟨r1,r2,r3⟩
     .rw[r,ay (by omega),ay (by omega),ay (CI _)];exact⟨by omega,by omega,by omega⟩
     .rw[ay (by omega),ay (by omega),aD r2];exact⟨by omega,by omega,by omega⟩
    .refine .inr ?_;rw[ay (by omega),ay (by omega)];by_cases hb:k+1<j
     .rw[aD hb];rcases q4 I with r|r<;>omega
     .rw[ay hb];omega
   .have hkj:k=j:=by omega
    subst hkj;simp only[ay (CI _)];refine ⟨by omega,by omega,λ_=>⟨a,Y,.inr ⟨bX _,by omega,?_⟩⟩,λI=>by rw[hj]at I;omega⟩;simp only[ay hk,ay hkc,ay (CI _)];by_cases J:a<c
    .rw[aD J];have:=(h2 a (bX _) J).2.1;omega
    .rw[ay J,aD (by omega)];omega
def OB (nT:Nat) (i:IT):Prop:=
 if i.1=6 then 0<=i.2.2.1/\i.2.2.1<=2 else if i.1=8 then 0<=i.2.1/\i.2.1<=2 else if i.1=7 then i.2.2.1=3/\i.2.2.2.2.1=2 else if i.1=9 then i.2.1=3/\i.2.2.2.2.1=2 else if i.1=11\/i.1=12 then i.2.1=0\/i.2.1=1 else if 13<=i.1/\i.1<=16 then i.2.1=2 else if 21<=i.1/\i.1<=23 then i.2.1=0 else if i.1=24\/i.1=25 then 0<=i.2.1/\i.2.1<(nT:Int) else if i.1=26 then i.2.1=0 else if i.1=27 then i.2.2.1=0 else if i.1=4 then 6<=i.2.2.2.2.1/\i.2.2.2.2.1<=18 else ¬i.1=3
structure GO (nT:Nat) (i:IT):Prop where
 o1:1<=i.1
 o2:i.1<=27
 r:∀j:Int,j∈iS i->0<=j/\j<32
 b:OB nT i
def SO (ss:List π) (t s:Int):Prop:=0<=s/\s<ss.length/\(aJ (T:=yz) ss s).1=t
structure GI (nT:Nat) (ss:List π) (t:Int) (i:IT):Prop where
 o:GO nT i
 s:SO ss t i.2.2.2.2.2
theorem U3 (l:List IT) (hl:l.length<=1000000) (h1:1<=l.length) (hb:qZ l 0 (l.length-1)) (he:(iA l (l.length-1)).1=28) (k:Nat) (hk:k<l.length):pB (l,(k:Int))=af ai:=by
 obtain⟨_,ρ,hρ⟩:=hb;refine cI ?_;unfold pB bd bz iT bF aY cK aF cF;refine qr (λx=>((l.length:Int)+1-x.2).toNat) (λx=>0<=x.2/\∃q:Nat,x.1=(q:Int)/\q<l.length/\((if q<l.length-1 then ρ q else 0:Nat):Int)+x.2<=(l.length:Int)) ?_ ⟨by dsimp only;omega,k,rfl,hk,?_⟩
 .rintro⟨a,(n:Int)⟩ ⟨n0,q,e,hq,hr⟩;dsimp only at n0 e hr;subst e;refine eV (λ_=>?_) λg=>(by dsimp only[au]at g;omega)
  refine gC ?_;refine gC (bI (λg=>by dsimp only at g;omega) λ_=>ar ?_);refine fP (by rw[me];dsimp only[au];omega) ?_;refine cg (aS ?_);refine aU (FW _) ?_;refine em (λ_=>ar rfl) λhs=>?_
  have hs:1<=(iA l q).1/\(iA l q).1<=5:=bw hs;have J:q<l.length-1:=vW λh=>by rw[show q=l.length-1 by omega]at hs;rw[he]at hs;omega
  obtain⟨r1,r2,r3,Z⟩:=hρ q (lq _) J;rw[aD J]at hr;refine cg (aS ?_);have fin:∀I:Nat,I=l.length-1\/I<l.length-1/\ρ I<ρ q->0<=n+1/\∃M:Nat,(I:Int)=(M:Int)/\M<l.length/\((if M<l.length-1 then ρ M else 0:Nat):Int)+(n+1)<=(l.length:Int):=λI h=>⟨by omega,I,rfl,by omega,by
   rcases h with h|⟨h,h'⟩
   .rw[ay (by omega)];omega
   .rw[aD h];omega⟩
  refine aK (λU=>?_) λU=>ar (ar ?_)
  .obtain⟨I,e,Y⟩:=r3 U;refine aR (dT _) (by dsimp only;omega) (aS (ar (ar ?_)));dsimp only;rw[ic (n:=n+1) (by omega) (by omega)];have:=fin I (Y.imp id λh=>⟨h.2.1,h.2.2⟩);rw[<- e]at this;exact⟨this,by omega⟩
  .dsimp only;have U:¬(iA l q).1=5:=U;rw[ic (n:=n+1) (by omega) (by omega),gO (by omega)];refine ⟨fin (q+1) ?_,by omega⟩;rcases Z (by omega) with h|h
   .exact .inl h
   .by_cases hb:q+1=l.length-1
    .exact .inl hb
    .exact .inr ⟨by omega,h⟩
 .dsimp only;split
  .rename_i h;have:=(hρ k (lq _) h).2.1;omega
  .omega
theorem Li (w:WT) (I:w.1=C0):nk (w,3,2)=af ai:=by
 refine cI ?_;have h0:(0:Int)<=3:=by decide
 have h1:(3:Int)<(w.1.length:Int):=by rw[I];decide
 have J:aJ (T:=QU) w.1 3=([113],0,2,aj,0):=by rw[I];rfl
 unfold nk bd iR bF aY aF;refine gC (aU (sg _ _) (aK (λ_=>?_) λh=>(h ⟨h0,h1⟩).elim));dsimp only;rw[J];refine aR h0 h1 (aS (aK (λ_=>?_) λh=>(h rfl).elim));refine aR h0 h1 (aS (ci (λ_=>?_) λh=>cY h (by decide)));exact aR h0 h1 (aS (ar (ar rfl)))
theorem OO {nT:Nat} (w:WT) (i:IT) (hw:WX w) (hT:w.2.2.2.2.1.length=nT) (hb:OB nT i):lK (w,i)=af ai:=by
 obtain⟨hc,hl,hd,hf,_,_,_⟩:=hw;refine cI ?_;unfold lK aX bf bp ch dA bd iT bF aY aF;unfold OB at hb;simp only[sg,XC];refine aK (λh=>?_) λn6=>?_
 .rw[aD h]at hb;have J:(aJ (T:=QU) w.1 i.2.2.1).2.2.1=(0:Int):=by
   rw[hc];rcases (by omega:i.2.2.1=0\/i.2.2.1=1\/i.2.2.1=2) with h|h|h<;>rw[h]<;>rfl
  have hi:0<=i.2.2.1/\i.2.2.1<(w.1.length:Int):=⟨hb.1,by rw[hc];have:=hb.2;show i.2.2.1<5;omega⟩
  exact gC (aK (λ_=>aR hi.1 hi.2 (aS (ar (ar (aQ J))))) λh=>(h hi).elim)
 rw[ay n6]at hb;refine aK (λh=>?_) λZ=>?_
 .rw[aD h]at hb;have J:(aJ (T:=QU) w.1 i.2.1).2.2.1=(0:Int):=by
   rw[hc];rcases (by omega:i.2.1=0\/i.2.1=1\/i.2.1=2) with h|h|h<;>rw[h]<;>rfl
  have hi:0<=i.2.1/\i.2.1<(w.1.length:Int):=⟨hb.1,by rw[hc];have:=hb.2;show i.2.1<5;omega⟩
  exact gC (aK (λ_=>aR hi.1 hi.2 (aS (ar (ar (aQ J))))) λh=>(h hi).elim)
 rw[ay Z]at hb;refine aK (λh=>?_) λn7=>?_
 .rw[aD h]at hb;rw[hb.1,hb.2];exact aU (Li w hc) (ar rfl)
 rw[ay n7]at hb;refine aK (λh=>?_) λY=>?_
 .rw[aD h]at hb;rw[hb.1,hb.2];exact aU (Li w hc) (ar rfl)
 rw[ay Y]at hb;refine aZ (λx=>x.2=(w,i)/\(x.1=ai↔i.1=11\/i.1=12)) (aK (λh=>ar ⟨rfl,λ_=>.inl h,λ_=>aQ h⟩) λh=>ar ⟨rfl,λh2=>.inr (bw h2),λh2=>aQ (h2.resolve_left h)⟩) ?_;rintro⟨b,x⟩ ⟨e,M⟩;dsimp only at e M;subst e;refine aP (λh=>?_) λh=>?_
 .rw[aD (M.1 h)]at hb;have J:(aJ (T:=UE) w.2.1 i.2.1).2=aj:=by
   rw[hl];rcases hb with h|h<;>rw[h]<;>rfl
  have hi:0<=i.2.1/\i.2.1<(w.2.1.length:Int):=⟨by omega,by rw[hl];show i.2.1<3;omega⟩
  exact gC (aK (λ_=>aR hi.1 hi.2 (aS (ar (ar (by dsimp only;rw[J];rfl))))) λh=>(h hi).elim)
 rw[ay λh2=>by rw[M.2 h2]at h;cases h]at hb;have hj:∀{p:Prop} {b:Bool},(b=ai->p)->(p->b=ai)->b=aj->¬p:=λ_ h2 U I=>by rw[h2 I]at U;cases U
 refine aZ (λx=>x.2=(w,i)/\(x.1=ai->13<=i.1/\i.1<=16)/\(13<=i.1/\i.1<=16->x.1=ai)) (aK (λh=>ar ⟨rfl,λ_=>by first|omega|(dsimp only at h;omega),λ_=>aQ h⟩) λ_=>aK (λh=>ar ⟨rfl,λ_=>by first|omega|(dsimp only at h;omega),λ_=>aQ h⟩) λ_=>aK (λh=>ar ⟨rfl,λ_=>by first|omega|(dsimp only at h;omega),λ_=>aQ h⟩) λ_=>ar ⟨rfl,λh=>by have:=bw h;first|omega|(dsimp only at this;omega),λh=>aQ (by first|omega|(dsimp only at *;omega))⟩) ?_;rintro⟨b,x⟩ ⟨e,h1,h2⟩;dsimp only at e h1 h2;subst e;refine aP (λh=>?_) λh=>?_
 .rw[aD (h1 h)]at hb;have hi:0<=i.2.1/\i.2.1<(w.2.1.length:Int):=⟨by omega,by rw[hl];show i.2.1<3;omega⟩
  exact gC (aK (λ_=>aR hi.1 hi.2 (aS (ar (ar (by dsimp only;rw[hb,hl];rfl))))) λh=>(h hi).elim)
 rw[ay (hj h1 h2 h)]at hb;refine aZ (λx=>x.2=(w,i)/\(x.1=ai->21<=i.1/\i.1<=23)/\(21<=i.1/\i.1<=23->x.1=ai)) (aK (λh=>ar ⟨rfl,λ_=>by first|omega|(dsimp only at h;omega),λ_=>aQ h⟩) λ_=>aK (λh=>ar ⟨rfl,λ_=>by first|omega|(dsimp only at h;omega),λ_=>aQ h⟩) λ_=>ar ⟨rfl,λh=>by have:=bw h;first|omega|(dsimp only at this;omega),λh=>aQ (by first|omega|(dsimp only at *;omega))⟩) ?_;rintro⟨b,x⟩ ⟨e,h1,h2⟩;dsimp only at e h1 h2;subst e;refine aP (λh=>?_) λh=>?_
 .rw[aD (h1 h)]at hb;exact ar (aQ ⟨by dsimp only;omega,by dsimp only;rw[hd];show i.2.1<1;omega⟩)
 rw[ay (hj h1 h2 h)]at hb;refine aZ (λx=>x.2=(w,i)/\(x.1=ai->i.1=24\/i.1=25)/\(i.1=24\/i.1=25->x.1=ai)) (aK (λh=>ar ⟨rfl,λ_=>.inl h,λ_=>aQ h⟩) λh=>ar ⟨rfl,λh2=>.inr (bw h2),λh2=>aQ (h2.resolve_left h)⟩) ?_;rintro⟨b,x⟩ ⟨e,h1,h2⟩;dsimp only at e h1 h2;subst e;refine aP (λh=>?_) λh=>?_
 .rw[aD (h1 h)]at hb;exact ar (aQ ⟨hb.1,by dsimp only;rw[hT];exact hb.2⟩)
 rw[ay (hj h1 h2 h)]at hb;refine aK (λh=>?_) λn=>?_
 .rw[aD h]at hb;exact ar (aQ ⟨by dsimp only;omega,by dsimp only;rw[hf];show i.2.1<1;omega⟩)
 rw[ay n]at hb;refine aK (λh=>?_) λn=>?_
 .rw[aD h]at hb;exact ar (aQ ⟨by dsimp only;omega,by dsimp only;rw[hf];show i.2.2.1<1;omega⟩)
 rw[ay n]at hb;by_cases I:i.1=4
 .rw[aD I]at hb;refine aK (λh=>by have h:i.1=3:=h;omega) λ_=>aK (λ_=>?_) λh=>(h I).elim
  refine gC (eV (λ_=>ar (ar (O3.2 hb.2))) λh=>by dsimp only at h;omega)
 .rw[ay I]at hb;exact aK (λh=>(hb h).elim) λ_=>aK (λh=>(I h).elim) λ_=>ar rfl
structure GC (nT:Nat) (ss:List π) (k:Int) (c:Int×List IT):Prop where
 r0:1<=c.1
 r1:c.1<=32
 n:1<=c.2.length
 u:c.2.length<=1000000
 e:(iA c.2 (c.2.length-1)).1=28/\(iA c.2 (c.2.length-1)).2.2.2.2.2= -1
 b:qZ c.2 0 (c.2.length-1)
 i:∀q:Nat,q<c.2.length-1->GI nT ss k (iA c.2 q)
 r:∀q:Nat,q<c.2.length-1->(iA c.2 q).1=10->0<=(iA c.2 q).2.2.1/\(iA c.2 q).2.2.1<(c.2.length:Int)
 g:∀q:Nat,q<c.2.length-1->∀j:Int,j∈iS (iA c.2 q)->j<c.1
theorem Ez {nT:Nat} {w:WT} {k:Int} {c:Int×List IT} (hw:WX w) (hT:w.2.2.2.2.1.length=nT) (hc:GC nT w.2.2.2.2.2 k c):io (w,k,c)=af ai:=by
 obtain⟨r0,r1,n1,hu,he,hb,hi,hr,hg⟩:=hc;refine cI ?_;unfold io aX bf bp ch bL cR nM bd bz iR bF aY cK aF cF;refine aZ (λx=>x.2=(w,c)/\x.1=aj) ?_ ?_
 .refine bI (λh=>by have h:c.1<0:=h;omega) λ_=>bI (λh=>by have h:32<c.1:=h;omega) λ_=>ar ⟨rfl,bN λh=>by have h:aO c.2.length=0:=h;dsimp only[au]at h;omega⟩
 rintro⟨b,x⟩ ⟨e,Y⟩;dsimp only at e Y;subst e;subst Y;refine gw ?_;refine ca c.2.length (λi x=>x.1=(i:Int)/\x.2=(w,c)) ?_ ?_ ⟨rfl,rfl⟩
 .rintro i ⟨a,x⟩ hi2 ⟨e1,e2⟩;dsimp only at e1 e2;subst e1;subst e2;have hla:=U3 c.2 hu n1 hb he.1 i hi2;have Z:∀z:IT,z=iA c.2 i->(i<c.2.length-1->GI nT w.2.2.2.2.2 k z/\(z.1=10->0<=z.2.2.1/\z.2.2.1<(c.2.length:Int))/\(z.1=5->0<=z.2.1/\z.2.1<(c.2.length:Int))/\∀j:Int,j∈iS z->j<c.1)/\(i=c.2.length-1->z.1=28/\z.2.2.2.2.2= -1):=λz Z=>by
   subst Z;refine ⟨λh=>⟨hi i h,hr i h,λh5=>?_,hg i h⟩,λh=>by rw[h];exact he⟩;obtain⟨_,ρ,hρ⟩:=hb;obtain⟨q',e,hq'⟩:=(hρ i (lq _) h).2.2.1 h5;rw[e];omega
  refine du ?_;refine cg (aS ?_);generalize hzz:(aJ (T:=BT) c.2 (i:Int))=z;obtain⟨I,J⟩:=Z z hzz.symm;have hcs:i<c.2.length-1\/i=c.2.length-1:=by omega
  have o1:1<=z.1:=by
   rcases hcs with h|h
   .exact (I h).1.o.o1
   .rw[(J h).1];decide
  have o2:z.1<=28:=by
   rcases hcs with h|h
   .exact Int.le_trans (I h).1.o.o2 (by decide)
   .rw[(J h).1];decide
  have M:z.1=28->i=c.2.length-1:=λh=>hcs.resolve_left λg=>by have:=(I g).1.o.o2;rw[h]at this;exact cY this (by decide)
  have hob:OB nT z:=by
   rcases hcs with h|h
   .exact (I h).1.o.b
   .unfold OB;rw[(J h).1];simp
  have hrg:∀j:Int,j∈iS z->0<=j/\j<c.1:=λj hj=>by
   rcases hcs with h|h
   .exact⟨((I h).1.o.r j hj).1,(I h).2.2.2 j hj⟩
   .unfold iS at hj;rw[(J h).1]at hj;simp at hj
  have hwr:bk .i64 (aO c.2.length-1)=((c.2.length-1:Nat):Int):=by rw[ic (by dsimp only[au];omega) (by dsimp only[au];omega)];dsimp only[au];omega
  have hcd:((decide (z.1=28)==decide ((i:Int)=bk .i64 (aO c.2.length-1))) !=ai)=aj:=by
   rw[hwr];rcases hcs with h|h
   .rw[bN λh2=>by have:=M h2;omega,bN (by omega:¬(i:Int)=((c.2.length-1:Nat):Int))];rfl
   .rw[aQ (J h).1,aQ (by omega:(i:Int)=((c.2.length-1:Nat):Int))];rfl
  refine aZ (λx=>x=(aj,w,c,z)) ?_ ?_
  .refine bI (λh=>cY h (CF.2 o1)) λ_=>bI (λh=>cY h (CF.2 o2)) λ_=>fP hcd ?_
   refine aU (OO w z hw hT hob) (fP rfl (aU hla (ar rfl)))
  rintro x rfl;refine gw (aZ (λx=>x=(aj,w,c,z)) ?_ ?_)
  .simp only[sg,XC];refine aK (λh=>?_) λh=>?_
   .have h5:=(J (M h)).2;exact ci (λg=>(g h5).elim) λ_=>ci (λg=>(g h).elim) λ_=>ar rfl
   .have hsi:=(I (hcs.resolve_right λg=>h (J g).1)).1.s;refine ci (λ_=>ci (λg=>(g ⟨hsi.1,hsi.2.1⟩).elim) λg=>aR g.1 g.2 (aS (ar ?_))) λg=>(h g).elim
    rw[aQ hsi.2.2];rfl
  rintro x rfl;refine gw (aZ (λx=>x=(aj,w,c,z)) ?_ ?_)
  .simp only[sg,XC];have U:z.1=5\/z.1=10->i<c.2.length-1:=λh=>hcs.resolve_right λg=>by rw[(J g).1]at h;exact cY h (by decide)
   refine aK (λh=>?_) λh=>?_
   .have h2:=(I (U (.inl h))).2.2.1 h;refine ci (λg=>(g h2).elim) λ_=>aK (λg=>?_) λ_=>ar rfl
    rw[h]at g;exact cY g (by decide)
   .refine aK (λg=>ar ?_) λ_=>ar rfl
    have h2:=(I (U (.inr g))).2.1 g;rw[aQ (show 0<=z.2.2.1/\z.2.2.1<aO c.2.length from h2)];rfl
  rintro x rfl;refine gw (aU (ua z) ?_);have hrl:=C3 z;refine ca (iS z).length (λj x=>x=((j:Int),w,c)) ?_ ?_ rfl
  .rintro j x hj rfl;refine du ?_;refine cg (aS ?_);refine aU (sg _ _) (ci (λg=>(g (hrg _ (bJ (T:=.int .i64) (xs:=iS z) (j:=(j:Int)) (by omega) (by omega)))).elim) λ_=>ar ?_);dsimp only;rw[gO (by omega)]
  .rintro x rfl;exact dv (ar ⟨gO (by omega),rfl⟩)
 .rintro⟨a,x⟩ ⟨e1,e2⟩;dsimp only at e1 e2;subst e1;subst e2;exact dv (ar rfl)
abbrev GN:Type:=List (ζ×Int×Int×Bool×Int)×List (ζ×Bool)×List (ζ×Int)×List ζ×List ζ×List π×List ζ×Int×Int
theorem Ni (l:List (ζ×Bool)) (s:ζ) (hl:l.length<=1000):Ok (ko (l,s)) λr=> -1<=r/\r<l.length/\(0<=r->(aJ (T:=UE) l r).1=s)/\(r<0->∀c∈l,c.1≠s):=by
 unfold ko bz bF aY cK aF cF;refine ca l.length (λi x=>x=(i:Int)/\∀k:Nat,k<i->(aJ (T:=UE) l (k:Int)).1≠s) ?_ ?_ ⟨rfl,λk hk=>by omega⟩
 .rintro i x hi ⟨rfl,I⟩;refine du ?_;refine cg (aS ?_);refine aK (λh=>ar ⟨by omega,by omega,λ_=>h,λh=>by omega⟩) λh=>ar ⟨gO (by omega),λk hk=>?_⟩
  rcases cf k i with h1|h1
  .exact I k h1
  .rw[show k=i by omega];exact h
 .rintro x ⟨rfl,I⟩;exact dv (ar ⟨by omega,by omega,λh=>by omega,λ_=>iv (T:=UE) (p:=λc=>c.1≠s) I⟩)
theorem ail {r:Int} {s:ζ} (h: -1<=r/\r<Hl.length/\(0<=r->(aJ (T:=UE) Hl r).1=s)/\(r<0->∀c∈Hl,c.1≠s)):(s=[109]->r=0)/\(s=[110]->r=1)/\(s=[114]->r=2):=by
 obtain⟨h0,h1,h2,I⟩:=h;have h1:r<3:=h1;rcases (by omega:r= -1\/r=0\/r=1\/r=2) with rfl|rfl|rfl|rfl
 .have I:=I (by decide);exact⟨λh=>(I ([109],aj) (by decide) h.symm).elim,λh=>(I ([110],aj) (by decide) h.symm).elim,λh=>(I ([114],ai) (by decide) h.symm).elim⟩
 .have h2:[109]=s:=h2 (by decide);subst h2;exact⟨λ_=>rfl,λh=>(by cases h),λh=>(by cases h)⟩
 .have h2:[110]=s:=h2 (by decide);subst h2;exact⟨λh=>(by cases h),λ_=>rfl,λh=>(by cases h)⟩
 .have h2:[114]=s:=h2 (by decide);subst h2;exact⟨λh=>(by cases h),λh=>(by cases h),λ_=>rfl⟩
theorem AJ (w:WT) (s:ζ) (J:w.1=C0):Ok (lA (w,s)) λr=>(s∈NV->s∉L0->0<=r/\r<=2)/\(s=[113]->r=3):=by
 have hl:w.1.length=5:=by rw[J];rfl
 unfold lA bz bF aY cK aF cF;refine ca w.1.length (λi x=>x.1=(i:Int)/\x.2=w/\∀k:Nat,k<i->(aJ (T:=QU) w.1 (k:Int)).1≠s) ?_ ?_ ⟨rfl,rfl,λk hk=>by omega⟩
 .rintro i ⟨a,x⟩ hi ⟨e1,e2,e3⟩;dsimp only at e1 e2 e3;subst e1;have e2:=e2.symm;subst e2;refine du ?_;refine cg (aS ?_);refine aK (λh=>ar ?_) λg=>ar ?_
  .rw[J]at h e3;rw[hl]at hi;rcases (by omega:i=0\/i=1\/i=2\/i=3\/i=4) with rfl|rfl|rfl|rfl|rfl
   .have h:[120]=s:=h;subst h;exact⟨λ_ _=>⟨by dsimp only;omega,by dsimp only;omega⟩,λh=>(by cases h)⟩
   .have h:[121]=s:=h;subst h;exact⟨λ_ _=>⟨by dsimp only;omega,by dsimp only;omega⟩,λh=>(by cases h)⟩
   .have h:[118]=s:=h;subst h;exact⟨λ_ _=>⟨by dsimp only;omega,by dsimp only;omega⟩,λh=>(by cases h)⟩
   .have h:[113]=s:=h;subst h;exact⟨λh=>cY h (by decide),λ_=>rfl⟩
   .have h:[113]=s:=h;exact (e3 3 (by omega) h).elim
  .refine ⟨gO (by omega),rfl,λk hk=>?_⟩;rcases cf k i with h1|h1
   .exact e3 k h1
   .rw[show k=i by omega];exact g
 .rintro⟨a,x⟩ ⟨e1,e2,e3⟩;dsimp only at e1 e2 e3;subst e1;have e2:=e2.symm;subst e2;refine dv (ar ?_);have hn:=iv (T:=QU) (p:=λc=>c.1≠s) e3;rw[J]at hn;have a1:=hn ([120],0,0,aj,0) (by decide);have a2:=hn ([121],0,0,aj,1) (by decide);have a3:=hn ([118],0,0,ai,0) (by decide);have M:=hn ([113],0,2,aj,0) (by decide);refine ⟨λh I=>?_,λh=>(M h.symm).elim⟩;simp only[bm,cD,gh,L0]at h I;rcases h with rfl|rfl|rfl|rfl|rfl
  .exact (I (.inl rfl)).elim
  .exact (I (.inr rfl)).elim
  .exact (a1 rfl).elim
  .exact (a2 rfl).elim
  .exact (a3 rfl).elim
theorem IV (i:IT) (g:GN) (out:List IT) (h:out.length<=100000000):Ok (cH (i,g,out)) λy=>y.1=g/\y.2=out++[(i.1,i.2.1,i.2.2.1,i.2.2.2.1,i.2.2.2.2.1,g.2.2.2.2.2.2.2.1)]:=by
 unfold cH aX bf bp jt bB;exact bh (by simp;omega) (by omega) (ar ⟨rfl,rfl⟩)
def VE:Nat->Nat
 |0=>0
 |d+1=>1+2*VE d
theorem Jr {l m:List IT} {k:Nat} (h:k<l.length):iA (l++m) k=iA l k:=by
 unfold iA;rw[zK,zK,aA,aA,bK h]
theorem xS (l:List IT) (x:IT):iA (l++[x]) l.length=x:=by
 unfold iA;rw[zK,aA,bW (bX _)];simp
structure QC (nT:Nat) (ss:List π) (t:Int) (n:Nat) (out o:List IT):Prop where
 l:out.length<=o.length
 u:o.length<=out.length+n
 p:∀k:Nat,k<out.length->iA o k=iA out k
 b:qZ o out.length o.length
 i:∀k:Nat,out.length<=k->k<o.length->GI nT ss t (iA o k)
 r:∀k:Nat,out.length<=k->k<o.length->(iA o k).1=10->0<=(iA o k).2.2.1/\(iA o k).2.2.1<=(o.length:Int)
variable {nT:Nat} {ss:List π} {t:Int}
theorem QC.nil (n:Nat) (out:List IT):QC nT ss t n out out:=⟨bX _,by omega,λ_ _=>rfl,qZ.nil _ _,λk h1 h2=>by omega,λk h1 h2=>by omega⟩
theorem QC.trans {a b c:Nat} {x y z:List IT} (h:QC nT ss t a x y) (k:QC nT ss t b y z) (hc:a+b<=c):QC nT ss t c x z:=by
 obtain⟨h1,h2,h3,h4,h5,h6⟩:=h;obtain⟨k1,k2,I,k4,Z,Y⟩:=k;refine ⟨by omega,by omega,λq hq=>(I q (by omega)).trans (h3 q hq),(h4.congr λq _ hq=>I q hq).app k4,λq U M=>?_,λq U M J=>?_⟩
 .by_cases hq:q<y.length
  .rw[I q hq];exact h5 q U hq
  .exact Z q (by omega) M
 .by_cases hq:q<y.length
  .rw[I q hq]at J ⊢;have:=h6 q U hq J;omega
  .exact Y q (by omega) M J
theorem QC.one {out:List IT} {i:IT} (h:GI nT ss t i) (I:¬i.1=5/\¬i.1=10):QC nT ss t 1 out (out++[i]):=by
 have hl:(out++[i]).length=out.length+1:=by rw[bx];rfl
 refine ⟨by omega,by omega,λk hk=>Jr hk,?_,λk h1 h2=>?_,λk h1 h2 J=>?_⟩
 .rw[hl];exact qZ.one (by rw[xS];exact I.1)
 .rw[show k=out.length by omega,xS];exact h
 .rw[show k=out.length by omega,xS]at J;exact (I.2 J).elim
structure GK (ss:List π) (t:Int) (g:GN):Prop where
 c:g.1=C0
 l:g.2.2.2.2.2.2.1=L0
 s:SO ss t g.2.2.2.2.2.2.2.1
theorem Zb {nT:Nat} {op A B C N Z:Int} (h1:1<=op) (h2:op<=27) (hr:∀j:Int,j∈iS (op,A,B,C,N,Z)->0<=j/\j<32) (hb:OB nT (op,A,B,C,N,Z)):GO nT (op,A,B,C,N,Z):=⟨h1,h2,hr,hb⟩
theorem EI {op:Int} {r:υ} {g:GN} {out:List IT} (h:out.length<=100000000) (hg:GK ss t g) (hi:GO nT (op,r)) (J:¬op=5/\¬op=10):Ok (cH ((op,r),g,out)) λy=>y.1=g/\QC nT ss t 1 out y.2:=(IV (op,r) g out h).mono λy I=>⟨I.1,by rw[I.2];exact QC.one ⟨⟨hi.o1,hi.o2,hi.r,hi.b⟩,hg.s⟩ J⟩
theorem Nq:∀(n d:Nat),d<n->∀(e:Xp) (k:Int) (g:GN) (out:List IT),GE d e->GK ss t g->0<=k->k+d<=31->out.length+VE d<=100000000->Ok (iL n ((e,k),g,out)) λy=>y.1=g/\QC nT ss t (VE d) out y.2
 |0,_,h,_,_,_,_,_,_,_,_,_=>by omega
 |n+1,0,_,e,_,_,_,h,_,_,_,_=>h.elim
 |n+1,d+1,hn,e,k,g,out,h,hg,k0,k1,hb=>by
  obtain⟨h1,h2,h3,h4,h5,h6⟩:=h;obtain⟨gc,gl,gs⟩:=id hg;have hv:VE (d+1)=1+2*VE d:=rfl;rw[Ba];unfold qM aX bf bp ch dA bd iT bB bF aF cF;refine aZ (λy=>y.1=g/\QC nT ss t (VE (d+1)) out y.2) ?_ λx hx=>ar hx
  have fin:∀{y:GN×List IT},(y.1=g/\QC nT ss t 1 out y.2)->y.1=g/\QC nT ss t (VE (d+1)) out y.2:=λh=>⟨h.1,(QC.nil 0 out).trans h.2 (by omega)⟩
  refine aK (λ_=>?_) λn1=>?_
  .refine ax (EI (nT:=nT) (by omega) hg (Zb (by decide) (by decide) (by simp[iS];omega) ((by decide:¬(1:Int)=3))) (by decide)) λy I=>bg (by simp) (ar (fin I))
  refine aK (λZ=>?_) λZ=>?_
  .refine ax (yW _ _ (by dsimp only;rw[gl];decide)) λv hv=>eV (λg0=>?_) λg0=>?_
   .have J:=hv.2.1;dsimp only at J g0;rw[gl]at J;have J:v<2:=J;refine ax (EI (nT:=nT) (by omega) hg (Zb (by decide) (by decide) (by simp[iS];omega) ((by decide:¬(2:Int)=3))) (by decide)) λy I=>bg (by simp) (ar (fin I))
   .have J:=hv.2.2.2 g0;dsimp only at J;rw[gl]at J;refine ax (AJ _ _ gc) λv Y=>?_
    have v2:=Y.1 (h5 Z) J;refine ax (EI (nT:=nT) (by omega) hg (Zb (by decide) (by decide) (by simp[iS];omega) (v2)) (by decide)) λy I=>bg (by simp) (ar (fin I))
  have hl:=h2 n1 Z;have hrec:∀(j:Nat),j<e.l.length->∀(k':Int) (o:List IT),0<=k'->k'+d<=31->o.length+VE d<=100000000->Ok (iL n ((aJ (T:=.ex) e.l (j:Int),k'),g,o)) λy=>y.1=g/\QC nT ss t (VE d) o y.2:=λj hj k' o q0 U ho=>Nq n d (by omega) _ k' g o (h4 _ (bJ (T:=.ex) (xs:=e.l) (j:=(j:Int)) (by omega) (by omega))) hg q0 U ho
  refine aK (λn3=>?_) λn3=>?_
  .refine cg (aS ?_);refine ax (hrec 0 hl k out k0 (by omega) (by omega)) λy I=>?_
   obtain⟨g2,o2⟩:=y;obtain⟨U,M⟩:=I;dsimp only at U M;subst U;have q3:=M.u;refine bg (by simp) ?_;refine ax (AJ _ _ gc) λv Y=>?_
   have v3:=Y.2 (h1 n3);have v3:v=3:=v3;subst v3;refine aR (by decide) (by dsimp only;rw[gc];decide) (aS ?_);refine ax (EI (nT:=nT) (by omega) hg (Zb (by decide) (by decide) (by simp[iS];omega) (⟨rfl,by dsimp only;rw[gc];rfl⟩)) (by decide)) λy I=>bg (by simp) (ar ⟨I.1,M.trans I.2 (by omega)⟩)
  obtain⟨h7,h8,h9⟩:=h6 n1 Z n3;refine aK (λn4=>?_) λn4=>?_
  .dsimp only[au]at n4;omega
  .have hl2:1<e.l.length:=by omega
   refine cg (aS ?_);refine ax (hrec 0 hl k out k0 (by omega) (by omega)) λy I=>?_
   obtain⟨g2,o2⟩:=y;obtain⟨U,M⟩:=I;dsimp only at U M;subst U;have q3:=M.u;refine bg (by simp) ?_;refine cg (aS ?_);dsimp only;rw[ic (n:=k+1) (by omega) (by omega)];refine ax (hrec 1 hl2 _ o2 (by omega) (by omega) (by omega)) λy I=>?_
   obtain⟨g3,o3⟩:=y;obtain⟨r1,r2⟩:=I;dsimp only at r1 r2;subst r1;have r3:=r2.u;refine bg (by simp) ?_;refine ax (EI (nT:=nT) (by omega) hg (Zb (by decide) (by decide) (by simp[iS];omega) (⟨h8,h9⟩)) (by decide)) λy I=>bg (by simp) (ar ⟨I.1,(M.trans r2 (bX _)).trans I.2 (by omega)⟩)
theorem UB (e:Xp) (k:Int) (g:GN) (out:List IT) (he:GE 4 e) (hg:GK ss t g) (I:0<=k) (k1:k<=27) (h:out.length<=99999900):Ok (iJ ((e,k),g,out)) λy=>y.1=g/\QC nT ss t 15 out y.2:=Nq fuel 4 (by rw[jW];omega) e k g out he hg I (by omega) (by have:VE 4=15:=rfl;omega)
structure GB (nT:Nat) (g:GN):Prop where
 c:g.1=C0
 l:g.2.1=Hl
 d:g.2.2.1=MY
 f:g.2.2.2.1=Ug
 t:g.2.2.2.2.1=wB.take nT
 h:g.2.2.2.2.2.2.1=L0
structure GQ (g y:GN):Prop where
 a:y.1=g.1
 b:y.2.1=g.2.1
 c:y.2.2.1=g.2.2.1
 d:y.2.2.2.1=g.2.2.2.1
 e:y.2.2.2.2.1=g.2.2.2.2.1
 h:y.2.2.2.2.2.2.1=g.2.2.2.2.2.2.1
theorem GQ.refl (g:GN):GQ g g:=⟨rfl,rfl,rfl,rfl,rfl,rfl⟩
theorem GQ.trans {a b c:GN} (h:GQ a b) (k:GQ b c):GQ a c:=⟨k.a.trans h.a,k.b.trans h.b,k.c.trans h.c,k.d.trans h.d,k.e.trans h.e,k.h.trans h.h⟩
variable {nT:Nat} {ss:List π} {t:Int}
theorem GB.of {g y:GN} (h:GB nT g) (q:GQ g y):GB nT y:=⟨q.a.trans h.c,q.b.trans h.l,q.c.trans h.d,q.d.trans h.f,q.e.trans h.t,q.h.trans h.h⟩
theorem GQ.site (g:GN) (x:List π) (a b:Int):GQ g (g.1,g.2.1,g.2.2.1,g.2.2.2.1,g.2.2.2.2.1,x,g.2.2.2.2.2.2.1,a,b):=⟨rfl,rfl,rfl,rfl,rfl,rfl⟩
abbrev gS (g:GN):Int:=g.2.2.2.2.2.2.2.1
abbrev gN (g:GN):Int:=g.2.2.2.2.2.2.2.2
structure QG (nT:Nat) (ss:List π) (t:Int) (n m:Nat) (g:GN) (out:List IT) (y:GN×List IT):Prop where
 q:GQ g y.1
 c:QC nT ss t n out y.2
 x:gN y.1=gN g+(m:Int)
theorem xJ {op:Int} {r:υ} {g:GN} {out:List IT} (h:out.length<=100000000) (hg:GB nT g) (hs:SO ss t (gS g)) (hi:GO nT (op,r)) (I:¬op=5/\¬op=10):Ok (cH ((op,r),g,out)) λy=>y.1=g/\QC nT ss t 1 out y.2:=EI h ⟨hg.c,hg.h,hs⟩ hi I
theorem CP (e:Xp) (k:Int) (g:GN) (out:List IT) (he:GE 4 e) (hg:GB nT g) (hs:SO ss t (gS g)) (I:0<=k) (k1:k<=27) (h:out.length<=99999000):Ok (iJ ((e,k),g,out)) λy=>y.1=g/\QC nT ss t 15 out y.2:=UB e k g out he ⟨hg.c,hg.h,hs⟩ I k1 (by omega)
theorem GB.len {g:GN} (h:GB nT g):aO (al g.2.2.2.2.2.2.1)=2:=by rw[h.h];rfl
theorem WF (s:Sx) (g:GN) (out:List IT) (h1:s.index≠[]->s.name=[113]) (h2:∀e∈s.index,GE 4 e) (h3:GE 4 s.expr) (h4:s.index=[]->s.name∈NV) (hg:GB nT g) (hs:SO ss t (gS g)) (h:out.length<=99990000):Ok (mb (s,g,out)) λy=>y.1=g/\QC nT ss t 40 out y.2:=by
 have hex:GE 4 (d_ (Xp.op s.expr,Xp.n s.expr,Xp.name s.expr,Xp.l s.expr)):=by rw[fx];exact h3
 have e3:bk .i64 ((2:Int)+1)=3:=ic (by decide) (by decide);unfold mb aX bf bp ch dA bz iT bB bF aY;refine bI (λJ=>?_) λJ=>?_
 .dsimp only[au]at J;refine cg (aS ?_);refine ax (CP _ _ g out (h2 _ (bJ (T:=.ex) (xs:=s.index) (j:=0) (by omega) (by omega))) hg hs (by rw[hg.len];decide) (by rw[hg.len];decide) (by omega)) λy I=>?_
  obtain⟨g2,o2⟩:=y;obtain⟨Y,U⟩:=I;dsimp only at Y U;subst Y;have q3:=U.u;refine bg (by simp) ?_;dsimp only;rw[hg.len,e3];refine ax (CP _ _ g2 o2 hex hg hs (by decide) (by decide) (by omega)) λy I=>?_
  obtain⟨g3,o3⟩:=y;obtain⟨r1,r2⟩:=I;dsimp only at r1 r2;subst r1;have r3:=r2.u;refine bg (by simp) ?_;refine ax (AJ _ _ hg.c) λv hv=>?_
  have Z:=hv.2 (h1 (λh=>by rw[h]at J;simp at J));have Z:v=3:=Z;subst Z;refine aR (by decide) (by dsimp only;rw[hg.c];decide) (aS ?_);refine ax (xJ (by omega) hg hs (Zb (by decide) (by decide) (by simp[iS,hg.h,L0]) (⟨rfl,by dsimp only;rw[hg.c];rfl⟩)) (by decide)) λy I=>bg (by simp) (ar ⟨I.1,(U.trans r2 (bX _)).trans I.2 (by omega)⟩)
 .have hi0:s.index=[]:=gL.1 (by dsimp only[au]at J;omega);refine ax (CP _ _ g out hex hg hs (by rw[hg.len];decide) (by rw[hg.len];decide) (by omega)) λy I=>?_
  obtain⟨g2,o2⟩:=y;obtain⟨Y,U⟩:=I;dsimp only at Y U;subst Y;have q3:=U.u;refine bg (by simp) ?_;refine ax (yW _ _ (by dsimp only;rw[hg.h];decide)) λv hv=>eV (λJ=>?_) λJ=>?_
  .have M:=hv.2.1;dsimp only at M J;rw[hg.h]at M;have M:v<2:=M;refine ax (xJ (by omega) hg hs (Zb (by decide) (by decide) (by simp[iS,hg.h,L0];omega) ((by decide:¬(2:Int)=3))) (by decide)) λy I=>bg (by simp) (ar ⟨I.1,U.trans I.2 (by omega)⟩)
  .have M:=hv.2.2.2 J;dsimp only at M;rw[hg.h]at M;refine ax (AJ _ _ hg.c) λv hv2=>?_
   have v2:=hv2.1 (h4 hi0) M;refine ax (xJ (by omega) hg hs (Zb (by decide) (by decide) (by simp[iS,hg.h,L0]) (v2)) (by decide)) λy I=>bg (by simp) (ar ⟨I.1,U.trans I.2 (by omega)⟩)
theorem ad4 (s:ζ) (g:GN) (out:List IT) (hg:GB nT g):Ok (jA (s,g,out)) λy=>y.2=(g,out)/\(s=[99]->y.1=0):=by
 have hd:g.2.2.1.length=1:=by rw[hg.d];rfl
 unfold jA aX bz bF aY cK aF cF;refine ca 1 (λi x=>x.1=(i:Int)/\x.2=(g,out)/\(s=[99]->i=0)) ?_ ?_ ⟨rfl,rfl,λ_=>rfl⟩
 .rintro i ⟨a,x⟩ hi ⟨e1,e2,e3⟩;dsimp only at e1 e2 e3;subst e1;subst e2;refine du ?_;refine cg (aS ?_);refine aK (λ_=>ar ⟨rfl,λ_=>by dsimp only;omega⟩) λh=>ar ⟨gO (by omega),rfl,λh2=>?_⟩
  refine (h ?_).elim;dsimp only;rw[hg.d,show i=0 by omega,h2];rfl
 .rintro⟨a,x⟩ ⟨e1,e2,e3⟩;dsimp only at e1 e2 e3;subst e1;subst e2;exact dv (ar ⟨rfl,λh=>by have:=e3 h;omega⟩)
def ME:Nat->Nat
 |0=>0
 |d+1=>50+16*ME d
def SR (ss:List π) (t a:Int) (m:Nat):Prop:=0<=a/\a+m<=1000/\∀i:Int,a<=i->i<a+m->SO ss t i
def SpG (nT:Nat) (ss:List π) (t:Int) (I:Sx×GN×List IT->Option (GN×List IT)) (d:Nat):Prop:=∀(s:Sx) (g:GN) (out:List IT),GS nT d s->GB nT g->SR ss t (gN g) (QK d s)->out.length+ME d<=90000000->Ok (I (s,g,out)) (QG nT ss t (ME d) (QK d s) g out)
def ae3 (nT:Nat) (ss:List π) (t:Int) (rs:List Sx×GN×List IT->Option (GN×List IT)) (d:Nat):Prop:=∀(l:List Sx) (g:GN) (out:List IT),l.length<=100->(∀s∈l,GS nT d s)->GB nT g->SR ss t (gN g) (nK d l)->out.length+l.length*ME d<=90000000->Ok (rs (l,g,out)) (QG nT ss t (l.length*ME d) (nK d l) g out)
abbrev FS6:Type:=List Sx×GN×List IT->Option (GN×List IT)
abbrev FT6:Type:=Sx×GN×List IT->Option (GN×List IT)
abbrev FA6:Type:=(Sx×Int×Int×Int)×GN×List IT->Option (GN×List IT)
variable {nT:Nat} {ss:List π} {t:Int}
def al0 (nT:Nat) (ss:List π) (t:Int) (I:FT6) (d:Nat):Prop:=∀(s:Sx) (g:GN) (out:List IT),s.op=2\/s.op=3->GE 4 s.expr->s.body.length<=8->s.els.length<=8->(∀x∈s.body,GS nT d x)->(∀x∈s.els,GS nT d x)->(¬s.op=2->s.els=[])->GB nT g->SO ss t (gS g)->SR ss t (gN g) (nK d s.body+nK d s.els)->out.length+ME (d+1)<=90000000->Ok (I (s,g,out)) (QG nT ss t (17+16*ME d) (nK d s.body+nK d s.els) g out)
def al1 (nT:Nat) (ss:List π) (t:Int) (ra:FA6) (d:Nat):Prop:=∀(s:Sx) (a b c:Int) (g:GN) (out:List IT),s.body.length<=8->(∀x∈s.body,GS nT d x)->GO nT (a,c,0,0,0,0)->GO nT (b,c,0,0,0,0)->¬a=5/\¬a=10->¬b=5/\¬b=10->GB nT g->SO ss t (gS g)->SR ss t (gN g) (nK d s.body)->out.length+ME (d+1)<=90000000->Ok (ra ((s,a,b,c),g,out)) (QG nT ss t (17+16*ME d) (nK d s.body) g out)
theorem SR.sub {a b:Int} {m n:Nat} (h:SR ss t a m) (h1:a<=b) (h2:b+n<=a+m):SR ss t b n:=⟨by have:=h.1;omega,by have:=h.2.1;omega,λi J I=>h.2.2 i (by omega) (by omega)⟩
theorem VK (rs:FS6) (U:FT6) (Z:FT6) (ra:FA6) (d:Nat) (ht:SpG nT ss t U d):ae3 nT ss t (qN rs U Z ra) d:=by
 intro l g out hl hs hg hso hb;unfold qN bz bB bF aY cK aF cF;refine ca l.length (λi x=>x.1=(i:Int)/\QG nT ss t (i*ME d) (nK d (l.take i)) g out x.2) ?_ ?_ ⟨rfl,GQ.refl g,QC.nil _ _,by simp[nK]⟩
 .rintro i ⟨a,Y,o2⟩ hi ⟨e1,J,I,q3⟩;dsimp only at e1 J I q3;subst e1;have hK:(i+1)*ME d<=l.length*ME d:=cL _ (by omega);have hKs:=iW i (ME d);rw[Nat.succ_eq_add_one]at hKs;have hp:=P_ (d:=d) l (i+1);rw[xj hi]at hp;have q4:=I.u;refine du ?_;refine cg (aS ?_);refine ax (ht _ Y o2 (hs _ (bJ (T:=.sm) (xs:=l) (j:=(i:Int)) (by omega) (by omega))) (hg.of J) (hso.sub (by rw[q3];omega) (by rw[q3];dsimp only;omega)) (by omega)) λy M=>bg (by simp) (ar ?_)
  rw[xj hi];exact⟨gO (by omega),J.trans M.q,I.trans M.c (by omega),by rw[M.x,q3];dsimp only;omega⟩
 .rintro⟨a,Y,o2⟩ ⟨e1,q⟩;dsimp only at e1;subst e1;rw[cX]at q;exact dv (ar q)
theorem R6 (rs:FS6) (rt:FT6) (rb:FT6) (ra:FA6) (d:Nat) (hS:ae3 nT ss t rs d):al1 nT ss t (ph rs rt rb ra) d:=by
 intro s a b c g out h1 h2 ga gb na nb hg hs hso hb;have hm:ME (d+1)=50+16*ME d:=rfl;have kb:s.body.length*ME d<=8*ME d:=cL _ h1;unfold ph aX bf bp ch dA jt bL nM bB;refine ax (xJ (by omega) hg hs ga na) λy I=>?_
 obtain⟨Z,o2⟩:=y;obtain⟨Y,J⟩:=I;dsimp only at Y J;subst Y;have q3:=J.u;refine bg (by simp) ?_;refine ax (hS s.body Z o2 (by omega) h2 hg hso (by omega)) λy I=>?_
 obtain⟨M,o3⟩:=y;obtain⟨r1,r2,r3⟩:=I;dsimp only at r1 r2 r3;have r4:=r2.u;refine bg (by simp) ?_;have U:=r1.trans (GQ.site M M.2.2.2.2.2.1 Z.2.2.2.2.2.2.2.1 M.2.2.2.2.2.2.2.2);refine ax (xJ (by dsimp only;omega) (hg.of U) hs gb nb) λy I=>bg (by simp) (ar ⟨?_,?_,?_⟩)
 .rw[I.1];exact U
 .exact (J.trans r2 (bX _)).trans I.2 (by omega)
 .rw[I.1];exact r3
theorem zG {l:List IT} {j k:Nat} {x:IT} (h:j<l.length):iA (cw l (j:Int) x) k=if k=j then x else iA l k:=JO (T:=BT) l j k x h
abbrev ptB (l:List IT) (j:Nat) (b:Int):List IT:=cw l (j:Int) ((iA l j).1,(iA l j).2.1,b,(iA l j).2.2.2.1,(iA l j).2.2.2.2.1,(iA l j).2.2.2.2.2)
abbrev ptA (l:List IT) (j:Nat) (a:Int):List IT:=cw l (j:Int) ((iA l j).1,a,(iA l j).2.2.1,(iA l j).2.2.2.1,(iA l j).2.2.2.2.1,(iA l j).2.2.2.2.2)
theorem GI.pb {i:IT} {b:Int} (h:GI nT ss t i) (h1:i.1=10):GI nT ss t (i.1,i.2.1,b,i.2.2.2.1,i.2.2.2.2.1,i.2.2.2.2.2):=by
 obtain⟨Z,Y,U,M,J,I⟩:=i;dsimp only at h1;subst h1;exact⟨⟨h.o.o1,h.o.o2,h.o.r,(by decide:¬(10:Int)=3)⟩,h.s⟩
theorem QC.cbr {n m:Nat} {out o1 o2 I:List IT} {br:IT} (h1:QC nT ss t n out o1) (h2:o2=o1++[br]) (hb:GI nT ss t br) (U:br.1=10) (M:QC nT ss t m o2 I) (F:List IT) (hl:I.length<=F.length) (Y:∀k:Nat,k<I.length->¬k=o1.length->iA F k=iA I k) (hFb:∃b:Int,(0<=b/\b<=(F.length:Int))/\iA F o1.length=(br.1,br.2.1,b,br.2.2.2.1,br.2.2.2.2.1,br.2.2.2.2.2)):(∀k:Nat,k<out.length->iA F k=iA out k)/\qZ F out.length o1.length/\(iA F o1.length).1=10/\qZ F (o1.length+1) I.length/\(∀k:Nat,out.length<=k->k<I.length->GI nT ss t (iA F k))/\∀k:Nat,out.length<=k->k<I.length->(iA F k).1=10->0<=(iA F k).2.2.1/\(iA F k).2.2.1<=(F.length:Int):=by
 have l2:o2.length=o1.length+1:=by rw[h2,bx];rfl
 have l1:=h1.l;have l3:=M.l;have e1:∀k:Nat,k<o1.length->iA F k=iA o1 k:=λk hk=>by rw[Y k (by omega) (by omega),M.p k (by omega),h2,Jr hk]
 obtain⟨b,hb0,eb⟩:=hFb;refine ⟨λk hk=>(e1 k (by omega)).trans (h1.p k hk),h1.b.congr λk _ hk=>e1 k hk,by rw[eb];exact U,?_,λk g1 J=>?_,λk g1 J Z=>?_⟩
 .have:=M.b;rw[l2]at this;exact this.congr λk g1 J=>Y k J (by omega)
 .rcases Oj k o1.length with hk|hk|hk
  .rw[e1 k hk];exact h1.i k g1 hk
  .rw[hk,eb];exact hb.pb U
  .rw[Y k J (by omega)];exact M.i k (by omega) J
 .rcases Oj k o1.length with hk|hk|hk
  .rw[e1 k hk]at Z ⊢;have:=h1.r k g1 hk Z;omega
  .rw[hk,eb];exact hb0
  .rw[Y k J (by omega)]at Z ⊢;have:=M.r k (by omega) J Z;omega
theorem Mo (rs:FS6) (rt:FT6) (rb:FT6) (ra:FA6) (d:Nat) (hS:ae3 nT ss t rs d):al0 nT ss t (mG rs rt rb ra) d:=by
 intro s g out hop he h1 h2 h3 h4 hel hg hs hso hb;have hm:ME (d+1)=50+16*ME d:=rfl;have kb:s.body.length*ME d<=8*ME d:=cL _ h1;have ke:s.els.length*ME d<=8*ME d:=cL _ h2;have hex:GE 4 (d_ (Xp.op s.expr,Xp.n s.expr,Xp.name s.expr,Xp.l s.expr)):=by rw[fx];exact he
 unfold mG aX bf bp ch dA jt nM ck bd bB aY;refine ax (CP _ _ g out hex hg hs (by rw[hg.len];decide) (by rw[hg.len];decide) (by omega)) λy hy=>?_
 obtain⟨Y,o1⟩:=y;obtain⟨p1,p2⟩:=hy;dsimp only at p1 p2;subst p1;have p3:=p2.u;have p4:=p2.l;refine bg (by simp) ?_;refine ax (IV _ Y o1 (by omega)) λy hy=>?_
 obtain⟨J,o2⟩:=y;obtain⟨q1,q2⟩:=hy;dsimp only at q1 q2;subst q1;rw[hg.len]at q2;have hbr:GI nT ss t ((10,2,0,0,0,J.2.2.2.2.2.2.2.1):IT):=⟨Zb (by decide) (by decide) (by simp[iS]) (by decide:¬(10:Int)=3),hs⟩
 have l2:o2.length=o1.length+1:=by rw[q2,bx];rfl
 refine bg (by simp) ?_;refine ax (hS s.body J o2 (by omega) h3 hg (hso.sub (eB _) (by omega)) (by omega)) λy hy=>?_
 obtain⟨U,I⟩:=y;obtain⟨r1,r2,r3⟩:=hy;dsimp only at r1 r2 r3;have r4:=r2.u;have r5:=r2.l;have ebr:iA I o1.length=(10,2,0,0,0,J.2.2.2.2.2.2.2.1):=by rw[r2.p _ (by omega),q2,xS]
 refine bg (by simp) ?_;have qs:=r1.trans (GQ.site U U.2.2.2.2.2.1 J.2.2.2.2.2.2.2.1 U.2.2.2.2.2.2.2.2);refine aK (λh3w=>?_) λh3w=>?_
 .have hels:nK d s.els=0:=by rw[hel (by have h3w:s.op=3:=h3w;omega)];rfl
  rw[hels,dx];refine ax (IV _ _ I (by omega)) λy hy=>?_
  obtain⟨g4,M⟩:=y;obtain⟨w1,w2⟩:=hy;dsimp only at w1 w2;have l4:M.length=I.length+1:=by rw[w2,bx];rfl
  refine bg (by simp) (aR (dT _) (by dsimp only[au];omega) (aR (dT _) (by dsimp only[au];omega) (ar ?_)));have hat:o1.length<M.length:=by omega
  have ej:iA M I.length=(5,(out.length:Int),0,0,0,J.2.2.2.2.2.2.2.1):=by rw[w2,xS];rfl
  have e43:∀k:Nat,k<I.length->iA M k=iA I k:=λk hk=>by rw[w2,Jr hk]
  refine ⟨by dsimp only;rw[w1];exact qs,?_,by dsimp only;rw[w1];exact r3⟩;dsimp only;have eF:∀{z:IT} {k:Nat},¬k=o1.length->iA (cw M ((o1.length:Nat):Int) z) k=iA M k:=λh=>by rw[zG hat,ay h]
  obtain⟨f1,f2,f3,f4,f5,f6⟩:=p2.cbr q2 hbr rfl r2 (ptB M o1.length (aO M.length)) (by rw[bT];omega) (λk hk hn=>(eF hn).trans (e43 k hk)) ⟨_,⟨dT _,by rw[bT];exact eB _⟩,by rw[zG hat,aD rfl,e43 _ (by omega),ebr];rfl⟩;show QC nT ss t _ out (ptB M o1.length (aO M.length));have ejF:iA (ptB M o1.length (aO M.length)) I.length=(5,(out.length:Int),0,0,0,J.2.2.2.2.2.2.2.1):=(eF (by omega:¬I.length=o1.length)).trans ej;refine ⟨by rw[bT];omega,by rw[bT];omega,f1,?_,λk Y J=>?_,λk Y J U=>?_⟩
  .rw[(bT _ _ _).trans l4];exact f2.whl f3 f4 (by rw[ejF]) (by rw[ejF])
  .rw[bT,l4]at J;by_cases hk:k<I.length
   .exact f5 k Y hk
   .rw[show k=I.length by omega,ejF];exact⟨Zb (by decide) (by decide) (by simp[iS]) (by decide:¬(5:Int)=3),hs⟩
  .have g2':=J;rw[bT,l4]at g2';by_cases hk:k<I.length
   .exact f6 k Y hk U
   .rw[show k=I.length by omega,ejF]at U;cases U
 refine aK (λhz=>?_) λ_=>?_
 .have hels:nK d s.els=0:=by rw[gL.1 (by dsimp only[au]at hz;omega:s.els.length=0)];rfl
  rw[hels,dx];refine aR (dT _) (by dsimp only[au];omega) (aR (dT _) (by dsimp only[au];omega) (ar ⟨qs,?_,r3⟩));dsimp only;have hat:o1.length<I.length:=by omega
  obtain⟨f1,f2,f3,f4,f5,f6⟩:=p2.cbr q2 hbr rfl r2 (ptB I o1.length (aO I.length)) (by rw[bT];omega) (λk hk hn=>by rw[zG hat,ay hn]) ⟨_,⟨dT _,by rw[bT];exact eB _⟩,by rw[zG hat,aD rfl,ebr];rfl⟩;show QC nT ss t _ out (ptB I o1.length (aO I.length));refine ⟨by rw[bT];omega,by rw[bT];omega,f1,?_,λk Y J=>?_,λk Y J U=>?_⟩
  .rw[bT];exact (f2.app (qZ.one (by rw[f3];decide))).app f4
  .rw[bT]at J;exact f5 k Y J
  .exact f6 k Y (by rw[bT]at J;exact J) U
 .refine ax (IV _ _ I (by omega)) λy hy=>?_
  obtain⟨g4,M⟩:=y;obtain⟨w1,w2⟩:=hy;dsimp only at w1 w2;have l4:M.length=I.length+1:=by rw[w2,bx];rfl
  have qs4:GQ J g4:=by rw[w1];exact qs
  have x4:gN g4=gN J+(nK d s.body:Nat):=by rw[w1];exact r3
  have hat:o1.length<M.length:=by omega
  have ej:iA M I.length=(5,0,0,0,0,J.2.2.2.2.2.2.2.1):=by rw[w2,xS]
  have e43:∀k:Nat,k<I.length->iA M k=iA I k:=λk hk=>by rw[w2,Jr hk]
  refine bg (by simp) (aR (dT _) (by dsimp only[au];omega) (aR (dT _) (by dsimp only[au];omega) ?_));have eF:∀{z:IT} {k:Nat},¬k=o1.length->iA (cw M ((o1.length:Nat):Int) z) k=iA M k:=λh=>by rw[zG hat,ay h]
  refine ax (hS s.els g4 (ptB M o1.length (aO M.length)) (by omega) h4 (hg.of qs4) (hso.sub (by rw[x4];omega) (by rw[x4];omega)) (by rw[bT];omega)) λy hy=>?_
  obtain⟨g5,Z⟩:=y;obtain⟨z1,z2,z3⟩:=hy;dsimp only at z1 z2 z3;have z4:=z2.l;have z5:=z2.u;have zp:=z2.p;have zb:=z2.b;have zi:=z2.i;have zr:=z2.r;rw[bT]at z4 z5 zp zb zi zr;have hj5:I.length<Z.length:=by omega
  refine bg (by simp) (aR (dT _) (by dsimp only[au];omega) (aR (dT _) (by dsimp only[au];omega) (ar ⟨qs4.trans z1,?_,by dsimp only;rw[z3,x4];omega⟩)));dsimp only;show QC nT ss t _ out (ptA Z I.length (aO Z.length));have eG:∀{z:IT} {k:Nat},¬k=I.length->iA (cw Z ((I.length:Nat):Int) z) k=iA Z k:=λh=>by rw[zG hj5,ay h]
  have ej5:iA Z I.length=(5,0,0,0,0,J.2.2.2.2.2.2.2.1):=by rw[zp _ (by omega),eF (by omega),ej]
  obtain⟨f1,f2,f3,f4,f5,f6⟩:=p2.cbr q2 hbr rfl r2 (ptA Z I.length (aO Z.length)) (by rw[bT];omega) (λk hk hn=>by rw[eG (by omega),zp k (by omega),eF hn,e43 k hk]) ⟨aO M.length,⟨dT _,by rw[bT];dsimp only[au];omega⟩,by rw[eG (by omega),zp _ (by omega),zG hat,aD rfl,e43 _ (by omega),ebr]⟩;have ejF:iA (ptA Z I.length (aO Z.length)) I.length=(5,aO Z.length,0,0,0,J.2.2.2.2.2.2.2.1):=by rw[zG hj5,aD rfl,ej5]
  refine ⟨by rw[bT];omega,by rw[bT];omega,f1,?_,λk Y J=>?_,λk Y J U=>?_⟩
  .rw[bT];refine ((f2.app (qZ.one (by rw[f3];decide))).app f4).ite (by rw[ejF]) (by rw[ejF];rfl) ?_;rw[l4]at zb;exact zb.congr λk Y J=>eG (by omega)
  .rw[bT]at J;rcases Oj k I.length with hk|hk|hk
   .exact f5 k Y hk
   .rw[hk,ejF];exact⟨Zb (by decide) (by decide) (by simp[iS]) (by decide:¬(5:Int)=3),hs⟩
   .rw[eG (by omega)];exact zi k (by omega) J
  .have g2':=J;rw[bT]at g2';rcases Oj k I.length with hk|hk|hk
   .exact f6 k Y hk U
   .rw[hk,ejF]at U;cases U
   .rw[eG (by omega)]at U ⊢;rw[bT];exact zr k (by omega) g2' U
theorem Za (rs:FS6) (rt:FT6) (rb:FT6) (ra:FA6) (d:Nat) (hB:al0 nT ss t rb d) (hA:al1 nT ss t ra d):SpG nT ss t (sh rs rt rb ra) (d+1):=by
 intro s g out hs hg hso hb;have hm:ME (d+1)=50+16*ME d:=rfl;obtain⟨i1,i2,i3,i4,i5,i6,i7,i8,i9,Y⟩:=hs;have hcn:QK (d+1) s=1+nK d s.body+nK d s.els:=rfl;rw[hcn]at hso ⊢;obtain⟨so0,so1,so2⟩:=id hso;have so0:0<=g.2.2.2.2.2.2.2.2:=so0;have so1:g.2.2.2.2.2.2.2.2+((1+nK d s.body+nK d s.els:Nat):Int)<=1000:=so1;have ew:bk .i64 (g.2.2.2.2.2.2.2.2+1)=g.2.2.2.2.2.2.2.2+1:=ic (by omega) (by omega);have gs:=GQ.site g g.2.2.2.2.2.1 g.2.2.2.2.2.2.2.2 (bk .i64 (g.2.2.2.2.2.2.2.2+1));unfold sh aX bf bp ch dA bL nM bd bB aY aF cF eh;refine aZ (λx=>QG nT ss t (ME (d+1)) (1+nK d s.body+nK d s.els) g out x) ?_ λx hx=>ar hx
 dsimp only;have Z:SO ss t (gS ((g.1,g.2.1,g.2.2.1,g.2.2.2.1,g.2.2.2.2.1,g.2.2.2.2.2.1,g.2.2.2.2.2.2.1,g.2.2.2.2.2.2.2.2,bk .i64 (g.2.2.2.2.2.2.2.2+1)):GN)):=so2 _ (eB _) (by show g.2.2.2.2.2.2.2.2<g.2.2.2.2.2.2.2.2+((1+nK d s.body+nK d s.els:Nat):Int);omega);have hn1:gN ((g.1,g.2.1,g.2.2.1,g.2.2.2.1,g.2.2.2.2.1,g.2.2.2.2.2.1,g.2.2.2.2.2.2.1,g.2.2.2.2.2.2.2.2,bk .i64 (g.2.2.2.2.2.2.2.2+1)):GN)=gN g+1:=ew;revert gs Z hn1;generalize ((g.1,g.2.1,g.2.2.1,g.2.2.2.1,g.2.2.2.2.1,g.2.2.2.2.2.1,g.2.2.2.2.2.2.1,g.2.2.2.2.2.2.2.2,bk .i64 (g.2.2.2.2.2.2.2.2+1)):GN)=U;intro gs Z hn1;have M:=hg.of gs;have hso1:=hso.sub (b:=gN U) (n:=nK d s.body+nK d s.els) (by rw[hn1];omega) (by rw[hn1];omega);have fin:∀(n m:Nat) (y:GN×List IT),QG nT ss t n m U out y->n<=ME (d+1)->m=nK d s.body+nK d s.els->QG nT ss t (ME (d+1)) (1+nK d s.body+nK d s.els) g out y:=λn m y J hn hm=>⟨gs.trans J.q,(QC.nil 0 out).trans J.c (by omega),by rw[J.x,hn1];omega⟩
 have fin0:s.op=1\/9<=s.op->∀(n:Nat) (y:GN×List IT),y.1=U/\QC nT ss t n out y.2->n<=ME (d+1)->QG nT ss t (ME (d+1)) (1+nK d s.body+nK d s.els) g out y:=λI n y J hn=>fin n 0 y ⟨by rw[J.1];exact GQ.refl U,J.2,by rw[J.1];simp⟩ hn (by rw[Y.bo I,Y.el (by omega)];rfl)
 refine aK (λI=>?_) λ_=>?_
 .refine ax (WF (nY _) U out ?_ ?_ ?_ ?_ M Z (by omega)) λy J=>bg (by simp) (ar (fin0 (.inl I) _ _ J (by omega)))
  .rw[yB];exact i1
  .rw[yB];exact i3
  .rw[yB];exact i4 (.inl I)
  .rw[yB];exact Y.vr I
 refine aZ (λx=>x.2=(U,s,out)/\(x.1=ai↔s.op=2\/s.op=3)) ?_ ?_
 .exact aK (λh=>ar ⟨by dsimp only;rw[yB],λ_=>.inl h,λ_=>aQ h⟩) λh=>ar ⟨by dsimp only;rw[yB],λh2=>.inr (bw h2),λh2=>aQ (h2.resolve_left h)⟩
 rintro⟨b,x⟩ ⟨e,hb2⟩;dsimp only at e hb2;subst e;refine aP (λhb3=>?_) λhbf=>?_
 .dsimp only;rw[yB];refine ax (hB s U out (hb2.1 hb3) (i4 (by rcases hb2.1 hb3 with h|h;exact .inr (.inl h);exact .inr (.inr (.inl h)))) i6 i7 i8 i9 Y.el M Z hso1 hb) λy J=>bg (by simp) (ar (fin _ _ _ J (by omega) rfl))
 have har:∀(a b c:Int),4<=s.op->GO nT (a,c,0,0,0,0)->GO nT (b,c,0,0,0,0)->¬a=5/\¬a=10->¬b=5/\¬b=10->Ok (ra ((s,a,b,c),U,out)) λy=>QG nT ss t (ME (d+1)) (1+nK d s.body+nK d s.els) g out y:=λa b c h4 ga gb na nb=>(hA s a b c U out i6 i8 ga gb na nb M Z (hso1.sub (eB _) (by omega)) hb).mono λy J=>fin _ _ _ J (by omega) (by rw[Y.el (by omega)];rfl)
 have hput:∀{op:Int} {r:υ},9<=s.op->GO nT (op,r)->¬op=5/\¬op=10->Ok (cH ((op,r),U,out)) (QG nT ss t (ME (d+1)) (1+nK d s.body+nK d s.els) g out):=λh9 hi h5=>(xJ (by omega) M Z hi h5).mono λy J=>fin0 (.inr h9) _ _ J (by omega)
 have hlk:∀n:ζ,Ok (ko (U.2.1,n)) λr=>(n=[109]->r=0)/\(n=[110]->r=1)/\(n=[114]->r=2):=λn=>(Ni U.2.1 n (by rw[M.l];decide)).mono λr h=>ail (by rw[M.l]at h;exact h)
 have hcond:∀(n:ζ),Ok (jA (n,U,out)) λy=>y.2=(U,out)/\(n=[99]->y.1=0):=λn=>ad4 n U out M
 have hth:Ok (jd (U.2.2.2.2.1,s.name)) λr=>s.op=12\/s.op=13->0<=r/\r<(nT:Int):=(yW U.2.2.2.2.1 s.name (by rw[M.t,bH];have q4:wB.length=4:=rfl;omega)).mono λr hr I=>by
  have hn:=Y.sp I;have hl:(wB.take nT).length<=nT:=qn ..;obtain⟨_,h2,_,h4⟩:=hr;rw[M.t]at h2 h4;exact⟨CF.1 λh=>h4 h hn,by omega⟩
 have hft:∀n:ζ,Ok (jd (U.2.2.2.1,n)) λr=>n=[102]->r=0:=λn=>(yW U.2.2.2.1 n (by rw[M.f];decide)).mono λr hr hn=>by
  obtain⟨h1,h2,_,h4⟩:=hr;rw[M.f]at h2 h4;have h2:r<1:=h2;have:¬r<0:=λh=>h4 h (by rw[hn];decide)
  omega
 dsimp only;rw[yB];have gor:∀{a c:Int},1<=a->a<=27->iS (a,c,0,0,0,0)=[]->OB nT (a,c,0,0,0,0)->GO nT (a,c,0,0,0,0):=λh1 h2 h3 h4=>⟨h1,h2,by rw[h3];exact λj hj=>(by cases hj),h4⟩
 refine aK (λI=>ax (hlk _) λv hv=>ax (har _ _ _ (by have I:s.op=4:=I;omega) (gor (by decide) (by decide) rfl ?_) (gor (by decide) (by decide) rfl ?_) (by decide) (by decide)) λy J=>bg (by simp) (ar J)) λ_=>?_
 .exact (Y.lk I).imp hv.1 hv.2.1
 .exact (Y.lk I).imp hv.1 hv.2.1
 refine aK (λI=>ax (hlk _) λv hv=>ax (har _ _ _ (by have I:s.op=5:=I;omega) (gor (by decide) (by decide) rfl ?_) (gor (by decide) (by decide) rfl ?_) (by decide) (by decide)) λy J=>bg (by simp) (ar J)) λ_=>?_
 .exact hv.2.2 (Y.rw (.inl I))
 .exact hv.2.2 (Y.rw (.inl I))
 refine aK (λI=>ax (hlk _) λv hv=>ax (har _ _ _ (by have I:s.op=6:=I;omega) (gor (by decide) (by decide) rfl ?_) (gor (by decide) (by decide) rfl ?_) (by decide) (by decide)) λy J=>bg (by simp) (ar J)) λ_=>?_
 .exact hv.2.2 (Y.rw (.inr I))
 .exact hv.2.2 (Y.rw (.inr I))
 refine aK (λI=>ax (har _ _ _ (by have I:s.op=7:=I;omega) (gor (by decide) (by decide) rfl (by decide:¬(17:Int)=3)) (gor (by decide) (by decide) rfl (by decide:¬(18:Int)=3)) (by decide) (by decide)) λy J=>bg (by simp) (ar J)) λ_=>?_
 refine aK (λI=>ax (har _ _ _ (by have I:s.op=8:=I;omega) (gor (by decide) (by decide) rfl (by decide:¬(19:Int)=3)) (gor (by decide) (by decide) rfl (by decide:¬(20:Int)=3)) (by decide) (by decide)) λy J=>bg (by simp) (ar J)) λ_=>?_
 refine aK (λI=>ax (hcond _) λy J=>?_) λ_=>?_
 .obtain⟨v,y2⟩:=y;obtain⟨y3,y4⟩:=J;dsimp only at y3;subst y3;exact bg (by simp) (ax (hput (by have I:s.op=9:=I;omega) (gor (by decide) (by decide) rfl (y4 (Y.cn (.inl I)))) (by decide)) λy J=>bg (by simp) (ar J))
 refine aK (λI=>ax (hcond _) λy J=>?_) λ_=>?_
 .obtain⟨v,y2⟩:=y;obtain⟨y3,y4⟩:=J;dsimp only at y3;subst y3;exact bg (by simp) (ax (hput (by have I:s.op=10:=I;omega) (gor (by decide) (by decide) rfl (y4 (Y.cn (.inr (.inl I))))) (by decide)) λy J=>bg (by simp) (ar J))
 refine aK (λI=>ax (hcond _) λy J=>?_) λ_=>?_
 .obtain⟨v,y2⟩:=y;obtain⟨y3,y4⟩:=J;dsimp only at y3;subst y3;exact bg (by simp) (ax (hput (by have I:s.op=11:=I;omega) (gor (by decide) (by decide) rfl (y4 (Y.cn (.inr (.inr I))))) (by decide)) λy J=>bg (by simp) (ar J))
 refine aK (λI=>ax hth λv hv=>ax (hput (by have I:s.op=12:=I;omega) (gor (by decide) (by decide) rfl (hv (.inl I))) (by decide)) λy J=>bg (by simp) (ar J)) λ_=>?_
 refine aK (λI=>ax hth λv hv=>ax (hput (by have I:s.op=13:=I;omega) (gor (by decide) (by decide) rfl (hv (.inr I))) (by decide)) λy J=>bg (by simp) (ar J)) λ_=>?_
 refine aK (λI=>?_) λn14=>?_
 .have hex:GE 4 (d_ (Xp.op s.expr,Xp.n s.expr,Xp.name s.expr,Xp.l s.expr)):=by rw[fx];exact i4 (.inr (.inr (.inr I)))
  refine ax (CP _ _ U out hex M Z (by rw[hg.len];decide) (by rw[hg.len];decide) (by omega)) λy J=>?_
  obtain⟨g2,o2⟩:=y;obtain⟨q1,q2⟩:=J;dsimp only at q1 q2;subst q1;have q3:=q2.u;refine bg (by simp) (ax (hft _) λv hv=>?_);refine ax (xJ (by omega) M Z (Zb (by decide) (by decide) (by simp[iS,hg.h,L0]) (hv (Y.se I))) (by decide)) λy J=>bg (by simp) (ar (fin0 (.inr (by have I:s.op=14:=I;omega)) 16 _ ⟨J.1,q2.trans J.2 (bX _)⟩ (by omega)))
 refine aK (λI=>?_) λn15=>?_
 .refine ax (yW _ _ (by rw[M.h];decide)) λv hv=>ax (hft _) λv2 hv2=>?_
  have hge:=Y.ge I;have hl:(0:Int)<=v/\v<2:=by
   obtain⟨_,h2,_,h4⟩:=hv;rw[M.h]at h2 h4;exact⟨CF.1 λh=>h4 h (by rw[hge.1];decide),h2⟩
  exact ax (hput (by have I:s.op=15:=I;omega) (Zb (by decide) (by decide) (by simp[iS];omega) (hv2 hge.2)) (by decide)) λy J=>bg (by simp) (ar J)
 .exfalso;have h1:=Y.o0;have h2:=Y.o1;have h3:¬(s.op=2\/s.op=3):=λh=>by have hbf:b=aj:=hbf;rw[hb2.2 h]at hbf;cases hbf
  omega
variable {nT:Nat} {ss:List π} {t:Int}
theorem XW:∀(n:Nat),(∀d:Nat,3*d<n->SpG nT ss t (eT n) d)/\(∀d:Nat,3*d+1<n->ae3 nT ss t (dO n) d)/\(∀d:Nat,3*d+2<n->al0 nT ss t (db n) d)/\(∀d:Nat,3*d+2<n->al1 nT ss t (dK n) d)
 |0=>⟨λd h=>by omega,λd h=>by omega,λd h=>by omega,λd h=>by omega⟩
 |n+1=>by
  obtain⟨J,I,M,hA⟩:=XW n;refine ⟨λd h=>?_,λd h=>?_,λd h=>?_,λd h=>?_⟩
  .cases d with
   |zero=>exact λs g out hs=>hs.elim
   |succ d=>exact Za (dO n) (eT n) (db n) (dK n) d (M d (by omega)) (hA d (by omega))
  .exact VK (dO n) (eT n) (db n) (dK n) d (J d (by omega))
  .exact Mo (dO n) (eT n) (db n) (dK n) d (I d (by omega))
  .exact R6 (dO n) (eT n) (db n) (dK n) d (I d (by omega))
theorem Pr (d:Nat) (hd:d<=100):ae3 nT ss t uE d:=(XW fuel).2.1 d (by rw[jW];omega)
structure SL (t k:Int) (m:Nat) (S:List π):Prop where
 l:S.length=m
 v:∀i:Nat,i<m->(aJ (T:=yz) S (i:Int)).1=t/\(aJ (T:=yz) S (i:Int)).2.1=k+i
theorem JQ {T:Ty} {l m:List T.den} {k:Nat} (h:k<l.length):aJ (l++m) (k:Int)=aJ l (k:Int):=by
 rw[zK,zK,aA,aA,bK h]
theorem JP {T:Ty} {l m:List T.den} {k:Nat} (h:l.length<=k):aJ (l++m) (k:Int)=aJ m ((k-l.length:Nat):Int):=by
 rw[zK,zK,aA,aA,bW h]
theorem SL.nil (t k:Int):SL t k 0 []:=⟨rfl,λi h=>by omega⟩
theorem SL.one (t k z:Int):SL t k 1 [(t,k,z)]:=⟨rfl,λi h=>by rw[show i=0 by omega];exact⟨rfl,by show k=k+((0:Nat):Int);omega⟩⟩
theorem SL.app {k k':Int} {a b:Nat} {S S':List π} (h:SL t k a S) (h':SL t k' b S') (hk:k'=k+a):SL t k (a+b) (S++S'):=by
 obtain⟨h1,h2⟩:=h;obtain⟨J,I⟩:=h';refine ⟨by rw[bx];omega,λi hi=>?_⟩;by_cases hl:i<S.length
 .rw[JQ (T:=yz) hl];exact h2 i (by omega)
 .rw[JP (T:=yz) (by omega)];have:=I (i-S.length) (by omega);exact⟨this.1,this.2.trans (show k'+((i-S.length:Nat):Int)=k+(i:Int) by omega)⟩
theorem Fn:∀(n d:Nat),d<n->∀(t k:Int) (l:List Sx) (out:List π),l.length<=100->(∀s∈l,GT d s)->0<=k->k+nK d l<=100000000->out.length+nK d l<=100000000->Ok (pM n ((t,k,l),out)) λy=>y.1=k+nK d l/\∃S,y.2=out++S/\SL t k (nK d l) S
 |0,_,h,_,_,_,_,_,_,_,_,_=>by omega
 |n+1,d,hn,t,k,l,out,hl,hs,k0,hkb,hb=>by
  rw[HI];unfold xV bz tO bB aY cK aF cF;refine ca l.length (λi x=>x.1.2=(i:Int)/\x.1.1=k+nK d (l.take i)/\∃S,x.2=out++S/\SL t k (nK d (l.take i)) S) ?_ ?_ ⟨rfl,by simp[nK],[],by simp,by simp[nK];exact SL.nil t k⟩
  .rintro i ⟨⟨a,b⟩,o⟩ hi ⟨e1,e2,S,e3,e4⟩;dsimp only at e1 e2 e3;subst e1;subst e2;subst e3;have hp:=P_ (d:=d) l (i+1);rw[xj hi]at hp;rw[xj hi];refine du ?_;have hin:((i:Nat):Int)<(l.length:Int):=by omega
   have hm:=hs _ (bJ (T:=.sm) (xs:=l) (j:=(i:Int)) (by omega) (by omega));have hSl:=e4.l;cases d with
   |zero=>exact hm.elim
   |succ d=>
    obtain⟨_,_,_,g4,g5,g6,g7⟩:=hm;have hc:QK (d+1) (aJ (T:=.sm) l (i:Int))=1+nK d (Sx.body (aJ (T:=.sm) l (i:Int)))+nK d (Sx.els (aJ (T:=.sm) l (i:Int))):=rfl;rw[hc]at hp ⊢;dsimp only;refine aR (by omega) hin (aS (bh (by simp;omega) (by omega) (aR (by omega) hin (aS ?_))));rw[ic (n:=k+(nK (d+1) (l.take i):Nat)+1) (by omega) (by omega)];refine ax (Fn n d (by omega) _ _ _ _ (by omega) g6 (by omega) (by omega) (by simp;omega)) λy I=>bg (by simp) ?_
    obtain⟨a2,o2⟩:=y;obtain⟨Z,S2,Y,U⟩:=I;dsimp only at Z Y;subst Z;subst Y;have hSl2:=U.l;refine aR (by omega) hin (aS ?_);refine ax (Fn n d (by omega) _ _ _ _ (by omega) g7 (by omega) (by omega) (by simp;omega)) λy I=>bg (by simp) (ar ?_)
    obtain⟨a3,o3⟩:=y;obtain⟨M,S3,J,z3⟩:=I;dsimp only at M J;subst M;subst J;refine ⟨gO (by omega),by dsimp only;omega,S++([_]++(S2++S3)),by simp only[iD];rfl,?_⟩;refine e4.app ?_ rfl;rw[pO];exact (SL.one t _ _).app (U.app z3 rfl) (by simp)
  .rintro⟨⟨a,b⟩,o⟩ ⟨e1,e2,e3⟩;dsimp only at e1 e2 e3;subst e1;subst e2;rw[cX]at e3 ⊢;exact dv (ar ⟨rfl,e3⟩)
theorem Xg {T k' U k:Int} {l S:List π} {m:Nat} (h:LL T l=af (k',U)) (Y:SL t k m S) (hk:(k'=t/\U=k)\/(k'<t/\t<T/\k=0)):∀i:Nat,i<=m->LL T (l++S.take i)=af (if i=0 then (k',U) else (t,k+i))
 |0,_=>by rw[LG,iZ,aD rfl];exact h
 |i+1,hi=>by
  have ih:=Xg h Y hk i (by omega);rw[mP (T:=yz) (xs:=S) (i:=i) (by rw[Y.l];omega),<-iD,Xi,ih];obtain⟨I,M⟩:=Y.v i (by omega);rw[ay (Nat.succ_ne_zero i)];by_cases J:i=0
  .subst J;rw[aD rfl];unfold Uv;dsimp only;rcases hk with ⟨h1,h2⟩|⟨h1,h2,Z⟩
   .rw[aD ⟨by rw[I,h1],by rw[M,h2];simp⟩,h1,h2];simp
   .rw[ay (λh=>by rw[I]at h;omega),aD ⟨by rw[I];exact h1,by rw[I];exact h2,by rw[M,Z];rfl⟩,I,Z];simp
  .rw[ay J];unfold Uv;dsimp only;rw[aD ⟨I,M⟩];congr 2;omega
abbrev CE6:Type:=ζ×Int×Int×Bool×Int
abbrev W4T:Type:=List CE6×List (ζ×Bool)×List (ζ×Int)×List ζ
def ceD (z:DT):List CE6:=(bt (aT (ir z.2.2.2.1 1))).map λ(k:Nat)=>(z.2.2.1,(k:Int),z.2.2.2.1,decide (z.1=2),z.2.2.2.2.1)
def adD (y:W4T) (z:DT):W4T:=
 if z.1=1\/z.1=2 then (y.1++ceD z,y.2) else if z.1=3\/z.1=4 then (y.1,y.2.1++[(z.2.2.1,decide (z.1=4))],y.2.2) else if z.1=5 then (y.1,y.2.1,y.2.2.1++[(z.2.2.1,0)],y.2.2.2) else (y.1,y.2.1,y.2.2.1,y.2.2.2++[z.2.2.1])
def W4 (i:Nat):W4T:=(D0.take i).foldl adD ([],[],[],[])
theorem W4_9:W4 9=(C0,Hl,MY,Ug):=rfl
theorem W4_s {i:Nat} (hi:i<9):W4 (i+1)=adD (W4 i) (aJ (T:=tDc) D0 (i:Int)):=by
 unfold W4;rw[mP (T:=tDc) (xs:=D0) hi,dR];rfl
theorem D0_c:∀i:Nat,i<9->(aJ (T:=tDc) D0 (i:Int)).1=5->i=7:=by decide
theorem ao4:∀i:Nat,i<9->(W4 i).1.length<=5/\(W4 i).2.1.length<=3/\(W4 i).2.2.1.length<=1/\(W4 i).2.2.2.length<=1/\ir (aJ (T:=tDc) D0 (i:Int)).2.2.2.1 1<=2/\1<=ir (aJ (T:=tDc) D0 (i:Int)).2.2.2.1 1:=by decide
def bsN (p:PG) (i:Nat):Nat:=((p.2.take i).map λt=>nK 5 t.2.2.2).sum
def boN (p:PG) (i:Nat):Nat:=nK 5 (aJ (T:=zh) p.2 (i:Int)).2.2.2
theorem aiu {p:PG} {i:Nat} (hi:i<p.2.length):bsN p (i+1)=bsN p i+boN p i:=by
 unfold bsN boN;rw[mP (T:=zh) hi,cC,F3];simp
theorem Wz {p:PG} (i:Nat) (h:(p.2.map λt=>nK 5 t.2.2.2).sum<=60):bsN p i<=60:=by
 refine dg ?_ h
 conv=>rhs;rw[<- BP i p.2]
 unfold bsN;rw[cC,F3];omega
structure SW (p:PG) (i:Nat) (S:List π):Prop where
 l:S.length=bsN p i
 f:∃a b,LL p.2.length S=af (a,b)/\(a<i\/a=0/\b=0)
 s:∀j:Nat,j<i->SR S (j:Int) (bsN p j:Nat) (boN p j)
structure WW (p:PG) (w:WT):Prop where
 x:WX w
 t:w.2.2.2.2.1=wB.take p.2.length
 s:∀j:Nat,j<p.2.length->SR w.2.2.2.2.2 (j:Int) (bsN p j:Nat) (boN p j)
theorem SO.app {S S':List π} {t s:Int} (h:SO S t s):SO (S++S') t s:=by
 obtain⟨h0,h1,h2⟩:=h;obtain⟨s,rfl⟩:∃n:Nat,s=(n:Int):=⟨s.toNat,by omega⟩
 exact⟨h0,by rw[bx];omega,by rw[JQ (T:=yz) (by omega)];exact h2⟩
theorem WJ (p:PG) (hp:PJ p) (r:ν) (hr:fy p=af r) (h0:r.1=0) (hc:(p.2.map λt=>nK 5 t.2.2.2).sum<=60):Ok (uF p) (WW p):=by
 have hpt:=hp.t;unfold uF aX bf bp ch dA bL dw cR fc kK bd bz iR bB bF aY cK aF cF;refine aU hr (ci (λh=>(h h0).elim) λ_=>?_);have hD:p.1=D0:=hp.d;have hlen:p.1.length=9:=by rw[hD];rfl
 refine ca 9 (λi x=>x.1=(i:Int)/\x.2.1=p/\x.2.2=W4 i) ?_ ?_ ⟨rfl,rfl,rfl⟩
 .rintro i ⟨a,p',y⟩ hi ⟨e1,e2,e3⟩;dsimp only at e1 e2 e3;subst e1;have e2:=e2.symm;subst e2;obtain⟨b1,b2,b3,b4,b5,b6⟩:=ao4 i hi;rw[<- e3]at b1 b2 b3 b4;have hW:=W4_s hi;rw[<- e3]at hW;have hcd:=D0_c i hi;have hlk:i=7->y.2.1=Hl/\(aJ (T:=tDc) D0 (i:Int)).2.2.2.2.2=[109]:=λh=>by subst h;rw[e3];exact⟨rfl,rfl⟩
  refine du ?_;refine cg (aS ?_);dsimp only;rw[hD];revert hW hcd hlk b5 b6;generalize (aJ (T:=tDc) D0 (i:Int))=z;intro b5 b6 hW hcd hlk;refine aZ (λx=>x=(p,W4 (i+1))) ?_ ?_
  .rw[hW];unfold adD;refine aZ (λx=>x.2=(p,z,y)/\(x.1=ai↔(z.1=1\/z.1=2))) ?_ ?_
   .exact aK (λh=>ar ⟨rfl,λ_=>.inl h,λ_=>aQ h⟩) λh=>ar ⟨rfl,λh2=>.inr (bw h2),λh2=>aQ (h2.resolve_left h)⟩
   rintro⟨b,x⟩ ⟨e,hb⟩;dsimp only at e hb;subst e;refine aP (λI=>?_) λI=>?_
   .rw[aD (hb.1 I)];unfold ceD;obtain⟨m,hm⟩:∃m:Nat,ir z.2.2.2.1 1=(m:Int):=⟨(ir z.2.2.2.1 1).toNat,by omega⟩
    rw[hm,dC];refine ca m (λk x=>x=((k:Int),p,z,y.1++(bt k).map (λ(k:Nat)=>(z.2.2.1,(k:Int),z.2.2.2.1,decide (z.1=2),z.2.2.2.2.1)),y.2)) ?_ ?_ (by simp)
    .rintro k x hk rfl;refine bI (λ_=>?_) λg=>(by dsimp only at g;rw[hm]at g;omega)
     refine bh (by simp;omega) (by omega) (ar ?_);dsimp only;rw[gO (by omega),xB,cC,<-iD];rfl
    .rintro x rfl;exact bI (λg=>(by dsimp only at g;rw[hm]at g;omega)) λ_=>ar rfl
   rw[ay λh=>by have I:b=aj:=I;rw[hb.2 h]at I;cases I];refine aZ (λx=>x.2=(p,z,y)/\(x.1=ai↔(z.1=3\/z.1=4))) ?_ ?_
   .exact aK (λh=>ar ⟨rfl,λ_=>.inl h,λ_=>aQ h⟩) λh=>ar ⟨rfl,λh2=>.inr (bw h2),λh2=>aQ (h2.resolve_left h)⟩
   rintro⟨c,x⟩ ⟨e,U⟩;dsimp only at e U;subst e;refine aP (λh=>?_) λh=>?_
   .rw[aD (U.1 h)];exact bh (by simp;omega) (by omega) (ar rfl)
   rw[ay λh2=>by have h:c=aj:=h;rw[U.2 h2]at h;cases h];refine aK (λh5=>?_) λh5=>?_
   .obtain⟨l1,l2⟩:=hlk (hcd h5);rw[aD h5];refine ax (Ni _ _ (by dsimp only;rw[l1];decide)) λv hv=>?_
    have hv:=(ail (by dsimp only at hv;rw[l1]at hv;exact hv)).1 l2;subst hv;exact bh (by simp;omega) (by omega) (ar rfl)
   .rw[ay h5];exact bh (by simp;omega) (by omega) (ar rfl)
  rintro x rfl;exact ar ⟨gO (by omega),rfl,rfl⟩
 .rintro⟨a,p',y⟩ ⟨e1,e2,j⟩;dsimp only at e1 e2 j;subst e1;have e2:=e2.symm;subst e2;rw[W4_9]at j;subst j;refine dv ?_;refine ax (P:=WW p) ?_ λr hr=>ar hr
  refine ca p.2.length (λi x=>x.1=(i:Int)/\x.2.1=p/\x.2.2.1=C0/\x.2.2.2.1=Hl/\x.2.2.2.2.1=MY/\x.2.2.2.2.2.1=Ug/\x.2.2.2.2.2.2.1=wB.take i/\SW p i x.2.2.2.2.2.2.2) ?_ ?_ ⟨rfl,rfl,rfl,rfl,rfl,rfl,rfl,rfl,⟨0,0,rfl,.inr ⟨rfl,rfl⟩⟩,λj hj=>by omega⟩
  .rintro i ⟨a,p2,c2,l2,d2,f2,t2,s2⟩ hi ⟨e1,e2,e3,e4,e5,e6,Z,M,⟨fa,fb,f8,f9⟩,J⟩;dsimp only at e1 e2 e3 e4 e5 e6 Z M f8 J;subst e1;have e2:=e2.symm;subst e2;have hb8:=Wz (i+1) hc;have hbs:=aiu hi;refine du ?_;have hin:((i:Nat):Int)<(p.2.length:Int):=by omega
   have hm:=hp.m _ (bJ (T:=zh) (xs:=p.2) (j:=(i:Int)) (by omega) hin);have hnm:(aJ (T:=zh) p.2 (i:Int)).1=aJ (T:=.str) wB (i:Int):=by
    have h1:=mP (T:=zh) hi;have h2:=gM (List.map Prod.fst) h1;rw[cC,kN,kN,hp.n,List.take_take,List.take_take,sX (by omega),sX (by omega),mP (T:=.str) (xs:=wB) (i:=i) (by have q4:wB.length=4:=rfl;omega)]at h2;exact ((List.cons.inj (List.append_cancel_left h2)).1).symm
   have htl:t2.length=i:=by rw[Z,bH];have q4:wB.length=4:=rfl;omega
   dsimp only;refine aR (by omega) hin (aS (bh (by simp;omega) (by omega) (aR (by omega) hin (aS ?_))));refine ax (Fn fuel 5 (by rw[jW];omega) _ _ _ s2 (by have:=hm.b;omega) (λs hs=>((hm.s s hs).le (by omega:3<=5)).t) (eB _) ?_ ?_) λy hy=>bg (by simp) (ar ?_)
   .show (0:Int)+(boN p i:Nat)<=_;omega
   .show s2.length+boN p i<=_;omega
   obtain⟨_,S,h2,Y⟩:=hy;have Y:SL (i:Int) 0 (boN p i) S:=Y;refine ⟨gO (by omega),rfl,e3,e4,e5,e6,?_,?_⟩
   .dsimp only;rw[Z,hnm,<-mP (T:=.str) (xs:=wB) (i:=i) (by have q4:wB.length=4:=rfl;omega)]
   .dsimp only;rw[h2];refine ⟨by rw[bx,Y.l,M,hbs],?_,λj hj=>?_⟩
    .have hr:=Xg f8 Y (by rcases f9 with h|⟨h,h'⟩;exact .inr ⟨h,by omega,rfl⟩;rcases LF i with hi0|hi0;exact .inl ⟨by omega,h'⟩;exact .inr ⟨by omega,by omega,rfl⟩) (boN p i) (bX _);rw[<- Y.l,cX]at hr;rw[hr];split
     .exact⟨_,_,rfl,f9.imp (λh=>by omega) id⟩
     .exact⟨_,_,rfl,.inl (by omega)⟩
    .rcases cf j i with h1|h1
     .obtain⟨g1,g2,g3⟩:=J j h1;exact⟨g1,g2,λq q1 q2=>(g3 q q1 q2).app⟩
     .have hj:j=i:=by omega
      subst hj;refine ⟨by omega,by omega,λq q1 q2=>?_⟩;obtain⟨q,rfl⟩:∃n:Nat,q=(n:Int):=⟨q.toNat,by omega⟩
      refine ⟨by omega,by rw[bx,Y.l];omega,?_⟩;rw[JP (T:=yz) (by omega)];exact (Y.v _ (by omega)).1
  .rintro⟨a,p2,c2,l2,d2,f2,t2,s2⟩ ⟨e1,e2,e3,e4,e5,e6,Z,M,⟨fa,fb,f8,f9⟩,J⟩;dsimp only at e1 e2 e3 e4 e5 e6 Z M f8 J;subst e1;have e2:=e2.symm;subst e2;subst e3;subst e4;subst e5;subst e6;subst Z;refine dv (ar ?_);have hb8:=Wz p.2.length hc;refine ⟨⟨rfl,rfl,rfl,rfl,⟨p.2.length,hp.t0,hp.t,rfl⟩,by dsimp only;omega,?_⟩,rfl,J⟩;unfold SV0;have hTl:(wB.take p.2.length).length=p.2.length:=by rw[bH];have q4:wB.length=4:=rfl;omega
   dsimp only;rw[hTl,f8];simp
def Z6:List ζ:=[[120],[121],[118],[113],[109],[110],[114],[99],[102]]
set_option maxHeartbeats 20000000 in
theorem abs (t:List ζ) (ht:t.length<=4) (s:List π):pA (C0,Hl,MY,Ug,t,s)=af (Z6++t,ai):=by
 refine cI ?_;unfold pA aX bf bp ch dw kK bd bz iR bB bF aY cK aF cF;with_reducible repeat' first|exact ar rfl|refine XA ?_|refine Xz ?_|refine Xy ?_|refine Xw ?_|refine afj ?_|refine aS ?_|refine fI rfl ?_|refine fP rfl ?_|refine bg rfl ?_|refine Xx ?_|refine Rm ?_|refine Rl ?_
 refine bh (by show 9+t.length<=1073741824;omega) (by decide) ?_;with_reducible repeat' first|exact ar rfl|refine XA ?_|refine Xz ?_|refine Xy ?_|refine Xw ?_|refine afj ?_|refine aS ?_|refine fI rfl ?_|refine fP rfl ?_|refine bg rfl ?_|refine Xx ?_|refine Rm ?_|refine Rl ?_
theorem Ue:∀x∈Z6++wB,Ok (fw x) λb=>b=ai:=by
 intro x I;simp only[Z6,wB,gr,l9,bm,cD,gh]at I;rcases I with rfl|rfl|rfl|rfl|rfl|rfl|rfl|rfl|rfl|rfl|rfl|rfl|rfl;all_goals with_reducible repeat' first|exact ar rfl|refine XA ?_|refine Xz ?_|refine Xy ?_|refine Xw ?_|refine Rl ?_|refine afj ?_|refine aS ?_|refine fI rfl ?_|refine fP rfl ?_|refine bg rfl ?_|refine Xx ?_|refine Rm ?_|refine c9 (fw.eq_1 ..) ?_|refine c9 (jL.eq_1 ..) ?_|refine c9 (kA.eq_1 ..) ?_|refine c9 (lB.eq_1 ..) ?_|refine c9 (pE.eq_1 ..) ?_|refine c9 (rI.eq_1 ..) ?_
theorem GT.up:∀{d:Nat} {s:Sx},GT d s->GT (d+1) s
 |0,_,h=>h.elim
 |_+1,_,⟨a,b,c,e,f,g,i⟩=>⟨a,b,c,e,f,λx I=>GT.up (g x I),λx I=>GT.up (i x I)⟩
theorem akb {l:List Sx} (h:∀s∈l,GT 3 s):nK 5 l=nK 3 l:=by
 unfold nK;rw[qm λx I=>(P9 (GT.up (h x I))).trans (P9 (h x I))]
theorem al4:∀i:Nat,i<13->∀r:Nat,r<i->aJ (T:=.str) (Z6++wB) (r:Int)≠aJ (T:=.str) (Z6++wB) (i:Int):=by decide
theorem Q3 (T:Int):∀l:List π,l.foldl (Uv T) ah=ah
 |[]=>rfl
 |_::r=>Q3 T r
theorem Xh {T:Int} {l:List π} (h:LL T l≠ah) (i:Nat):LL T (l.take i)≠ah:=λhn=>h (by
 unfold LL at hn ⊢;rw[<- BP i l,dR,hn,Q3])
theorem ab6 {T t n:Int} {z:π} (h:Uv T (af (t,n)) z≠ah):Uv T (af (t,n)) z=af (z.1,z.2.1+1)/\(z.1=t/\z.2.1=n\/t<z.1/\z.1<T/\z.2.1=0):=by
 unfold Uv at h ⊢;dsimp only at h ⊢;by_cases h1:z.1=t/\z.2.1=n
 .rw[aD h1];exact⟨by rw[h1.1,h1.2],.inl h1⟩
 .rw[ay h1]at h ⊢;by_cases h2:t<z.1/\z.1<T/\z.2.1=0
  .rw[aD h2];exact⟨by rw[h2.2.2];rfl,.inr h2⟩
  .rw[ay h2]at h;exact (h rfl).elim
theorem B3 {R:Type} {a b:Int} {t f:Option R} {Q:R->Prop} (h:b<=a) (hf:Ok f Q):Ok (bcase (fV a b) t f) Q:=fP (gi.2 h) hf
theorem HX {w:WT} (hx:WX w):hY w=af ai:=by
 obtain⟨w1,w2,w3,w4,I,J⟩:=w;obtain⟨hc,hl,hd,hf,⟨n,n1,n4,ht⟩,hs,hv⟩:=hx;dsimp only at hc hl hd hf ht hs;subst hc;subst hl;subst hd;subst hf;have hT:I.length=n:=by rw[ht,bH];have q4:wB.length=4:=rfl;omega
 have hv:LL I.length J≠ah:=hv;refine cI ?_;unfold hY aX bf bp ch cR fc bd bz iT iR bB bF aY cK aF cF;refine aZ (λx=>x=(aj,C0,Hl,MY,Ug,I,J)) ?_ ?_
 .refine B3 (show (5:Int)<=12 by decide) (B3 (show (3:Int)<=4 by decide) (B3 (show (1:Int)<=2 by decide) (B3 (show (1:Int)<=2 by decide) (B3 (show (1:Int)<=(I.length:Int) by omega) (B3 (show (I.length:Int)<=4 by omega) (ar ?_))))));dsimp only[au];rw[gi.2 (show (J.length:Int)<=60 by omega)]
 rintro x rfl;refine gw (aU (abs I (by omega) J) (fP rfl ?_));have hN:Z6++I=(Z6++wB).take (9+n):=by rw[ht];rcases (by omega:n=1\/n=2\/n=3\/n=4) with rfl|rfl|rfl|rfl<;>rfl
 have hNl:(Z6++I).length=9+n:=by rw[bx,hT];rfl
 have hNg:∀i:Nat,i<9+n->aJ (T:=.str) (Z6++I) (i:Int)=aJ (T:=.str) (Z6++wB) (i:Int):=λi hi=>by
  rw[hN,zK,zK,aA,aA,List.getElem?_take_of_lt hi]
 refine ca (9+n) (λi x=>x=((i:Int),C0,Hl,MY,Ug,I,J)) ?_ ?_ rfl
 .rintro i x hi rfl;refine bI (λ_=>?_) λg=>(by dsimp only[au]at g;rw[hNl]at g;omega)
  refine aZ (λx=>x=(aj,C0,Hl,MY,Ug,I,J)) ?_ ?_
  .refine aR (by dsimp only;omega) (by dsimp only;rw[hNl];omega) (aS ?_);have hmem:aJ (T:=.str) (Z6++I) (i:Int)∈Z6++wB:=by rw[hNg i hi];exact bJ (T:=.str) (by omega) (by have:(Z6++wB).length=13:=rfl;omega)
   refine ax (Ue _ hmem) λb hb=>?_
   refine fP (by rw[hb];rfl) (di (eA (by dsimp only;omega) (eA (by dsimp only;rw[hNl];omega) ?_)));refine aR (by dsimp only;omega) (by dsimp only;rw[hNl];omega) (aS ?_);refine ax (yW _ _ (by dsimp only;rw[bH,hNl];omega)) λr hr=>ar ?_
   obtain⟨_,h2,Z,_⟩:=hr;dsimp only at h2 Z;rw[bH,hNl]at h2;have hr0:¬0<=r:=λh0=>by
    have Z:=Z h0;obtain⟨r,rfl⟩:∃m:Nat,r=(m:Int):=⟨r.toNat,by omega⟩
    rw[zK,aA,List.getElem?_take_of_lt (by omega),<-aA,<-zK (T:=.str),hNg r (by omega),hNg i hi]at Z;exact al4 i (by omega) r (by omega) Z
   rw[me.2 (by omega)]
  .rintro x rfl;exact gw (ar (by dsimp only;rw[gO (by omega)]))
 rintro x rfl;refine bI (λg=>(by dsimp only[au]at g;rw[hNl]at g;omega)) λ_=>?_
 refine ax (P:=λb=>b=ai) ?_ λy hy=>ar hy
 refine ca 1 (λi x=>x=((i:Int),C0,Hl,MY,Ug,I,J)) ?_ ?_ rfl
 .rintro i x hi rfl;have hi0:i=0:=by omega
  subst hi0;refine fI rfl (bg rfl (aS (aZ (λx=>x=(aj,C0,Hl,MY,Ug,I,J)) ?_ ?_)))
  .exact fP rfl (fP rfl (bg rfl (aS (ar rfl))))
  .rintro x rfl;exact gw (ar (by dsimp only;rw[gO (by omega)]))
 rintro x rfl;refine bI (λg=>(by have g:(1:Int)<1:=g;omega)) λ_=>?_
 refine ax (P:=λb=>b=ai) ?_ λy hy=>ar hy
 refine ca J.length (λi x=>x=((i:Int),C0,Hl,MY,Ug,I,J)/\∃t k:Int,LL I.length (J.take i)=af (t,k)/\0<=t/\t<(I.length:Int)/\(i=0->t=0/\k=0)/\(¬i=0->(aJ (T:=yz) J ((i-1:Nat):Int)).1=t/\(aJ (T:=yz) J ((i-1:Nat):Int)).2.1+1=k/\0<k/\k<=i)) ?_ ?_ ⟨rfl,0,0,rfl,by omega,by omega,λ_=>⟨rfl,rfl⟩,λh=>(h rfl).elim⟩
 .rintro i x hi ⟨rfl,t,k,hF,t0,tT,hz,hp⟩;have hw:¬(i:Int)=0->bk .i64 ((i:Int)-1)=((i-1:Nat):Int):=λh=>by rw[ic (by omega) (by omega)];omega
  have hnx:=IL (T:=I.length) hi;have hne:=Xh hv (i+1);rw[hnx,hF]at hne;obtain⟨hs1,M⟩:=ab6 hne;rw[hF,hs1]at hnx;refine du ?_;refine aZ (λx=>x=(C0,Hl,MY,Ug,I,J)) ?_ ?_
  .refine cg (aS ?_);revert M;generalize (aJ (T:=yz) J (i:Int))=z;obtain⟨(U:Int),(z2:Int),z3⟩:=z;intro M;dsimp only at M;refine aZ (λx=>x=(aj,(C0,Hl,MY,Ug,I,J),U,z2,z3)) ?_ ?_
   .refine B3 (show (0:Int)<=U by omega) (ar ?_);dsimp only[au];rw[me.2 (show U<(I.length:Int) by omega)]
   rintro x rfl;refine gw (aZ (λx=>x.2=((C0,Hl,MY,Ug,I,J),U,z2,z3)/\(x.1=ai->i=0\/¬t=U)/\(x.1=aj->¬i=0/\t=U)) ?_ ?_)
   .refine aK (λh=>ar ⟨rfl,λ_=>.inl (by have h:((i:Nat):Int)=0:=h;omega),λh=>(by cases h)⟩) λh=>?_
    have h:¬((i:Nat):Int)=0:=h;dsimp only;rw[hw h];have hq:=(hp (by omega)).1;exact aR (by omega) (by first|omega|(dsimp only;omega)) (aS (ar ⟨rfl,λh2=>.inr (by rw[<- hq];simpa using h2),λh2=>⟨by omega,by rw[<- hq];simpa using h2⟩⟩))
   rintro⟨c,x⟩ ⟨e,Y,hc⟩;dsimp only at e Y hc;subst e;refine aP (λhct=>?_) λhcf=>?_
   .have hz2:z2=0:=by
     rcases Y hct with h|h
     .have:=hz h;omega
     .omega
    refine aZ (λx=>x=(aj,C0,Hl,MY,Ug,I,J)) ?_ ?_
    .refine ci (λh=>(h hz2).elim) λ_=>bI (λh=>?_) λ_=>ar rfl
     have h:(0:Int)<((i:Nat):Int):=h;dsimp only;rw[hw (by omega)];have hq:=(hp (by omega)).1;refine aR (by omega) (by first|omega|(dsimp only;omega)) (aS (ar ?_));dsimp only;rw[hq,gi.2 (show t<=U by omega)]
    rintro x rfl;exact gw (ar rfl)
   .obtain⟨h1,h2⟩:=hc hcf;obtain⟨_,p2,p3,p4⟩:=hp h1;dsimp only;rw[hw (by omega)];refine aR (by omega) (by first|omega|(dsimp only;omega)) (aS ?_);refine ci (λh=>(h ?_).elim) λ_=>ar rfl
    try dsimp only
    rw[p2,ic (by omega) (by omega)];omega
  .rintro x rfl;refine ar ⟨by dsimp only;rw[gO (by omega)],_,_,hnx,?_⟩;revert M;rw[show i+1-1=i by omega];generalize (aJ (T:=yz) J (i:Int))=z;obtain⟨(U:Int),(z2:Int),z3⟩:=z;intro M;dsimp only at M ⊢;refine ⟨by omega,by omega,λh=>by omega,λ_=>⟨rfl,rfl,?_,?_⟩⟩
   .by_cases h0:i=0
    .have:=hz h0;omega
    .have:=hp h0;omega
   .by_cases h0:i=0
    .have:=hz h0;omega
    .have:=hp h0;omega
 .rintro x ⟨rfl,_⟩;exact dv (ar rfl)
theorem WM {c:CT} (I:WX c.1) (hl:c.2.length=c.1.2.2.2.2.1.length) (h:∀k:Nat,k<c.2.length->GC c.2.length c.1.2.2.2.2.2 (k:Int) (aJ (T:=wA) c.2 (k:Int))):jJ c=af ai:=by
 obtain⟨w,l⟩:=c;dsimp only at I hl h;have M:l.length<=4:=by
  obtain⟨n,_,J,ht⟩:=I.t;rw[hl,ht,bH];omega
 refine cI ?_;unfold jJ bp bz bF aY cK aF cF;refine aZ (λx=>x=(aj,w,l)) ?_ ?_
 .refine aU (HX I) (fP rfl (ar ?_));dsimp only;rw[hl];simp
 rintro x rfl;refine gw (ca l.length (λi x=>x=((i:Int),w,l)) ?_ ?_ rfl)
 .rintro i x hi rfl;refine du ?_;refine cg (aS (aU (Ez I hl.symm (h i hi)) (fP rfl (ar ?_))));dsimp only;rw[gO (by omega)]
 .rintro x rfl;exact dv (ar rfl)
theorem Qr (p:PG) (hp:PJ p) (hr4:∃r,fy p=af r/\r.1=0):Ok (qF p) λy=>CB y.1:=by
 have hpt:=hp.t;obtain⟨r,hr,h0⟩:=hr4;obtain⟨r',hr',Y⟩:=Ek p hp.x;rw[hr]at hr';cases hr';have Y:=Y h0;unfold qF aX bf bp ch dA bL cR fc nM bz iR bB bF kl aY cK aF cF;refine aU hr (ci (λh=>(h h0).elim) λ_=>?_);refine ax (WJ p hp r hr h0 Y) λw M=>?_
 have hwT:w.2.2.2.2.1.length=p.2.length:=by rw[M.t,bH];have q4:wB.length=4:=rfl;omega
 refine ca p.2.length (λi x=>x.1.1=((bsN p i:Nat):Int)/\x.1.2=(i:Int)/\x.2.1=p/\x.2.2.1=w/\x.2.2.2.length=i/\∀j:Nat,j<i->GC p.2.length w.2.2.2.2.2 (j:Int) (aJ (T:=wA) x.2.2.2 (j:Int))) ?_ ?_ ⟨rfl,rfl,rfl,rfl,rfl,λj hj=>by omega⟩
 .rintro i ⟨⟨a,b⟩,p2,w2,cs⟩ hi ⟨e0,e1,e2,e3,Z,e5⟩;dsimp only at e0 e1 e2 e3 Z e5;subst e0;subst e1;have e2:=e2.symm;subst e2;have e3:=e3.symm;subst e3;have hin:((i:Nat):Int)<(p.2.length:Int):=by omega
  refine du ?_;have hm:=hp.m _ (bJ (T:=zh) (xs:=p.2) (j:=(i:Int)) (by omega) hin);have hsr:=M.s i hi;have hbs:=aiu hi;have hb1:=Wz (i+1) Y;have hbo:boN p i=nK 3 (aJ (T:=zh) p.2 (i:Int)).2.2.2:=akb λs hs=>(hm.s s hs).t
  rw[hbo]at hsr hbs;dsimp only;refine aR (by omega) hin (aS (aR (by omega) hin (aS ?_)));revert hm hsr hbs;generalize (aJ (T:=zh) p.2 (i:Int))=t;intro hm hsr hbs;have hk:ME 3=50+16*(50+16*50):=rfl;have hle:=cL (ME 3) hm.b;rw[hk]at hle;have hll:t.2.2.1.length=2:=by rw[hm.l];rfl
  refine ax (Pr (nT:=p.2.length) (ss:=w.2.2.2.2.2) (t:=(i:Int)) 3 (by omega) _ _ [] (by have:=hm.b;omega) hm.s ⟨M.x.c,M.x.l,M.x.d,M.x.f,M.t,hm.l⟩ hsr (by rw[hk,j6];omega)) λy hy=>bg (by simp) ?_
  obtain⟨g2,o2⟩:=y;obtain⟨q1,q2,q3⟩:=hy;dsimp only at q1 q2 q3;have q4:=q2.u;rw[hk,j6]at q4;refine ax (IV _ _ o2 (by omega)) λy hy=>bg (by simp) ?_
  obtain⟨g3,I⟩:=y;obtain⟨hg3,U⟩:=hy;dsimp only at hg3 U;have hL:aO (al g3.2.2.2.2.2.2.1)=2:=by
   rw[hg3];show aO (al g2.2.2.2.2.2.2.1)=2;rw[q1.h];show aO (al t.2.2.1)=2;rw[hll];rfl
  have l3:I.length=o2.length+1:=by rw[U,bx];rfl
  have J:I.length-1=o2.length:=by omega
  have iq:∀q:Nat,q<o2.length->iA I q=iA o2 q:=λq hq=>by rw[U,Jr hq]
  have iend:iA I o2.length=(28,0,0,0,0,-1):=by rw[U,xS]
  have hreg:∀q:Nat,q<I.length->∀j:Int,j∈iS (iA I q)->0<=j/\j<32:=λq hq j hj=>by
   by_cases h:q<o2.length
   .rw[iq q h]at hj;exact (q2.i q (lq _) h).o.r j hj
   .rw[show q=o2.length by omega,iend]at hj;simp[iS]at hj
  dsimp only;rw[hL];refine ca I.length (λk x=>∃rg:Int,x=((k:Int),p,w,g3,rg,cs,I)/\2<=rg/\rg<=32/\∀q:Nat,q<k->∀j:Int,j∈iS (iA I q)->j<rg) ?_ ?_ ⟨2,rfl,by omega,by omega,λq hq=>by omega⟩
  .rintro k x hk2 ⟨rg,rfl,r0,r1,r2⟩;refine du ?_;dsimp only;refine cg (cg (aS (aU (ua _) ?_)));have hrk:=hreg k hk2;have hrl:=C3 (iA I k);revert hrk hrl;generalize hins:(aJ (T:=BT) I (k:Int))=ins;rw[show iA I k=ins from hins];intro hrk hrl;refine ca (iS ins).length (λj x=>∃rg':Int,x=((j:Int),p,w,g3,rg',cs,I)/\rg<=rg'/\rg'<=32/\∀q:Nat,q<j->rg'>aJ (T:=.int .i64) (iS ins) (q:Int)) ?_ ?_ ⟨rg,rfl,eB _,r1,λq hq=>by omega⟩
   .rintro j x hj ⟨rg',rfl,s0,s1,s2⟩;refine du ?_;refine cg (aS (ar ?_));have hz:=hrk _ (bJ (T:=.int .i64) (xs:=iS ins) (j:=(j:Int)) (by omega) (by omega));dsimp only;obtain⟨z,hzj⟩:∃z:Int,aJ (T:=.int .i64) (iS ins) (j:Int)=z:=⟨_,rfl⟩
    rw[hzj]at hz ⊢;have hz0:(0:Int)<=z:=hz.1;have hz1:(32:Int)>z:=hz.2;rw[gO (by omega),ic (n:=z+1) (by omega) (by omega)];have him:rg'<=ir rg' (z+1)/\z+1<=ir rg' (z+1)/\ir rg' (z+1)<=32:=by
     unfold ir;split
     .rename_i h;have h:=tX.1 h;omega
     .rename_i h;have h:=gi.1 (Bool.eq_false_iff.2 h);omega
    refine ⟨_,rfl,by omega,him.2.2,λq hq=>?_⟩;rcases cf q j with h1|h1
    .have:=s2 q h1;omega
    .rw[show q=j by omega,hzj];exact Int.lt_of_lt_of_le (show z<z+1 by omega) him.2.1
   .rintro x ⟨rg',rfl,s0,s1,s2⟩;refine dv (ar ?_);refine ⟨rg',by dsimp only;rw[gO (by omega)],by omega,s1,λq hq j hj=>?_⟩;rcases cf q k with h1|h1
    .have:=r2 q h1 j hj;omega
    .rw[show q=k by omega,show iA I k=ins from hins]at hj;exact iv (T:=.int .i64) (p:=λc=>rg'>c) s2 j hj
  .rintro x ⟨rg,rfl,r0,r1,r2⟩;refine dv (Rm (bh (by simp;omega) (by omega) (Rl (ar ?_))));dsimp only;have q3':(g2.2.2.2.2.2.2.2.2:Int)=(bsN p i:Nat)+(nK 3 t.2.2.2:Nat):=q3;refine ⟨by rw[q3',hbs];omega,gO (by omega),rfl,rfl,by simp;omega,λj hj=>?_⟩;rcases cf j i with h1|h1
   .rw[JQ (T:=wA) (by rw[Z];exact h1)];exact e5 j h1
   .rw[show j=i by omega,JP (T:=wA) (by rw[Z];omega),Z,vw];refine ⟨show (1:Int)<=rg by omega,r1,show 1<=I.length by omega,show I.length<=1000000 by omega,?_,?_,?_,?_,?_⟩
    .show (iA I (I.length-1)).1=28/\(iA I (I.length-1)).2.2.2.2.2= -1;rw[J,iend];exact⟨rfl,rfl⟩
    .show qZ I 0 (I.length-1);rw[J];exact q2.b.congr λq _ hq=>iq q hq
    .show ∀q:Nat,q<I.length-1->GI p.2.length w.2.2.2.2.2 (i:Int) (iA I q);rw[J];exact λq hq=>by rw[iq q hq];exact q2.i q (lq _) hq
    .show ∀q:Nat,q<I.length-1->(iA I q).1=10->0<=(iA I q).2.2.1/\(iA I q).2.2.1<(I.length:Int)
     rw[J];intro q hq h10;rw[iq q hq]at h10 ⊢;have:=q2.r q (lq _) hq h10;omega
    .exact λq hq j hj=>r2 q (show q<I.length by have hq:q<I.length-1:=hq;omega) j hj
 .rintro⟨⟨a,b⟩,p2,w2,cs⟩ ⟨e0,e1,e2,e3,Z,e5⟩;dsimp only at e0 e1 e2 e3 Z e5;subst e1;subst e2;subst e3;refine dv (ar ?_);have hgc:∀t∈cs,∃k:Nat,GC p2.2.length w2.2.2.2.2.2 (k:Int) t:=iv (T:=wA) λk hk=>⟨k,e5 k (by omega)⟩
  refine ⟨by dsimp only;omega,λt ht=>?_,λt ht=>?_,M.x,WM M.x ?_ ?_⟩
  .obtain⟨k,hk⟩:=hgc t ht;exact hk.u
  .obtain⟨k,hk⟩:=hgc t ht;exact hk.r0
  .dsimp only;rw[Z,hwT]
  .dsimp only;rw[Z];exact e5
theorem LY (a b:η) (M:a.length<=9223372036854775807) (J:∀z∈a,0<=z/\z<=255) (hb:b.length<=1000000):Ok (sH (a,b)) TR:=by
 unfold sH;refine ax (P:=CB) ?_ λc hc=>ax (W2 b hb) λl hl=>?_
 .unfold xQ;exact ax (Hs a M J) λp hp=>ax (Qr p hp.1 hp.2) λy I=>ar I
 .exact ax (al2 c l hc (by omega)) λy I=>ar I
theorem Qq (a b c:η) (n:Int) (n0:0<=n) (n1:n<=1000000) (M:a.length<=9223372036854775807) (J:∀z∈a,0<=z/\z<=255) (hc:c.length<=9223372036854775807) (I:∀z∈c,0<=z/\z<=255):Ok (k9 ((a,b,c),n)) TR:=by
 unfold k9 bz bB aY;refine bI (λ_=>ax (IP c n hc I) λy h=>ar h) λ_=>?_
 have h0:0<=Hy (aO b.length) n/\Hy (aO b.length) n<=(b.length:Int)/\Hy (aO b.length) n<=n:=by
  unfold Hy;split
  .rename_i h;rw[tX]at h;dsimp only[au]at h;exact⟨n0,by omega,eB _⟩
  .rename_i h;have h:=gi.1 (Bool.eq_false_iff.2 h);dsimp only[au]at h ⊢;exact⟨by omega,eB _,h⟩
 refine di (eA h0.1 (eA h0.2.1 ?_));have h1:(dF (aT (Hy (aO b.length) n)) b).length<=1000000:=by rw[bH];have:=h0.1;have:=h0.2.2;omega
 exact ax (LY a _ M J h1) λy h=>ar h
def HS.zero (w:uY):HS:=⟨aG w.2.2.2.2.1.length [],aG w.2.2.2.2.1.length [],aG w.2.1.length [],aG w.2.1.length [],aG w.1.length [],aG w.2.2.2.1.length [],[],aG w.2.2.2.2.1.length [],aG w.2.2.2.2.1.length (-1)⟩
theorem HS.zero_ok {w:uY} (h1:w.1.length<=1000) (h2:w.2.1.length<=1000) (J:w.2.2.2.1.length<=1000) (I:w.2.2.2.2.1.length<=1000):Qy 0 (HS.zero w):=by
 have z:(0:Int)<=0:=by omega
 exact⟨z,by omega,BN.repl z _,BN.repl z _,BN.repl z _,BN.repl z _,BN.repl z _,BN.repl z _,En.nil z,BN.repl z _,by simpa[HS.zero] using I,by simp[HS.zero],by simp[HS.zero],by simp[HS.zero],by simpa[HS.zero] using h2,by simp[HS.zero],by simpa[HS.zero] using h1,by simpa[HS.zero] using J⟩
structure Yt (w:uY) (h:HS):Prop where
 T:h.T.length=w.2.2.2.2.1.length
 L:h.L.length=w.2.1.length
 C:h.C.length=w.1.length
 F:h.F.length=w.2.2.2.1.length
theorem Yt.zero (w:uY):Yt w (HS.zero w):=⟨by simp[HS.zero],by simp[HS.zero],by simp[HS.zero],by simp[HS.zero]⟩
theorem Yt.ent {w:uY} {h:HS} (f:Yt w h) (e:EV) (x:η):Yt w (ie w h e x):=by
 obtain⟨a,b,c,d,g,i,j,k⟩:=vN w h e x;exact⟨a.trans f.T,c.trans f.L,g.trans f.C,i.trans f.F⟩
theorem Yt.step {w:uY} {h:HS} (f:Yt w h) (e:EV):Yt w (F4 w h e).1:=f.ent e _
def evP (e:ET):EV:=⟨e.1.toNat,e.2.1.toNat,e.2.2.1.toNat,e.2.2.2.1⟩
theorem anp {w:WT} {e:ET} (f:EvF w e):EvT (evP e) e:=by
 obtain⟨⟨k1,k2,ce,lk,cd,th,fu⟩,t0,_,_⟩:=f;refine ⟨(Ho t0).symm,(Ho (by omega)).symm,λh=>(Ho ?_).symm,rfl⟩;unfold evP at h;simp only[bm,cD,gh]at h;by_cases h1:e.2.1=3\/e.2.1=4
 .exact (ce h1).1
 by_cases h2:6<=e.2.1/\e.2.1<=11
 .exact (lk h2).1
 by_cases M:16<=e.2.1/\e.2.1<=19
 .exact (cd M).1
 by_cases J:e.2.1=20\/e.2.1=21
 .exact (th J).1
 by_cases I:e.2.1=22\/e.2.1=23
 .exact (fu I).1
 omega
theorem PD {w:WT} {e:ET} (f:EvF w e) (wb:WB w) {h:HS} (I:Yt w h):EOK w h (evP e):=by
 obtain⟨⟨k1,k2,ce,lk,cd,th,fu⟩,t0,t1,J⟩:=f;have Z:=wb.t;have Y:=I.T;have U:=I.L;have f3:=I.C;have M:=I.F;unfold evP;refine ⟨by dsimp only;omega,by dsimp only;omega,by dsimp only;omega,by dsimp only;omega,λq=>?_,λq=>?_,λq=>?_,λq=>?_,λq=>?_⟩<;>dsimp only at q ⊢
 .have:=th (by omega);omega
 .have:=lk (by omega);omega
 .have g:=cd (by omega);have hl:e.2.2.1.toNat<w.2.2.1.length:=by omega
  have hm:=J (w.2.2.1.getD e.2.2.1.toNat ([],0)) (by rw[aA,aB hl];exact vz hl);refine ⟨hl,hm.1,?_⟩;unfold OU;have:=hm.2;have:=hm.1;omega
 .have:=ce (by omega);omega
 .have:=fu (by omega);omega
theorem ju {σ R:Type} {f:σ->Option (σ⊕R)} {Q:R->Prop} (n:Nat) (hn:n<=1000000) (I:Nat->σ->Prop) (h0:∀i x,i<n->I i x->Ok (f x) λr=>match r with|.inl y=>I (i+1) y|.inr r=>Q r) (h1:∀x,I n x->Ok (f x) λr=>match r with|.inl _=>False|.inr r=>Q r) {x:σ} (U:I 0 x):Ok (fK f x) Q:=by
 have key:∀m i x,i+m=n->I i x->∃r,iterN f (m+1) x=af r/\Q r:=by
  intro m;induction m with
  |zero=>
   intro i x hi U;have:i=n:=by omega
   subst this;obtain⟨r,M,J⟩:=h1 x U;cases r with
   |inl y=>exact J.elim
   |inr r=>exact⟨r,by rw[iterN,M],J⟩
  |succ m Y=>
   intro i x hi U;obtain⟨r,M,J⟩:=h0 i x (by omega) U;cases r with
   |inl y=>
    obtain⟨r,g3,Z⟩:=Y (i+1) y (by omega) J;exact⟨r,by rw[iterN,M];exact g3,Z⟩
   |inr r=>exact⟨r,zF (n:=1) (by rw[iterN,M]) (by omega),J⟩
 obtain⟨r,M,J⟩:=key n 0 x (by omega) U;exact⟨r,zF M (by omega),J⟩
theorem On (a b:Int):fh (a,b)=af (decide (0<=a/\a<b)):=by
 refine cI ?_;unfold fh iT aF;with_reducible repeat' first|(refine OS.ok ?_;constructor)|refine IM.mk λ_=>?_
 .by_cases h:a<b<;>simp[*,fV]
 .simp;omega
theorem Ur (l:η) (t:Int) (hl:l.length<=1000):kC (l,t)=af (l.contains t):=by
 refine cI ?_;unfold kC rN ya bd bz bF aY cK aF cF;refine ax (P:=λy:Int=>0<=y↔t∈l) ?_ λy I=>ar ?_
 .refine ju l.length (by omega) (λi x=>x=(i:Int)/\∀j,j<i->¬l.getD j 0=t) ?_ ?_ ⟨rfl,λj hj=>by omega⟩
  .rintro i x hi ⟨rfl,hn⟩;refine du ?_;refine cg (aS (aK (λh=>ar ?_) λh=>ar ?_))
   .refine ⟨λ_=>?_,λ_=>by omega⟩;have h:t=aJ (T:=.int .i64) l (i:Int):=h;rw[h];exact bJ (T:=.int .i64) (xs:=l) (by omega) (by omega)
   .refine ⟨gO (by omega),λj hj=>?_⟩;have h:¬t=l.getD i 0:=h;by_cases e:j=i
    .subst e;exact λg=>h g.symm
    .exact hn j (by omega)
  .rintro x ⟨rfl,hn⟩;refine dv (ar ?_);refine ⟨λg=>(by omega),λg=>?_⟩;obtain⟨j,hj,e⟩:=List.getElem_of_mem g;exact (hn j hj (by rw[aA,aB hj];exact e)).elim
 .by_cases h:t∈l
  .have:=I.2 h;simp[c6,h,this]
  .have:¬0<=y:=λg=>h (I.1 g)
   simp[c6,h,this]
theorem aji (w:WT) (s:SY) (I:w.2.2.1.length<=1000) (cd:∀c∈w.2.2.1,0<=c.2/\c.2<w.2.1.length) (e1:s.1.length=w.2.1.length) (e2:s.2.2.1.length=w.2.2.2.1.length) (e3:s.2.2.2.length=w.2.2.2.2.1.length):kq (w,s)=af ai:=by
 refine cI ?_;unfold kq tZ aX bf bp dw bz iR bF aY cK aF cF;refine aZ (λx=>x=(aj,w)) ?_ ?_
 .refine ci (λh=>(h (by dsimp only[au];omega)).elim) λ_=>ci (λh=>(h (by dsimp only[au];omega)).elim) λ_=>ar ?_
  dsimp only[au];rw[e3];simp
 rintro x rfl;refine gw (ju w.2.2.1.length (by omega) (λi x=>x=((i:Int),w)) ?_ ?_ rfl)
 .rintro i x hi rfl;refine du ?_;refine cg (aS (aU (On _ _) (ci (λh=>(h ?_).elim) λ_=>ar ?_)))
  .exact cd _ (bJ (T:=Uu) (xs:=w.2.2.1) (j:=(i:Int)) (by omega) (by omega))
  .dsimp only;rw[gO (by omega)]
 .rintro x rfl;exact dv (ar rfl)
theorem adp (w:WT) (k o:Int) (h:NM w k o):mc (w,k,o)=af ai:=by
 refine cI ?_;obtain⟨k1,k2,ce,lk,cn,th,fu,no,mu,rw_⟩:=h;unfold mc aX bf bp ch bd bF aY aF;rcases @Jm k with rfl|rfl|rfl|rfl|rfl|rfl|rfl|rfl|rfl|rfl|rfl|rfl|rfl|rfl|rfl|rfl|rfl|rfl|rfl|rfl|rfl|rfl|rfl|⟨hk,I⟩
 case inr.inr.inr.inr.inr.inr.inr.inr.inr.inr.inr.inr.inr.inr.inr.inr.inr.inr.inr.inr.inr.inr.inr=>omega
 all_goals simp only[aV,bn,tC,On]
 all_goals with_reducible repeat' first|(refine OS.ok ?_;constructor)|refine IM.mk λ_=>?_
 all_goals try simp only[au,rj] at*
 all_goals first|omega|exact rw_ ⟨by decide,by decide⟩|(simp only[*,Bool.not_false,cN];done)
theorem ajr {n:Nat} (w:WT) (s:SY) (hs:SB n s) (hn:n<=1000) (t k o:Int) (he:EN w s t k o) (hr:WS w s t k o):oV (w,s,t,k,o)=af ai:=by
 refine cI ?_;obtain⟨nm,t0,t1,cd,e1,e2,e3⟩:=id he;obtain⟨_,_,ce,lk,cn,th,fu,no,mu,rw_⟩:=nm;obtain⟨_,_,_,aq,wr,ra,rl,rr,xb,xe,ab,ae,nt,sp,jo,se,ge⟩:=hr;have hm:16<=k/\k<=19->0<=(aJ (T:=Uu) w.2.2.1 o).2/\(aJ (T:=Uu) w.2.2.1 o).2<w.2.1.length:=λh=>cd _ (bJ (cn h).1 (cn h).2)
 have J:6<=k/\k<=11->kC ((aJ (T:=AK) s.1 o).2,t)=af ((aJ (T:=AK) s.1 o).2.contains t):=λh=>Ur _ _ (by
  have:=hs.rd _ (bJ (T:=AK) (lk h).1 (by have:=(lk h).2;omega));omega)
 have lk1:6<=k/\k<=11->0<=o/\o<(s.1.length:Int):=λh=>by have:=lk h;omega
 have I:t<(s.2.2.2.length:Int):=by omega
 have fu1:k=22\/k=23->0<=o/\o<(s.2.2.1.length:Int):=λh=>by have:=fu h;omega
 have th1:k=20\/k=21->0<=o/\o<(s.2.2.2.length:Int):=λh=>by have:=th h;omega
 have tr:∀{p:Prop} [Decidable p],p->decide p=ai:=λh=>aQ h
 unfold oV aX bf bp dw cR bd iR bF aY aF;refine aK (λh=>?_) λZ=>?_
 .have h:k=6:=h;exact aR (lk1 (by omega)).1 (lk1 (by omega)).2 (aS (ar (tr (aq (.inl h)))))
 refine aK (λh=>?_) λM=>?_
 .have h:k=10:=h;refine gC (aR (lk1 (by omega)).1 (lk1 (by omega)).2 (aS (aK (λ_=>?_) λg=>(g (aq (.inr (.inr h)))).elim)));refine aR (lk1 (by omega)).1 (lk1 (by omega)).2 (aS (ar (ar (tr ?_))));have:=wr h;dsimp only[au]at this ⊢;omega
 refine aK (λh=>?_) λY=>?_
 .have h:k=8:=h;refine gC (aR (lk1 (by omega)).1 (lk1 (by omega)).2 (aS (aK (λ_=>?_) λg=>(g (aq (.inr (.inl h)))).elim)));refine aR (lk1 (by omega)).1 (lk1 (by omega)).2 (aS (aU (J (by omega)) (ar (ar ?_))));rw[ra h];rfl
 refine aZ (λx=>x.2=(w,s)/\(x.1=ai↔k=7\/k=11)) (aK (λh=>ar ⟨rfl,λ_=>.inl h,λ_=>tr h⟩) λh=>ar ⟨rfl,λh2=>.inr (bw h2),λh2=>tr (h2.resolve_left h)⟩) ?_;rintro⟨b,x⟩ ⟨e,hb⟩;dsimp only at e hb;subst e;refine aP (λh=>?_) λ_=>?_
 .have h:=hb.1 h;exact aR (lk1 (by omega)).1 (lk1 (by omega)).2 (aS (ar (tr (rl h))))
 refine aK (λh=>?_) λU=>?_
 .have h:k=9:=h;refine aR (lk1 (by omega)).1 (lk1 (by omega)).2 (aS (aU (J (by omega)) (ar (rr h))))
 refine aK (λh=>ar (tr (xb h))) λ_=>aK (λh=>ar (tr (xe h))) λ_=>?_
 refine aK (λh=>aR t0 I (aS (ar (by have:=ab h;dsimp only at this ⊢;rw[this];rfl)))) λ_=>aK (λh=>aR t0 I (aS (ar (ae h)))) λ_=>?_
 refine aZ (λx=>x.2=(w,s)/\(x.1=ai->k=16\/k=18\/k=19)) (aK (λh=>ar ⟨rfl,λ_=>.inl h⟩) λ_=>aK (λh=>ar ⟨rfl,λ_=>.inr (.inl h)⟩) λ_=>ar ⟨rfl,λh=>.inr (.inr (bw h))⟩) ?_;rintro⟨c,x⟩ ⟨e,hc⟩;dsimp only at e hc;subst e;refine aP (λh=>?_) λ_=>?_
 .have h:=hc h;have hq:=hm (by omega);exact aR (cn (by omega)).1 (cn (by omega)).2 (aS (aR hq.1 (by rw[e1];exact hq.2) (aS (ar (tr (nt h))))))
 refine aK (λh=>?_) λ_=>?_
 .have h:k=20:=h;exact gC (ci (λ_=>aR (th1 (.inl h)).1 (th1 (.inl h)).2 (aS (ar (ar (tr (sp h).2))))) λg=>((sp h).1 g).elim)
 refine aK (λh=>?_) λ_=>?_
 .have h:k=21:=h;exact gC (ci (λ_=>aR (th1 (.inr h)).1 (th1 (.inr h)).2 (aS (ar (ar (tr (jo h).2))))) λg=>((jo h).1 g).elim)
 refine aK (λh=>aR (fu1 (.inl h)).1 (fu1 (.inl h)).2 (aS (ar (by have:=se h;dsimp only at this ⊢;rw[this];rfl)))) λ_=>aK (λh=>aR (fu1 (.inr h)).1 (fu1 (.inr h)).2 (aS (ar (ge h)))) λ_=>ar rfl
theorem Ep {n:Nat} (w:WT) (s:SY) (hs:SB n s) (hn:n<=1000) (U:w.2.2.1.length<=1000) (t k o:Int) (he:EN w s t k o) (hr:WS w s t k o):ji (w,s,t,k,o)=af ai:=by
 refine cI ?_;obtain⟨nm,t0,t1,cd,e1,e2,e3⟩:=id he;have hrd:=ajr w s hs hn t k o he hr;have M:t<(s.2.2.2.length:Int):=by omega
 unfold ji aX bf bp bL dw cR bd bF aY aF;refine aZ (λx=>x=(aj,w,s)) ?_ ?_
 .refine aU (aji w s U cd e1 e2 e3) (fP rfl (aU (On _ _) ?_));refine ci (λh=>(h ⟨t0,t1⟩).elim) λ_=>aU (adp w k o nm) (ar rfl)
 rintro x rfl;refine gw (aR t0 M (aS ?_));refine aK (λh=>ar (aQ (hr.b h))) λn1=>?_
 refine aK (λh=>?_) λn17=>?_
 .have h:k=17:=h;obtain⟨a1,a2,a3⟩:=hr.wk h;obtain⟨J,I⟩:=nm.cd (by omega);have hq:=cd _ (bJ (T:=Uu) (xs:=w.2.2.1) (j:=o) J I);refine gC (aK (λ_=>aK (λ_=>?_) λg=>(g a2).elim) λg=>(g a1).elim);exact aR J I (aS (aR hq.1 (by rw[e1];exact hq.2) (aS (ar (ar (aQ a3))))))
 refine gC (aK (λ_=>aU hrd (ar (ar rfl))) λg=>(g (hr.r n1 n17)).elim)
theorem afh (w:WT) (e:ET) (h1:e.2.1=1\/e.2.1=2->e.2.2.2.2.1= -1) (h2:¬(e.2.1=1\/e.2.1=2)->0<=e.2.2.2.2.1/\e.2.2.2.2.1<w.2.2.2.2.2.length/\(aJ (T:=yz) w.2.2.2.2.2 e.2.2.2.2.1).1=e.1):jH (w,e)=af ai:=by
 refine cI ?_;unfold jH aX dA cR bd bz iT bF aY aF;refine aZ (λx=>x.2=(w,e)/\(x.1=ai↔e.2.1=1\/e.2.1=2)) (aK (λh=>ar ⟨rfl,λ_=>.inl h,λ_=>rfl⟩) λh=>ar ⟨rfl,λh2=>.inr (bw h2),λh2=>aQ (h2.resolve_left h)⟩) ?_;rintro⟨b,x⟩ ⟨e1,hb⟩;dsimp only at e1 hb;subst e1;refine aP (λh=>ar (aQ (h1 (hb.1 h)))) λh=>?_
 obtain⟨a1,a2,a3⟩:=h2 λg=>by rw[hb.2 g]at h;cases h
 exact gC (eV (λ_=>du (aR a1 a2 (aS (ar (ar (aQ a3)))))) λg=>(by dsimp only at g;omega))
theorem adn {l:η} (h:H4 l) (i:Nat) (hi:i<l.length):∀z∈l.drop (i+1),l.getD i 0<z:=by
 induction l generalizing i with
 |nil=>cases hi
 |cons a l I=>
  cases i with
  |zero=>exact λz J=>h.1 z (by simpa using J)
  |succ i=>exact I h.2 i (by simpa using hi)
theorem Sv (w:WT) (s:SN) (e:ET) (ce:e.2.1=3\/e.2.1=4->0<=e.2.2.1/\e.2.2.1<w.1.length) (de:0<e.2.2.2.2.2.1.length->e.2.1=5\/(e.2.1=3\/e.2.1=4)/\¬(aJ (T:=QU) w.1 e.2.2.1).2.2.1=0) (fr:0<e.2.2.2.2.2.2.length->e.2.1=4\/e.2.1=22) (t0:0<=e.1) (t1:e.1<s.2.2.2.length) (nd:AN (aJ (T:=.int .i64) s.2.2.2 e.1) e.2.2.2.2.2.1) (nf:AN (aJ (T:=.int .i64) s.2.2.2 e.1) e.2.2.2.2.2.2) (ld:e.2.2.2.2.2.1.length<=1000000) (lf:e.2.2.2.2.2.2.length<=1000000):fd (w,s,e)=af ai:=by
 refine cI ?_;unfold fd jy aX bf bp ch bL dw fc bd bz iT bB bF aY cK aF cF;refine aZ (λx=>x.2=(s,e)/\((e.2.1=3\/e.2.1=4)/\¬(aJ (T:=QU) w.1 e.2.2.1).2.2.1=0->x.1=ai)) ?_ ?_
 .refine aK (λh=>?_) λn3=>aK (λh=>?_) λn4=>?_
  .exact aR (ce (.inl h)).1 (ce (.inl h)).2 (aS (ar ⟨rfl,λg=>by simpa using g.2⟩))
  .exact aR (ce (.inr h)).1 (ce (.inr h)).2 (aS (ar ⟨rfl,λg=>by simpa using g.2⟩))
  .exact ar ⟨rfl,λg=>(g.1.elim n3 n4).elim⟩
 rintro⟨b,x⟩ ⟨e1,hb⟩;dsimp only at e1 hb;subst e1;refine aZ (λx=>x.1=s/\x.2.1=e/\(0<e.2.2.2.2.2.1.length->x.2.2.1=ai)/\(0<e.2.2.2.2.2.2.length->x.2.2.2=ai)) ?_ ?_
 .refine aK (λZ=>aK (λI=>ar ⟨rfl,rfl,λ_=>rfl,λ_=>rfl⟩) λI=>ar ⟨rfl,rfl,λ_=>rfl,λg=>?_⟩) λZ=>aK (λI=>ar ⟨rfl,rfl,λg=>?_,λ_=>rfl⟩) λI=>ar ⟨rfl,rfl,λg=>?_,λg=>?_⟩
  .exact aQ ((fr g).resolve_left I)
  .exact hb ((de g).resolve_left Z)
  .exact hb ((de g).resolve_left Z)
  .exact aQ ((fr g).resolve_left I)
 rintro⟨s',e',a,b'⟩ ⟨e1,e2,h1,h2⟩;dsimp only at e1 e2 h1 h2;subst e1;subst e2;have key:∀(r:η),r.length<=1000000->AN (aJ (T:=.int .i64) s'.2.2.2 e'.1) r->∀j:Nat,j<r.length->∀z∈r.drop (j+1),aJ (T:=.int .i64) r (j:Int)<z:=λr _ h j hj z U=>adn h.a j hj z U
 refine ju 2 (by omega) (λi x=>x=((i:Int),s',e',a,b')) ?_ ?_ rfl
 .rintro i x hi rfl;refine du ?_;refine di (eA (by dsimp only;omega) (Av (by dsimp only;omega) (aS ?_)));have hr:∃r:η,aJ (T:=.sl (.int .i64)) [e'.2.2.2.2.2.1,e'.2.2.2.2.2.2] (i:Int)=r/\AN (aJ (T:=.int .i64) s'.2.2.2 e'.1) r/\r.length<=1000000/\(0<r.length->aJ (T:=.bool) [a,b'] (i:Int)=ai):=by
   match i,hi with
   |0,_=>exact⟨_,rfl,nd,ld,h1⟩
   |1,_=>exact⟨_,rfl,nf,lf,h2⟩
  obtain⟨r,er,hA,hl,Y⟩:=hr;have er':aJ (T:=.sl aM) [e'.2.2.2.2.2.1,e'.2.2.2.2.2.2] (i:Int)=r:=er;dsimp only at er' ⊢;rw[er'];refine aZ (λx=>x=(aj,s',e',a,b')) ?_ ?_
  .refine bI (λg=>?_) λ_=>ar rfl
   have g':0<r.length:=by dsimp only[au]at g;omega
   refine di (eA (by omega) (Av (by omega) (cg (aS (ar ?_)))));rw[Y g'];rfl
  rintro x rfl;refine gw ?_;refine ju r.length (by omega) (λj x=>x.1.2=(j:Int)/\x.2=(s',e',a,b')/\∀z∈r.drop j,x.1.1<z) ?_ ?_ ⟨rfl,rfl,λz U=>?_⟩
  .rintro j ⟨⟨la,ix⟩,x⟩ hj ⟨M,J,g3⟩;dsimp only at M J g3;subst M;subst J;have m:aJ (T:=.int .i64) r (j:Int)∈r:=bJ (T:=.int .i64) (xs:=r) (by omega) (by omega);have m2:aJ (T:=.int .i64) r (j:Int)∈r.drop j:=by
    have:aJ (T:=.int .i64) r (j:Int)=r[j]:=by
     show r.getD j 0=_;rw[aA,aB hj];rfl
    rw[this,List.drop_eq_getElem_cons hj];exact dh
   refine du ?_;refine cg (aS (aZ (λx=>x=(aj,s',e',a,b')) ?_ ?_))
   .refine eV (λg=>?_) λ_=>aR t0 t1 (aS (ar ?_))
    .have q1:=g3 _ m2;exact cY q1 (by dsimp only at g;exact λq=>cY (Int.lt_of_lt_of_le q g) (Int.lt_irrefl _))
    .have:=(hA.m _ m).2;rw[me.2 (show aJ (T:=.int .i64) r (j:Int)<aJ (T:=.int .i64) s'.2.2.2 e'.1 from this)]
   rintro x rfl;exact gw (ar ⟨gO (by omega),rfl,key r hl hA j hj⟩)
  .rintro⟨⟨la,ix⟩,x⟩ ⟨M,J,_⟩;dsimp only at M J;subst M;subst J;exact dv (ar (gM (·,s',e',a,b') (gO (by omega))))
  .have:=(hA.m z (by simpa using U)).1;dsimp only;omega
 .rintro x rfl;exact dv (ar rfl)
theorem anl (w:WT) (s:SN) (I:w.2.2.1.length<=1000) (t k o:Int) (he:EN w s.1 t k o) (hf:F16 w s):kX (w,s)=af ai:=by
 obtain⟨_,_,_,cd,e1,e2,e3⟩:=he;obtain⟨M,J,f3⟩:=hf;refine cI ?_;unfold kX aX bf bp dw bd aY aF;refine gC (aU (aji w s.1 I cd e1 e2 e3) (M' (aK (λ_=>aK (λ_=>ar (ar (aQ ?_))) λg=>(g ?_).elim) λg=>(g ?_).elim)));all_goals dsimp only[au];omega
theorem H_ (th:List (Int×Int×Bool)) (c:Int) (i:Nat):wl th c (i+1)=if IB c (aJ (T:=jG) th (i:Int)) then wl th c i++[(i:Int)] else wl th c i:=rfl
theorem af3 {n:Nat} (w:WT) (s:SN) (hs:SB n s.1) (e:ET) (hf:F16 w s) (he:EN w s.1 e.1 e.2.1 e.2.2.1) (va:VA w s.1 s.2.1 s.2.2.1 e.1 e.2.1 e.2.2.1 e.2.2.2.1):gy (s,e)=af ai:=by
 refine cI ?_;obtain⟨t,k,o,v,si,de,fr⟩:=e;obtain⟨s1,s2,s3,s4⟩:=s;obtain⟨nm,t0,t1,cd,e1,e2,e3⟩:=he;obtain⟨_,_,ce,lk,cn,th,fu,_,_,_⟩:=nm;obtain⟨f1,f2,f3⟩:=hf;have hth:=hs.th;obtain⟨v3,Y,v5,vel⟩:=va;dsimp only at*
 unfold gy lP aX bf bp ch bL bd bz bF aY cK aF cF;refine aK (λh=>?_) λn3=>?_
 .have h:k=3:=h;obtain⟨c0,c1⟩:=ce (.inl h);exact aR c0 (by rw[f1];exact c1) (aS (ar (aQ (v3 h))))
 refine aK (λh=>?_) λZ=>?_
 .have h:k=23:=h;obtain⟨c0,c1⟩:=fu (.inr h);exact aR c0 (by rw[f2];exact c1) (aS (ar (aQ (Y h))))
 refine aK (λh=>?_) λn5=>?_
 .have h:k=5:=h;exact gC (aK (λ_=>ar (ar rfl)) λg=>ar (ar (aQ ((v5 h).resolve_left g))))
 refine aZ (λx=>x.2=((s1,s2,s3,s4),t,k,o,v,si,de,fr)/\(x.1=aj->¬k=4/\¬k=22)) (aK (λh=>ar ⟨rfl,λh2=>(by rw[aQ h]at h2;cases h2)⟩) λh=>ar ⟨rfl,λh2=>⟨h,Ux h2⟩⟩) ?_;rintro⟨b,x⟩ ⟨e,hb⟩;dsimp only at e hb;subst e;refine aP (λh=>ar rfl) λh=>?_
 obtain⟨n4,n22⟩:=hb h;have vel:=vel n3 Z n5 n4 n22;have hWl:=vX s1.2.2.2 o s1.2.2.2.length;refine aK (λh=>?_) λn18=>?_
 .have h:k=18:=h;subst h;rw[FO]at vel;refine ju s1.2.2.2.length (by omega) (λi x=>x.1.2.2=(i:Int)/\x.2=(t,18,o,v,si,de,fr)/\x.1.1=((wl s1.2.2.2 o i).length:Int)/\(x.1.2.1=ai↔v∈wl s1.2.2.2 o i)) ?_ ?_ ⟨rfl,rfl,rfl,by simp[wl]⟩
  .rintro i ⟨⟨c,hit,ix⟩,x⟩ hi ⟨J,I,M,U⟩;dsimp only at J I M U;subst J;subst I;subst M;have hl:=vX s1.2.2.2 o i;refine du ?_;refine aZ (λx=>x.2=(t,18,o,v,si,de,fr)/\x.1.1=((wl s1.2.2.2 o (i+1)).length:Int)/\(x.1.2=ai↔v∈wl s1.2.2.2 o (i+1))) ?_ ?_
   .refine cg (aS (aZ (λx=>x=(IB o (aJ (T:=jG) s1.2.2.2 (i:Int)),t,18,o,v,si,de,fr)) ?_ ?_))
    .unfold IB;refine aK (λh=>ar ?_) λh=>ar ?_
     .dsimp only at h ⊢;rw[h];rfl
     .dsimp only at h ⊢;rw[bN h];rfl
    rintro x rfl;rw[H_];dsimp only;cases hw:IB o (aJ (T:=jG) s1.2.2.2 (i:Int)) with
    |true=>
     refine M' (aP (λh=>ar ⟨rfl,?_,?_⟩) λh=>ar ⟨rfl,?_,?_⟩)
     .dsimp only;rw[gO (by omega)];simp
     .simp[U.1 h]
     .dsimp only;rw[gO (by omega)];simp
     .have:¬v∈wl s1.2.2.2 o i:=λg=>by rw[U.2 g]at h;cases h
      simp[this]
    |false=>exact gw (ar ⟨rfl,rfl,U⟩)
   rintro⟨⟨c,hit'⟩,x⟩ ⟨J,I,M⟩;dsimp only at J I M;subst J;subst I;exact ar ⟨gO (by omega),rfl,rfl,M⟩
  .rintro⟨⟨c,hit,ix⟩,x⟩ ⟨J,I,M,U⟩;dsimp only at J I M U;subst J;subst I;subst M;refine dv (ax (P:=λy=>y=ai) (gC (aP (λ_=>ar (ar rfl)) λh=>?_)) λy hy=>ar hy);have hn:¬v∈wl s1.2.2.2 o s1.2.2.2.length:=λg=>by rw[U.2 g]at h;cases h
   by_cases h0:(wl s1.2.2.2 o s1.2.2.2.length).length=0
   .rw[aD h0]at vel;refine aK (λ_=>ar (ar (aQ vel))) λg=>(g (by dsimp only;omega)).elim
   .rw[ay h0]at vel;have vel:v=BI (wl s1.2.2.2 o s1.2.2.2.length) v:=vel;exact (hn (vel▸Iu v h0)).elim
 refine aK (λh=>?_) λn19=>?_
 .have h:k=19:=h;subst h;rw[akk]at vel;refine ju s1.2.2.2.length (by omega) (λi x=>x.1.2=(i:Int)/\x.2=(t,19,o,v,si,de,fr)/\x.1.1=((wl s1.2.2.2 o i).length:Int)) ?_ ?_ ⟨rfl,rfl,rfl⟩
  .rintro i ⟨⟨c,ix⟩,x⟩ hi ⟨J,I,M⟩;dsimp only at J I M;subst J;subst I;subst M;have hl:=vX s1.2.2.2 o i;refine du ?_;refine aZ (λx=>x.2=(t,19,o,v,si,de,fr)/\x.1=((wl s1.2.2.2 o (i+1)).length:Int)) ?_ ?_
   .refine cg (aS (aZ (λx=>x=(IB o (aJ (T:=jG) s1.2.2.2 (i:Int)),t,19,o,v,si,de,fr)) ?_ ?_))
    .unfold IB;refine aK (λh=>ar ?_) λh=>ar ?_
     .dsimp only at h ⊢;rw[h];rfl
     .dsimp only at h ⊢;rw[bN h];rfl
    rintro x rfl;rw[H_];dsimp only;cases hw:IB o (aJ (T:=jG) s1.2.2.2 (i:Int)) with
    |true=>
     refine M' (ar ⟨rfl,?_⟩);dsimp only;rw[gO (by omega)];simp
    |false=>exact gw (ar ⟨rfl,rfl⟩)
   rintro⟨c,x⟩ ⟨J,I⟩;dsimp only at J I;subst J;subst I;exact ar ⟨gO (by omega),rfl,rfl⟩
  .rintro⟨⟨c,ix⟩,x⟩ ⟨J,I,M⟩;dsimp only at J I M;subst J;subst I;subst M;exact dv (ar (aQ vel))
 exact ar (aQ (by rw[aiz _ _ _ _ _ _ n18 n19]at vel;exact vel))
theorem aat (x:Int×Int×Bool) (c:Int):mA (x,c)=af (IB c x):=by
 refine cI ?_;unfold mA IB bd aF;refine gC (aK (λh=>ar (ar ?_)) λh=>ar (ar ?_))
 .have h:x.1=3:=h;rw[h];rfl
 .have h:¬x.1=3:=h;rw[bN h];rfl
theorem ad6 {n:Nat} (s:SY) (hs:SB n s):kB s=af (s.2.1,s.1,s.2.2.1,s.2.2.2):=by
 refine cI ?_;obtain⟨s1,s2,J,I⟩:=s;have hn:=hs.n1;have hlk:=hs.lk;have hdn:=hs.dn;have hth:=hs.th;have hrd:=hs.rd;dsimp only at hlk hdn hth hrd;unfold kB sj aX bL ck bz bB bF aY cK cF;dsimp only[au];refine di (di (eA (by omega) (eA (by omega) (bh (by simp;omega) (by omega) ?_))));refine ju s1.length (by omega) (λi x=>∃c d,x=((i:Int),(s1,s2,J,I),c,d)/\d.length=s1.length/\∀j,j<i->d.getD j (0,[])=s1.getD j (0,[])) ?_ ?_ ⟨_,_,rfl,by simp,λj hj=>by omega⟩
 .rintro i x hi ⟨c,d,rfl,hd,he⟩;have hr:=hrd _ (bJ (T:=AK) (xs:=s1) (j:=(i:Int)) (by omega) (by omega));refine du ?_;refine cg (aS (aU (x:=(aJ (T:=AK) s1 (i:Int)).2) (cI ?_) ?_))
  .exact bh (by dsimp only;omega) (by omega) (ar rfl)
  refine cg (cg (ar ⟨c,d.set i (aJ (T:=AK) s1 (i:Int)),?_,by simp[hd],λj hj=>?_⟩))
  .dsimp only;rw[gO (by omega)];rfl
  .by_cases e:i=j
   .subst e;rw[aA,List.getElem?_set_self (by omega)];rfl
   .rw[aA,List.getElem?_set_ne e,<-aA];exact he j (by omega)
 .rintro x ⟨c,d,rfl,hd,he⟩;have:d=s1:=by
   refine dG hd λj Y M=>?_
   have:=he j M;rw[aA,aA,aB Y,aB M]at this;exact this
  subst this;refine dv (ax (P:=λy=>y=(s2,d,J,I)) ?_ λy U=>ar U);refine aU (x:=J) (cI (bh (by dsimp only;omega) (by omega) (ar rfl))) (aU (x:=I) (cI (bh (by dsimp only;omega) (by omega) (ar rfl))) (ar rfl))
theorem Ya (l:η) (i u:Int):BI (l++[i]) u=if l.length=0 then i else if i=u then i else BI l u:=by
 unfold BI;cases l with
 |nil=>
  by_cases h:u=i
  .subst h;simp
  .simp[h];rfl
 |cons a r=>
  have e1:¬(a::r++[i]).length=0:=by simp
  have e2:¬(a::r).length=0:=by simp
  simp only[ay e1,ay e2];by_cases h:i=u
  .subst h;simp
  .have h':¬u=i:=λg=>h g.symm
   rw[ay h];have:(a::r++[i]).contains u=(a::r).contains u:=by simp[h']
   rw[this];rfl
theorem Qe {th:List (Int×Int×Bool)} {c u:Int} {i:Nat} (h:¬(wl th c i).length=0):0<=BI (wl th c i) u/\BI (wl th c i) u<i:=by
 have:=rx.1 (Iu u h);exact⟨this.1,this.2.1⟩
theorem K9 {l:η} {u:Int} (h:l.length=0):BI l u= -1:=by unfold BI;rw[aD h]
theorem afn (s:SY) (o u:Int) (hs:s.2.2.2.length<=1000):jM ((s.2.1,o,u),s.1,s.2.2.1,s.2.2.2)=af (BI (wl s.2.2.2 o s.2.2.2.length) u,s.1,s.2.2.1,if (wl s.2.2.2 o s.2.2.2.length).length=0 then s.2.2.2 else yA s.2.2.2 (BI (wl s.2.2.2 o s.2.2.2.length) u) 4):=by
 refine cI ?_;obtain⟨s1,s2,J,I⟩:=s;dsimp only at hs ⊢;unfold jM qO aX bf bL ck bz iT kl aY cK aF cF;dsimp only[au];refine ju I.length (by omega) (λi x=>x=((BI (wl I o i) u,(i:Int)),s1,J,I,s2)) ?_ ?_ rfl
 .rintro i x hi rfl;refine du ?_;refine aZ (λx=>x=(BI (wl I o (i+1)) u,s1,J,I,s2)) ?_ ?_
  .refine cg (cg (aS ?_));refine aZ (λx=>x=(decide (IB o (aJ (T:=jG) I (i:Int))=ai/\((wl I o i).length=0\/(i:Int)=u)),s1,J,I,s2)) ?_ ?_
   .refine aU (aat _ _) (aP (λh=>?_) λh=>ar ?_)
    .have h:IB o (aJ (T:=jG) I (i:Int))=ai:=h;refine bI (λg=>ar ?_) λg=>ar ?_
     .have:(wl I o i).length=0:=vW λq=>by have:=(Qe (u:=u) q).1;dsimp only at g;omega
      simp[h,this]
     .have:¬(wl I o i).length=0:=λq=>by have:=K9 (u:=u) q;dsimp only at g;omega
      simp[h,this]
    .have h:IB o (aJ (T:=jG) I (i:Int))=aj:=h;simp[h]
   rintro x rfl;rw[H_];refine aK (λh=>ar ?_) λh=>ar ?_
   .rw[aD h.1,Ya];rcases h.2 with g|g
    .rw[aD g]
    .rw[aD g];simp
   .by_cases g:IB o (aJ (T:=jG) I (i:Int))=ai
    .rw[aD g,Ya,ay λq=>h ⟨g,.inl q⟩,ay λq=>h ⟨g,.inr q⟩]
    .rw[ay g]
  rintro x rfl;exact ar (by dsimp only;rw[gO (by omega)])
 .rintro x rfl;refine dv (ax (P:=λy=>y=(BI (wl I o I.length) u,s1,J,if (wl I o I.length).length=0 then I else yA I (BI (wl I o I.length) u) 4)) ?_ λy M=>ar M);refine aZ (λx=>x=(s1,J,if (wl I o I.length).length=0 then I else yA I (BI (wl I o I.length) u) 4)) ?_ ?_
  .refine eV (λg=>?_) λg=>ar ?_
   .have h0:¬(wl I o I.length).length=0:=λq=>by have:=K9 (u:=u) q;dsimp only at g;omega
    have hp:=Qe (u:=u) h0;refine aR hp.1 hp.2 (aR hp.1 hp.2 (ar ?_));rw[ay h0];rfl
   .have:(wl I o I.length).length=0:=vW λq=>by have:=(Qe (u:=u) q).1;dsimp only at g;omega
    rw[aD this]
  rintro x rfl;exact ar rfl
theorem afr (th:List (Int×Int×Bool)) (l:η) (i:Int):C_ th (l++[i])=yA (C_ th l) i 4:=by unfold C_;rw[dR];rfl
theorem afq (l:η):∀(th:List (Int×Int×Bool)) (j:Int),0<=j->(∀z∈l,0<=z/\z<th.length/\¬z=j)->aJ (T:=jG) (C_ th l) j=aJ (T:=jG) th j:=by
 induction l with
 |nil=>intro th j _ _;rfl
 |cons x r J=>
  intro th j hj h;have I:=h x (by simp);refine (J (yA th x 4) j hj λz M=>?_).trans ?_
  .have:=h z (by simp[M]);unfold yA;rw[bT];exact this
  .unfold yA;rw[rS (T:=jG) th x j _ I.1 I.2.1 hj,ay λq=>I.2.2 q.symm]
theorem UZ (s:SY) (o:Int) (hs:s.2.2.2.length<=1000):gV ((s.2.1,o),s.1,s.2.2.1,s.2.2.2)=af (((wl s.2.2.2 o s.2.2.2.length).length:Int),s.1,s.2.2.1,C_ s.2.2.2 (wl s.2.2.2 o s.2.2.2.length)):=by
 refine cI ?_;obtain⟨s1,s2,J,I⟩:=s;dsimp only at hs ⊢;unfold gV mH aX bf bL dw ck bz kl aY cK aF cF;dsimp only[au];refine ju I.length (by omega) (λi x=>x=((((wl I o i).length:Int),(i:Int)),s1,J,C_ I (wl I o i),s2)) ?_ ?_ rfl
 .rintro i x hi rfl;have hl:=vX I o i;have hg:aJ (T:=jG) (C_ I (wl I o i)) (i:Int)=aJ (T:=jG) I (i:Int):=afq _ _ _ (by omega) λz M=>by have:=rx.1 M;exact⟨this.1,by omega,by omega⟩
  have hq:=Ih (wl I o i) I;refine du ?_;refine aZ (λx=>x=(((wl I o (i+1)).length:Int),s1,J,C_ I (wl I o (i+1)),s2)) ?_ ?_
  .refine cg (cg (aS (aU (aat _ _) ?_)));rw[H_];refine aP (λh=>?_) λh=>ar ?_
   .have h:IB o (aJ (T:=jG) I (i:Int))=ai:=hg▸h;refine cg (cg (ar ?_));rw[aD h,afr];dsimp only;rw[gO (by omega)];simp only[bx,b_,j6];rfl
   .have h:IB o (aJ (T:=jG) I (i:Int))=aj:=hg▸h;rw[h];rfl
  rintro x rfl;exact ar (by dsimp only;rw[gO (by omega)])
 .rintro x rfl;exact dv (ar rfl)
theorem ai3 {n:Nat} (w:WT) (s:SY) (hs:SB n s) (hn:n<=1000) (U:w.2.2.1.length<=1000) (t k o u:Int) (he:EN w s t k o) (hr:WS w s t k o) (J:¬k=8) (I:¬k=9):gW (w,s,t,k,o,u)=af ((rn w s t k o u).1,(rn w s t k o u).2,ai):=by
 refine cI ?_;unfold gW aX bf bp ch dA bL dw cR fc kK ck bd bB bF kl aF;refine aU (Ep w s hs hn U t k o he hr) (fP rfl (aU (ad6 s hs) ?_));suffices hmain:Ok _ _ from aZ (λx=>((x.2.2.2.1,x.2.1,x.2.2.2.2),x.1)=rn w s t k o u) hmain λx M=>ar (by rw[<- M])
 obtain⟨nm,t0,t1,cd,e1,e2,e3⟩:=id he;obtain⟨_,_,ce,lk,cn,th,fu⟩:=nm;have hm:16<=k/\k<=19->0<=(aJ (T:=Uu) w.2.2.1 o).2/\(aJ (T:=Uu) w.2.2.1 o).2<w.2.1.length:=λh=>cd _ (bJ (cn h).1 (cn h).2)
 rcases @Jm k with rfl|rfl|rfl|rfl|rfl|rfl|rfl|rfl|rfl|rfl|rfl|rfl|rfl|rfl|rfl|rfl|rfl|rfl|rfl|rfl|rfl|rfl|rfl|⟨hk,Y⟩
 case inr.inr.inr.inr.inr.inr.inr.inr.inr.inr.inr.inr.inr.inr.inr.inr.inr.inr.inr.inr.inr.inr.inr=>omega
 all_goals first|exact (J rfl).elim|exact (I rfl).elim|skip
 all_goals simp only[aV,bn,tC]
 all_goals with_reducible repeat' first|(refine OS.ok ?_;constructor)|refine IM.mk λ_=>?_
 all_goals try simp only[au,rj] at*
 all_goals try rw[bT]
 all_goals first|omega|exact (hm ⟨by decide,by decide⟩).1|exact e1▸(hm ⟨by decide,by decide⟩).2|exact rfl|skip
 .refine aU (afn s o u hs.th) (bg ?_ (ar ?_))
  .have:al (if (wl s.2.2.2 o s.2.2.2.length).length=0 then s.2.2.2 else yA s.2.2.2 (BI (wl s.2.2.2 o s.2.2.2.length) u) 4)=s.2.2.2.length:=by
    split
    .rfl
    .exact bT ..
   dsimp only;rw[this];simp
  .rw[FO];by_cases h:(wl s.2.2.2 o s.2.2.2.length).length=0
   .rw[aD h,aD h,K9 h]
   .rw[ay h,ay h]
 .refine aU (UZ s o hs.th) (bg ?_ (ar rfl));dsimp only;rw[Ih];simp
def Bg:Nat->List η
 |0=>[[]]
 |m+1=>Bg m++(Bg m).map ((3-(m:Int))::·)
theorem M2:∀m,[]∈Bg m
 |0=>by simp[Bg]
 |m+1=>by simp[Bg,M2 m]
theorem EC:∀(m:Nat) (l:η),H4 l->(∀z∈l,4-(m:Int)<=z/\z<4)->l∈Bg m
 |m,[],_,_=>M2 m
 |0,a::r,_,h=>by have:=h a (by simp);omega
 |m+1,a::r,hA,h=>by
  have J:=h a (by simp);rw[Bg,bV];by_cases e:a=3-(m:Int)
  .refine .inr (c_.2 ⟨r,EC m r hA.2 λz I=>?_,by rw[e]⟩);have:=h z (by simp[I]);have:=hA.1 z I;omega
  .refine .inl (EC m (a::r) hA λz I=>?_);have:=h z I;rcases bm.1 I with rfl|I
   .omega
   .have:=hA.1 z I;omega
theorem ai9 {l:η} (h:H4 l) (h2:∀z∈l,0<=z/\z<4):l∈Bg 4:=EC 4 l h λz I=>by have:=h2 z I;omega
def in4:η:=[0,1,2,3]
theorem XK {t:Int} (h0:0<=t) (h1:t<4):t∈in4:=by
 have:t=0\/t=1\/t=2\/t=3:=by omega
 rcases this with rfl|rfl|rfl|rfl<;>simp[in4]
def an2 (l:η) (t:Int):Bool:=l.contains t||((wQ (l++[t])==af (xF l [t]))&&(lO (xF l [t])==af (xF l [t]))&&aC (xF l [t]).length (l++[t]).length)
def anz (l:η) (t:Int):Bool:= !l.contains t||(jk (l,t)==af (t,wo l t))
theorem af7:((Bg 4).all λl=>in4.all λt=>an2 l t)=ai:=by kernel_rfl
theorem agh:((Bg 4).all λl=>in4.all λt=>anz l t)=ai:=by kernel_rfl
theorem srt8 {l:η} {t:Int} (h:H4 l) (h2:∀z∈l,0<=z/\z<4) (h0:0<=t) (h1:t<4) (hn:¬t∈l):wQ (l++[t])=af (xF l [t])/\lO (xF l [t])=af (xF l [t])/\(xF l [t]).length=(l++[t]).length:=by
 have:=gu.1 (gu.1 af7 l (ai9 h h2)) t (XK h0 h1);unfold an2 at this;have hc:l.contains t=aj:=by simp[hn]
 rw[hc,Bool.false_or,av,av]at this;exact⟨eq_of_beq this.1.1,eq_of_beq this.1.2,aw this.2⟩
theorem del8 {l:η} {t:Int} (h:H4 l) (h2:∀z∈l,0<=z/\z<4) (h0:0<=t) (h1:t<4) (hn:l.contains t=ai):jk (l,t)=af (t,wo l t):=by
 have:=gu.1 (gu.1 agh l (ai9 h h2)) t (XK h0 h1);unfold anz at this;rw[hn,Bool.not_true,Bool.false_or]at this;exact eq_of_beq this
theorem agr (a0 a1 a2:Int) (r0 r1 r2:η) (h:Int) (d:θ) (th:List (Int×Int×Bool)) (h0:r0.length<=1000) (h1:r1.length<=1000) (h2:r2.length<=1000) (hd:d.length<=1000) (ht:th.length<=1000):nl ([(a0,r0),(a1,r1),(a2,r2)],h,d,th)=af ((h,d,th),(a0,a1,a2),r0,r1,r2):=by
 refine cI ?_;have cl:∀l:η,l.length<=1000->pg l=af l:=λl hl=>cI (bh (by omega) (by omega) (ar rfl))
 unfold nl aX bL bz bB bF aY aF;refine bg rfl (aZ (λx=>x=(([(a0,r0),(a1,r1),(a2,r2)],h,d,th),0,(a0,a1,a2),r0,r1,r2)) ?_ ?_)
 .exact fI rfl (bg rfl (aS (aU (cl _ h0) (fI rfl (bg rfl (aS (aU (cl _ h1) (fI rfl (bg rfl (aS (aU (cl _ h2) (fP rfl (ar rfl)))))))))))))
 rintro x rfl;refine aU (x:=d) (cI (bh (by dsimp only;omega) (by omega) (ar rfl))) (aU (x:=th) (cI (bh (by dsimp only;omega) (by omega) (ar rfl))) (ar rfl))
theorem ai4 {n:Nat} (w:WT) (s:SY) (hs:SB n s) (hn:n<=1000) (I:w.2.2.1.length<=1000) (t k o u:Int) (he:EN w s t k o) (hr:WS w s t k o) (hk:k=8\/k=9):gW (w,s,t,k,o,u)=ah:=by
 have h1:=Ep w s hs hn I t k o he hr;have h2:=ad6 s hs;rcases hk with rfl|rfl
 .unfold gW aX bf bp ch dA bL dw cR fc kK ck bd bB bF kl aF;simp only[h1,h2,aV,bn,tC];cases eX o (al s.1)<;>rfl
 .unfold gW aX bf bp ch dA bL dw cR fc kK ck bd bB bF kl aF;simp only[h1,h2,aV,bn,tC];cases eX o (al s.1)<;>rfl
theorem ai2 {n:Nat} (w:WT) (s:SY) (hs:SB n s) (hn:n<=900) (Y:w.2.2.1.length<=1000) (t k u:Int) (he:EN w s t k 2) (hr:WS w s t k 2) (hk:k=8\/k=9) (Z:s.1.length=3) (hA:H4 (aJ (T:=AK) s.1 2).2) (I:∀z∈(aJ (T:=AK) s.1 2).2,0<=z/\z<4) (M:t<4):lh (w,s,t,k,2,u)=af ((rn w s t k 2 u).1,(rn w s t k 2 u).2,ai):=by
 have h1:=Ep w s hs (by omega) Y t k 2 he hr;have t0:=he.t0;have ra:=hr.ra;have rr:=hr.rr;have hrd:=hs.rd;have hdn:=hs.dn;have hth:=hs.th;obtain⟨s1,h,d,th⟩:=s
 match s1,Z with
 |[(a0,r0),(a1,r1),(a2,r2)],_=>
  have g0:r0.length<=n:=hrd (a0,r0) (by simp);have g1:r1.length<=n:=hrd (a1,r1) (by simp);have g2:r2.length<=n:=hrd (a2,r2) (by simp);have hA:H4 r2:=hA;have I:∀z∈r2,0<=z/\z<4:=I;dsimp only at hdn hth;have hc:=agr a0 a1 a2 r0 r1 r2 h d th (by omega) (by omega) (by omega) hdn hth;refine cI ?_;unfold lh aX bf bp ch dA jt dw cR fc nM bd tO bB aF;rcases hk with rfl|rfl
  .have ra:r2.contains t=aj:=ra rfl;obtain⟨J,U,q3⟩:=srt8 hA I t0 M (by simpa using ra);simp only[h1,hc,aV,bn,tC];refine aZ (λx=>x=(0,(h,d,th),0,(((a0,r0),(a1,r1),a2)),ai,xF r2 [t])) ?_ ?_
   .refine bh (by simp;omega) (by omega) (aU J (bg ?_ (aU U (bg ?_ (ar ?_)))))
    .rw[q3];simp
    .simp
    .rfl
   rintro x rfl;exact ar rfl
  .have rr:r2.contains t=ai:=rr rfl;have J:=del8 hA I t0 M rr;simp only[h1,hc,aV,bn,tC];refine aZ (λx=>x=(0,(h,d,th),0,(((a0,r0),(a1,r1),a2)),aj,wo r2 t)) ?_ ?_
   .exact aU J (bg (by simp) (ar rfl))
   rintro x rfl;exact ar rfl
theorem amk {n:Nat} (w:WT) (s:SY) (hs:SB n s) (hn:n<=900) (I:w.2.2.1.length<=1000) (t k o u:Int) (he:EN w s t k o) (hr:WS w s t k o) (h2:k=8\/k=9->o=2) (M:s.1.length=3) (hA:∀l∈s.1,H4 l.2/\∀z∈l.2,0<=z/\z<4) (J:t<4):sa (w,s,t,k,o,u)=af ((rn w s t k o u).1,(rn w s t k o u).2,ai):=by
 unfold sa;by_cases hk:k=8\/k=9
 .have:=h2 hk;subst this;have hg:=hA _ (bJ (T:=AK) (xs:=s.1) (j:=2) (by omega) (by omega));rw[ai4 w s hs (by omega) I t k 2 u he hr hk,ai2 w s hs hn I t k u he hr hk M hg.1 hg.2 J];rfl
 .rw[ai3 w s hs (by omega) I t k o u he hr (λh=>hk (.inl h)) λh=>hk (.inr h)];rfl
theorem X_ (l:η) (h:l.length<=100000):zC l=af l:=cI (bh (by omega) (by omega) (ar rfl))
theorem ags (l:η) (h:l.length<=100000):pg l=af l:=cI (bh (by omega) (by omega) (ar rfl))
theorem aoq {n:Nat} (w:WT) (s:SN) (e:ET) (hs:NB n s) (hn:n<=900) (U:w.2.2.1.length<=1000) (Y:F16 w s) (J:EN w s.1 e.1 e.2.1 e.2.2.1) (hS:S16 w s e) (ld:e.2.2.2.2.2.1.length<=1000000) (lf:e.2.2.2.2.2.2.length<=1000000) (h2:e.2.1=8\/e.2.1=9->e.2.2.1=2) (h3:s.1.1.length=3) (hA:∀l∈s.1.1,H4 l.2/\∀z∈l.2,0<=z/\z<4) (t4:e.1<4):fU (w,s,e)=af (nxP w s e,ai):=by
 refine cI ?_;obtain⟨rd,q1,q2,de,fr,nd,nf,va⟩:=id hS;obtain⟨nm,t0,t1,cd,e1,e2,e3⟩:=id J;obtain⟨k1,k2,ce,lk,cn,th,fu,_,_,_⟩:=nm;obtain⟨f1,f2,f3⟩:=id Y;have hsc:=hs.c;have hsf:=hs.f;have hsk:=hs.k;unfold fU aX bf bp bL dw cR ck bd bz iT kl aY aF cF;refine aZ (λx=>x=(aj,w,s,e,0)) ?_ ?_
 .refine aU (anl w s U _ _ _ J Y) (fP rfl (dv (eV (λg=>(by dsimp only[au]at g;omega)) λ_=>dv (ar ?_))));rw[gi.2 (show e.2.1<=23 by omega)]
 rintro x rfl;refine gw (aZ (λx=>x=(aj,w,s,e,0)) ?_ ?_)
 .exact aU (Ep w s.1 hs.sb (by omega) U _ _ _ J rd) (fP rfl (aU (afh w e q1 q2) (fP rfl (aU (Sv w s e (λh=>ce h) de fr t0 (by rw[f3];exact t1) nd nf ld lf) (fP rfl (aU (af3 w s hs.sb e Y J va) (ar rfl)))))))
 rintro x rfl;refine gw (aZ (λx=>x.2=(w,s,e,0)/\rn w s.1 e.1 e.2.1 e.2.2.1 x.1=rn w s.1 e.1 e.2.1 e.2.2.1 e.2.2.2.1) ?_ ?_)
 .exact aK (λ_=>ar ⟨rfl,rfl⟩) λh=>ar ⟨rfl,Yk _ _ _ _ _ _ _ h⟩
 rintro⟨u,x⟩ ⟨Z,hu⟩;dsimp only at Z hu;subst Z;refine aU (amk w s.1 hs.sb hn U _ _ _ u J rd h2 h3 hA t4) (fP rfl (aU (X_ _ (by dsimp only;omega)) (aU (X_ _ (by dsimp only;omega)) (aU (ags _ (by dsimp only;omega)) ?_))));rw[hu];refine aZ (λx=>x.1=e/\x.2.2.1=(rn w s.1 e.1 e.2.1 e.2.2.1 e.2.2.2.1).1/\x.2.2.2.1=ZJ s.2.1 e/\x.2.2.2.2.1=fuP s.2.2.1 e/\x.2.2.2.2.2=s.2.2.2) ?_ ?_
 .unfold ZJ fuP;refine aK (λh=>?_) λh=>aK (λh'=>?_) λh'=>ar ⟨rfl,rfl,(ay h).symm,(ay h').symm,rfl⟩
  .have h:e.2.1=4:=h;have I:=ce (.inr h);exact aR I.1 (by rw[f1];exact I.2) (aR I.1 (by rw[f1];exact I.2) (ar ⟨rfl,rfl,(aD h).symm,(ay (by omega)).symm,rfl⟩))
  .have h:e.2.1=22:=h';have I:=fu (.inl h);exact aR I.1 (by rw[f2];exact I.2) (aR I.1 (by rw[f2];exact I.2) (ar ⟨rfl,rfl,(ay (by omega)).symm,(aD h).symm,rfl⟩))
 rintro⟨x1,x2,x3,x4,x5,x6⟩ ⟨h1,h2,h4,h5,h6⟩;simp only at h1 h2 h4 h5 h6;subst h1;subst h2;subst h4;subst h5;subst h6;have M:x1.1<(s.2.2.2.length:Int):=by rw[f3];exact t1
 exact aR t0 M (aR t0 M (aS (aR t0 M (aR t0 M (ar rfl)))))
theorem ZN (r:θ) (e:ET) (h1:∀y∈e.2.2.2.2.2.1,0<=y/\r.getD y.toNat aj=ai) (h2:∀y∈e.2.2.2.2.2.2,0<=y/\r.getD y.toNat aj=ai) (ld:e.2.2.2.2.2.1.length<=1000000) (I:e.2.2.2.2.2.2.length<=1000000):cr (r,e)=af ai:=by
 refine cI ?_;unfold cr kw dA kK bz iT bB bF aY cK aF cF;refine ju 2 (by omega) (λi x=>x=(i:Int)) ?_ ?_ rfl
 .rintro i x hi rfl;refine bI (λ_=>?_) λg=>(by omega)
  refine di (eA (by omega) (Av (by omega) (aS ?_)));have hr:∃l:η,aJ (T:=.sl (.int .i64)) [e.2.2.2.2.2.1,e.2.2.2.2.2.2] (i:Int)=l/\(∀y∈l,0<=y/\r.getD y.toNat aj=ai)/\l.length<=1000000:=by
   match i,hi with
   |0,_=>exact⟨_,rfl,h1,ld⟩
   |1,_=>exact⟨_,rfl,h2,I⟩
  obtain⟨l,J,hA,hl⟩:=hr;have er':aJ (T:=.sl aM) [e.2.2.2.2.2.1,e.2.2.2.2.2.2] (i:Int)=l:=J;dsimp only at er' ⊢;rw[er'];refine ju l.length (by omega) (λj x=>x=(j:Int)) ?_ ?_ rfl
  .rintro j x hj rfl;refine du ?_;have m:=hA _ (bJ (T:=.int .i64) (xs:=l) (j:=(j:Int)) (by omega) (by omega));refine cg (aS (aZ (λx=>x=aj) ?_ ?_))
   .revert m;generalize aJ (T:=.int .i64) l (j:Int)=z;intro m;have M:z.toNat<r.length:=by
     rcases cf z.toNat r.length with g|g
     .exact g
     .have:=m.2;rw[aA,bR g]at this;cases this
    refine bI (λg=>(by have:=m.1;omega)) λ_=>eV (λg=>(by have:=m.1;dsimp only[au]at g;omega)) λ_=>aR m.1 (by have:=m.1;omega) (aS (ar ?_))
    have:aJ (T:=.bool) r z=ai:=m.2;show (!aJ (T:=.bool) r z)=aj;rw[this];rfl
   rintro x rfl;exact gw (ar (gO (by omega)))
  .rintro x rfl;exact dv (ar (gO (by omega)))
 .rintro x rfl;exact bI (λg=>(by omega)) λ_=>ar rfl
abbrev W8 (n:Nat) (s:List π):WT:=(C0,Hl,MY,Ug,wB.take n,s)
theorem WX.w8 {w:WT} (U:WX w):∃n,(n=1\/n=2\/n=3\/n=4)/\w=W8 n w.2.2.2.2.2:=by
 obtain⟨h1,h2,M,J,⟨n,n1,Y,I⟩,_,_⟩:=U;obtain⟨c,l,d,f,t,s⟩:=w;dsimp only at h1 h2 M J I;subst h1;subst h2;subst M;subst J;subst I;exact⟨n,by omega,rfl⟩
abbrev sn8 (w:WT):SN:=(QE w,ce0 w,fu0 w,aG w.2.2.2.2.1.length 0)
theorem IK (s:List π):dk (W8 1 s)=af (sn8 (W8 1 s)):=by kernel_rfl
theorem st2 (s:List π):dk (W8 2 s)=af (sn8 (W8 2 s)):=by kernel_rfl
theorem st3 (s:List π):dk (W8 3 s)=af (sn8 (W8 3 s)):=by kernel_rfl
theorem st4 (s:List π):dk (W8 4 s)=af (sn8 (W8 4 s)):=by kernel_rfl
theorem CA {w:WT} (I:WX w):dk w=af (sn8 w):=by
 obtain⟨n,hn,e⟩:=I.w8;rw[e];rcases hn with rfl|rfl|rfl|rfl
 .exact IK _
 .exact st2 _
 .exact st3 _
 .exact st4 _
abbrev VN4:List ζ:=[[120],[121],[118],[113]]
theorem vc8:gZ C0=af (VN4,ai):=by kernel_rfl
theorem vn1 (s:List π):dP (W8 1 s,VN4)=af ai:=by kernel_rfl
theorem vn2 (s:List π):dP (W8 2 s,VN4)=af ai:=by kernel_rfl
theorem vn3 (s:List π):dP (W8 3 s,VN4)=af ai:=by kernel_rfl
theorem vn4 (s:List π):dP (W8 4 s,VN4)=af ai:=by kernel_rfl
theorem vs8 {w:WT} (M:WX w) (hb:VL w):gd w=af ai:=by
 have hv:=M.v;have hs:=M.s;have ht:=hb.t0;unfold SV0 at hv;refine cI ?_;unfold gd kP aX bf ch cR bz iR bF aY cK aF cF;refine ju w.2.2.2.2.2.length (by omega) (λi x=>∃t n:Int,x=((t,n,(i:Int)),w)/\LL w.2.2.2.2.1.length (w.2.2.2.2.2.take i)=af (t,n)/\0<=t/\t<w.2.2.2.2.1.length/\0<=n/\n<=i) ?_ ?_ ⟨0,0,rfl,rfl,by omega,by omega,by omega,by omega⟩
 .rintro i x hi ⟨t,n,rfl,h1,t0,t1,n0,n1⟩;refine du ?_;refine cg (aS ?_);have h2:=Xh hv (i+1);have I:LL w.2.2.2.2.1.length (w.2.2.2.2.2.take (i+1))=Uv w.2.2.2.2.1.length (af (t,n)) (aJ (T:=yz) w.2.2.2.2.2 (i:Int)):=by rw[IL hi,h1]
  rw[I]at h2;dsimp only;revert h2 I;change _->_->Ok _ _;generalize aJ (T:=yz) w.2.2.2.2.2 (i:Int)=z;intro h2 I;obtain⟨(a:Int),(b:Int),(c:Int)⟩:=z;have Y:(a=t/\b=n)\/(t<a/\a<w.2.2.2.2.1.length/\b=0):=by
   simp only[Uv]at h2;split at h2
   .rename_i h;exact .inl h
   .split at h2
    .rename_i h;exact .inr h
    .exact (h2 rfl).elim
  refine aZ (λx=>x=(aj,w,a,b,c)) ?_ ?_
  .refine dv (ar ?_);dsimp only;rw[me.2 (by dsimp only[au];omega)]
  rintro x rfl;refine gw ?_;rcases Y with ⟨rfl,rfl⟩|⟨U,J,rfl⟩
  .refine aZ (λx=>x=((a,b),w,a,b,c)) (dv (ar rfl)) ?_;rintro x rfl;refine ci (λg=>(g rfl).elim) λ_=>ar ⟨a,b+1,?_,?_,t0,t1,by omega,by omega⟩
   .dsimp only;rw[ic (n:=b+1) (by omega) (by omega),gO (by omega)]
   .rw[I];simp[Uv]
  .refine aZ (λx=>x=((a,0),w,a,0,c)) (du (ar rfl)) ?_;rintro x rfl;refine ci (λg=>(g rfl).elim) λ_=>ar ⟨a,1,?_,?_,by omega,J,by omega,by omega⟩
   .dsimp only;rw[ic (n:=0+1) (by omega) (by omega),gO (by omega)];rfl
   .rw[I];show (if a=t/\(0:Int)=n then af (t,n+1) else if t<a/\a<_/\(0:Int)=0 then af (a,1) else ah)=af (a,1);rw[ay (by omega),aD ⟨U,J,rfl⟩]
 .rintro x ⟨t,n,rfl,_⟩;exact dv (ar rfl)
theorem VW8 {w:WT} (M:WX w) (hb:VL w):dQ w=af ai:=by
 have hs:=vs8 M hb;have hvn:dP (w,VN4)=af ai:=by
  obtain⟨n,hn,e⟩:=M.w8;rw[e];rcases hn with rfl|rfl|rfl|rfl
  .exact vn1 _
  .exact vn2 _
  .exact vn3 _
  .exact vn4 _
 have hc:=M.c;have hd:=M.d;have hl:=M.l;obtain⟨w1,w2,w3,U,J,I⟩:=w;obtain⟨b1,b2,b3,b4,b0,Z,Y⟩:=hb;dsimp only at hc hd hl b1 b2 b3 b4 Z Y b0;subst hc;subst hd;subst hl;refine cI ?_;unfold dQ kQ aX bf ch cR bz bF aY cK aF cF;have f:∀n m:Nat,n<=m->fV (m:Int) (aO n)=aj:=λn m h=>gi.2 (by dsimp only[au];omega)
 refine aZ (λx=>x=(aj,C0,Hl,MY,U,J,I)) ?_ ?_
 .refine fP rfl (fP rfl (fP rfl (fP (f _ 2 b4) (ar ?_))));rw[show fV 60 (aO (al I))=aj from f _ 60 Y]
 rintro x rfl;refine gw (aZ (λx=>x=(aj,C0,Hl,MY,U,J,I)) ?_ ?_)
 .refine fP (gi.2 (by dsimp only[au];omega)) (ar ?_);rw[show fV 4 (aO (al J))=aj from f _ 4 Z]
 rintro x rfl;refine gw (aU vc8 (aZ (λx=>x=(aj,C0,Hl,MY,U,J,I)) ?_ ?_))
 .exact gw (aU hvn (ar rfl))
 rintro x rfl;refine gw (ju 1 (by omega) (λi x=>x=((i:Int),C0,Hl,MY,U,J,I)) ?_ ?_ rfl)
 .rintro i x hi rfl;have:i=0:=by omega
  subst this;refine fI rfl (bg rfl (aS (aU (x:=ai) ?_ (gw (ar rfl)))));rfl
 .rintro x rfl;exact fP rfl (aU (x:=ai) (by rw[hs];rfl) (ar rfl))
abbrev eN (l:List ET) (i:Nat):ET:=aJ (T:=tE) l (i:Int)
theorem Cp {l:List ET} {i:Nat} (h:i<l.length):eN l i∈l:=bJ (T:=tE) (by omega) (by omega)
theorem ak8 {l:List ET} {e:ET} {i:Nat} (h:i<l.length):eN (l++[e]) i=eN l i:=by
 unfold eN;rw[zK,zK,aA,aA,bK h]
theorem agf (l:List ET) (e:ET):eN (l++[e]) l.length=e:=by
 unfold eN;rw[zK,aA,bW (bX _),vw];rfl
def N' (w:WT) (l:List ET):SY×η×η:=l.foldl (λs e=>((rn w s.1 e.1 e.2.1 e.2.2.1 e.2.2.2.1).1,ZJ s.2.1 e,fuP s.2.2 e)) (QE w,ce0 w,fu0 w)
theorem TU (w:WT) {l:List ET} {i:Nat} (h:i<l.length):N' w (l.take (i+1))=((rn w (N' w (l.take i)).1 (eN l i).1 (eN l i).2.1 (eN l i).2.2.1 (eN l i).2.2.2.1).1,ZJ (N' w (l.take i)).2.1 (eN l i),fuP (N' w (l.take i)).2.2 (eN l i)):=by
 rw[mP (T:=tE) h];unfold N';rw[dR];rfl
theorem Acw.all {w:WT} {l:List ET} {sy:SY} {ce fu:η} (h:Acw w l sy ce fu):N' w l=(sy,ce,fu)/\∀i,i<l.length->SCx w (l.take i) (N' w (l.take i)).1 (N' w (l.take i)).2.1 (N' w (l.take i)).2.2 (eN l i):=by
 induction h with
 |nil=>exact⟨rfl,λi hi=>cY hi (xA _)⟩
 |snoc h hs I=>
  rename_i l sy ce fu e;obtain⟨h1,h2⟩:=I;refine ⟨by unfold N' at h1 ⊢;rw[dR,h1];rfl,λi hi=>?_⟩;rw[bx,dS]at hi;rcases cf i l.length with g|g
  .rw[lw (by omega),ak8 g];exact h2 i g
  .have:i=l.length:=by omega
   subst this;rw[lw (bX _),cX,agf,h1];exact hs
theorem TR.sc {w:WT} {l:List ET} (tr:TR (w,l)) {i:Nat} (h:i<l.length):SCx w (l.take i) (N' w (l.take i)).1 (N' w (l.take i)).2.1 (N' w (l.take i)).2.2 (eN l i):=by
 obtain⟨sy,ce,fu,ac⟩:=tr.ac;exact ac.all.2 i h
def Nl (w:WT) (l:List ET):HS:=l.foldl (λh e=>(F4 w h (evP e)).1) (HS.zero w)
def bZ (l:List ET) (i:Nat):EV:=evP (eN l i)
def It (w:WT) (l:List ET) (i:Nat):η:=t_ w (Nl w (l.take i)) (bZ l i)
theorem Dl (w:WT) {l:List ET} {i:Nat} (h:i<l.length):Nl w (l.take (i+1))=ie w (Nl w (l.take i)) (bZ l i) (It w l i):=by
 rw[mP (T:=tE) h];unfold Nl;rw[dR];rfl
theorem O9 {w:WT} {l:List ET} (tr:TR (w,l)):∀i:Nat,i<=l.length->Qy (i:Int) (Nl w (l.take i))/\Yt w (Nl w (l.take i))
 |0,_=>by
  have wb:=tr.wb;dsimp only at wb;exact⟨HS.zero_ok (by have:=wb.c;omega) (by have:=wb.l;omega) (by have:=wb.f;omega) (by have:=wb.t;omega),Yt.zero w⟩
 |i+1,h=>by
  obtain⟨o,I⟩:=O9 tr i (by omega);have hl:=tr.len;dsimp only at hl;have ok:=PD (tr.ev _ (Cp (l:=l) (i:=i) (by omega))) tr.wb I;rw[Dl w (by omega)];exact⟨ab2 (w:=w) (e:=bZ l i) o (by omega) ok.th4,I.step (bZ l i)⟩
theorem Cl {w:WT} {l:List ET} (tr:TR (w,l)) {i:Nat} (h:i<l.length):EOK w (Nl w (l.take i)) (bZ l i):=PD (tr.ev _ (Cp h)) tr.wb (O9 tr i (by omega)).2
theorem oy {w:WT} {l:List ET} (tr:TR (w,l)) {i:Nat} (h:i<l.length):EvT (bZ l i) (eN l i):=anp (tr.ev _ (Cp h))
def LE (a b:η):Prop:=a.length<=b.length/\∀k,a.getD k 0<=b.getD k 0
theorem LE.refl (a:η):LE a a:=⟨bX _,λ_=>eB _⟩
theorem LE.trans {a b c:η} (h:LE a b) (g:LE b c):LE a c:=⟨dg h.1 g.1,λk=>Int.le_trans (h.2 k) (g.2 k)⟩
theorem LE.jl {a b:η} (h:LE a b):jl a b=b:=uh (by rw[oc];have:=h.1;omega) λi=>by rw[pJ,kr];have:=h.2 i;omega
theorem am5 (a b:η):LE a (jl a b):=⟨by rw[oc];omega,λk=>by rw[pJ,kr];omega⟩
theorem LE_r (a b:η):LE b (jl a b):=⟨by rw[oc];omega,λk=>by rw[pJ,kr];omega⟩
theorem ajg (a:η) (t:Nat):LE a (tk a t):=⟨by rw[EB];omega,λk=>by rw[uq];split<;>(try subst k)<;>omega⟩
theorem El:∀(l:List η) (c:η),LE c (l.foldl jl c)
 |[],c=>LE.refl c
 |x::r,c=>(am5 c x).trans (El r _)
theorem aip (w:uY) (h:HS) (e:EV):LE (h.T.getD e.th []) (t_ w h e):=(El _ _).trans (ajg _ _)
theorem ny {α:Type} (l:List α) (i j:Nat) (x d:α):(l.set i x).getD j d=if i=j/\i<l.length then x else l.getD j d:=by
 rw[aA,o_];by_cases e:i=j
 .subst e;by_cases g:i<l.length
  .rw[aD rfl,aD g,aD ⟨rfl,g⟩];rfl
  .rw[aD rfl,ay g,ay λq=>g q.2,aA,bR (by omega)]
 .rw[ay e,ay λq=>e q.1,aA]
structure ml (P:η->Prop) (h:HS):Prop where
 T:∀u,P (h.T.getD u [])
 S:∀u,P (h.S.getD u [])
 L:∀u,P (h.L.getD u [])
 R:∀u,P (h.R.getD u [])
 C:∀u,P (h.C.getD u [])
 F:∀u,P (h.F.getD u [])
 X:P h.X
 N:∀u,P (h.N.getD u [])
theorem ml.mono {P Q:η->Prop} {h:HS} (a:ml P h) (g:∀x,P x->Q x):ml Q h:=⟨λu=>g _ (a.T u),λu=>g _ (a.S u),λu=>g _ (a.L u),λu=>g _ (a.R u),λu=>g _ (a.C u),λu=>g _ (a.F u),g _ a.X,λu=>g _ (a.N u)⟩
theorem ml.set {P:η->Prop} {l:List η} {c:η} (h:∀u,P (l.getD u [])) (hc:P c) (i:Nat):∀u,P ((l.set i c).getD u []):=λu=>by
 rw[ny];split
 .exact hc
 .exact h u
theorem ml.repl {P:η->Prop} (h:P []) (n:Nat):∀u,P ((aG n []).getD u []):=λu=>by
 rw[aA,lE];split<;>exact h
theorem ml.zero {P:η->Prop} (h:P []) (w:uY):ml P (HS.zero w):=⟨ml.repl h _,ml.repl h _,ml.repl h _,ml.repl h _,ml.repl h _,ml.repl h _,h,ml.repl h _⟩
theorem ml.step {P:η->Prop} (hj:∀a b,P a->P b->P (jl a b)) {w:uY} {h:HS} (a:ml P h) (e:EV) {c:η} (hc:P c):ml P (ie w h e c):=by
 have b:ml P {h with T:=h.T.set e.th c}:={a with T:=ml.set a.T hc _}
 unfold ie;simp only[];repeat' split
 .exact {b with S:=ml.set a.S hc _}
 .exact {b with L:=ml.set a.L (hj _ _ (a.L _) hc) _}
 .exact {b with R:=ml.set a.R (hj _ _ (a.R _) hc) _}
 .exact {b with L:=ml.set a.L (hj _ _ (a.L _) hc) _}
 .exact {b with C:=ml.set a.C (hj _ _ (a.C _) hc) _}
 .exact b
 .exact {b with F:=ml.set a.F (hj _ _ (a.F _) hc) _}
 .exact {b with X:=hj _ _ a.X hc}
 .exact {b with N:=ml.set a.N hc _}
 .exact b
 .refine {b with N:=λu=>?_};have:=a.N u;simp only[CO];rw[aA]at this ⊢;rw[Ev];cases I:h.N[u]? with
  |none=>rw[I]at this;exact this
  |some x=>
   rw[I]at this;simp only[co,vu];split
   .exact hc
   .exact this
 .exact b
theorem ml.src {P:η->Prop} {w:uY} {h:HS} (a:ml P h) (e:EV):∀x∈qh w h e,P x:=by
 intro c hc;unfold qh at hc;repeat' (split at hc)
 all_goals simp only[bm,cD,gh]at hc
 .subst hc;exact a.S _
 .subst hc;exact a.T _
 .rcases hc with rfl|rfl
  .exact a.L _
  .exact a.R _
 .subst hc;exact a.L _
 .rcases hc with rfl|rfl|rfl
  .exact a.L _
  .exact a.R _
  .exact a.N _
 .subst hc;exact a.C _
 .subst hc;exact a.F _
 .subst hc;exact a.X
theorem Pv {P:η->Prop} (hj:∀a b,P a->P b->P (jl a b)):∀(l:List η) (c:η),P c->(∀x∈l,P x)->P (l.foldl jl c)
 |[],_,hc,_=>hc
 |x::r,_,hc,h=>Pv hj r _ (hj _ _ hc (h x (dh ..))) λy I=>h y (cM _ I)
theorem XZ (w:uY) (h:HS) (e:EV) (c:η):(ie w h e c).T=h.T.set e.th c:=by
 unfold ie;simp only[];repeat' split
 all_goals rfl
def Cx (l:List ET) (u:Nat):Nat->Nat
 |0=>0
 |i+1=>if (bZ l i).th=u then Cx l u i+1 else Cx l u i
theorem Tv (l:List ET) (u i:Nat):∀j,Cx l u i<=Cx l u (i+j)
 |0=>bX _
 |j+1=>by
  have:=Tv l u i j;show Cx l u i<=Cx l u (i+j+1);rw[Cx];split<;>omega
theorem P5 (l:List ET) (u:Nat) {i j:Nat} (h:i<=j):Cx l u i<=Cx l u j:=by
 obtain⟨k,rfl⟩:∃k,j=i+k:=⟨j-i,by omega⟩
 exact Tv l u i k
theorem AH (l:List ET) (i:Nat):Cx l (bZ l i).th (i+1)=Cx l (bZ l i).th i+1:=by rw[Cx,aD rfl]
structure Gd (w:WT) (l:List ET) (i:Nat) (x:η):Prop where
 le:∀u,x.getD u 0<=(Cx l u i:Int)
 dn:∀k,k<i->(Cx l (bZ l k).th k:Int)+1<=x.getD (bZ l k).th 0->LE (It w l k) x
theorem Gd.nil (w:WT) (l:List ET) (i:Nat):Gd w l i []:=⟨λu=>by simp,λk _ h=>by simp at h;omega⟩
theorem Gd.jl {w:WT} {l:List ET} {i:Nat} (a b:η) (I:Gd w l i a) (hb:Gd w l i b):Gd w l i (jl a b):=by
 refine ⟨λu=>?_,λk hk h=>?_⟩
 .rw[pJ,kr];have:=I.le u;have:=hb.le u;omega
 .rw[pJ,kr]at h;by_cases g:(Cx l (bZ l k).th k:Int)+1<=a.getD (bZ l k).th 0
  .exact (I.dn k hk g).trans (am5 _ _)
  .exact (hb.dn k hk (by omega)).trans (LE_r _ _)
theorem Gd.succ {w:WT} {l:List ET} {i:Nat} {x:η} (h:Gd w l i x):Gd w l (i+1) x:=by
 refine ⟨λu=>?_,λk hk g=>?_⟩
 .have:=h.le u;have:=P5 l u (show i<=i+1 by omega);omega
 .by_cases e:k=i
  .subst e;have:=h.le (bZ l k).th;omega
  .exact h.dn k (by omega) g
structure GS1 (w:WT) (l:List ET) (i:Nat) (h:HS):Prop where
 a:ml (Gd w l i) h
 t:∀u,(h.T.getD u []).getD u 0=(Cx l u i:Int)
theorem Qd {w:WT} {l:List ET} {i:Nat} (g:GS1 w l i (Nl w (l.take i))):Gd w l (i+1) (It w l i)/\(It w l i).getD (bZ l i).th 0=(Cx l (bZ l i).th i:Int)+1:=by
 have J:Gd w l i ((qh w (Nl w (l.take i)) (bZ l i)).foldl AI.jl ((Nl w (l.take i)).T.getD (bZ l i).th [])):=Pv Gd.jl _ _ (g.a.T _) (g.a.src (w:=w) _);have M:=g.t (bZ l i).th;have hL:=El (qh w (Nl w (l.take i)) (bZ l i)) ((Nl w (l.take i)).T.getD (bZ l i).th []);have U:=(g.a.T (bZ l i).th).dn;have I:=aip w (Nl w (l.take i)) (bZ l i);have e:(It w l i).getD (bZ l i).th 0=(Cx l (bZ l i).th i:Int)+1:=by
  unfold It t_;rw[uq,aD rfl];have:=hL.2 (bZ l i).th;have:=J.le (bZ l i).th;omega
 refine ⟨⟨λu=>?_,λk hk h=>?_⟩,e⟩
 .by_cases hu:(bZ l i).th=u
  .subst hu;rw[e,AH];omega
  .have:=J.le u;unfold It t_;rw[uq,ay λq=>hu q.symm,Cx,ay hu];exact this
 .by_cases hki:k=i
  .subst hki;exact LE.refl _
  have hk:k<i:=by omega
  by_cases hu:(bZ l k).th=(bZ l i).th
  .refine (U k hk ?_).trans I;rw[hu,M];have:=P5 l (bZ l k).th (show k+1<=i from hk);rw[AH,hu]at this;omega
  .refine (J.dn k hk ?_).trans (ajg _ _);unfold It t_ at h;rw[uq,ay hu]at h;exact h
theorem Jt {w:WT} {l:List ET} (tr:TR (w,l)):∀i:Nat,i<=l.length->GS1 w l i (Nl w (l.take i))
 |0,_=>⟨ml.zero (Gd.nil w l 0) w,λu=>by have:=ml.repl (P:=λx=>x.getD u 0=0) (by simp) w.2.2.2.2.1.length u;exact this⟩
 |i+1,h=>by
  have g:=Jt tr i (by omega);obtain⟨J,I⟩:=Qd g;have ht:=(Cl tr (show i<l.length by omega)).th;rw[Dl w (by omega)];refine ⟨ml.step Gd.jl (g.a.mono λx h=>h.succ) _ J,λu=>?_⟩;rw[XZ,ny];by_cases hu:(bZ l i).th=u
  .subst hu;rw[aD ⟨rfl,ht⟩,I,AH];omega
  .rw[ay λq=>hu q.1,g.t u,Cx,ay hu]
theorem X' {w:WT} {l:List ET} (tr:TR (w,l)) {i:Nat} (h:i<l.length):(It w l i).getD (bZ l i).th 0=(Cx l (bZ l i).th i:Int)+1:=(Qd (Jt tr i (by omega))).2
theorem ad8 {w:WT} {l:List ET} (tr:TR (w,l)) {i:Nat} (h:i<l.length):Gd w l (i+1) (It w l i):=(Qd (Jt tr i (by omega))).1
def Cov (w:WT) (l:List ET) (k j:Nat):Prop:=(Cx l (bZ l k).th k:Int)+1<=(It w l j).getD (bZ l k).th 0
theorem Cov.le {w:WT} {l:List ET} (tr:TR (w,l)) {k j:Nat} (hk:k<=j) (hj:j<l.length) (h:Cov w l k j):LE (It w l k) (It w l j):=(ad8 tr hj).dn k (by omega) h
theorem Cov.of {w:WT} {l:List ET} (tr:TR (w,l)) {k j:Nat} (hk:k<l.length) (h:LE (It w l k) (It w l j)):Cov w l k j:=by
 have:=h.2 (bZ l k).th;rw[X' tr hk]at this;exact this
theorem Cov.own {w:WT} {l:List ET} (tr:TR (w,l)) {k j:Nat} (hk:k<j) (hj:j<l.length) (h:(bZ l k).th=(bZ l j).th):Cov w l k j:=by
 unfold Cov;rw[h,X' tr hj];have:=P5 l (bZ l k).th (show k+1<=j from hk);rw[AH,h]at this;omega
theorem Cov.trans {w:WT} {l:List ET} (tr:TR (w,l)) {i j k:Nat} (hi:i<=j) (hj:j<=k) (hk:k<l.length) (h:Cov w l i j) (g:Cov w l j k):Cov w l i k:=Cov.of tr (by omega) ((h.le tr hi (by omega)).trans (g.le tr hj hk))
def vh (w:WT) (l:List ET) (cl:Nat->η):Nat->HS
 |0=>HS.zero w
 |i+1=>ie w (vh w l cl i) (bZ l i) (cl i)
abbrev LM (w:WT) (l:List ET) (cl:Nat->η) (i:Nat):η:=t_ w (vh w l cl i) (bZ l i)
def CL (w:WT) (l:List ET) (cl:Nat->η):Prop:=∀i,i<l.length->cl i=LM w l cl i\/∃s,s<i/\cl i=jl (LM w l cl i) (cl s)
theorem CL.le {w:WT} {l:List ET} {cl:Nat->η} (C:CL w l cl) {i:Nat} (h:i<l.length):LE (LM w l cl i) (cl i):=by
 rcases C i h with e|⟨s,_,e⟩
 .rw[e];exact LE.refl _
 .rw[e];exact am5 _ _
theorem Il {w:WT} {l:List ET} {cl:Nat->η} (tr:TR (w,l)) (C:CL w l cl):∀i:Nat,i<=l.length->Qy (i:Int) (vh w l cl i)/\Yt w (vh w l cl i)/\∀k,k<i->En (i:Int) (cl k)
 |0,_=>by
  have wb:=tr.wb;dsimp only at wb;exact⟨HS.zero_ok (by have:=wb.c;omega) (by have:=wb.l;omega) (by have:=wb.f;omega) (by have:=wb.t;omega),Yt.zero w,λk hk=>by omega⟩
 |i+1,h=>by
  obtain⟨o,I,en⟩:=Il tr C i (by omega);have hl:=tr.len;dsimp only at hl;have ok:=PD (tr.ev _ (Cp (l:=l) (i:=i) (by omega))) tr.wb I;have h1:En ((i:Int)+1) (LM w l cl i):=K5 o ok.th4;have h2:En ((i:Int)+1) (cl i):=by
   rcases C i (by omega) with e|⟨s,hs,e⟩
   .rw[e];exact h1
   .rw[e];exact h1.jl ((en s hs).mono (by omega))
  refine ⟨X0 o (by omega) h2,I.ent _ _,λk hk=>?_⟩;by_cases e:k=i
  .subst e;exact h2
  .exact (en k (by omega)).mono (by omega)
section
variable {w:WT} {l:List ET} {cl:Nat->η} (tr:TR (w,l)) (C:CL w l cl) {i:Nat} (h:i<l.length)
include tr C h
theorem O_:Qy (i:Int) (vh w l cl i):=(Il tr C i (by omega)).1
theorem Vb:Yt w (vh w l cl i):=(Il tr C i (by omega)).2.1
theorem Cm:EOK w (vh w l cl i) (bZ l i):=PD (tr.ev _ (Cp h)) tr.wb (Vb tr C h)
theorem K6:En ((i:Int)+1) (cl i):=(Il tr C (i+1) h).2.2 i (by omega)
theorem adb:En ((i:Int)+1) (LM w l cl i):=K5 (O_ tr C h) (Cm tr C h).th4
end
def Cn (l:List ET) (i:Nat) (x:η):Prop:=∀u,x.getD u 0<=(Cx l u i:Int)
theorem Cn.jl {l:List ET} {i:Nat} (a b:η) (I:Cn l i a) (hb:Cn l i b):Cn l i (jl a b):=λu=>by rw[pJ,kr];have:=I u;have:=hb u;omega
theorem Cn.mono {l:List ET} {i j:Nat} {x:η} (h:Cn l i x) (g:i<=j):Cn l j x:=λu=>by have:=h u;have:=P5 l u g;omega
theorem P' {w:WT} {l:List ET} {cl:Nat->η} (tr:TR (w,l)) (C:CL w l cl):∀i:Nat,i<=l.length->ml (Cn l i) (vh w l cl i)/\(∀u,((vh w l cl i).T.getD u []).getD u 0=(Cx l u i:Int))/\∀k,k<i->Cn l (k+1) (cl k)
 |0,_=>⟨ml.zero (λu=>by simp[Cx]) w,λu=>by have:=ml.repl (P:=λx=>x.getD u 0=0) (by simp) w.2.2.2.2.1.length u;exact this,λk hk=>by omega⟩
 |i+1,h=>by
  obtain⟨a,t,c⟩:=P' tr C i (by omega);have ok:=Cm tr C (show i<l.length by omega);have I:Cn l i ((qh w (vh w l cl i) (bZ l i)).foldl AI.jl ((vh w l cl i).T.getD (bZ l i).th [])):=Pv Cn.jl _ _ (a.T _) (a.src (w:=w) _);have hL:=(El (qh w (vh w l cl i) (bZ l i)) ((vh w l cl i).T.getD (bZ l i).th [])).2 (bZ l i).th;have h1:Cn l (i+1) (LM w l cl i)/\(LM w l cl i).getD (bZ l i).th 0=(Cx l (bZ l i).th i:Int)+1:=by
   have ht:=t (bZ l i).th;have hj:=I (bZ l i).th;refine ⟨λu=>?_,?_⟩
   .unfold LM t_;rw[uq];by_cases e:u=(bZ l i).th
    .subst e;rw[aD rfl,AH];omega
    .rw[ay e,Cx,ay λq=>e q.symm];exact I u
   .unfold LM t_;rw[uq,aD rfl];omega
  have h2:Cn l (i+1) (cl i)/\(cl i).getD (bZ l i).th 0=(Cx l (bZ l i).th i:Int)+1:=by
   rcases C i (by omega) with e|⟨s,hs,e⟩
   .rw[e];exact h1
   .have hc:=(c s hs).mono (show s+1<=i by omega);rw[e];refine ⟨h1.1.jl _ _ (hc.mono (by omega)),?_⟩;have:=hc (bZ l i).th;rw[pJ,kr,h1.2];omega
  refine ⟨ml.step Cn.jl (a.mono λx q=>Cn.mono q (by omega)) _ h2.1,λu=>?_,λk hk=>?_⟩
  .show ((ie w (vh w l cl i) (bZ l i) (cl i)).T.getD u []).getD u 0=_;rw[XZ,ny];by_cases hu:(bZ l i).th=u
   .subst hu;rw[aD ⟨rfl,ok.th⟩,h2.2,AH];omega
   .rw[ay λq=>hu q.1,t u,Cx,ay hu]
  .by_cases e:k=i
   .subst e;exact h2.1
   .exact c k (by omega)
theorem T7 (w:uY) (o:Nat) (h:o<w.2.2.1.length) (h0:0<=(w.2.2.1.getD o ([],0)).2):rA (w,(o:Int))=af ((OU w.2.2.1 o:Nat):Int):=by
 have e1:(w.2.2.1.getD o ([],0)).2=((OU w.2.2.1 o:Nat):Int):=by unfold OU;omega
 unfold rA aX bf bp cR bz tO aY aF;simp only[];rw[sM (by omega)];simp only[cO,jm];rw[Nk (by simp;omega)];simp only[cO];rw[b8 (cS h),Pp,e1]
def Cz (w:uY) (e:EV):Int×Bool:=if e.k=6\/e.k=10 then ((e.ob:Int),aj) else if e.k=8 then ((e.ob:Int),ai) else if e.k=17 then ((OU w.2.2.1 e.ob:Nat),aj) else (-1,aj)
def AM (w:uY) (e:EV):Int×Bool:=if e.k=7\/e.k=11 then ((e.ob:Int),aj) else if e.k=9 then ((e.ob:Int),ai) else if e.k=16 then ((OU w.2.2.1 e.ob:Nat),aj) else (-1,aj)
theorem aml {w:uY} {h:HS} {e:EV} (ok:EOK w h e) {x:ETp} (hx:EvT e x):oU (w,x)=af (Cz w e):=by
 obtain⟨x1,x2,x3,x4,x5,x6,x7⟩:=x;obtain⟨w1,w2,Z,Y,U,M⟩:=w;obtain⟨th,k,ob,va⟩:=e;obtain⟨J,I,q3,q4⟩:=hx;simp only at J I q3 q4;subst J q4;unfold oU aX bf bp ch dA cR kK bd aF;rcases Ii I ok.k1 ok.k2 with ⟨e,e'⟩|⟨e,e'⟩|⟨e,e'⟩|⟨e,e'⟩|⟨e,e'⟩|⟨e,e'⟩|⟨e,e'⟩|⟨e,e'⟩|⟨e,e'⟩|⟨e,e'⟩|⟨e,e'⟩|⟨e,e'⟩|⟨e,e'⟩|⟨e,e'⟩|⟨e,e'⟩|⟨e,e'⟩|⟨e,e'⟩|⟨e,e'⟩|⟨e,e'⟩|⟨e,e'⟩|⟨e,e'⟩|⟨e,e'⟩|⟨e,e'⟩<;>clear I<;>subst e<;>subst e'
 case inr.inr.inr.inr.inr.inl=>
  obtain rfl:=q3 (by decide);simp only[aV,cB,cN,cV,cO,jm,cG];rfl
 case inr.inr.inr.inr.inr.inr.inr.inr.inr.inl=>
  obtain rfl:=q3 (by decide);simp only[aV,cB,cN,cV,cO,jm,cG];rfl
 case inr.inr.inr.inr.inr.inr.inr.inl=>
  obtain rfl:=q3 (by decide);simp only[aV,cB,cN,cV,cO,jm,cG];rfl
 case inr.inr.inr.inr.inr.inr.inr.inr.inr.inr.inr.inr.inr.inr.inr.inr.inl=>
  obtain rfl:=q3 (by decide);obtain⟨d1,d2,d3⟩:=ok.cd (.inr rfl);have mu:=T7 (w1,w2,Z,Y,U,M) ob d1 d2;simp only[aV,cB,cN,cV,cO,jm,cG,mu];rfl
 all_goals
  simp only[aV,cB,cN,cV,cO,jm,cG];rfl
theorem al3 {w:uY} {h:HS} {e:EV} (ok:EOK w h e) {x:ETp} (hx:EvT e x):oS (w,x)=af (AM w e):=by
 obtain⟨x1,x2,x3,x4,x5,x6,x7⟩:=x;obtain⟨w1,w2,Z,Y,U,M⟩:=w;obtain⟨th,k,ob,va⟩:=e;obtain⟨J,I,q3,q4⟩:=hx;simp only at J I q3 q4;subst J q4;unfold oS aX bf bp ch dA cR kK bd aF;rcases Ii I ok.k1 ok.k2 with ⟨e,e'⟩|⟨e,e'⟩|⟨e,e'⟩|⟨e,e'⟩|⟨e,e'⟩|⟨e,e'⟩|⟨e,e'⟩|⟨e,e'⟩|⟨e,e'⟩|⟨e,e'⟩|⟨e,e'⟩|⟨e,e'⟩|⟨e,e'⟩|⟨e,e'⟩|⟨e,e'⟩|⟨e,e'⟩|⟨e,e'⟩|⟨e,e'⟩|⟨e,e'⟩|⟨e,e'⟩|⟨e,e'⟩|⟨e,e'⟩|⟨e,e'⟩<;>clear I<;>subst e<;>subst e'
 case inr.inr.inr.inr.inr.inr.inl=>
  obtain rfl:=q3 (by decide);simp only[aV,cB,cN,cV,cO,jm,cG];rfl
 case inr.inr.inr.inr.inr.inr.inr.inr.inr.inr.inl=>
  obtain rfl:=q3 (by decide);simp only[aV,cB,cN,cV,cO,jm,cG];rfl
 case inr.inr.inr.inr.inr.inr.inr.inr.inl=>
  obtain rfl:=q3 (by decide);simp only[aV,cB,cN,cV,cO,jm,cG];rfl
 case inr.inr.inr.inr.inr.inr.inr.inr.inr.inr.inr.inr.inr.inr.inr.inl=>
  obtain rfl:=q3 (by decide);obtain⟨d1,d2,d3⟩:=ok.cd (.inl rfl);have mu:=T7 (w1,w2,Z,Y,U,M) ob d1 d2;simp only[aV,cB,cN,cV,cO,jm,cG,mu];rfl
 all_goals
  simp only[aV,cB,cN,cV,cO,jm,cG];rfl
theorem XI (a b:η):jl a b=jl b a:=uh (by simp only[oc];omega) λi=>by simp only[pJ,kr];omega
def JC (c:Nat->η) (p:Nat->Bool):Nat->η
 |0=>[]
 |i+1=>if p i=ai then jl (JC c p i) (c i) else JC c p i
theorem WZ (c:Nat->η) (p:Nat->Bool):∀i,(∀k,k<i->p k=aj)->JC c p i=[]
 |0,_=>rfl
 |i+1,h=>by rw[JC,h i (by omega),ay (by simp)];exact WZ c p i λk hk=>h k (by omega)
theorem Qw {c:Nat->η} {p:Nat->Bool} {i:Nat} (h:p i=ai):JC c p (i+1)=jl (JC c p i) (c i):=by rw[JC,aD h]
theorem Eo {c:Nat->η} {p:Nat->Bool} {i:Nat} (h:p i=aj):JC c p (i+1)=JC c p i:=by rw[JC,ay (by rw[h];simp)]
theorem ans (w:uY) (h:HS) (e:EV) (c:η):(ie w h e c).S=if e.k=20 then h.S.set e.ob c else h.S:=by
 unfold ie;simp only[];repeat' split
 all_goals first|rfl|omega
theorem anv (w:uY) (h:HS) (e:EV) (c:η):(ie w h e c).L=if (e.k=7\/e.k=11) then jat h.L e.ob c else if e.k=16 then jat h.L (OU w.2.2.1 e.ob) c else h.L:=by
 unfold ie;simp only[];repeat' split
 all_goals first|rfl|omega
theorem ant (w:uY) (h:HS) (e:EV) (c:η):(ie w h e c).R=if e.k=9 then jat h.R e.ob c else h.R:=by
 unfold ie;simp only[];repeat' split
 all_goals first|rfl|omega
theorem anx (w:uY) (h:HS) (e:EV) (c:η):(ie w h e c).C=if e.k=4/\IF w.1 e.ob=ai then jat h.C e.ob c else h.C:=by
 unfold ie;simp only[];repeat' split
 all_goals first|rfl|omega|(rename_i h1 h2;exact cY ⟨by assumption,by assumption⟩ h2)|(rename_i h1 h2;exact cY h2.2 h1)|(rename_i h1;exact cY h1.1 (by assumption))
theorem anw (w:uY) (h:HS) (e:EV) (c:η):(ie w h e c).F=if e.k=22 then jat h.F e.ob c else h.F:=by
 unfold ie;simp only[];repeat' split
 all_goals first|rfl|omega
theorem anq (w:uY) (h:HS) (e:EV) (c:η):(ie w h e c).X=if e.k=13 then jl h.X c else h.X:=by
 unfold ie;simp only[];repeat' split
 all_goals first|rfl|omega
theorem Di (l:List η) (i:Nat) (c:η) (o:Nat) (h:i<l.length):(jat l i c).getD o []=if i=o then jl (l.getD o []) c else l.getD o []:=by
 unfold jat;rw[ny];by_cases e:i=o
 .subst e;rw[aD ⟨rfl,h⟩,aD rfl]
 .rw[ay λq=>e q.1,ay e]
abbrev pT (l:List ET) (u k:Nat):Bool:=decide ((bZ l k).th=u)
abbrev pS (l:List ET) (u k:Nat):Bool:=decide ((bZ l k).k=20/\(bZ l k).ob=u)
abbrev pL (w:WT) (l:List ET) (x:Int×Bool) (k:Nat):Bool:=decide (AM w (bZ l k)=x)
abbrev pC (w:WT) (l:List ET) (o k:Nat):Bool:=decide ((bZ l k).k=4/\(bZ l k).ob=o/\IF w.1 o=ai)
abbrev pF (l:List ET) (o k:Nat):Bool:=decide ((bZ l k).k=22/\(bZ l k).ob=o)
abbrev pX (l:List ET) (k:Nat):Bool:=decide ((bZ l k).k=13)
structure IN (w:WT) (l:List ET) (cl:Nat->η) (i:Nat) (h:HS):Prop where
 T:∀u,h.T.getD u []=JC cl (pT l u) i
 S:∀u,h.S.getD u []=JC cl (pS l u) i
 L:∀o:Nat,h.L.getD o []=JC cl (pL w l ((o:Int),aj)) i
 R:∀o:Nat,h.R.getD o []=JC cl (pL w l ((o:Int),ai)) i
 C:∀o,h.C.getD o []=JC cl (pC w l o) i
 F:∀o,h.F.getD o []=JC cl (pF l o) i
 X:h.X=JC cl (pX l) i
theorem abb {w:uY} {e:EV} (h:e.k=7\/e.k=11):AM w e=((e.ob:Int),aj):=by unfold AM;rw[aD h]
theorem UP {w:uY} {e:EV} (h:e.k=9):AM w e=((e.ob:Int),ai):=by unfold AM;rw[ay (by omega),aD h]
theorem Xm {w:uY} {e:EV} (h:e.k=16):AM w e=((OU w.2.2.1 e.ob:Int),aj):=by unfold AM;rw[ay (by omega),ay (by omega),aD h]
theorem ajq {w:uY} {e:EV} (h:¬(e.k=7\/e.k=11)) (h1:¬e.k=9) (h2:¬e.k=16):AM w e=(-1,aj):=by unfold AM;rw[ay h,ay h1,ay h2]
theorem IN.zero (w:WT) (l:List ET) (cl:Nat->η):IN w l cl 0 (HS.zero w):=
 have r:∀n:Nat,∀u,(aG n ([]:η)).getD u []=[]:=λn=>ml.repl (P:=λx=>x=[]) rfl n
 ⟨r _,r _,λ_=>r _ _,λ_=>r _ _,r _,r _,rfl⟩
theorem IN.step {w:WT} {l:List ET} {cl:Nat->η} {i:Nat} {h:HS} (a:IN w l cl i h) (n:Int) (o:Qy n h) (hcT:LE (h.T.getD (bZ l i).th []) (cl i)) (hc:En (n+1) (cl i)) (ok:EOK w h (bZ l i)) (J:(bZ l i).k=20->∀k,k<i->pS l (bZ l i).ob k=aj):IN w l cl (i+1) (ie w h (bZ l i) (cl i)):=by
 refine ⟨λu=>?_,λu=>?_,λx=>?_,λx=>?_,λx=>?_,λx=>?_,?_⟩
 .rw[XZ,ny];by_cases e:(bZ l i).th=u
  .rw[aD ⟨e,ok.th⟩,Qw (by simpa using e),<-a.T u,LE.jl (by rw[<- e];exact hcT)]
  .rw[ay λq=>e q.1,Eo (by simpa using e)];exact a.T u
 .rw[ans];by_cases k:(bZ l i).k=20
  .rw[aD k,ny];by_cases e:(bZ l i).ob=u
   .rw[aD ⟨e,by rw[o.lS];exact ok.sp (.inl k)⟩,Qw (by simp[k,e]),WZ _ _ i (by rw[<- e];exact J k),ajv hc]
   .rw[ay λq=>e q.1,Eo (by simp[e])];exact a.S u
  .rw[ay k,Eo (by simp[k])];exact a.S u
 .rw[anv];by_cases k:(bZ l i).k=7\/(bZ l i).k=11
  .rw[aD k,Di _ _ _ _ (ok.lk (by omega))];by_cases e:(bZ l i).ob=x
   .rw[aD e,Qw (by simp[abb k,e]),<-a.L x]
   .rw[ay e,Eo (by simp[abb k];omega)];exact a.L x
  rw[ay k];by_cases k2:(bZ l i).k=16
  .rw[aD k2,Di _ _ _ _ (ok.cd (.inl k2)).2.2];by_cases e:OU w.2.2.1 (bZ l i).ob=x
   .rw[aD e,Qw (by simp[Xm k2,e]),<-a.L x]
   .rw[ay e,Eo (by simp[Xm k2];omega)];exact a.L x
  rw[ay k2,Eo]
  .exact a.L x
  .by_cases I:(bZ l i).k=9
   .simp[UP I]
   .simp[ajq k I k2]
 .rw[ant];by_cases k:(bZ l i).k=9
  .rw[aD k,Di _ _ _ _ (by rw[o.lR];exact ok.lk (by omega))];by_cases e:(bZ l i).ob=x
   .rw[aD e,Qw (by simp[UP k,e]),<-a.R x]
   .rw[ay e,Eo (by simp[UP k];omega)];exact a.R x
  rw[ay k,Eo]
  .exact a.R x
  .unfold pL AM;repeat' split
   all_goals first|omega|simp
 .rw[anx];by_cases k:(bZ l i).k=4/\IF w.1 (bZ l i).ob=ai
  .rw[aD k,Di _ _ _ _ (ok.ce (.inr k.1)).1];by_cases e:(bZ l i).ob=x
   .rw[aD e,Qw (by simp[k.1,e];rw[<- e];exact k.2),<-a.C x]
   .rw[ay e,Eo (by simp[e])];exact a.C x
  .rw[ay k,Eo]
   .exact a.C x
   .refine bN λq=>k ⟨q.1,by rw[q.2.1];exact q.2.2⟩
 .rw[anw];by_cases k:(bZ l i).k=22
  .rw[aD k,Di _ _ _ _ (ok.fu (.inl k))];by_cases e:(bZ l i).ob=x
   .rw[aD e,Qw (by simp[k,e]),<-a.F x]
   .rw[ay e,Eo (by simp[e])];exact a.F x
  .rw[ay k,Eo (by simp[k])];exact a.F x
 .rw[anq];by_cases k:(bZ l i).k=13
  .rw[aD k,Qw (by simp[k]),<-a.X]
  .rw[ay k,Eo (by simp[k])];exact a.X
abbrev gT (th:List (Int×Int×Bool)) (u:Int):Int×Int×Bool:=aJ (T:=jG) th u
theorem Fl {T:Ty} (xs:List T.den) (j k:Int) (x:T.den) (hj:0<=j) (hk:0<=k) (h2:k<xs.length):aJ (cw xs j x) k=if k=j then x else aJ xs k:=by
 by_cases h:j<xs.length
 .exact rS xs j k x hj h hk
 .rw[ay (by omega)];unfold aJ cw;rw[aA,aA,o_,ay (by omega)]
theorem xG {th:List (Int×Int×Bool)} {t u:Int} (s:Int) (t0:0<=t) (J:0<=u) (I:u<th.length):gT (yA th t s) u=if u=t then (s,(gT th u).2) else gT th u:=by
 unfold yA gT;rw[Fl _ _ _ _ t0 J I];split
 .rename_i h;subst h;rfl
 .rfl
theorem Yb {th:List (Int×Int×Bool)} {t u:Int} (s:Int) (t0:0<=t) (J:0<=u) (I:u<th.length):gT (cdP th t s) u=if u=t then ((gT th u).1,s,(gT th u).2.2) else gT th u:=by
 unfold cdP gT;rw[Fl _ _ _ _ t0 J I];split
 .rename_i h;subst h;rfl
 .rfl
theorem Yf {th:List (Int×Int×Bool)} {t u:Int} (s:Bool) (t0:0<=t) (J:0<=u) (I:u<th.length):gT (atP th t s) u=if u=t then ((gT th u).1,(gT th u).2.1,s) else gT th u:=by
 unfold atP gT;rw[Fl _ _ _ _ t0 J I];split
 .rename_i h;subst h;rfl
 .rfl
theorem anb {u:Int} (I:0<=u):∀(l:η) (th:List (Int×Int×Bool)),(∀x∈l,0<=x)->u<th.length->gT (C_ th l) u=if u∈l then (4,(gT th u).2) else gT th u
 |[],th,_,_=>by simp[C_]
 |x::r,th,h,h2=>by
  have e:C_ th (x::r)=C_ (yA th x 4) r:=rfl;rw[e,anb I r _ (λy J=>h y (cM _ J)) (by unfold yA;rw[bT];exact h2),xG 4 (h x (dh ..)) I h2];by_cases a:u=x
  .subst a;simp
  .simp[a]
structure TH1 (k o v t u:Int) (g g':Int×Int×Bool):Prop where
 a:u=t->g.1≠0/\g.1≠3/\(k=16->g'.1=3/\g'.2.1=o)/\(k≠16->g'.1≠0/\g'.1≠3/\g'.1≠4)/\(k≠1->k≠17->g.1=2)
 b:u≠t->k=18->v=u->g.1=3/\g.2.1=o/\g'.1=4/\g'.2.1=o
 c:u≠t->k=19->g.1=3->g.2.1=o->g'.1=4/\g'.2.1=o
 d:u≠t->¬(k=18/\v=u)->¬(k=19/\g.1=3/\g.2.1=o)->g'.2.1=g.2.1/\(g'.1=g.1\/k=20/\o=u/\g.1=0/\g'.1=1)
 e:k=20->o=u->g'.1≠0
theorem TH1.same {k o v t u:Int} {g g':Int×Int×Bool} (h2:k≠1->k≠17->u=t->g.1=2) (e1:g'.1=g.1) (e2:g'.2.1=g.2.1) (n1:k≠1) (Y:k≠17) (n3:k≠16) (J:k≠20) (U:k=18->v=u->u=t) (M:k=19->g.1=3->g.2.1=o->u=t):TH1 k o v t u g g':=
 ⟨λh=>(by have:=h2 n1 Y h;rw[e1];omega),λh h1 I=>(h (U h1 I)).elim,λh h1 I Z=>(h (M h1 I Z)).elim,λ_ _ _=>⟨e2,.inl e1⟩,λh=>(J h).elim⟩
theorem aki (w:WT) (s:SY) (t k o v:Int) (en:EN w s t k o) (rd:WS w s t k o) (va:k=18->v=(rn w s t k o v).2) (u:Int) (J:0<=u) (I:u<s.2.2.2.length):TH1 k o v t u (gT s.2.2.2 u) (gT (rn w s t k o v).1.2.2.2 u):=by
 have t0:=en.t0;have r2:k≠1->k≠17->u=t->(gT s.2.2.2 u).1=2:=λh1 h2 Y=>by subst Y;exact rd.r h1 h2
 have nm:=en.nm;have k1:=nm.k1;have k2:=nm.k2;obtain⟨s1,s2,M,th⟩:=s;dsimp only at I r2;change TH1 k o v t u (gT th u) (gT (rn w (s1,s2,M,th) t k o v).1.2.2.2 u);by_cases a1:k=1
 .subst a1;have e:gT (rn w (s1,s2,M,th) t 1 o v).1.2.2.2 u=if u=t then (2,(gT th u).2) else gT th u:=xG 2 t0 J I
  rw[e];refine ⟨λh=>?_,λ_ h=>by omega,λ_ h=>by omega,λh _ _=>by rw[ay h];exact⟨rfl,.inl rfl⟩,λh=>by omega⟩;have b:=rd.b rfl;rw[aD h];subst h;have b:(gT th u).1=1:=b;dsimp only;omega
 by_cases a2:k=2
 .subst a2;have e:gT (rn w (s1,s2,M,th) t 2 o v).1.2.2.2 u=if u=t then (5,(gT th u).2) else gT th u:=xG 5 t0 J I
  rw[e];refine ⟨λh=>?_,λ_ h=>by omega,λ_ h=>by omega,λh _ _=>by rw[ay h];exact⟨rfl,.inl rfl⟩,λh=>by omega⟩;have:=r2 (by omega) (by omega) h;rw[aD h];dsimp only;omega
 by_cases a14:k=14\/k=15
 .have e:∃b,gT (rn w (s1,s2,M,th) t k o v).1.2.2.2 u=if u=t then ((gT th u).1,(gT th u).2.1,b) else gT th u:=by
   rcases a14 with rfl|rfl
   .exact⟨ai,Yf ai t0 J I⟩
   .exact⟨aj,Yf aj t0 J I⟩
  obtain⟨b,e⟩:=e;rw[e];refine TH1.same r2 (by split<;>rfl) (by split<;>rfl) a1 (by omega) (by omega) (by omega) (λh=>by omega) λh=>by omega
 by_cases a16:k=16
 .subst a16;have e:gT (rn w (s1,s2,M,th) t 16 o v).1.2.2.2 u=if u=t then (3,o,(gT th u).2.2) else gT th u:=by
   have:gT (cdP (yA th t 3) t o) u=_:=Yb o t0 J (by unfold yA;rw[bT];exact I);refine Eq.trans this ?_;rw[xG 3 t0 J I];split<;>rfl
  rw[e];refine ⟨λh=>?_,λ_ h=>by omega,λ_ h=>by omega,λh _ _=>by rw[ay h];exact⟨rfl,.inl rfl⟩,λh=>by omega⟩;have:=r2 (by omega) (by omega) h;rw[aD h];exact⟨by omega,by omega,λ_=>⟨rfl,rfl⟩,λh=>(h rfl).elim,λ_ _=>this⟩
 by_cases a17:k=17
 .subst a17;have e:gT (rn w (s1,s2,M,th) t 17 o v).1.2.2.2 u=if u=t then (2,0,(gT th u).2.2) else gT th u:=by
   have:gT (cdP (yA th t 2) t 0) u=_:=Yb 0 t0 J (by unfold yA;rw[bT];exact I);refine Eq.trans this ?_;rw[xG 2 t0 J I];split<;>rfl
  rw[e];refine ⟨λh=>?_,λ_ h=>by omega,λ_ h=>by omega,λh _ _=>by rw[ay h];exact⟨rfl,.inl rfl⟩,λh=>by omega⟩;have b:=(rd.wk rfl).1;rw[aD h];subst h;have b:(gT th u).1=4:=b;dsimp only;omega
 by_cases a18:k=18
 .subst a18;have va:=va rfl;rw[FO]at va ⊢;dsimp only at va ⊢;by_cases hl:(wl th o th.length).length=0
  .rw[aD hl]at va ⊢;dsimp only at va ⊢;exact TH1.same r2 rfl rfl a1 (by omega) (by omega) (by omega) (λ_ h=>by omega) λh=>by omega
  .rw[ay hl]at va ⊢;dsimp only at va ⊢;have hv:v∈wl th o th.length:=by
    unfold BI at va;rw[ay hl]at va;split at va
    .rename_i h;simpa using h
    .rw[va];exact bJ (T:=.int .i64) (by omega) (by omega)
   rw[<- va];obtain⟨v0,v1,U⟩:=rx.1 hv;unfold IB at U;simp only[av,be]at U;rw[xG 4 v0 J I];refine ⟨λh=>?_,λh _ h2=>?_,λ_ h=>by omega,λh h2 _=>?_,λh=>by omega⟩
   .have:=r2 (by omega) (by omega) h;rw[ay (λq=>by rw[q]at this;exact cY (this.symm.trans U.1) (by decide))];omega
   .subst h2;rw[aD rfl];exact⟨U.1,U.2,rfl,U.2⟩
   .rw[ay λq=>h2 ⟨rfl,q.symm⟩];exact⟨rfl,.inl rfl⟩
 by_cases a19:k=19
 .subst a19;have e:gT (rn w (s1,s2,M,th) t 19 o v).1.2.2.2 u=if u∈wl th o th.length then (4,(gT th u).2) else gT th u:=anb J _ th (λx hx=>(rx.1 hx).1) I
  rw[e];have hm:u∈wl th o th.length↔(gT th u).1=3/\(gT th u).2.1=o:=by
   rw[rx];unfold IB;simp only[av,be];exact⟨λh=>h.2.2,λh=>⟨J,I,h⟩⟩
  refine ⟨λh=>?_,λ_ h=>by omega,λh _ Y h4=>?_,λh _ Y=>?_,λh=>by omega⟩
  .have:=r2 (by omega) (by omega) h;rw[ay (λq=>by have:=(hm.1 q).1;omega)];omega
  .rw[aD (hm.2 ⟨Y,h4⟩)];exact⟨rfl,h4⟩
  .rw[ay λq=>Y ⟨rfl,hm.1 q⟩];exact⟨rfl,.inl rfl⟩
 by_cases Z:k=20
 .subst Z;have sp:=rd.sp rfl;have o0:=(nm.th (.inl rfl)).1;have e:gT (rn w (s1,s2,M,th) t 20 o v).1.2.2.2 u=if u=o then (1,(gT th u).2) else gT th u:=xG 1 o0 J I
  rw[e];refine ⟨λh=>?_,λ_ h=>by omega,λ_ h=>by omega,λh _ _=>?_,λ_ h=>?_⟩
  .have:=r2 (by omega) (by omega) h;rw[ay (λq=>sp.1 (by omega))];omega
  .by_cases q:u=o
   .subst q;rw[aD rfl];exact⟨rfl,.inr ⟨rfl,rfl,sp.2,rfl⟩⟩
   .rw[ay q];exact⟨rfl,.inl rfl⟩
  .rw[aD h.symm];show (1:Int)≠0;omega
 have e:(rn w (s1,s2,M,th) t k o v).1.2.2.2=th:=by
  unfold rn;rw[ay a1,ay a2];repeat' split
  all_goals first|rfl|omega
 rw[e];exact TH1.same r2 rfl rfl a1 a17 a16 Z (λh=>(a18 h).elim) λh=>(a19 h).elim
def ut (l:List ET) (u:Nat):Nat->Int
 |0=> -1
 |i+1=>if (bZ l i).th=u then (i:Int) else ut l u i
def mtN (l:List ET) (u i:Nat) (p:Int):Prop:=0<=p/\(bZ l p.toNat).k=16/\((bZ l i).k=18/\(bZ l i).va=u\/(bZ l i).k=19/\(bZ l i).ob=(bZ l p.toNat).ob)
def CM (l:List ET) (u:Nat):Nat->Int
 |0=> -1
 |i+1=>if (bZ l i).th=u then -1 else if 0<=CM l u i then CM l u i else @ite _ (mtN l u i (ut l u i)) (yY _) (i:Int) (-1)
theorem W5 {l:List ET} {u i:Nat} (h:(bZ l i).th=u):CM l u (i+1)= -1:=by rw[CM,aD h]
theorem W6 {l:List ET} {u i:Nat} (h:¬(bZ l i).th=u) (g:0<=CM l u i):CM l u (i+1)=CM l u i:=by rw[CM,ay h,aD g]
theorem W9 {l:List ET} {u i:Nat} (h:¬(bZ l i).th=u) (g:CM l u i= -1) (m:mtN l u i (ut l u i)):CM l u (i+1)=i:=by rw[CM,ay h,ay (by omega),aD m]
theorem W7 {l:List ET} {u i:Nat} (h:¬(bZ l i).th=u) (g:CM l u i= -1) (m:¬mtN l u i (ut l u i)):CM l u (i+1)= -1:=by rw[CM,ay h,ay (by omega),ay m]
theorem Gr {α:Type} (l:List α) (f:Nat->α->α) (u:Nat) (d:α) (h:u<l.length):(l.mapIdx f).getD u d=f u (l.getD u d):=by
 rw[aA,Ev,aB h,aA,aB h];rfl
theorem anr (w:uY) (h:HS) (e:EV) (c:η) (u:Nat) (hu:u<h.W.length) (U:h.N.length=h.W.length):(ie w h e c).W.getD u 0=if e.k=16/\e.th=u then (e.ob:Int) else if e.k=18/\e.va=u\/e.k=19/\h.W.getD u 0=e.ob then -1 else h.W.getD u 0:=by
 obtain⟨th,k,ob,va⟩:=e;dsimp only;by_cases I:k=16
 .subst I;have e:(ie w h ⟨th,16,ob,va⟩ c).W=h.W.set th ob:=rfl;rw[e,ny];by_cases q:th=u
  .rw[aD ⟨q,by omega⟩,aD ⟨rfl,q⟩]
  .rw[ay λx=>q x.1,ay λx=>q x.2,ay (by omega)]
 rw[ay λx=>I x.1];by_cases M:k=18
 .subst M;have e:ie w h ⟨th,18,ob,va⟩ c=if 0<=va/\va<h.N.length then {h with T:=h.T.set th c,N:=h.N.set va.toNat c,W:=h.W.set va.toNat (-1)} else {h with T:=h.T.set th c}:=rfl
  rw[e];split
  .show (h.W.set va.toNat (-1)).getD u 0=_;rw[ny];by_cases q:va=u
   .rw[aD ⟨by omega,by omega⟩,aD (.inl ⟨rfl,q⟩)]
   .rw[ay (by omega),ay (by omega)]
  .rw[ay (by omega)]
 by_cases J:k=19
 .subst J;have e:(ie w h ⟨th,19,ob,va⟩ c).W=h.W.mapIdx λu x=>if decide (h.W.getD u 0=(ob:Int))=ai then -1 else x:=rfl
  rw[e,Gr _ _ _ _ hu];by_cases q:h.W.getD u 0=ob
  .rw[aD (aQ q),aD (.inr ⟨rfl,q⟩)]
  .rw[ay (by simpa using q),ay (by omega)]
 rw[ay (by omega)];have e:(ie w h ⟨th,k,ob,va⟩ c).W=h.W:=by
  unfold ie;simp only[];repeat' split
  all_goals first|rfl|omega
 rw[e]
theorem anu (w:uY) (h:HS) (e:EV) (c:η) (u:Nat) (hu:u<h.N.length):(ie w h e c).N.getD u []=if e.k=18/\e.va=u\/e.k=19/\h.W.getD u 0=e.ob then c else h.N.getD u []:=by
 obtain⟨th,k,ob,va⟩:=e;dsimp only;by_cases J:k=18
 .subst J;have e:ie w h ⟨th,18,ob,va⟩ c=if 0<=va/\va<h.N.length then {h with T:=h.T.set th c,N:=h.N.set va.toNat c,W:=h.W.set va.toNat (-1)} else {h with T:=h.T.set th c}:=rfl
  rw[e];split
  .show (h.N.set va.toNat c).getD u []=_;rw[ny];by_cases q:va=u
   .rw[aD ⟨by omega,by omega⟩,aD (.inl ⟨rfl,q⟩)]
   .rw[ay (by omega),ay (by omega)]
  .rw[ay (by omega)]
 by_cases I:k=19
 .subst I;have e:(ie w h ⟨th,19,ob,va⟩ c).N=h.N.mapIdx λu x=>if decide (h.W.getD u 0=(ob:Int))=ai then c else x:=rfl
  rw[e,Gr _ _ _ _ hu];by_cases q:h.W.getD u 0=ob
  .rw[aD (aQ q),aD (.inr ⟨rfl,q⟩)]
  .rw[ay (by simpa using q),ay (by omega)]
 rw[ay (by omega)];have e:(ie w h ⟨th,k,ob,va⟩ c).N=h.N:=by
  unfold ie;simp only[];repeat' split
  all_goals first|rfl|omega
 rw[e]
abbrev Zd (w:WT) (l:List ET) (i u:Nat):Int×Int×Bool:=gT (N' w (l.take i)).1.2.2.2 (u:Int)
structure WI (w:WT) (l:List ET) (cl:Nat->η) (i:Nat) (h:HS) (u:Nat) (g:Int×Int×Bool):Prop where
 W:h.W.getD u 0=if g.1=3 then g.2.1 else -1
 p:g.1=3\/g.1=4->0<=ut l u i/\(bZ l (ut l u i).toNat).k=16/\((bZ l (ut l u i).toNat).ob:Int)=g.2.1
 a:g.1=3->CM l u i= -1
 n:g.1=4->0<=CM l u i/\h.N.getD u []=cl (CM l u i).toNat
 s:g.1=0->∀k,k<i->pS l u k=aj
theorem ajo:∀n,∀x∈Yx n,x.1=0\/x.1=1
 |0,x,h=>by cases h
 |n+1,x,h=>by
  rcases bm.1 h with rfl|h
  .exact .inr rfl
  .rw[pP h];exact .inl rfl
theorem WI.zero (w:WT) (l:List ET) (cl:Nat->η) (u:Nat) (hu:u<w.2.2.2.2.1.length):WI w l cl 0 (HS.zero w) u (Zd w l 0 u):=by
 have h1:(Zd w l 0 u).1=0\/(Zd w l 0 u).1=1:=ajo _ _ (bJ (T:=jG) (xs:=Yx w.2.2.2.2.1.length) (j:=(u:Int)) (by omega) (by rw[Ia];omega));have hW:(HS.zero w).W.getD u 0= -1:=by
  have:(aG w.2.2.2.2.1.length (-1:Int)).getD u 0= -1:=by rw[aA,lE,aD hu];rfl
  exact this
 exact⟨by rw[hW,ay (by omega)],λh=>by omega,λh=>by omega,λh=>by omega,λ_ k hk=>by omega⟩
theorem WI.step {w:WT} {l:List ET} {cl:Nat->η} {i:Nat} {h:HS} {u:Nat} (a:WI w l cl i h u (Zd w l i u)) (hi:i<l.length) (sc:SCx w (l.take i) (N' w (l.take i)).1 (N' w (l.take i)).2.1 (N' w (l.take i)).2.2 (eN l i)) (et:EvT (bZ l i) (eN l i)) (hu:u<w.2.2.2.2.1.length) (h1:h.W.length=w.2.2.2.2.1.length) (h2:h.N.length=w.2.2.2.2.1.length):WI w l cl (i+1) (ie w h (bZ l i) (cl i)) u (Zd w l (i+1) u):=by
 have en:=sc.en;have eg:Zd w l (i+1) u=gT (rn w (N' w (l.take i)).1 (eN l i).1 (eN l i).2.1 (eN l i).2.2.1 (eN l i).2.2.2.1).1.2.2.2 (u:Int):=by unfold Zd;rw[TU w hi]
 have T1:TH1 (eN l i).2.1 (eN l i).2.2.1 (eN l i).2.2.2.1 (eN l i).1 (u:Int) (Zd w l i u) (Zd w l (i+1) u):=by
  rw[eg];exact aki w (N' w (l.take i)).1 (eN l i).1 (eN l i).2.1 (eN l i).2.2.1 (eN l i).2.2.2.1 en sc.rd (λh=>sc.va.el (by omega) (by omega) (by omega) (by omega) (by omega)) (u:Int) (by omega) (by rw[en.e3];omega)
 clear eg;have eW:=anr w h (bZ l i) (cl i) u (by omega) (by omega);have eN9:=anu w h (bZ l i) (cl i) u (by omega);have qt:=et.th;have Z:=et.k;have qv:=et.va;have Y:(bZ l i).k=16\/(bZ l i).k=19\/(bZ l i).k=20->(eN l i).2.2.1=((bZ l i).ob:Int):=λh=>et.ob (by rcases h with h|h|h<;>rw[h]<;>decide)
 have pv':ut l u (i+1)=if (bZ l i).th=u then (i:Int) else ut l u i:=rfl
 have ps:pS l u i=decide ((bZ l i).k=20/\(bZ l i).ob=u):=rfl;clear en sc;obtain⟨aW,ap,aa,an,as'⟩:=a;obtain⟨ta,tb,tc,td,te⟩:=T1;generalize Zd w l (i+1) u=g' at*
 generalize Zd w l i u=g at*
 by_cases I:(bZ l i).th=u
 .obtain⟨b1,b2,b3,b4,_⟩:=ta (by rw[qt,I]);have w0:CM l u (i+1)= -1:=W5 I;have hW':h.W.getD u 0= -1:=by rw[aW,ay b2]
  by_cases J:(bZ l i).k=16
  .obtain⟨c1,c2⟩:=b3 (by rw[Z,J];rfl);refine ⟨by rw[eW,aD ⟨J,I⟩,aD c1,c2,Y (.inl J)],λ_=>?_,λ_=>w0,λh=>by omega,λh=>by omega⟩;rw[pv',aD I,dC];exact⟨by omega,J,by rw[c2,Y (.inl J)]⟩
  .obtain⟨c1,c2,c3⟩:=b4 (by rw[Z];omega);refine ⟨?_,λh=>by omega,λh=>by omega,λh=>by omega,λh=>by omega⟩;rw[eW,ay (λx=>J x.1),ay c2,hW'];split<;>rfl
 have hut:(u:Int)≠(eN l i).1:=by rw[qt];omega
 rw[ay I]at pv';rw[ay (λx=>I x.2)]at eW;by_cases A:(bZ l i).k=18/\(bZ l i).va=u\/(bZ l i).k=19/\h.W.getD u 0=(bZ l i).ob
 .have B:g.1=3/\g'.1=4/\g'.2.1=g.2.1/\((bZ l i).k=19->g.2.1=(bZ l i).ob):=by
   rcases A with ⟨k,v⟩|⟨k,v⟩
   .obtain⟨U,M,d3,d4⟩:=tb hut (by rw[Z,k];rfl) (by rw[qv,v]);exact⟨U,d3,by rw[M,d4],λq=>by omega⟩
   .have g3:g.1=3:=by
     rw[aW]at v;split at v
     .assumption
     .omega
    rw[aW,aD g3]at v;obtain⟨U,M⟩:=tc hut (by rw[Z,k];rfl) g3 (by rw[v,Y (.inr (.inl k))]);exact⟨g3,U,by rw[M,v,Y (.inr (.inl k))],λ_=>v⟩
  obtain⟨U,M,d3,d4⟩:=B;obtain⟨p1,p2,p3⟩:=ap (.inl U);have hw:=W9 I (aa U) ⟨p1,p2,by
   rcases A with A|⟨k,_⟩
   .exact .inl A
   .exact .inr ⟨k,by have:=d4 k;omega⟩⟩
  rw[aD A]at eW eN9;refine ⟨by rw[eW,ay (by omega)],λ_=>by rw[pv',d3];exact⟨p1,p2,p3⟩,λh=>by omega,λ_=>by rw[hw,dC];exact⟨by omega,eN9⟩,λh=>by omega⟩
 rw[ay A]at eW eN9;have nv:¬((eN l i).2.1=18/\(eN l i).2.2.2.1=(u:Int)):=λq=>A (.inl ⟨by omega,by rw[<- qv];exact q.2⟩)
 have nw:¬((eN l i).2.1=19/\g.1=3/\g.2.1=(eN l i).2.2.1):=λq=>A (.inr ⟨by omega,by rw[aW,aD q.2.1,q.2.2,Y (.inr (.inl (by omega)))]⟩)
 obtain⟨U,M⟩:=td hut nv nw;have nm:g.1=3->¬mtN l u i (ut l u i):=λq ⟨_,_,m⟩=>by
  obtain⟨_,_,p3⟩:=ap (.inl q);rcases m with m|⟨k,m⟩
  .exact A (.inl m)
  .exact nw ⟨by omega,q,by rw[Y (.inr (.inl k)),m,p3]⟩
 refine ⟨?_,λq=>?_,λq=>?_,λq=>?_,λq k hk=>?_⟩
 .rw[eW,aW,U];rcases M with M|M
  .rw[M]
  .rw[ay (by omega),ay (by omega)]
 .rw[pv',U];exact ap (by omega)
 .have q:g.1=3:=by omega
  exact W7 I (aa q) (nm q)
 .have q:g.1=4:=by omega
  obtain⟨n1,n2⟩:=an q;rw[W6 I n1,eN9];exact⟨n1,n2⟩
 .have q0:g.1=0:=by omega
  by_cases e:k=i
  .subst e;rw[ps];exact bN λr=>te (by rw[Z,r.1];rfl) (by rw[Y (.inr (.inr r.1)),r.2]) q
  .exact as' q0 k (by omega)
theorem Va {w:WT} {l:List ET} {cl:Nat->η} (tr:TR (w,l)) (C:CL w l cl):∀i:Nat,i<=l.length->IN w l cl i (vh w l cl i)/\∀u,u<w.2.2.2.2.1.length->WI w l cl i (vh w l cl i) u (Zd w l i u)
 |0,_=>⟨IN.zero w l cl,λu hu=>WI.zero w l cl u hu⟩
 |i+1,h=>by
  obtain⟨a,b⟩:=Va tr C i (by omega);have hi:i<l.length:=by omega
  have o:=O_ tr C hi;have I:=Vb tr C hi;have sc:=tr.sc hi;have et:=oy tr hi;have ok:=Cm tr C hi;refine ⟨a.step _ o ((aip w _ _).trans (C.le hi)) (K6 tr C hi) ok λk=>?_,λu hu=>(b u hu).step hi sc et hu (o.lW.trans I.T) (o.lN.trans I.T)⟩;have sp:=(sc.rd.sp (by rw[et.k,k];rfl)).2;rw[et.ob (by rw[k];decide)]at sp;exact (b _ (by rw[<- I.T];exact ok.sp (.inl k))).s sp
theorem ao7 {w:WT} {l:List ET} {cl:Nat->η} (tr:TR (w,l)) (C:CL w l cl) (u:Nat):∀i:Nat,i<=l.length->(vh w l cl i).T.getD u []=if 0<=ut l u i then cl (ut l u i).toNat else []
 |0,_=>ml.repl (P:=λx=>x=[]) rfl _ _
 |i+1,h=>by
  have I:=ao7 tr C u i (by omega);rw[vh,XZ,ny,ut];by_cases e:(bZ l i).th=u
  .rw[aD ⟨e,(Cm tr C (by omega)).th⟩,aD e,aD (by omega),dC]
  .rw[ay λq=>e q.1,ay e];exact I
theorem u_ {c:Nat->η} {p q:Nat->Bool}:∀i,(∀k,k<i->p k=q k)->JC c p i=JC c q i
 |0,_=>rfl
 |i+1,h=>by rw[JC,JC,h i (by omega),u_ i λk hk=>h k (by omega)]
theorem ajh {c:Nat->η} {p q r:Nat->Bool}:∀i,(∀k,k<i->(r k=ai↔p k=ai\/q k=ai)/\¬(p k=ai/\q k=ai))->JC c r i=jl (JC c p i) (JC c q i)
 |0,_=>rfl
 |i+1,h=>by
  have I:=ajh (c:=c) i λk hk=>h k (by omega)
  obtain⟨h1,h2⟩:=h i (by omega);rw[JC,JC,JC];by_cases a:p i=ai
  .have b:¬q i=ai:=λb=>h2 ⟨a,b⟩
   rw[aD (h1.2 (.inl a)),aD a,ay b,I,qI,qI,XI (JC c q i)]
  .by_cases b:q i=ai
   .rw[aD (h1.2 (.inr b)),ay a,aD b,I,qI]
   .rw[ay λq=>(h1.1 q).elim a b,ay a,ay b,I]
def Im (w:WT) (l:List ET) (j i:Nat):Prop:=((bZ l j).k=1/\(bZ l i).k=20/\(bZ l i).ob=(bZ l j).th)\/((bZ l j).k=21/\(bZ l i).th=(bZ l j).ob)\/((bZ l j).k=3/\IF w.1 (bZ l j).ob=ai/\(bZ l i).k=4/\(bZ l i).ob=(bZ l j).ob)\/((bZ l j).k=23/\(bZ l i).k=22/\(bZ l i).ob=(bZ l j).ob)
def QD (w:WT) (l:List ET) (j i:Nat):Prop:=(0<=(Cz w (bZ l j)).1/\(AM w (bZ l i)).1=(Cz w (bZ l j)).1/\¬((Cz w (bZ l j)).2=ai/\(AM w (bZ l i)).2=ai))\/((bZ l j).k=12/\(bZ l i).k=13)
def dB (p:Nat->Prop) (k:Nat):Bool:= @decide (p k) (yY _)
theorem agi {p:Nat->Prop} {k:Nat}:dB p k=ai↔p k:=by unfold dB;exact @decide_eq_true_iff (p k) (yY _)
theorem agj {p:Nat->Prop} {k:Nat}:dB p k=aj↔¬p k:=by unfold dB;exact @decide_eq_false_iff_not (p k) (yY _)
theorem N5 {p:Nat->Prop} {q:Bool} {k:Nat} (h:p k↔q=ai):q=dB p k:=by
 cases q with
 |true=>exact (agi.2 (h.2 rfl)).symm
 |false=>exact (agj.2 λx=>by have:=h.1 x;cases this).symm
def wkC (l:List ET) (cl:Nat->η) (j:Nat):η:=if (bZ l j).k=17 then cl (CM l (bZ l j).th j).toNat else []
theorem akc {w:WT} {l:List ET} {cl:Nat->η} (tr:TR (w,l)) (C:CL w l cl) {j:Nat} (hj:j<l.length):LM w l cl j=tk (jl (jl (jl (if 0<=ut l (bZ l j).th j then cl (ut l (bZ l j).th j).toNat else []) (JC cl (dB (Im w l j)) j)) (wkC l cl j)) (JC cl (dB (QD w l j)) j)) (bZ l j).th:=by
 obtain⟨a,b⟩:=Va tr C j (by omega);have o:=O_ tr C hj;have ft:=Vb tr C hj;have ok:=Cm tr C hj;have sc:=tr.sc hj;have et:=oy tr hj;rw[<- ao7 tr C _ j (by omega)];have nH:∀{p:Nat->Prop},(∀k,¬p k)->JC cl (dB p) j=[]:=λh=>WZ _ _ _ λk _=>agj.2 (h k)
 have oT:=o.T (bZ l j).th;have z:=En.nil o.n0;have e0:jl (jl ((vh w l cl j).T.getD (bZ l j).th []) []) []=(vh w l cl j).T.getD (bZ l j).th []:=by rw[mD oT,mD oT]
 have sN:¬(bZ l j).k=6->¬(bZ l j).k=10->¬(bZ l j).k=8->¬(bZ l j).k=17->¬(bZ l j).k=12->∀k,¬QD w l j k:=λh1 h2 h3 h4 h5 k q=>by
  unfold QD Cz at q;rw[ay (by omega),ay h3,ay h4]at q;rcases q with ⟨q,_⟩|⟨q,_⟩
  .dsimp only at q;omega
  .exact h5 q
 unfold wkC;show t_ w (vh w l cl j) (bZ l j)=_;unfold t_;congr 1;by_cases k1:(bZ l j).k=1
 .rw[ay (by omega),nH (sN (by omega) (by omega) (by omega) (by omega) (by omega))];unfold qh;rw[aD k1,u_ (q:=pS l (bZ l j).th) j λk _=>(N5 (by unfold Im pS;rw[be];omega)).symm,<-a.S];rw[mD (oT.jl (o.S _)),mD (oT.jl (o.S _))];rfl
 by_cases I:(bZ l j).k=21
 .rw[ay (by omega),nH (sN (by omega) (by omega) (by omega) (by omega) (by omega))];unfold qh;rw[ay k1,aD I,u_ (q:=pT l (bZ l j).ob) j λk _=>(N5 (by unfold Im pT;rw[be];omega)).symm,<-a.T];rw[mD (oT.jl (o.T _)),mD (oT.jl (o.T _))];rfl
 by_cases k3:(bZ l j).k=3
 .rw[ay (by omega),nH (sN (by omega) (by omega) (by omega) (by omega) (by omega))];unfold qh;rw[ay k1,ay I,ay (by omega),ay (by omega),ay (by omega),aD k3,u_ (q:=pC w l (bZ l j).ob) j λk _=>(N5 ?_).symm,<-a.C]
  .rw[mD (oT.jl (o.C _)),mD (oT.jl (o.C _))];rfl
  .unfold Im pC;rw[be];constructor
   .rintro (h|h|h|h)
    .omega
    .omega
    .exact⟨h.2.2.1,h.2.2.2,h.2.1⟩
    .omega
   .intro h;exact .inr (.inr (.inl ⟨k3,h.2.2,h.1,h.2.1⟩))
 by_cases Z:(bZ l j).k=23
 .rw[ay (by omega),nH (sN (by omega) (by omega) (by omega) (by omega) (by omega))];unfold qh;rw[ay k1,ay I,ay (by omega),ay (by omega),ay (by omega),ay k3,aD Z,u_ (q:=pF l (bZ l j).ob) j λk _=>(N5 (by unfold Im pF;rw[be];omega)).symm,<-a.F];rw[mD (oT.jl (o.F _)),mD (oT.jl (o.F _))];rfl
 have hN:∀k,¬Im w l j k:=λk q=>by unfold Im at q;omega
 rw[nH hN,mD oT];by_cases U:(bZ l j).k=12
 .rw[ay (by omega),mD oT];unfold qh;rw[ay k1,ay I,ay (by omega),ay (by omega),ay (by omega),ay k3,ay Z,aD U,u_ (q:=pX l) j λk _=>(N5 ?_).symm,<-a.X]
  .rfl
  .unfold QD pX Cz;rw[be,ay (by omega),ay (by omega),ay (by omega)];dsimp only;constructor
   .rintro (h|h)
    .omega
    .exact h.2
   .intro h;exact .inr ⟨U,h⟩
 have hor:∀m:Nat,(Cz w (bZ l j)).1=(m:Int)->(Cz w (bZ l j)).2=aj->JC cl (dB (QD w l j)) j=jl ((vh w l cl j).L.getD m []) ((vh w l cl j).R.getD m []):=λm h1 h2=>by
  rw[a.L,a.R];refine ajh j λk _=>?_
  rw[agi,be,be];unfold QD;rw[h1,h2];generalize AM w (bZ l k)=x;obtain⟨x1,x2⟩:=x;simp only[aE];constructor
  .constructor
   .rintro (h|h)
    .cases x2 with
     |true=>exact .inr ⟨h.2.1,rfl⟩
     |false=>exact .inl ⟨h.2.1,rfl⟩
    .omega
   .rintro (h|h)<;>exact .inl ⟨by omega,h.1,λq=>by cases q.1⟩
  .rintro⟨⟨_,h⟩,⟨_,h'⟩⟩;rw[h]at h';cases h'
 by_cases M:(bZ l j).k=6\/(bZ l j).k=10
 .rw[ay (by omega),mD oT,hor (bZ l j).ob (by unfold Cz;rw[aD M]) (by unfold Cz;rw[aD M])];unfold qh;rw[ay k1,ay I,aD M,<-qI];rfl
 by_cases Y:(bZ l j).k=8
 .have ha:Cz w (bZ l j)=(((bZ l j).ob:Int),ai):=by unfold Cz;rw[ay M,aD Y]
  rw[ay (by omega),mD oT];unfold qh;rw[ay k1,ay I,ay M,aD Y,u_ (q:=pL w l (((bZ l j).ob:Int),aj)) j λk _=>(N5 ?_).symm,<-a.L]
  .rfl
  .unfold QD pL;rw[ha,be];generalize AM w (bZ l k)=x;obtain⟨x1,x2⟩:=x;simp only[aE];constructor
   .rintro (h|h)
    .exact⟨h.2.1,by simpa using h.2.2⟩
    .omega
   .intro h;exact .inl ⟨by omega,h.1,by simp[h.2]⟩
 by_cases J:(bZ l j).k=17
 .have wk:=sc.rd.wk (by rw[et.k,J];rfl);have hth:(bZ l j).th<w.2.2.2.2.1.length:=by rw[<- ft.T];exact ok.th
  have hn:=(b _ hth).n (by have:=wk.1;rw[et.th]at this;exact this);rw[aD J,hor (OU w.2.2.1 (bZ l j).ob) (by unfold Cz;rw[ay M,ay Y,aD J]) (by unfold Cz;rw[ay M,ay Y,aD J]),<-hn.2];unfold qh;rw[ay k1,ay I,ay M,ay Y,aD J];simp only[xD,List.foldl_nil];rw[qI,qI,qI,<-qI _ _ ((vh w l cl j).N.getD _ []),XI ((vh w l cl j).N.getD _ [])]
 .rw[ay J,nH (sN (by omega) (by omega) Y J U),mD oT,mD oT];unfold qh;rw[ay k1,ay I,ay M,ay Y,ay J,ay k3,ay Z,ay U];rfl
theorem XS {n:Int} {c:Nat->η} {p:Nat->Bool} {a:η} (I:En n a):∀i,((bt i).filter p).foldl (λx k=>jl x (c k)) a=jl a (JC c p i)
 |0=>(mD I).symm
 |i+1=>by
  rw[xB,yw,dR,XS I i];by_cases h:p i=ai
  .rw[Qw h,List.filter_cons_of_pos h,<-qI];rfl
  .rw[Eo (by simpa using h),List.filter_cons_of_neg h];rfl
theorem acd (w:WT) (l:List ET):∀i:Nat,i<=l.length->vh w l (It w l) i=Nl w (l.take i)
 |0,_=>rfl
 |i+1,h=>by rw[vh,acd w l i (by omega),Dl w (by omega)]
theorem ao1 (w:WT) {l:List ET} {i:Nat} (h:i<l.length):LM w l (It w l) i=It w l i:=by unfold LM;rw[acd w l i (by omega)];rfl
theorem CL_N (w:WT) (l:List ET):CL w l (It w l):=λi h=>.inl (ao1 w h).symm
theorem ak1 {w:WT} {l:List ET} (tr:TR (w,l)) (i:Nat) (h:i<=l.length):IN w l (It w l) i (Nl w (l.take i))/\∀u,u<w.2.2.2.2.1.length->WI w l (It w l) i (Nl w (l.take i)) u (Zd w l i u):=by
 have:=Va tr (CL_N w l) i h;rw[acd w l i h]at this;exact this
theorem aar (l:List ET) (u:Nat):∀i:Nat,CM l u i<i
 |0=>by show (-1:Int)<0;omega
 |i+1=>by
  have:=aar l u i;rw[CM];split
  .omega
  .split
   .omega
   .split<;>omega
theorem ai7 {w:WT} {l:List ET} (tr:TR (w,l)) {j:Nat} (hj:j<l.length) (h:(bZ l j).k=17):0<=ut l (bZ l j).th j/\(bZ l (ut l (bZ l j).th j).toNat).k=16/\0<=CM l (bZ l j).th j:=by
 have b:=(ak1 tr j (by omega)).2 (bZ l j).th (by rw[<- (O9 tr j (by omega)).2.T];exact (Cl tr hj).th);have wk:=((tr.sc hj).rd.wk (by rw[(oy tr hj).k,h];rfl)).1;rw[(oy tr hj).th]at wk;have g:=b.p (.inr wk);exact⟨g.1,g.2.1,(b.n wk).1⟩
theorem UR (l:List ET) (u:Nat):∀i:Nat,-1<=ut l u i/\ut l u i<i
 |0=>⟨eB _,by show (-1:Int)<0;omega⟩
 |i+1=>by have:=UR l u i;rw[ut];split<;>omega
def Ht (l:List ET) (o:Nat):Nat->Int
 |0=> -1
 |i+1=>if (bZ l i).k=4/\(bZ l i).ob=o then (i:Int) else Ht l o i
theorem abz (l:List ET) (o:Nat):∀i:Nat,-1<=Ht l o i/\Ht l o i<i
 |0=>⟨eB _,by show (-1:Int)<0;omega⟩
 |i+1=>by have:=abz l o i;rw[Ht];split<;>omega
def QH (l:List ET) (i:Nat):Prop:=(bZ l i).k=3/\0<=Ht l (bZ l i).ob i
instance (l:List ET) (i:Nat):Decidable (QH l i):=by unfold QH;exact inferInstance
def QF (l:List ET) (i:Nat):Nat:=(Ht l (bZ l i).ob i).toNat
theorem IQ {l:List ET} {i:Nat} (h:QH l i):QF l i<i:=by have:=abz l (bZ l i).ob i;have:=h.2;unfold QF;omega
def UI (w:WT) (l:List ET):Nat->HS×List η
 |0=>(HS.zero w,[])
 |i+1=>
  let c:=if QH l i then jl (t_ w (UI w l i).1 (bZ l i)) ((UI w l i).2.getD (QF l i) []) else t_ w (UI w l i).1 (bZ l i)
  (ie w (UI w l i).1 (bZ l i) c,(UI w l i).2++[c])
def nJ (w:WT) (l:List ET) (i:Nat):η:=(UI w l (i+1)).2.getD i []
theorem Ib (w:WT) (l:List ET):∀i,(UI w l i).2.length=i
 |0=>rfl
 |i+1=>by rw[UI];simp[Ib w l i]
theorem OE (w:WT) (l:List ET) {k:Nat}:∀i,k<i->(UI w l i).2.getD k []=nJ w l k
 |i+1,h=>by
  by_cases e:k=i
  .subst e;rfl
  .rw[<- OE w l i (by omega),UI];dsimp only;rw[aA,bK (by rw[Ib];omega),aA]
theorem Xj (w:WT) (l:List ET) (i:Nat):nJ w l i=if QH l i then jl (t_ w (UI w l i).1 (bZ l i)) (nJ w l (QF l i)) else t_ w (UI w l i).1 (bZ l i):=by
 unfold nJ;rw[UI];dsimp only;rw[aA,bW (by rw[Ib];omega),Ib,vw];show (if QH l i then _ else _)=_;by_cases h:QH l i
 .rw[aD h,aD h,OE w l i (IQ h)];rfl
 .rw[ay h,ay h]
theorem ab7 (w:WT) (l:List ET):∀i,(UI w l i).1=vh w l (nJ w l) i
 |0=>rfl
 |i+1=>by
  rw[vh,Xj,<-ab7 w l i,UI];dsimp only;by_cases h:QH l i
  .rw[aD h,aD h,OE w l i (IQ h)]
  .rw[ay h,ay h]
abbrev xw (w:WT) (l:List ET) (i:Nat):η:=LM w l (nJ w l) i
theorem EG (w:WT) (l:List ET) (i:Nat):nJ w l i=if QH l i then jl (xw w l i) (nJ w l (QF l i)) else xw w l i:=by
 rw[Xj,ab7]
theorem ai1 (w:WT) (l:List ET):CL w l (nJ w l):=λi _=>by
 rw[EG];by_cases h:QH l i
 .rw[aD h];exact .inr ⟨_,IQ h,rfl⟩
 .rw[ay h];exact .inl rfl
theorem aid {w:WT} {l:List ET} {i:Nat} (h:¬(bZ l i).k=3):nJ w l i=xw w l i:=by rw[EG,ay λq=>h q.1]
def Q8 (r:η):Prop:=H4 r/\∀z∈r,0<=z/\z<4
def P8 (s:List (Int×η)):Prop:=∀x∈s,Q8 x.2
theorem P8.get {s:List (Int×η)} (h:P8 s) (o:Int):Q8 (aJ (T:=AK) s o).2:=by
 unfold aJ;rw[aA];cases e:s[o.toNat]? with
 |none=>exact⟨trivial,λz I=>by cases I⟩
 |some x=>exact h x (ba e)
theorem P8.set {s:List (Int×η)} (h:P8 s) (o a:Int) {r:η} (hr:Q8 r):P8 (cw s o (a,r)):=λx I=>by
 rcases CV I with I|rfl
 .exact h x I
 .exact hr
theorem Cy (p:Int->Bool):∀{l:η},H4 l->H4 (l.filter p)
 |[],_=>trivial
 |x::r,h=>by
  rw[List.filter_cons];split
  .exact⟨λy I=>h.1 y ((xC.1 I).1),Cy p h.2⟩
  .exact Cy p h.2
theorem P8.ite {c:Prop} [Decidable c] {a b:SY×Int} (I:P8 a.1.1) (hb:P8 b.1.1):P8 (if c then a else b).1.1:=by by_cases h:c<;>simp[h,I,hb]
theorem P8.ap {w:WT} {s:SY} (h:P8 s.1) {t:Int} (k o v:Int) (t0:0<=t) (J:t<4):P8 (rn w s t k o v).1.1:=by
 have ow:∀a b,P8 (owP s.1 a b):=λa b=>h.set a b (h.get a)
 have un:P8 (rdP s.1 o (xF (aJ (T:=AK) s.1 o).2 [t])):=h.set _ _ ⟨QR _ _,λz I=>by
  rcases IH.1 I with I|I
  .exact (h.get o).2 z I
  .rw[aL]at I;subst I;exact⟨t0,J⟩⟩
 have wt:P8 (rdP s.1 o (wo (aJ (T:=AK) s.1 o).2 t)):=h.set _ _ ⟨Cy _ (h.get o).1,λz I=>(h.get o).2 z (xC.1 I).1⟩;unfold rn;exact P8.ite h (P8.ite h (P8.ite (ow _ _) (P8.ite (ow _ _) (P8.ite un (P8.ite wt (P8.ite h (P8.ite h (P8.ite h (P8.ite h (P8.ite (ow _ _) (P8.ite (ow _ _) (P8.ite (P8.ite h h) (P8.ite h (P8.ite h (P8.ite h h)))))))))))))))
def iE (w:WT) (l:List ET):SN:=l.foldl (nxP w) (sn8 w)
theorem M4 (w:WT) {l:List ET} {i:Nat} (h:i<l.length):iE w (l.take (i+1))=nxP w (iE w (l.take i)) (eN l i):=by
 rw[mP (T:=tE) h];unfold iE;rw[dR];rfl
structure K8 (w:WT) (l:List ET) (i:Nat) (s:SN):Prop where
 a:(s.1,s.2.1,s.2.2.1)=N' w (l.take i)
 r:P8 s.1.1
 c:s.2.1.length=w.1.length
 f:s.2.2.1.length=w.2.2.2.1.length
 k:s.2.2.2.length=w.2.2.2.2.1.length
 n:CN (l.take i) s.2.2.2
theorem Xe {w:WT} {l:List ET} (tr:TR (w,l)):∀i:Nat,i<=l.length->K8 w l i (iE w (l.take i))
 |0,_=>⟨rfl,λx J=>by rw[pP J];exact⟨trivial,λz I=>by cases I⟩,by simp[iE,ce0],by simp[iE,fu0],by simp[iE],λt t0 t1=>by
   have:(aG w.2.2.2.2.1.length (0:Int)).getD t.toNat 0=0:=by rw[aA,lE];split<;>rfl
   exact this⟩
 |i+1,h=>by
  obtain⟨a,r,c,f,k,n⟩:=Xe tr i (by omega);have sc:=tr.sc (i:=i) (by omega);have hl:=tr.len;have ht:=tr.wb.t;dsimp only at hl ht;have en:=sc.en;have e1:=en.t1;have htk:=qn i l;rw[M4 w (by omega)];refine ⟨?_,r.ap _ _ _ en.t0 (by omega),?_,?_,?_,?_⟩
  .rw[TU w (by omega),<-a];rfl
  .unfold nxP ZJ;dsimp only;split
   .rw[bT];exact c
   .exact c
  .unfold nxP fuP;dsimp only;split
   .rw[bT];exact f
   .exact f
  .unfold nxP;rw[bT];exact k
  .have:=n.next (eN l i) en.t0 (by rw[k];exact e1) (by omega);rw[mP (T:=tE) (show i<l.length by omega)];exact this
theorem OA {w:WT} {l:List ET} (tr:TR (w,l)) {i:Nat} (hi:i<l.length):fU (w,iE w (l.take i),eN l i)=af (iE w (l.take (i+1)),ai):=by
 obtain⟨a,r,c,f,k,n⟩:=Xe tr i (by omega);have sc:=tr.sc hi;have I:=tr.wx;have ht:=tr.wb.t;have hls:=tr.ls _ (Cp hi);dsimp only at I ht hls;rw[M4 w hi];rw[<- a]at sc;generalize iE w (l.take i)=s at*
 generalize eN l i=e at*
 have en:=sc.en;have e1:=en.t1;have l3:w.2.1.length=3:=by rw[I.l];rfl
 have J:=n e.1 en.t0 (by rw[k];exact e1);have b1:=tr.wb.c;have Z:=tr.wb.f;have b3:=tr.wb.d;dsimp only at b1 Z b3;have Y:=en.e1;have U:=en.e2;have q3:=en.e3;dsimp only at Y U q3;refine aoq (n:=4) w s e ⟨⟨by omega,by omega,λx M=>?_,by omega,by omega⟩,by omega,by omega,by omega⟩ (by omega) (by omega) ⟨c,f,k⟩ en ⟨sc.rd,sc.s1,sc.s2,sc.de,sc.fr,by rw[J];exact sc.nd,by rw[J];exact sc.nf,sc.va⟩ hls.1 hls.2 (λh=>?_) (by omega) r (by omega)
 .have:=Qk x.2 0 4 (r x M).1 (r x M).2;omega
 .have o1:=en.nm.lk (by omega);have o2:=en.nm.rw (by omega);generalize e.2.2.1=o at o1 o2;rw[I.l]at o1 o2;have:o=0\/o=1\/o=2:=by have:Hl.length=3:=rfl;omega
  rcases this with rfl|rfl|rfl
  .cases o2
  .cases o2
  .rfl
abbrev fN (l:List ET) (i:Nat) (t:Int):θ:=fl (l.take i) t
theorem Px {l:List ET} {i:Nat} (h:i<l.length) {t:Int} (e:(eN l i).1=t):fN l (i+1) t=fN l i t++[tN (eN l i)]:=by
 unfold fN;rw[mP (T:=tE) h,uS,zO e]
theorem Py {l:List ET} {i:Nat} (h:i<l.length) {t:Int} (e:¬(eN l i).1=t):fN l (i+1) t=fN l i t:=by
 unfold fN;rw[mP (T:=tE) h,uS,wW e,iZ]
theorem Ie {w:WT} {l:List ET} (tr:TR (w,l)) {i:Nat} (hi:i<l.length) {t:Int} (e:(eN l i).1=t):cr (fN l i t,eN l i)=af ai:=by
 have sc:=tr.sc hi;have hls:=tr.ls _ (Cp hi);subst e;exact ZN _ _ sc.rd1 sc.rd2 hls.1 hls.2
theorem Pz (l:List ET) (i:Nat) (t:Int):(fN l i t).length<=l.length:=dg (XT _ _) (List.length_take_le' ..)
theorem aeo {w:WT} {l:List ET} (tr:TR (w,l)) (hn:w.2.2.2.2.1.length=4):eo (w,l)=af (0,0):=by
 have hl:=tr.len;dsimp only at hl;refine cI ?_;unfold eo jP aX bf bp ch dA jt bL fc kK nM bd bz bB bF aY cK aF cF;refine fP (gi.2 (by dsimp only[au];omega)) (aU (VW8 tr.wx tr.vl) (gw (aU (CA tr.wx) (bg (by show (c6 0 (aO w.2.2.2.2.1.length)&&c6 (aO w.2.2.2.2.1.length) (aO w.2.2.2.2.1.length)&&a_ (aT (aO w.2.2.2.2.1.length)) 24&&decide ((aO w.2.2.2.2.1.length:Int)=4))=ai;rw[hn];rfl) ?_))));refine ju l.length (by omega) (λi x=>x=((i:Int),(w,l),iE w (l.take i),fN l i 0,fN l i 1,fN l i 2,fN l i 3)) ?_ ?_ rfl
 .rintro i x hi rfl;have e1:=(tr.sc hi).en.t1;have e0:=(tr.sc hi).en.t0;have st:=OA tr hi;have fa:=λt=>Pz l i t
  have rd:=λt=>Ie tr hi (t:=t)
  have own:=λt=>Px hi (t:=t)
  have oth:=λt=>Py hi (t:=t)
  refine du ?_;refine cg (aS ?_);have ht:(eN l i).1=0\/(eN l i).1=1\/(eN l i).1=2\/(eN l i).1=3:=by omega
  have hg:aJ (T:=tE) l (i:Int)=eN l i:=rfl;dsimp only;rw[hg];generalize eN l i=e at*
  refine aU st ?_;obtain⟨(t:Int),e⟩:=e;dsimp only at ht;rcases ht with rfl|rfl|rfl|rfl
  .refine aZ (λx=>x=(aj,(w,l),iE w (l.take i),(0,e),iE w (l.take (i+1)),fN l i 0,fN l i 1,fN l i 2,fN l i 3)) ?_ ?_
   .simp only[aV,bn,tC];exact aU (rd 0 rfl) (ar rfl)
   rintro x rfl;refine gw (aZ (λx=>x=((w,l),iE w (l.take i),iE w (l.take (i+1)),fN l (i+1) 0,fN l (i+1) 1,fN l (i+1) 2,fN l (i+1) 3)) ?_ ?_)
   .simp only[aV,bn,tC];rw[own 0 rfl,oth 1 (by show ¬(0:Int)=1;decide),oth 2 (by show ¬(0:Int)=2;decide),oth 3 (by show ¬(0:Int)=3;decide)];have:=fa 0;refine aK (λh=>bh (by simp;omega) (by omega) (ar ?_)) λh=>bh (by simp;omega) (by omega) (ar ?_)
    .have:tN (0,e)=ai:=by unfold tN;rw[aQ h];rfl
     rw[this]
    .have:tN (0,e)=decide (e.1=23):=by unfold tN;rw[bN h];rfl
     rw[this]
   rintro x rfl;exact ar (by rw[gO (by omega)])
  .refine aZ (λx=>x=(aj,(w,l),iE w (l.take i),(1,e),iE w (l.take (i+1)),fN l i 0,fN l i 1,fN l i 2,fN l i 3)) ?_ ?_
   .simp only[aV,bn,tC];exact aU (rd 1 rfl) (ar rfl)
   rintro x rfl;refine gw (aZ (λx=>x=((w,l),iE w (l.take i),iE w (l.take (i+1)),fN l (i+1) 0,fN l (i+1) 1,fN l (i+1) 2,fN l (i+1) 3)) ?_ ?_)
   .simp only[aV,bn,tC];rw[own 1 rfl,oth 0 (by show ¬(1:Int)=0;decide),oth 2 (by show ¬(1:Int)=2;decide),oth 3 (by show ¬(1:Int)=3;decide)];have:=fa 1;refine aK (λh=>bh (by simp;omega) (by omega) (ar ?_)) λh=>bh (by simp;omega) (by omega) (ar ?_)
    .have:tN (1,e)=ai:=by unfold tN;rw[aQ h];rfl
     rw[this]
    .have:tN (1,e)=decide (e.1=23):=by unfold tN;rw[bN h];rfl
     rw[this]
   rintro x rfl;exact ar (by rw[gO (by omega)])
  .refine aZ (λx=>x=(aj,(w,l),iE w (l.take i),(2,e),iE w (l.take (i+1)),fN l i 0,fN l i 1,fN l i 2,fN l i 3)) ?_ ?_
   .simp only[aV,bn,tC];exact aU (rd 2 rfl) (ar rfl)
   rintro x rfl;refine gw (aZ (λx=>x=((w,l),iE w (l.take i),iE w (l.take (i+1)),fN l (i+1) 0,fN l (i+1) 1,fN l (i+1) 2,fN l (i+1) 3)) ?_ ?_)
   .simp only[aV,bn,tC];rw[own 2 rfl,oth 0 (by show ¬(2:Int)=0;decide),oth 1 (by show ¬(2:Int)=1;decide),oth 3 (by show ¬(2:Int)=3;decide)];have:=fa 2;refine aK (λh=>bh (by simp;omega) (by omega) (ar ?_)) λh=>bh (by simp;omega) (by omega) (ar ?_)
    .have:tN (2,e)=ai:=by unfold tN;rw[aQ h];rfl
     rw[this]
    .have:tN (2,e)=decide (e.1=23):=by unfold tN;rw[bN h];rfl
     rw[this]
   rintro x rfl;exact ar (by rw[gO (by omega)])
  .refine aZ (λx=>x=(aj,(w,l),iE w (l.take i),(3,e),iE w (l.take (i+1)),fN l i 0,fN l i 1,fN l i 2,fN l i 3)) ?_ ?_
   .simp only[aV,bn,tC];exact aU (rd 3 rfl) (ar rfl)
   rintro x rfl;refine gw (aZ (λx=>x=((w,l),iE w (l.take i),iE w (l.take (i+1)),fN l (i+1) 0,fN l (i+1) 1,fN l (i+1) 2,fN l (i+1) 3)) ?_ ?_)
   .simp only[aV,bn,tC];rw[own 3 rfl,oth 0 (by show ¬(3:Int)=0;decide),oth 1 (by show ¬(3:Int)=1;decide),oth 2 (by show ¬(3:Int)=2;decide)];have:=fa 3;refine aK (λh=>bh (by simp;omega) (by omega) (ar ?_)) λh=>bh (by simp;omega) (by omega) (ar ?_)
    .have:tN (3,e)=ai:=by unfold tN;rw[aQ h];rfl
     rw[this]
    .have:tN (3,e)=decide (e.1=23):=by unfold tN;rw[bN h];rfl
     rw[this]
   rintro x rfl;exact ar (by rw[gO (by omega)])
 .rintro x rfl;exact dv (ar rfl)
theorem F0 {w:WT} {l:List ET} (tr:TR (w,l)) (hn:¬w.2.2.2.2.1.length=4):eo (w,l)=ah:=by
 have hl:=tr.len;dsimp only at hl;unfold eo jP aX bf bp ch dA jt bL fc kK nM bd bz bB bF aY cK aF cF;rw[show fV 400 (aO (al (w,l).2))=aj from gi.2 (by dsimp only[au];omega)];simp only[aV,bn,tC];rw[VW8 tr.wx tr.vl];simp only[aV,bn,tC];rw[CA tr.wx];simp only[aV,bn,tC];rw[show decide ((aO w.2.2.2.2.1.length:Int)=4)=aj from bN (by dsimp only[au];omega),Bool.and_false];rfl
theorem aep {w:WT} {l:List ET} (tr:TR (w,l)) (hn:w.2.2.2.2.1.length=3):dN (w,l)=af (0,0):=by
 have hl:=tr.len;dsimp only at hl;refine cI ?_;unfold dN jQ aX bf bp ch dA bL cR fc kK bd bz bB bF aY cK aF cF;refine fP (gi.2 (by dsimp only[au];omega)) (aU (VW8 tr.wx tr.vl) (gw (aU (CA tr.wx) (bg (by show (c6 0 (aO w.2.2.2.2.1.length)&&c6 (aO w.2.2.2.2.1.length) (aO w.2.2.2.2.1.length)&&a_ (aT (aO w.2.2.2.2.1.length)) 24&&decide ((aO w.2.2.2.2.1.length:Int)=3))=ai;rw[hn];rfl) ?_))));refine ju l.length (by omega) (λi x=>x=((i:Int),(w,l),iE w (l.take i),fN l i 0,fN l i 1,fN l i 2)) ?_ ?_ rfl
 .rintro i x hi rfl;have e1:=(tr.sc hi).en.t1;have e0:=(tr.sc hi).en.t0;have st:=OA tr hi;have fa:=λt=>Pz l i t
  have rd:=λt=>Ie tr hi (t:=t)
  have own:=λt=>Px hi (t:=t)
  have oth:=λt=>Py hi (t:=t)
  refine du ?_;refine cg (aS ?_);have ht:(eN l i).1=0\/(eN l i).1=1\/(eN l i).1=2:=by omega
  have hg:aJ (T:=tE) l (i:Int)=eN l i:=rfl;dsimp only;rw[hg];generalize eN l i=e at*
  refine aU st ?_;obtain⟨(t:Int),e⟩:=e;dsimp only at ht;rcases ht with rfl|rfl|rfl
  .refine aZ (λx=>x=(aj,(w,l),iE w (l.take i),(0,e),iE w (l.take (i+1)),fN l i 0,fN l i 1,fN l i 2)) ?_ ?_
   .simp only[aV,bn,tC];exact aU (rd 0 rfl) (ar rfl)
   rintro x rfl;refine gw (aZ (λx=>x=((w,l),iE w (l.take i),iE w (l.take (i+1)),fN l (i+1) 0,fN l (i+1) 1,fN l (i+1) 2)) ?_ ?_)
   .simp only[aV,bn,tC];rw[own 0 rfl,oth 1 (by show ¬(0:Int)=1;decide),oth 2 (by show ¬(0:Int)=2;decide)];have:=fa 0;refine aK (λh=>bh (by simp;omega) (by omega) (ar ?_)) λh=>bh (by simp;omega) (by omega) (ar ?_)
    .have:tN (0,e)=ai:=by unfold tN;rw[aQ h];rfl
     rw[this]
    .have:tN (0,e)=decide (e.1=23):=by unfold tN;rw[bN h];rfl
     rw[this]
   rintro x rfl;exact ar (by rw[gO (by omega)])
  .refine aZ (λx=>x=(aj,(w,l),iE w (l.take i),(1,e),iE w (l.take (i+1)),fN l i 0,fN l i 1,fN l i 2)) ?_ ?_
   .simp only[aV,bn,tC];exact aU (rd 1 rfl) (ar rfl)
   rintro x rfl;refine gw (aZ (λx=>x=((w,l),iE w (l.take i),iE w (l.take (i+1)),fN l (i+1) 0,fN l (i+1) 1,fN l (i+1) 2)) ?_ ?_)
   .simp only[aV,bn,tC];rw[own 1 rfl,oth 0 (by show ¬(1:Int)=0;decide),oth 2 (by show ¬(1:Int)=2;decide)];have:=fa 1;refine aK (λh=>bh (by simp;omega) (by omega) (ar ?_)) λh=>bh (by simp;omega) (by omega) (ar ?_)
    .have:tN (1,e)=ai:=by unfold tN;rw[aQ h];rfl
     rw[this]
    .have:tN (1,e)=decide (e.1=23):=by unfold tN;rw[bN h];rfl
     rw[this]
   rintro x rfl;exact ar (by rw[gO (by omega)])
  .refine aZ (λx=>x=(aj,(w,l),iE w (l.take i),(2,e),iE w (l.take (i+1)),fN l i 0,fN l i 1,fN l i 2)) ?_ ?_
   .simp only[aV,bn,tC];exact aU (rd 2 rfl) (ar rfl)
   rintro x rfl;refine gw (aZ (λx=>x=((w,l),iE w (l.take i),iE w (l.take (i+1)),fN l (i+1) 0,fN l (i+1) 1,fN l (i+1) 2)) ?_ ?_)
   .simp only[aV,bn,tC];rw[own 2 rfl,oth 0 (by show ¬(2:Int)=0;decide),oth 1 (by show ¬(2:Int)=1;decide)];have:=fa 2;refine aK (λh=>bh (by simp;omega) (by omega) (ar ?_)) λh=>bh (by simp;omega) (by omega) (ar ?_)
    .have:tN (2,e)=ai:=by unfold tN;rw[aQ h];rfl
     rw[this]
    .have:tN (2,e)=decide (e.1=23):=by unfold tN;rw[bN h];rfl
     rw[this]
   rintro x rfl;exact ar (by rw[gO (by omega)])
 .rintro x rfl;exact dv (ar rfl)
theorem Og {w:WT} {l:List ET} (tr:TR (w,l)) (hn:¬w.2.2.2.2.1.length=3):dN (w,l)=ah:=by
 have hl:=tr.len;dsimp only at hl;unfold dN jQ aX bf bp ch dA bL cR fc kK bd bz bB bF aY cK aF cF;rw[show fV 400 (aO (al (w,l).2))=aj from gi.2 (by dsimp only[au];omega)];simp only[aV,bn,tC];rw[VW8 tr.wx tr.vl];simp only[aV,bn,tC];rw[CA tr.wx];simp only[aV,bn,tC];rw[show decide ((aO w.2.2.2.2.1.length:Int)=3)=aj from bN (by dsimp only[au];omega),Bool.and_false];rfl
theorem aeq {w:WT} {l:List ET} (tr:TR (w,l)) (hn:w.2.2.2.2.1.length=2):dl (w,l)=af (0,0):=by
 have hl:=tr.len;dsimp only at hl;refine cI ?_;unfold dl jR aX bf bp ch bL dw fc bd bz bB bF aY cK aF cF;refine fP (gi.2 (by dsimp only[au];omega)) (aU (VW8 tr.wx tr.vl) (gw (aU (CA tr.wx) (bg (by show (c6 0 (aO w.2.2.2.2.1.length)&&c6 (aO w.2.2.2.2.1.length) (aO w.2.2.2.2.1.length)&&a_ (aT (aO w.2.2.2.2.1.length)) 24&&decide ((aO w.2.2.2.2.1.length:Int)=2))=ai;rw[hn];rfl) ?_))));refine ju l.length (by omega) (λi x=>x=((i:Int),(w,l),iE w (l.take i),fN l i 0,fN l i 1)) ?_ ?_ rfl
 .rintro i x hi rfl;have e1:=(tr.sc hi).en.t1;have e0:=(tr.sc hi).en.t0;have st:=OA tr hi;have fa:=λt=>Pz l i t
  have rd:=λt=>Ie tr hi (t:=t)
  have own:=λt=>Px hi (t:=t)
  have oth:=λt=>Py hi (t:=t)
  refine du ?_;refine cg (aS ?_);have ht:(eN l i).1=0\/(eN l i).1=1:=by omega
  have hg:aJ (T:=tE) l (i:Int)=eN l i:=rfl;dsimp only;rw[hg];generalize eN l i=e at*
  refine aU st ?_;obtain⟨(t:Int),e⟩:=e;dsimp only at ht;rcases ht with rfl|rfl
  .refine aZ (λx=>x=(aj,(w,l),iE w (l.take i),(0,e),iE w (l.take (i+1)),fN l i 0,fN l i 1)) ?_ ?_
   .simp only[aV,bn,tC];exact aU (rd 0 rfl) (ar rfl)
   rintro x rfl;refine gw (aZ (λx=>x=((w,l),iE w (l.take i),iE w (l.take (i+1)),fN l (i+1) 0,fN l (i+1) 1)) ?_ ?_)
   .simp only[aV,bn,tC];rw[own 0 rfl,oth 1 (by show ¬(0:Int)=1;decide)];have:=fa 0;refine aK (λh=>bh (by simp;omega) (by omega) (ar ?_)) λh=>bh (by simp;omega) (by omega) (ar ?_)
    .have:tN (0,e)=ai:=by unfold tN;rw[aQ h];rfl
     rw[this]
    .have:tN (0,e)=decide (e.1=23):=by unfold tN;rw[bN h];rfl
     rw[this]
   rintro x rfl;exact ar (by rw[gO (by omega)])
  .refine aZ (λx=>x=(aj,(w,l),iE w (l.take i),(1,e),iE w (l.take (i+1)),fN l i 0,fN l i 1)) ?_ ?_
   .simp only[aV,bn,tC];exact aU (rd 1 rfl) (ar rfl)
   rintro x rfl;refine gw (aZ (λx=>x=((w,l),iE w (l.take i),iE w (l.take (i+1)),fN l (i+1) 0,fN l (i+1) 1)) ?_ ?_)
   .simp only[aV,bn,tC];rw[own 1 rfl,oth 0 (by show ¬(1:Int)=0;decide)];have:=fa 1;refine aK (λh=>bh (by simp;omega) (by omega) (ar ?_)) λh=>bh (by simp;omega) (by omega) (ar ?_)
    .have:tN (1,e)=ai:=by unfold tN;rw[aQ h];rfl
     rw[this]
    .have:tN (1,e)=decide (e.1=23):=by unfold tN;rw[bN h];rfl
     rw[this]
   rintro x rfl;exact ar (by rw[gO (by omega)])
 .rintro x rfl;exact dv (ar rfl)
theorem aah {w:WT} {l:List ET} (tr:TR (w,l)) (hn:¬w.2.2.2.2.1.length=2):dl (w,l)=ah:=by
 have hl:=tr.len;dsimp only at hl;unfold dl jR aX bf bp ch bL dw fc bd bz bB bF aY cK aF cF;rw[show fV 400 (aO (al (w,l).2))=aj from gi.2 (by dsimp only[au];omega)];simp only[aV,bn,tC];rw[VW8 tr.wx tr.vl];simp only[aV,bn,tC];rw[CA tr.wx];simp only[aV,bn,tC];rw[show decide ((aO w.2.2.2.2.1.length:Int)=2)=aj from bN (by dsimp only[au];omega),Bool.and_false];rfl
theorem aer {w:WT} {l:List ET} (tr:TR (w,l)) (hn:w.2.2.2.2.1.length=1):ey (w,l)=af (0,0):=by
 have hl:=tr.len;dsimp only at hl;refine cI ?_;unfold ey lQ aX bf bp bL cR bd bz bB bF aY cK aF cF;refine fP (gi.2 (by dsimp only[au];omega)) (aU (VW8 tr.wx tr.vl) (gw (aU (CA tr.wx) (bg (by show (c6 0 (aO w.2.2.2.2.1.length)&&c6 (aO w.2.2.2.2.1.length) (aO w.2.2.2.2.1.length)&&a_ (aT (aO w.2.2.2.2.1.length)) 24&&decide ((aO w.2.2.2.2.1.length:Int)=1))=ai;rw[hn];rfl) ?_))));refine ju l.length (by omega) (λi x=>x=((i:Int),(w,l),iE w (l.take i),fN l i 0)) ?_ ?_ rfl
 .rintro i x hi rfl;have e1:=(tr.sc hi).en.t1;have e0:=(tr.sc hi).en.t0;have st:=OA tr hi;have fa:=λt=>Pz l i t
  have rd:=λt=>Ie tr hi (t:=t)
  have own:=λt=>Px hi (t:=t)
  have oth:=λt=>Py hi (t:=t)
  refine du ?_;refine cg (aS ?_);have ht:(eN l i).1=0:=by omega
  have hg:aJ (T:=tE) l (i:Int)=eN l i:=rfl;dsimp only;rw[hg];generalize eN l i=e at*
  refine aU st ?_;obtain⟨(t:Int),e⟩:=e;dsimp only at ht;subst ht
  .refine aZ (λx=>x=(aj,(w,l),iE w (l.take i),(0,e),iE w (l.take (i+1)),fN l i 0)) ?_ ?_
   .simp only[aV,bn,tC];exact aU (rd 0 rfl) (ar rfl)
   rintro x rfl;refine gw (aZ (λx=>x=((w,l),iE w (l.take i),iE w (l.take (i+1)),fN l (i+1) 0)) ?_ ?_)
   .simp only[aV,bn,tC];rw[own 0 rfl];have:=fa 0;refine aK (λh=>bh (by simp;omega) (by omega) (ar ?_)) λh=>bh (by simp;omega) (by omega) (ar ?_)
    .have:tN (0,e)=ai:=by unfold tN;rw[aQ h];rfl
     rw[this]
    .have:tN (0,e)=decide (e.1=23):=by unfold tN;rw[bN h];rfl
     rw[this]
   rintro x rfl;exact ar (by rw[gO (by omega)])
 .rintro x rfl;exact dv (ar rfl)
theorem amj {w:WT} {l:List ET} (tr:TR (w,l)):mE (w,l)=af (0,0):=by
 have h1:=tr.vl.t0;have I:=tr.vl.t;dsimp only at h1 I;unfold mE;have:w.2.2.2.2.1.length=4\/w.2.2.2.2.1.length=3\/w.2.2.2.2.1.length=2\/w.2.2.2.2.1.length=1:=by omega
 rcases this with h|h|h|h
 .rw[aeo tr h];rfl
 .rw[F0 tr (by omega),aep tr h];rfl
 .rw[F0 tr (by omega),Og tr (by omega),aeq tr h];rfl
 .rw[F0 tr (by omega),Og tr (by omega),aah tr (by omega),aer tr h];rfl
theorem QW {w:WT} {l:List ET} (tr:TR (w,l)):n_ w=af (HS.zero w).t:=by
 have wb:=tr.wb;dsimp only at wb;exact ae2 w (by have:=wb.c;unfold tK;omega) (by have:=wb.l;unfold tK;omega) (by have:=wb.f;unfold tK;omega) (by have:=wb.t;unfold tK;omega)
theorem af6 {w:WT} {l:List ET} (tr:TR (w,l)) {i:Nat} (hi:i<l.length):sI (w,(Nl w (l.take i)).t,eN l i)=af ((Nl w (l.take (i+1))).t,It w l i):=by
 have hl:=tr.len;dsimp only at hl;have:=ahc (O9 tr i (by omega)).1 (by omega) (Cl tr hi) (oy tr hi);rw[Dl w hi];exact this
def tA {α:Type} (n:Nat) (f:Nat->α) (z:α) (i:Nat):List α:=(bt n).map λk=>if k<i then f k else z
theorem Ow {α:Type} (n:Nat) (f:Nat->α) (z:α) (i:Nat):(tA n f z i).length=n:=by simp[tA]
theorem Ov {α:Type} {n:Nat} {f:Nat->α} {z:α} {i:Nat} (h:i<n):(tA n f z i).set i (f i)=tA n f z (i+1):=by
 unfold tA;apply dG
 .simp
 intro k h1 h2;simp only[sY,bY,iC]at h1;rw[vy];simp only[rc,nG];by_cases e:i=k
 .subst e;rw[aD rfl,aD (by omega)]
 .rw[ay e];by_cases g:k<i
  .rw[aD g,aD (by omega)]
  .rw[ay g,ay (by omega)]
theorem Ou {α:Type} (n:Nat) (f:Nat->α) (z:α):tA n f z 0=aG n z:=by unfold tA;simp[List.map_const']
theorem UF {α:Type} (n:Nat) (f:Nat->α) (z:α):tA n f z n=(bt n).map f:=qm λk hk=>by rw[aD (jU.1 hk)]
abbrev csN (w:WT) (l:List ET):List η:=(bt l.length).map (It w l)
theorem aag {w:WT} {l:List ET} (tr:TR (w,l)):pI (w,l)=af (csN w l,0):=by
 have hl:=tr.len;dsimp only at hl;refine cI ?_;unfold pI xX aX bL ck bz iR bB bF aY cK aF cF;refine aU (amj tr) (gw (aU (QW tr) (di (di (eA (by dsimp only[au];omega) (eA (by omega) (bh (by simp;omega) (by omega) ?_)))))));refine ju l.length (by omega) (λi x=>x=((i:Int),(w,l),(Nl w (l.take i)).t,tA l.length (It w l) [] i)) ?_ ?_ ?_
 .rintro i x hi rfl;refine du ?_;refine cg (aS ?_);refine aU (af6 tr hi) ?_;refine aR (by dsimp only;omega) (by dsimp only;rw[Ow];omega) (aR (by dsimp only;omega) (by dsimp only;rw[Ow];omega) (ar ?_));dsimp only;rw[gO (by omega),eE,Ov hi]
 .rintro x rfl;refine dv (ar ?_);dsimp only;rw[UF]
 .show _=_;rw[Ou];rfl
def pV (x:Int×Int×Int×Int×Int×η×η):Option (Bool):=
 (jn (α:=Bool) (bd x.2.1 3 (aF ai) (aF (decide ((x.2.1:Int)=4)))) λI=>(af I))
def oR (x:dj×Int×Int×Int×Int×Int×η×η):Option (Bool):=
 (jn (α:=Bool) (obind (pV x.2) λJ=>(bcase J (iT 0 x.p3 (bz x.p3 (aY x.1.1) (bF kE x.1.1 x.p3 λI=>(aF I.2.2.2.1)) (aF aj)) (aF aj)) (aF aj))) λM=>(af M))
def mo (x:(List gj)×Int):Option (Int):=
 (iter (σ:=Int) (λI=>(iT 0 I (bF gA x.1 I λM=>(bF gA x.1 x.2 λJ=>(bd M.1 J.1 (aF I) (cK (bk .i64 (I-1)))))) (aF (-1)))) (bk .i64 (x.2-1)))
def uy (x:(List gj)×Int):Option (Int):=
 (obind (mo x) λJ=>(jn (α:=Bool) (bz J 0 (aF ai) (bF gA x.1 J λz3=>(aF (!decide ((z3.2.1:Int)=16))))) λx2=>(bcase x2 (af (-1)) (iter (σ:=Int) (λI=>(bz I x.2 (jn (α:=Bool) (bF gA x.1 I λz6=>(bd z6.2.1 18 (bF gA x.1 I λz7=>(bF gA x.1 x.2 λz8=>(bd z7.2.2.2.1 z8.1 (aF ai) (bF gA x.1 I λz9=>(bd z9.2.1 19 (bF gA x.1 I λz10=>(bF gA x.1 J λZ=>(aF (decide ((z10.2.2.1:Int)=Z.2.2.1))))) (aF aj)))))) (bF gA x.1 I λY=>(bd Y.2.1 19 (bF gA x.1 I λU=>(bF gA x.1 J λM=>(aF (decide ((U.2.2.1:Int)=M.2.2.1))))) (aF aj))))) λx5=>(bcase x5 (aF I) (cK (cF I)))) (aF (-1)))) (cF J)))))
def wH (x:dj×(List gj)×Int):Option η:=
 (bF gA x.2.1 x.2.2 λz1=>(iter (σ:=Int×dj×η×Int×Int×Int×Int×Int×η×η) (λI=>(bz I.1 x.2.2 (bF gA x.2.1 I.1 λz3=>(jn (α:=dj×η×Int×Int×Int×Int×Int×η×η) (jn (α:=Bool×dj×η×gj×Int×Int×Int×Int×Int×η×η) (bd I.p4 1 (bd z3.2.1 20 (aF ((decide ((z3.p2:Int)=I.p3)),I.2.1,I.p2,I.q3,z3)) (aF (aj,I.2.1,I.p2,I.q3,z3))) (aF (aj,I.2.1,I.p2,I.q3,z3))) λU=>(bcase U.1 (bB (a_ (al U.p2+al ([I.1])) 8) (aF (U.2.1,(U.p2++([I.1])),U.p3))) (jn (α:=Bool×dj×η×gj×Int×Int×Int×Int×Int×η×η) (bd U.p3.2.1 21 (aF ((decide ((U.p4:Int)=U.p3.p2)),U.2)) (aF (aj,U.2))) λM=>(bcase M.1 (bB (a_ (al M.p2+al ([I.1])) 8) (aF (M.2.1,(M.p2++([I.1])),M.p3))) (jn (α:=Bool×dj×η×gj×Int×Int×Int×Int×Int×η×η) (bd M.p3.2.1 3 (obind (oR (M.2.1,M.p3)) λy8=>(bcase y8 (bd M.p5 4 (aF ((decide ((M.p6:Int)=M.p3.p2)),M.2)) (aF (aj,M.2))) (aF (aj,M.2)))) (aF (aj,M.2))) λJ=>(bcase J.1 (bB (a_ (al J.p2+al ([I.1])) 8) (aF (J.2.1,(J.p2++([I.1])),J.p3))) (jn (α:=Bool×dj×η×Int×Int×Int×Int×Int×η×η) (bd J.p3.2.1 23 (bd J.p5 22 (aF ((decide ((J.p6:Int)=J.p3.p2)),J.2.1,J.p2,J.p3)) (aF (aj,J.2.1,J.p2,J.p3))) (aF (aj,J.2.1,J.p2,J.p3))) λZ=>(bcase Z.1 (bB (a_ (al Z.p2+al ([I.1])) 8) (aF (Z.2.1,(Z.p2++([I.1])),Z.q3))) (aF Z.2))))))))) λx4=>(cK ((cF I.1),x4)))) (obind (jn (α:=η) (bd I.p4 17 (obind (uy x.2) λY=>(iT 0 Y (bB (a_ (al I.p2+al ([Y])) 8) (aF (I.p2++([Y])))) (aF I.p2))) (aF I.p2)) λx10=>(af x10)) λr=>af (bP r)))) (0,x.1,([]:η),z1)))
def wG (x:dj×(List gj)×Int):Option η:=
 (bF gA x.2.1 x.2.2 λz1=>(obind (oU (x.1,z1)) λy2=>(iter (σ:=Int×dj×η) (λI=>(bz I.1 x.2.2 (jn (α:=dj×η) (bF gA x.2.1 I.1 λz5=>(obind (oS (I.2.1,z5)) λy6=>(jn (α:=Bool×dj×η) (iT 0 y2.1 (bd y6.1 y2.1 (bcase y2.2 (bcase (!y6.2) (aF (ai,I.2)) (bF gA x.2.1 x.2.2 λz8=>(bd z8.2.1 12 (bF gA x.2.1 I.1 λz9=>(aF ((decide ((z9.2.1:Int)=13)),I.2))) (aF (aj,I.2))))) (aF (ai,I.2))) (bF gA x.2.1 x.2.2 λZ=>(bd Z.2.1 12 (bF gA x.2.1 I.1 λY=>(aF ((decide ((Y.2.1:Int)=13)),I.2))) (aF (aj,I.2))))) (bF gA x.2.1 x.2.2 λU=>(bd U.2.1 12 (bF gA x.2.1 I.1 λM=>(aF ((decide ((M.2.1:Int)=13)),I.2))) (aF (aj,I.2))))) λJ=>(bcase J.1 (bB (a_ (al J.2.2+al ([I.1])) 8) (aF (J.2.1,(J.2.2++([I.1]))))) (aF J.2))))) λx4=>(cK ((cF I.1),x4))) (aF I.2.2))) (0,x.1,([]:η)))))
theorem Nf (k j v:Int):∀m:List ν,tD (K:=.int .i64) (V:=.int .i64) j (Jb (K:=.int .i64) (V:=.int .i64) k v m)=if j=k then af v else tD (K:=.int .i64) (V:=.int .i64) j m
 |[]=>by
  show (if decide (j=k)=ai then af v else ah)=_;by_cases h:j=k<;>simp[h,tD]
 |(a,b)::r=>by
  have I:=Nf k j v r;show tD (K:=.int .i64) (V:=.int .i64) j (if decide (k=a)=ai then (k,v)::r else (a,b)::Jb (K:=.int .i64) (V:=.int .i64) k v r)=if j=k then af v else if decide (j=a)=ai then af b else tD (K:=.int .i64) (V:=.int .i64) j r
  by_cases h:k=a
  .subst h;rw[aD (aQ rfl)];show (if decide (j=k)=ai then af v else tD (K:=.int .i64) (V:=.int .i64) j r)=_;by_cases g:j=k<;>simp[g]
  .rw[ay (by simpa using h)];show (if decide (j=a)=ai then af b else tD (K:=.int .i64) (V:=.int .i64) j (Jb (K:=.int .i64) (V:=.int .i64) k v r))=_;rw[I];by_cases g:j=a
   .subst g;rw[aD (aQ rfl),ay λq=>h q.symm,aD (aQ rfl)]
   .simp only[g,cB,cE,ef]
abbrev Kf0:Ty:=(.st (.pr aM (.pr aM (.pr aM aM))))
abbrev Kf1:Ty:=(.st (.pr Em (.pr Em Em)))
abbrev Yf0:=((List η)×(List η)×(List η)×(List η)×(List η)×η×(List η)×η)
abbrev Yf1:=(Int×Int×Int×Int)
abbrev Yf2:=((List η)×(List η)×Int)
def AB (it:xy) (x:dj×Yn×Int×Int×Int×Int×Int×η×η):Option (Yf0×η×List η):=
 (obind (rL (x.2.1.1,x.2.1.2.1,x.2.1.p2,x.2.1.p3,x.2.1.p4,x.2.1.p5,x.2.1.p6,x.2.1.p7,x.2.1.q8)) λU=>(ck (eX x.p2 (al U.2.1)) (obind (rM ((x.p2,x.p3,x.p4,x.p5,x.p6,x.p7,x.q8),U.1,(x.1.1,x.1.2.1,x.1.p2,x.1.p3,x.1.p4,x.1.q5),U.2.1,U.p2,U.p3,U.p4,U.p5,U.p6,U.p7,U.q8)) λJ=>(bB (aC (al U.q8) (al J.q11)&&(aC (al U.p7) (al J.p10)&&(aC (al U.p6) (al J.p9)&&(aC (al U.p5) (al J.p8)&&(aC (al U.p4) (al J.p7)&&(aC (al U.p3) (al J.p6)&&(aC (al U.p2) (al J.p5)&&(aC (al U.2.1) (al J.p4)&&ai)))))))) (it (Int×dj×gj×η×η×(List η)×(List η)×(List η)×(List η)×(List η)×(List η)×(List η)×η) _ (λI=>(bz I.1 (aY J.1) (tO I.1 J.1 (obind (iK (I.p4,(aJ (T:=(.sl aM)) J.1 I.1))) λZ=>(cK ((cF I.1),(I.2.1.1,I.2.1.2.1,I.2.1.p2,I.2.1.p3,I.2.1.p4,I.2.1.q5),(I.p2.1,I.p2.2.1,I.p2.p2,I.p2.p3,I.p2.p4,I.p2.p5,I.p2.q6),I.p3,Z,I.p5,I.p6,I.p7,I.p8,I.p9,I.p10,I.p11,I.q12)))) (obind (obind (qb (I.p4,I.p2.1)) λY=>(obind (p_ (((I.2.1.1,I.2.1.2.1,I.2.1.p2,I.2.1.p3,I.2.1.p4,I.2.1.q5),I.p2.1,I.p2.2.1,I.p2.p2,I.p2.p3,I.p2.p4,I.p2.p5,I.p2.q6),I.p3,I.p5,I.p6,I.p7,I.p8,I.p9,I.p10,I.p11,I.q12,Y)) λM=>(bB (aC (al Y) (al M.q9)&&(aC (al I.q12) (al M.p8)&&(aC (al I.p11) (al M.p7)&&(aC (al I.p10) (al M.p6)&&(aC (al I.p9) (al M.p5)&&(aC (al I.p8) (al M.p4)&&(aC (al I.p7) (al M.p3)&&(aC (al I.p6) (al M.p2)&&(aC (al I.p5) (al M.2.1)&&ai))))))))) (af ((M.p2,M.p3,M.p4,M.p5,M.p6,M.1,M.p7,M.p8),M.q9,M.2.1))))) λr=>af (bP r)))) (0,(J.p3.1,J.p3.2.1,J.p3.p2,J.p3.p3,J.p3.p4,J.p3.q5),(J.2.1.1,J.2.1.2.1,J.2.1.p2,J.2.1.p3,J.2.1.p4,J.2.1.p5,J.2.1.q6),J.p2,(aJ (T:=(.sl aM)) U.2.1 x.p2),J.p4,J.p5,J.p6,J.p7,J.p8,J.p9,J.p10,J.q11))))))
def ES (x:dj×Yn×Int×Int×Int×Int×Int×η×η):Option (Yf0×η×List η):=AB @iter x
def qa (x:dj×Yn×Int×Int×Int×Int×Int×η×η):Option (Yf0×η×List η):=AB @fK x
def nO (x:dj×Int×Int×Int×Int×Int×η×η):Option (Bool):=
 (jn (α:=Bool) (bd x.p2 3 (bF kE x.1.1 x.p3 λJ=>(aF (!J.2.2.2.1))) (bd x.p2 4 (bF kE x.1.1 x.p3 λI=>(aF (!I.2.2.2.1))) (aF aj))) λM=>(af M))
def vK (it:xy) (x:dj×List gj):Option Yf2:=
 (obind (pI x) λy1=>(iR y1.2 0 (af (([]:List η),([]:List η),y1.2)) (obind (n_ x.1) λy2=>(ck (c6 0 (aY x.2)&&c6 (aY x.2) (aY x.2)&&a_ (aT (aY x.2)) 24) (it (Int×(dj×List gj)×(List η)×(List η)×Yn×List ν) _ (λI=>(bz I.1 (aY x.2) (bF gA x.2 I.1 λM=>(obind (qa (I.2.1.1,I.p4,M)) λJ=>(ck (eX I.1 (al I.p2)) (kl (.sl aM) (cw I.p2 I.1 J.2.1) I.1 λz6=>(obind (xR z6) λU=>(ck (eX I.1 (al I.p3)) (jn (α:=(dj×List gj)×(List η)×(List η)×Yf0×QL×List η) (bd M.2.1 3 (bcase (OV (K:=aM) (V:=aM) M.p2 I.q5) (kl (.sl aM) (cw I.p2 I.1 J.2.1) I.1 λz9=>(kl (.sl aM) (cw I.p3 I.1 U) (Ge (K:=aM) (V:=aM) M.p2 I.q5 0) λz10=>(obind (iK (z9,z10)) λZ=>(ck (eX I.1 (al (cw I.p3 I.1 U))) (kl (.sl aM) (cw (cw I.p3 I.1 U) I.1 Z) I.1 λz12=>(obind (xR z12) λy13=>(ck (eX M.1 (al J.2.2)) (aF (I.2.1,(cw I.p2 I.1 J.2.1),(cw (cw I.p3 I.1 U) I.1 Z),J.1,I.q5,(cw J.2.2 M.1 y13)))))))))) (aF (I.2.1,(cw I.p2 I.1 J.2.1),(cw I.p3 I.1 U),J.1,I.q5,J.2.2))) (bd M.2.1 4 (aF (I.2.1,(cw I.p2 I.1 J.2.1),(cw I.p3 I.1 U),J.1,(Jb (K:=aM) (V:=aM) M.p2 I.1 I.q5),J.2.2)) (aF (I.2.1,(cw I.p2 I.1 J.2.1),(cw I.p3 I.1 U),J.1,I.q5,J.2.2)))) λY=>(cK ((cF I.1),Y.1,Y.2.1,Y.p2,(Y.q5,Y.p3),Y.p4))))))))) (aF (I.p2,I.p3,0)))) (0,x,(aG (aT (aY x.2)) ([]:η)),(aG (aT (aY x.2)) ([]:η)),y2,([]:List ν)))))))
def zu (x:dj×List gj):Option Yf2:=vK @iter x
def ly (x:dj×List gj):Option Yf2:=vK @fK x
def Cj (it:xy) (x:dj×List gj):Option (QL×Int):=
 (obind (ly x) λy1=>(iR y1.2.2 0 (af (([]:List ν),y1.2.2)) (bB (c6 0 (aY x.2)&&c6 (aY x.2) (aY x.2)&&a_ (aT (aY x.2)) 16) (it (Int×(dj×List gj)×Yf1×QL×List ν) _ (λI=>(bz I.1 (aY x.2) (jn (α:=(dj×List gj)×Yf1×QL×List ν) (bF gA x.2 I.1 λz4=>(jn (α:=(dj×List gj)×Yf1×QL×QL×Int×Int×Int×Int×Int×η×η) (bd z4.1 0 (aF (I.2.1,((cF I.p2.1),I.p2.2),I.p3,I.q4,0,z4.2)) (bd z4.1 1 (aF (I.2.1,(I.p2.1,(cF I.p2.2.1),I.p2.2.2),I.p3,I.q4,1,z4.2)) (bd z4.1 2 (aF (I.2.1,(I.p2.1,I.p2.2.1,(cF I.p2.p2),I.p2.q3),I.p3,I.q4,2,z4.2)) (bd z4.1 3 (aF (I.2.1,(I.p2.1,I.p2.2.1,I.p2.p2,(cF I.p2.q3)),I.p3,I.q4,3,z4.2)) ah)))) λJ=>(jn (α:=(dj×List gj)×Yf1×QL×QL×Int×Int×Int×Int×Int×η×η) (bd J.p4 0 (ck (eX I.1 (al J.p2)) (aF (J.1,J.2.1,(cw J.p2 I.1 (J.2.1.1,0)),J.p3,0,J.q5))) (bd J.p4 1 (ck (eX I.1 (al J.p2)) (aF (J.1,J.2.1,(cw J.p2 I.1 (J.2.1.2.1,1)),J.p3,1,J.q5))) (bd J.p4 2 (ck (eX I.1 (al J.p2)) (aF (J.1,J.2.1,(cw J.p2 I.1 (J.2.1.p2,2)),J.p3,2,J.q5))) (bd J.p4 3 (ck (eX I.1 (al J.p2)) (aF (J.1,J.2.1,(cw J.p2 I.1 (J.2.1.q3,3)),J.p3,3,J.q5))) ah)))) λY=>(obind (nO (Y.1.1,Y.q4)) λy7=>(bcase (!y7) (aF (Y.1,Y.2.1,Y.p2,Y.p3)) (bB (c6 0 I.1&&c6 I.1 (al Y.1.2)) (it (Int×(dj×List gj)×Yf1×QL×QL×Int×Int×Int×Int×Int×η×η) _ (λM=>(bz M.1 (aO (al (dF (aT I.1) Y.1.2))) (jn (α:=(dj×List gj)×Yf1×QL×QL×Int×Int×Int×Int×Int×η×η) (bF gA (dF (aT I.1) Y.1.2) M.1 λZ=>(jn (α:=Bool×(dj×List gj)×Yf1×QL×QL×Int×Int×Int×Int×Int×η×η) (obind (nO (M.2.1.1,Z)) λy12=>(bcase y12 (bd Z.p2 M.p7 (iR Z.1 M.p5 (bd Z.2.1 4 (aF (ai,M.2)) (aF ((decide ((M.p6:Int)=4)),M.2))) (aF (aj,M.2))) (aF (aj,M.2))) (aF (aj,M.2)))) λx11=>(jn (α:=Bool×(dj×List gj)×Yf1×QL×QL×Int×Int×Int×Int×Int×η×η) (bcase x11.1 (bF (.sl aM) y1.1 I.1 λz14=>(kl iN x11.p3 M.1 λz15=>(obind (v_ (z14,z15)) λy16=>(aF ((!y16),x11.2))))) (aF (aj,x11.2))) λU=>(bcase U.1 (bB (a_ (al U.p4+al ([(M.1,I.1)])) 16) (aF (U.2.1,U.p2,U.p3,(U.p4++([(M.1,I.1)])),U.q5))) (aF U.2))))) λx9=>(cK ((cF M.1),x9))) (aF (bP (M.2.1,M.p2,M.p3,M.p4))))) (0,Y)))))))) λx3=>(cK ((cF I.1),x3))) (aF (I.q4,0)))) (0,x,(0,0,0,0),(aG (aT (aY x.2)) ((0,0):ν)),([]:List ν))))))
def B4 (x:dj×List gj):Option (QL×Int):=Cj @iter x
def ux (x:dj×List gj):Option (QL×Int):=Cj @fK x
def k_ (x:dj×List gj):Option ((List η)×List η):=
 (iter (σ:=Int×(dj×List gj)×(List η)×List η) (λM=>(bz M.1 (aY x.2) (bF gA x.2 M.1 λz2=>(jn (α:=η×(dj×List gj)×(List η)×(List η)×Int×Int×Int×Int×Int×η×η) (obind (mo (M.2.1.2,M.1)) λy4=>(iT 0 y4 (kl (.sl aM) M.q3 y4 λz5=>(aF (z5,M.2.1,M.p2,M.q3,z2))) (aF (([]:η),M.2.1,M.p2,M.q3,z2)))) λx3=>(obind (wH (x3.2.1.1,x3.2.1.2,M.1)) λy6=>(iter (σ:=fD×(dj×List gj)×(List η)×(List η)×Int×Int×Int×Int×Int×η×η) (λY=>(bz Y.1.2 (aY y6) (bF aM y6 Y.1.2 λz8=>(kl (.sl aM) Y.p3 z8 λz9=>(obind (nQ (Y.1.1,z9)) λy10=>(cK ((y10,(cF Y.1.2)),Y.2))))) (obind (obind (wG (Y.2.1.1,Y.2.1.2,M.1)) λy11=>(iter (σ:=fD×(dj×List gj)×(List η)×(List η)×Int×Int×Int×Int×Int×η×η) (λI=>(bz I.1.2 (aY y11) (bF aM y11 I.1.2 λz13=>(kl (.sl aM) I.p3 z13 λz14=>(obind (nQ (I.1.1,z14)) λy15=>(cK ((y15,(cF I.1.2)),I.2))))) (obind (obind (mn (I.1.1,I.p4)) λy16=>(bB (a_ (al I.p2+al ([y16])) 24) (jn (α:=η×(dj×List gj)×(List η)×(List η)×Int×Int×Int×Int×Int×η×η) (bd I.p5 3 (jn (α:=η×(dj×List gj)×(List η)×(List η)×Int×Int×Int×Int×Int×η×η) (iter (σ:=fD×(dj×List gj)×(List η)×(List η)×Int×Int×Int×Int×Int×η×η) (λJ=>(iT 0 J.1.2 (jn (α:=Bool×(dj×List gj)×(List η)×(List η)×Int×Int×Int×Int×Int×η×η) (bF gA J.2.1.2 J.1.2 λz21=>(bd z21.2.1 4 (bF gA J.2.1.2 J.1.2 λz22=>(aF ((decide ((z22.2.2.1:Int)=J.p6)),J.2))) (aF (aj,J.2)))) λZ=>(bcase Z.1 (kl (.sl aM) Z.p3 J.1.2 λz23=>(obind (nQ (J.1.1,z23)) λy24=>(aF (bP (y24,Z.2))))) (cK ((J.1.1,(bk .i64 (J.1.2-1))),Z.2)))) (aF (bP (J.1.1,J.2))))) ((I.1.1,(bk .i64 (M.1-1))),I.2.1,(I.p2++([y16])),I.q3)) λx18=>(aF x18)) (aF (I.1.1,I.2.1,(I.p2++([y16])),I.q3))) λU=>(obind (mn (U.1,U.p4)) λy25=>(bB (a_ (al U.p3+al ([y25])) 24) (cK ((cF M.1),U.2.1,U.p2,(U.p3++([y25]))))))))) λr=>af (bP r)))) ((Y.1.1,0),Y.2))) λr=>af (bP r)))) ((x3.1,0),x3.2))))) (aF M.2.2))) (0,x,([]:List η),([]:List η)))
def tR (x:Unit):Option (Bool):=
 (obind (Db ()) λM=>(obind (ux (M,[(0,1,(-1),0,(-1),([]:η),([]:η)),(0,20,1,0,0,([]:η),([]:η)),(1,1,(-1),0,(-1),([]:η),([]:η)),(0,4,0,5,0,([]:η),([]:η)),(0,4,1,6,0,([]:η),([]:η)),(1,3,1,6,6,([]:η),([]:η)),(1,3,0,5,6,([]:η),([]:η))])) λI=>(jn (α:=Bool) (bd I.2 0 (bd (aY I.1) 1 (bF iN I.1 0 λJ=>(aF (QJ (.pr aM (.pr aM .un)) (J.1,J.2,()) (4,5,()) !=aj))) (aF aj)) (aF aj)) λU=>(af U))))
def li (x:η×η×η):Option (Bool):=
 (obind (k9 (x,40)) λM=>(obind (ly M) λI=>(obind (k_ M) λJ=>(jn (α:=Bool) (bd I.2.2 0 (obind (jv (I.1,J.1)) λZ=>(bcase Z (obind (jv (I.2.1,J.2)) λY=>(bcase Y (obind (tR ()) λU=>(aF U)) (aF aj))) (aF aj))) (aF aj)) λx4=>(af x4)))))
def HS.tS (h:HS):List η×List η×List η×List η×List η×η×List η×η:=(h.S,h.L,h.R,h.C,h.F,h.X,h.N,h.W)
theorem ae1 {n:Int} {w:uY} {h:HS} (o:Qy n h) (hn:n+1<=1000000) {e:EV} (ok:EOK w h e) {x:ETp} (hx:EvT e x):qa (w,h.t,x)=af ((F4 w h e).1.tS,(F4 w h e).2,(F4 w h e).1.T):=by
 have s2:=T5 o ok hx;have hce:En (n+1) (t_ w h e):=K5 o ok.th4;have en:=Sl o hn ok hx hce;have cp:=N6 h.t o.GH;have sE:=OC (w:=w) o e;have sl:=F5 w h e;have hlen:=vN w h e (t_ w h e);obtain⟨x1,x2,x3,x4,x5,x6,x7⟩:=x;obtain⟨Z,Y,U,M,J,I⟩:=w;have t1:=hx.th;simp only at t1;subst t1;unfold HS.t at cp;simp only[]at cp;have fT:eX (e.th:Int) h.T.length=ai:=cS ok.th;unfold qa AB HS.t xv Eu aX bf bp ch dA jt vq xz LD Prod.q12 cR fc nM Oi ck bz tO bB aY cK cF;simp only[];rw[cp,cG];simp only[];rw[b8 fT,b8 fT,s2,cG];simp only[];rw[b8 (by simp only[WE rfl,iQ])];refine E5 (qh (Z,Y,U,M,J,I) h e).length (by omega) (λi=>((i:Int),(Z,Y,U,M,J,I),((e.th:Int),x2,x3,x4,x5,x6,x7),h.X,((qh (Z,Y,U,M,J,I) h e).take i).foldl jl (h.T.getD e.th []),h.T,h.S,h.L,h.R,h.C,h.F,h.N,h.W)) ?_ ?_ ?_
 .simp only[lU,LG,List.foldl_nil];rfl
 .intro i hi;simp only[];rw[sL (by simp;omega),cV,b8 (cS hi),lU,(yd _ _ (o.T e.th) (λy hy=>sE y (fZ hy))).join (sE _ (Dx hi)),cG,mm hi (by omega),JW _ _ _ hi]
 .simp only[];rw[sM (by simp),cO,fk (bX _)];have hl:=ad7 (w:=(Z,Y,U,M,J,I)) o e e.th;rw[Yo _ e.th (yd _ _ (o.T e.th) sE).lb ok.th4 hl.1 hl.2,cG];unfold HS.e at en;unfold t_ at en hlen;rw[en,cG];simp only[];rw[b8 (by rw[hlen.1,hlen.2.1,hlen.2.2.1,hlen.2.2.2.1,hlen.2.2.2.2.1,hlen.2.2.2.2.2.1,hlen.2.2.2.2.2.2.1,hlen.2.2.2.2.2.2.2];simp only[WE rfl,iQ])];rfl
theorem ab3 {w:WT} {l:List ET} {cl:Nat->η} (tr:TR (w,l)) (C:CL w l cl) {i:Nat} (hi:i<l.length):qa (w,(vh w l cl i).t,eN l i)=af ((ie w (vh w l cl i) (bZ l i) (LM w l cl i)).tS,LM w l cl i,(ie w (vh w l cl i) (bZ l i) (LM w l cl i)).T):=by
 have hl:=tr.len;dsimp only at hl;exact ae1 (O_ tr C hi) (by omega) (Cm tr C hi) (oy tr hi)
theorem Sm (w:uY) (h:HS) {e:EV} (k:e.k=3) (c:η):ie w h e c={h with T:=h.T.set e.th c}:=by
 unfold ie;simp only[];repeat' split
 all_goals first|rfl|omega
theorem Ox {n:Nat} {f:Nat->η} {i k:Nat} (h:k<i) (g:k<n):aJ (T:=.sl (.int .i64)) (tA n f [] i) (k:Int)=f k:=by
 rw[lU];unfold tA;rw[aA,bc,Hn g];simp[h]
abbrev mgI (u:Int) (m:List ν):Option Int:=tD (K:=.int .i64) (V:=.int .i64) u m
theorem XE {u v:Int} {m:List ν} (h:mgI u m=af v):OV (K:=.int .i64) (V:=.int .i64) u m=ai/\Ge (K:=.int .i64) (V:=.int .i64) u m 0=v:=by
 have h:tD (K:=.int .i64) (V:=.int .i64) u m=af v:=h;unfold OV Ge;rw[h];exact⟨rfl,rfl⟩
theorem aft {u:Int} {m:List ν} (h:mgI u m=ah):OV (K:=.int .i64) (V:=.int .i64) u m=aj:=by
 have h:tD (K:=.int .i64) (V:=.int .i64) u m=ah:=h;unfold OV;rw[h]
theorem Q4 {w:WT} {l:List ET} (tr:TR (w,l)):ly (w,l)=af ((bt l.length).map (xw w l),(bt l.length).map (nJ w l),0):=by
 have hl:=tr.len;dsimp only at hl;have C:=ai1 w l;refine cI ?_;unfold ly vK aX bf bp cR ck bd bz iR bF kl aY cK aF cF;refine aU (aag tr) (gw (aU (QW tr) ?_));refine di (di (eA (by dsimp only[au];omega) (eA (by omega) (bh (by simp;omega) (by omega) ?_))));refine di (di (eA (by dsimp only[au];omega) (eA (by omega) (bh (by simp;omega) (by omega) ?_))));refine ju l.length (by omega) (λi x=>x.1=(i:Int)/\x.2.1=(w,l)/\x.2.2.1=tA l.length (xw w l) [] i/\x.2.2.2.1=tA l.length (nJ w l) [] i/\x.2.2.2.2.1=(vh w l (nJ w l) i).t/\∀u:Nat,mgI (u:Int) x.2.2.2.2.2=if 0<=Ht l u i then af (Ht l u i) else ah) ?_ ?_ ?_
 .rintro i ⟨x,y,a,b,h,m⟩ hi ⟨e1,e2,e3,Y,U,hm⟩;dsimp only at e1 e2 e3 Y U hm;subst e1;subst e2;subst e3;subst Y;subst U;have k1:∀{R α:Type} {f:Nat->α} {z:α} {j:Nat} {k:Option R} {Q:R->Prop},Ok k Q->Ok (chk (eX (i:Int) (tA l.length f z j).length) λ_=>k) Q:=λh=>aR (by omega) (by rw[Ow];omega) h
  have s1:cw (tA l.length (xw w l) [] i) (i:Int) (xw w l i)=tA l.length (xw w l) [] (i+1):=by rw[eE,Ov hi]
  have kb:=(adb tr C hi).lb;have kc:=(K6 tr C hi).lb;have et:=oy tr hi;have hz:(eN l i).2.1=((bZ l i).k:Int):=et.k;refine du (cg (aS (aU (ab3 tr C hi) ?_)));dsimp only;rw[s1];refine k1 (k1 (k1 (k1 (aS ?_))));rw[Ox (q_ i) hi];refine aU (Es _ kb) (k1 (k1 ?_));refine aZ (λx=>x.1=(w,l)/\x.2.1=tA l.length (xw w l) [] (i+1)/\x.2.2.1=tA l.length (nJ w l) [] (i+1)/\(x.2.2.2.2.2,x.2.2.2.1)=((vh w l (nJ w l) (i+1)).T,(vh w l (nJ w l) (i+1)).tS)/\∀u:Nat,mgI (u:Int) x.2.2.2.2.1=if 0<=Ht l u (i+1) then af (Ht l u (i+1)) else ah) ?_ ?_
  .have sK:nJ w l i=xw w l i->cw (tA l.length (nJ w l) [] i) (i:Int) (xw w l i)=tA l.length (nJ w l) [] (i+1):=λe=>by rw[<- e,eE,Ov hi]
   have Z:nJ w l i=xw w l i->((ie w (vh w l (nJ w l) i) (bZ l i) (xw w l i)).T,(ie w (vh w l (nJ w l) i) (bZ l i) (xw w l i)).tS)=((vh w l (nJ w l) (i+1)).T,(vh w l (nJ w l) (i+1)).tS):=λe=>by rw[vh,e]
   have hls:¬(bZ l i).k=4->∀u,Ht l u (i+1)=Ht l u i:=λk u=>by rw[Ht,ay λq=>k q.1]
   refine aK (λI=>?_) λI=>aK (λM=>ar ?_) λM=>ar ?_
   .have I:(eN l i).2.1=3:=I;have I:(bZ l i).k=3:=by omega
    have ob:(eN l i).2.2.1=((bZ l i).ob:Int):=et.ob (by rw[I];decide);change Ok (bcase (OV (K:=.int .i64) (V:=.int .i64) (eN l i).2.2.1 m) _ _) _;have hmo:=hm (bZ l i).ob;by_cases q:0<=Ht l (bZ l i).ob i
    .have rd:QH l i:=⟨I,q⟩
     have hs:=IQ rd;have hsl:QF l i<l.length:=by omega
     have er:Ht l (bZ l i).ob i=(QF l i:Int):=by unfold QF;omega
     rw[aD q,er]at hmo;rw[<- ob]at hmo;refine fI (XE hmo).1 ?_;have U:aJ (T:=.sl (.int .i64)) (cw (tA l.length (nJ w l) [] i) (i:Int) (xw w l i)) (QF l i:Int)=nJ w l (QF l i):=by
      rw[eE,lU,ny,ay λq=>by omega];have:=Ox (f:=nJ w l) hs hsl;rw[lU]at this;exact this
     have J:nJ w l i=jl (xw w l i) (nJ w l (QF l i)):=by rw[EG,aD rd]
     have e7:cw (cw (tA l.length (nJ w l) [] i) (i:Int) (xw w l i)) (i:Int) (jl (xw w l i) (nJ w l (QF l i)))=tA l.length (nJ w l) [] (i+1):=by rw[<- J,eE,eE,List.set_set,Ov hi]
     have ln:(cw (tA l.length (nJ w l) [] i) (i:Int) (xw w l i)).length=l.length:=by rw[bT,Ow]
     have kd:=(K6 tr C hsl).lb;refine k1 (k1 (aS ?_));rw[(XE hmo).2];refine aR (by omega) (by rw[ln];omega) (aR (by omega) (by rw[ln];omega) (aS ?_));rw[U];refine aU (Iz _ _ kb kd) (aR (by omega) (by rw[ln];omega) (aR (by omega) (by rw[ln];omega) ?_));rw[e7];refine k1 (k1 (aS ?_));rw[Ox (q_ i) hi];have et1:(eN l i).1=((bZ l i).th:Int):=et.th;have hth:(bZ l i).th<(ie w (vh w l (nJ w l) i) (bZ l i) (LM w l (nJ w l) i)).T.length:=by rw[(vN ..).1];exact (Cm tr C hi).th
     refine aU (Es _ kc) (aR (j:=(eN l i).1) (by omega) (by omega) (aR (j:=(eN l i).1) (by omega) (by omega) (ar ⟨rfl,rfl,rfl,?_,λu=>?_⟩)))
     .dsimp only;rw[show (aJ (T:=tE) l (i:Int)).1=((bZ l i).th:Int) from et1,eE,vh,Sm _ _ I,Sm _ _ I];simp only[List.set_set];rfl
     .rw[hls (by omega)];exact hm u
    .rw[ay q,<-ob]at hmo;have nr:¬QH l i:=λr=>q r.2
     have J:nJ w l i=xw w l i:=by rw[EG,ay nr]
     refine fP (aft hmo) (ar ⟨rfl,rfl,sK J,Z J,λu=>?_⟩);rw[hls (by omega)];exact hm u
   .have M:(eN l i).2.1=4:=M;have M:(bZ l i).k=4:=by omega
    have J:nJ w l i=xw w l i:=aid (by omega);have ob:(aJ (T:=tE) l (i:Int)).2.2.1=((bZ l i).ob:Int):=et.ob (by rw[M];decide);refine ⟨rfl,rfl,sK J,Z J,λu=>?_⟩;dsimp only;rw[ob];unfold mgI;rw[Nf];by_cases q:(bZ l i).ob=u
    .have e:Ht l u (i+1)=i:=by rw[Ht,aD ⟨M,q⟩]
     rw[e,aD (by omega),aD (by omega)]
    .have e:Ht l u (i+1)=Ht l u i:=by rw[Ht,ay λr=>q r.2]
     rw[e,ay (by omega)];exact hm u
   .have M:¬(eN l i).2.1=4:=M;have I:¬(eN l i).2.1=3:=I;have J:nJ w l i=xw w l i:=aid (by omega);exact⟨rfl,rfl,sK J,Z J,λu=>by rw[hls (by omega)];exact hm u⟩
  rintro⟨x1,x2,x3,x4,x5,x6⟩ ⟨f1,f2,f3,f4,f5⟩;dsimp only at f1 f2 f3 f4 f5;subst f1;subst f2;subst f3;obtain⟨rfl,rfl⟩:=aE .. ▸f4;exact ar ⟨gO (by omega),rfl,rfl,rfl,rfl,f5⟩
 .rintro⟨x,y,a,b,h,m⟩ ⟨e1,e2,e3,Y,U,hm⟩;dsimp only at e1 e2 e3 Y U hm;subst e1;subst e2;subst e3;subst Y;refine dv (ar ?_);dsimp only;rw[UF,UF]
 .refine ⟨rfl,rfl,?_,?_,rfl,λu=>rfl⟩
  .dsimp only;rw[Ou];rfl
  .dsimp only;rw[Ou];rfl
theorem aaz {w:WT} {l:List ET} (tr:TR (w,l)) {a b:Nat} (I:a<l.length) (hb:b<l.length):(eN l a).1=(eN l b).1↔(bZ l a).th=(bZ l b).th:=by
 have:=(oy tr I).th;have:=(oy tr hb).th;omega
theorem OJ {l:List ET} {u:Nat}:∀(j k:Nat),ut l u j<k->k<j->¬(bZ l k).th=u
 |j+1,k,h,hk=>by
  rw[ut]at h;by_cases q:(bZ l j).th=u
  .rw[aD q]at h;omega
  .rw[ay q]at h;by_cases e:k=j
   .subst e;exact q
   .exact OJ j k h (by omega)
theorem Xq {l:List ET} {u:Nat}:∀j:Nat,0<=ut l u j->(bZ l (ut l u j).toNat).th=u
 |0,h=>cY h (by show ¬(0:Int)<= -1;omega)
 |j+1,h=>by
  rw[ut]at h ⊢;by_cases q:(bZ l j).th=u
  .rw[aD q];exact q
  .rw[ay q]at h ⊢;exact Xq j h
theorem Re {l:List ET} {u:Nat}:∀(j k:Nat),ut l u j<k->k<=j->ut l u k=ut l u j
 |0,k,_,hk=>by rw[show k=0 by omega]
 |j+1,k,h,hk=>by
  by_cases e:k=j+1
  .rw[e]
  .have q:¬(bZ l j).th=u:=OJ (j+1) j (by omega) (by omega);rw[ut,ay q]at h ⊢;exact Re j k h (by omega)
theorem Hk {w:WT} {l:List ET} (tr:TR (w,l)) {j:Nat} (hj:j<l.length):mo (l,(j:Int))=af (ut l (bZ l j).th j):=by
 have hl:=tr.len;dsimp only at hl;refine cI ?_;unfold mo bd iT bF cK aF;refine ca j (λi x=>x=((j:Int)-1-i)/\ut l (bZ l j).th (j-i)=ut l (bZ l j).th j) ?_ ?_ ⟨?_,by rw[Nat.sub_zero]⟩
 .rintro i x hi ⟨rfl,e⟩;refine eV (λ_=>?_) λg=>by omega
  rw[show (j:Int)-1-i=((j-i-1:Nat):Int) by omega];refine cg (aS (cg (aS (aK (λg=>ar ?_) λg=>ar ?_))))
  .have g:=(aaz tr (show j-i-1<l.length by omega) hj).1 g;dsimp only;rw[<- e,show j-i=j-i-1+1 by omega,ut,Nat.add_sub_cancel,aD g]
  .have g:¬_:=λq=>g ((aaz tr (show j-i-1<l.length by omega) hj).2 q)
   dsimp only;refine ⟨by rw[ic (by omega) (by omega)];omega,?_⟩;rw[<- e,show j-i=j-(i+1)+1 by omega,ut,show j-(i+1)=j-i-1 by omega,ay g]
 .rintro x ⟨rfl,e⟩;refine eV (λg=>by omega) λ_=>ar ?_
  rw[vw]at e;exact e
 .dsimp only;rw[ic (by omega) (by omega)];omega
theorem aak (x:ET):pV x=af (decide (x.2.1=3\/x.2.1=4)):=by
 refine cI ?_;unfold pV bd aF;refine gC (aK (λh=>ar (ar ?_)) λh=>ar (ar ?_))
 .exact (aQ (.inl h)).symm
 .by_cases q:x.2.1=4<;>simp[h,q]
def acB (e:EV):Bool:=decide (e.k=3\/e.k=4)
theorem aeu {w:WT} {l:List ET} (tr:TR (w,l)) {j:Nat} (hj:j<l.length):pV (eN l j)=af (acB (bZ l j)):=by
 rw[aak,(oy tr hj).k];unfold acB;congr 1;rw[decide_eq_decide];omega
theorem T2 {w:WT} {l:List ET} (tr:TR (w,l)) {j:Nat} (hj:j<l.length):oR (w,eN l j)=af (acB (bZ l j)&&IF w.1 (bZ l j).ob):=by
 refine cI ?_;unfold oR bf bz iT bF aY aF;refine gC (aU (aeu tr hj) (aP (λh=>?_) λh=>ar (ar ?_)))
 .have hk:=bw h;have ce:=((Cl tr hj).ce hk).2;have ob:(eN l j).2.2.1=((bZ l j).ob:Int):=(oy tr hj).ob (by rcases hk with h|h<;>rw[h]<;>decide);rw[ob];refine eV (λ_=>du (cg (aS (ar (ar ?_))))) λg=>(by omega)
  rw[h,XP];rfl
 .rw[h];rfl
def fL (p:Nat->Bool) (i:Nat):η:=((bt i).filter p).map aO
theorem ann {p:Nat->Bool} {i:Nat} (h:p i=ai):fL p (i+1)=fL p i++[(i:Int)]:=by
 unfold fL;rw[xB,yw,cC,List.filter_cons_of_pos h];rfl
theorem ano {p:Nat->Bool} {i:Nat} (h:p i=aj):fL p (i+1)=fL p i:=by
 unfold fL;rw[xB,yw,cC,List.filter_cons_of_neg (by rw[h];decide)];simp
theorem J2 (p:Nat->Bool) (i:Nat):(fL p i).length<=i:=by
 unfold fL;rw[bY];exact dg (BQ p _) (Nat.le_of_eq iC)
theorem PA {p:Nat->Bool} {i:Nat} {z:Int} (h:z∈fL p i):0<=z/\z<i:=by
 obtain⟨k,hk,rfl⟩:=c_.1 h;have:=jU.1 (xC.1 hk).1;exact⟨dT k,Int.ofNat_lt.2 this⟩
theorem ahd {w:WT} {l:List ET} (tr:TR (w,l)) {j:Nat} (hj:j<l.length):wG (w,l,(j:Int))=af (fL (dB (QD w l j)) j):=by
 have hl:=tr.len;dsimp only at hl;refine cI ?_;unfold wG bd bz iT bB bF cK aF cF;refine cg (aS (aU (aml (Cl tr hj) (oy tr hj)) ?_));have U:=(oy tr hj).k;refine ca j (λi x=>x=((i:Int),w,fL (dB (QD w l j)) i)) ?_ ?_ rfl
 .rintro i x hi rfl;have J:i<l.length:=by omega
  have Y:=(oy tr J).k;refine du ?_;refine aZ (λx=>x=(w,fL (dB (QD w l j)) (i+1))) ?_ ?_
  .refine cg (aS (aU (al3 (Cl tr J) (oy tr J)) ?_));refine aZ (λx=>x.2=(w,fL (dB (QD w l j)) i)/\(x.1=ai↔QD w l j i)) ?_ ?_
   .unfold QD;generalize Cz w (bZ l j)=A;generalize AM w (bZ l i)=R;obtain⟨A,a⟩:=A;obtain⟨R,r⟩:=R;refine eV (λM=>aK (λhr=>aP (λhb=>em (λhs=>ar ⟨rfl,λ_=>.inl ⟨M,hr,λq=>by dsimp only at q hs;rw[hs]at q;cases q.2⟩,λ_=>rfl⟩) λhs=>?_) λhb=>ar ⟨rfl,λ_=>.inl ⟨M,hr,λq=>by dsimp only at q hb;rw[hb]at q;cases q.1⟩,λ_=>rfl⟩) λhr=>?_) λM=>?_
    all_goals refine cg (aS (aK (λI=>cg (aS (ar ⟨rfl,?_⟩))) λI=>ar ⟨rfl,?_⟩))
    all_goals dsimp only at I M ⊢
    all_goals rw[U]at I
    all_goals try rw[be,Y]
    all_goals try change ((bZ l i).k:Int)=13↔_
    all_goals first|(have I:((bZ l j).k:Int)=12:=I)|(have I:¬((bZ l j).k:Int)=12:=I)
    all_goals
     have hn:¬(0<=A/\R=A/\¬(a=ai/\r=ai)):=λq=>by first|exact q.2.2 ⟨hb,hs⟩|exact hr q.2.1|exact cY q.1 (by omega)
     rw[or_iff_right hn];first|exact⟨λq=>(by cases q),λq=>by omega⟩|omega
   rintro⟨x,y⟩ ⟨e,h⟩;dsimp only at e h;subst e;refine aP (λhb=>?_) λhb=>ar ?_
   .have hn:=J2 (dB (QD w l j)) i;refine bh (by dsimp only[dS];omega) (by omega) (ar ?_);dsimp only;rw[ann (agi.2 (h.1 hb))]
   .dsimp only;rw[ano (agj.2 λq=>cY (h.2 q) (by rw[show x=aj from hb];decide))]
  rintro x rfl;refine ar ?_;dsimp only;rw[gO (by omega)]
 .rintro x rfl;exact dv (ar rfl)
theorem QQ {l:List ET} {u k:Nat} (h:0<=CM l u k):∀m:Nat,(∀n,k<=n->n<k+m->¬(bZ l n).th=u)->CM l u (k+m)=CM l u k
 |0,_=>rfl
 |m+1,hn=>by
  have I:=QQ h m λn h1 h2=>hn n h1 (by omega)
  rw[<- pO,W6 (hn (k+m) (by omega) (by omega)) (by rw[I];exact h)];exact I
theorem adx {w:WT} {l:List ET} (tr:TR (w,l)) {j:Nat} (hj:j<l.length) (h0:0<=ut l (bZ l j).th j) (I:(bZ l (ut l (bZ l j).th j).toNat).k=16) (hw:0<=CM l (bZ l j).th j):uy (l,(j:Int))=af (CM l (bZ l j).th j):=by
 have hl:=tr.len;dsimp only at hl;have hlt:=(UR l (bZ l j).th j).2;have hown:=Xq j h0;have hnot:=λk=>OJ (l:=l) (u:=(bZ l j).th) j k
 have hsame:=λk=>Re (l:=l) (u:=(bZ l j).th) j k
 refine cI ?_;unfold uy bd bz bF cK aF cF;refine aU (Hk tr hj) ?_;generalize ut l (bZ l j).th j=p at*
 obtain⟨p,rfl⟩:∃k:Nat,p=k:=⟨p.toNat,by omega⟩
 rw[dC]at I hown;have hp:p<l.length:=by omega
 have Y:=oy tr hp;have ej:=oy tr hj;have op:(eN l p).2.2.1=((bZ l p).ob:Int):=Y.ob (by rw[I];decide);refine aZ (λx=>x=aj) (bI (λg=>by omega) λ_=>cg (aS (ar ?_))) ?_
 .show (!decide ((eN l p).2.1=16))=aj;rw[Y.k,I];rfl
 rintro x rfl;refine gw ?_;rw[gO (show p<9223372036854775807 by omega)];refine ca (j-(p+1)) (λi x=>x=((p+1+i:Nat):Int)/\CM l (bZ l j).th (p+1+i)= -1) ?_ ?_ ⟨rfl,W5 hown⟩
 .rintro i x hi ⟨rfl,e⟩;have hk:p+1+i<l.length:=by omega
  have hu:=hnot (p+1+i) (by omega) (by omega);have hs:=hsame (p+1+i) (by omega) (by omega);have M:=oy tr hk;refine du ?_;generalize hkk:p+1+i=k at*
  have ok':(bZ l k).k=19->(eN l k).2.2.1=((bZ l k).ob:Int):=λh=>M.ob (by rw[h];decide)
  have ekk:=M.k;have ekv:=M.va;have ejt:=ej.th;refine aZ (λx=>x=ai↔(bZ l k).k=18/\(bZ l k).va=(bZ l j).th\/(bZ l k).k=19/\(bZ l k).ob=(bZ l p).ob) ?_ ?_
  .have J:∀{R:Type} {Q:R⊕Bool->Prop},¬((bZ l k).k=18/\(bZ l k).va=(bZ l j).th)->(∀x,(x=ai↔(bZ l k).k=18/\(bZ l k).va=(bZ l j).th\/(bZ l k).k=19/\(bZ l k).ob=(bZ l p).ob)->Q (.inr x))->Ok (chk (eX (k:Int) (al l)) λ_=>lt (aJ (T:=tE) l (k:Int)) λz=>bcase (decide ((z.2.1:Int)=19)) (chk (eX (k:Int) (al l)) λ_=>lt (aJ (T:=tE) l (k:Int)) λz=>chk (eX (p:Int) (al l)) λ_=>lt (aJ (T:=tE) l (p:Int)) λy=>af (bP (decide ((z.2.2.1:Int)=y.2.2.1)))) (af (bP aj))) Q:=λhn U=>by
    refine cg (aS (aK (λh=>?_) λh=>ar (U _ ?_)))
    .have h:(eN l k).2.1=19:=h;refine cg (aS (cg (aS (ar (U _ ?_)))));have o2:=ok' (by omega);change decide ((eN l k).2.2.1=(eN l p).2.2.1)=ai↔_;rw[o2,op,be,or_iff_right hn];omega
    .have h:¬(eN l k).2.1=19:=h;rw[or_iff_right hn];exact⟨λq=>(by cases q),λq=>by omega⟩
   refine cg (aS (aK (λh=>?_) λh=>?_))
   .have h:(eN l k).2.1=18:=h;refine cg (aS (cg (aS (aK (λg=>ar ?_) λg=>?_))))
    .have g:(eN l k).2.2.2.1=(eN l j).1:=g;exact⟨λ_=>.inl ⟨by omega,by omega⟩,λ_=>rfl⟩
    .have g:¬(eN l k).2.2.2.1=(eN l j).1:=g;exact J (λq=>g (by omega)) λx h=>h
   .have h:¬(eN l k).2.1=18:=h;exact J (λq=>h (by omega)) λx h=>h
  rintro x Z;have hm:mtN l (bZ l j).th k (ut l (bZ l j).th k)↔x=ai:=by
   rw[Z,hs];unfold mtN;rw[dC];exact⟨λq=>q.2.2,λq=>⟨by omega,I,q⟩⟩
  refine aP (λhb=>ar ?_) λhb=>ar ?_
  .have e2:=W9 hu e (hm.2 hb);have e3:=QQ (k:=k+1) (by omega) (j-(k+1)) λn h1 h2=>hnot n (by omega) (by omega)
   rw[show k+1+(j-(k+1))=j by omega,e2]at e3;exact e3.symm
  .have e2:=W7 hu e λq=>by rw[hm.1 q]at hb;cases hb
   exact⟨by rw[gO (by omega)];omega,by rw[<- e2];congr 1;omega⟩
 .rintro x ⟨rfl,e⟩;rw[show p+1+(j-(p+1))=j by omega]at e;omega
def Y6 (w:WT) (l:List ET) (j:Nat):η:=fL (dB (Im w l j)) j++if (bZ l j).k=17 then [CM l (bZ l j).th j] else []
theorem ahw {w:WT} {l:List ET} (tr:TR (w,l)) {j:Nat} (hj:j<l.length):wH (w,l,(j:Int))=af (Y6 w l j):=by
 have hl:=tr.len;dsimp only at hl;refine cI ?_;unfold wH aX bf bp ch dA bL bd bz iT bB bF cK aF cF;refine cg (aS ?_);have U:=oy tr hj;have kj:(eN l j).2.1=(bZ l j).k:=U.k;refine ca j (λi x=>x=((i:Int),w,fL (dB (Im w l j)) i,eN l j)) ?_ ?_ rfl
 .rintro i x hi rfl;have hi':i<l.length:=by omega
  have Y:=oy tr hi';have ki:(eN l i).2.1=(bZ l i).k:=Y.k;have hn:=J2 (dB (Im w l j)) i;have Z:∀{R:Type} {Q:(R⊕(WT×η×ET))->Prop},Im w l j i->Q (.inr (w,fL (dB (Im w l j)) (i+1),eN l j))->Ok (chk (a_ ((fL (dB (Im w l j)) i).length+[(i:Int)].length) 8) λ_=>af (bP (w,fL (dB (Im w l j)) i++[(i:Int)],eN l j))) Q:=λh q=>by
   refine bh (by rw[dS];omega) (by omega) (ar ?_);rw[<- ann (agi.2 h)];exact q
  refine du ?_;refine cg (aS ?_);refine aZ (λx=>x=(w,fL (dB (Im w l j)) (i+1),eN l j)) ?_ ?_
  .refine aZ (λx=>x.2=(w,fL (dB (Im w l j)) i,eN l j,eN l i)/\(x.1=ai↔(bZ l j).k=1/\(bZ l i).k=20/\(bZ l i).ob=(bZ l j).th)) ?_ ?_
   .refine aK (λh=>aK (λg=>ar ⟨rfl,?_⟩) λg=>ar ⟨rfl,?_⟩) λh=>ar ⟨rfl,?_⟩
    .have h:(eN l j).2.1=1:=h;have g:(eN l i).2.1=20:=g;have o:(eN l i).2.2.1=(bZ l i).ob:=Y.ob (by rw[show (bZ l i).k=20 by omega];decide);have t:(eN l j).1=(bZ l j).th:=U.th;change decide ((eN l i).2.2.1=(eN l j).1)=ai↔_;rw[be];omega
    .have g:¬(eN l i).2.1=20:=g;exact⟨λq=>(by cases q),λq=>by omega⟩
    .have h:¬(eN l j).2.1=1:=h;exact⟨λq=>(by cases q),λq=>by omega⟩
   rintro⟨x,y⟩ ⟨e,h1⟩;dsimp only at e h1;subst e;refine aP (λhb=>Z (.inl (h1.1 hb)) rfl) λI=>?_
   have h1:¬_:=λq=>cY (h1.2 q) (by rw[show x=aj from I];decide)
   clear I;refine aZ (λx=>x.2=(w,fL (dB (Im w l j)) i,eN l j,eN l i)/\(x.1=ai↔(bZ l j).k=21/\(bZ l i).th=(bZ l j).ob)) ?_ ?_
   .refine aK (λh=>ar ⟨rfl,?_⟩) λh=>ar ⟨rfl,?_⟩
    .have h:(eN l j).2.1=21:=h;have o:(eN l j).2.2.1=(bZ l j).ob:=U.ob (by rw[show (bZ l j).k=21 by omega];decide);have t:(eN l i).1=(bZ l i).th:=Y.th;change decide ((eN l i).1=(eN l j).2.2.1)=ai↔_;rw[be];omega
    .have h:¬(eN l j).2.1=21:=h;exact⟨λq=>(by cases q),λq=>by omega⟩
   rintro⟨x,y⟩ ⟨e,h2⟩;dsimp only at e h2;subst e;refine aP (λhb=>Z (.inr (.inl (h2.1 hb))) rfl) λI=>?_
   have h2:¬_:=λq=>cY (h2.2 q) (by rw[show x=aj from I];decide)
   clear I;refine aZ (λx=>x.2=(w,fL (dB (Im w l j)) i,eN l j,eN l i)/\(x.1=ai↔(bZ l j).k=3/\IF w.1 (bZ l j).ob=ai/\(bZ l i).k=4/\(bZ l i).ob=(bZ l j).ob)) ?_ ?_
   .refine aK (λh=>?_) λh=>ar ⟨rfl,?_⟩
    .have h:(eN l j).2.1=3:=h;have h:(bZ l j).k=3:=by omega
     have o:(eN l j).2.2.1=(bZ l j).ob:=U.ob (by rw[h];decide);refine aU (T2 tr hj) (aP (λhv=>aK (λg=>ar ⟨rfl,?_⟩) λg=>ar ⟨rfl,?_⟩) λhv=>ar ⟨rfl,?_⟩)
     .have hv:=(pd.1 hv).2;have g:(eN l i).2.1=4:=g;have o':(eN l i).2.2.1=(bZ l i).ob:=Y.ob (by rw[show (bZ l i).k=4 by omega];decide);change decide ((eN l i).2.2.1=(eN l j).2.2.1)=ai↔_;rw[be];exact⟨λq=>⟨h,hv,by omega,by omega⟩,λq=>by omega⟩
     .have g:¬(eN l i).2.1=4:=g;exact⟨λq=>(by cases q),λq=>by omega⟩
     .refine ⟨λq=>(by cases q),λq=>?_⟩;rw[q.2.1]at hv;unfold acB at hv;rw[aQ (.inl h)]at hv;cases hv
    .have h:¬(eN l j).2.1=3:=h;exact⟨λq=>(by cases q),λq=>by omega⟩
   rintro⟨x,y⟩ ⟨e,M⟩;dsimp only at e M;subst e;refine aP (λhb=>Z (.inr (.inr (.inl (M.1 hb)))) rfl) λI=>?_
   have M:¬_:=λq=>cY (M.2 q) (by rw[show x=aj from I];decide)
   clear I;refine aZ (λx=>x.2=(w,fL (dB (Im w l j)) i,eN l j)/\(x.1=ai↔(bZ l j).k=23/\(bZ l i).k=22/\(bZ l i).ob=(bZ l j).ob)) ?_ ?_
   .refine aK (λh=>aK (λg=>ar ⟨rfl,?_⟩) λg=>ar ⟨rfl,?_⟩) λh=>ar ⟨rfl,?_⟩
    .have h:(eN l j).2.1=23:=h;have g:(eN l i).2.1=22:=g;have o:(eN l i).2.2.1=(bZ l i).ob:=Y.ob (by rw[show (bZ l i).k=22 by omega];decide);have o':(eN l j).2.2.1=(bZ l j).ob:=U.ob (by rw[show (bZ l j).k=23 by omega];decide);change decide ((eN l i).2.2.1=(eN l j).2.2.1)=ai↔_;rw[be];omega
    .have g:¬(eN l i).2.1=22:=g;exact⟨λq=>(by cases q),λq=>by omega⟩
    .have h:¬(eN l j).2.1=23:=h;exact⟨λq=>(by cases q),λq=>by omega⟩
   rintro⟨x,y⟩ ⟨e,J⟩;dsimp only at e J;subst e;refine aP (λhb=>Z (.inr (.inr (.inr (J.1 hb)))) rfl) λI=>?_
   have J:¬_:=λq=>cY (J.2 q) (by rw[show x=aj from I];decide)
   refine ar ?_;dsimp only;rw[ano (agj.2 λq=>q.elim h1 λq=>q.elim h2 λq=>q.elim M J)]
  rintro x rfl;refine ar ?_;dsimp only;rw[gO (by omega)]
 .rintro x rfl;refine dv ?_;have hn:=J2 (dB (Im w l j)) j;refine ax (P:=λy=>y=Y6 w l j) (aZ (λx=>x=Y6 w l j) ?_ λx hx=>ar hx) λx hx=>ar hx
  unfold Y6;refine aK (λh=>?_) λh=>ar ?_
  .have h:(eN l j).2.1=17:=h;have h:(bZ l j).k=17:=by omega
   obtain⟨h0,h1,h2⟩:=ai7 tr hj h;refine aU (adx tr hj h0 h1 h2) (eV (λ_=>bh (by dsimp only[dS];omega) (by omega) (ar ?_)) λg=>(by omega));dsimp only;rw[aD h]
  .have h:¬(eN l j).2.1=17:=h;dsimp only;rw[ay (by omega),iZ]
def VM (cl:Nat->η) (c:η) (y:η):η:=y.foldl (λc k=>jl c (cl k.toNat)) c
section
variable {cl:Nat->η} {j:Nat} (hcl:∀k,k<j->En (j:Int) (cl k))
include hcl
theorem Fp:∀(y:η) (c:η),En (j:Int) c->(∀k∈y,0<=k/\k<j)->En (j:Int) (VM cl c y)
 |[],_,h,_=>h
 |k::r,c,h,g=>by
  obtain⟨J,k1⟩:=g k (dh ..);exact Fp r _ (h.jl (hcl k.toNat (by omega))) λz I=>g z (cM _ I)
end
theorem act {cl:Nat->η} {c y:η} {i:Nat} (h:i<y.length):VM cl c (y.take (i+1))=jl (VM cl c (y.take i)) (cl (aJ (T:=.int .i64) y (i:Int)).toNat):=by
 rw[mP (T:=.int .i64) h];unfold VM;rw[dR];rfl
theorem acu {cl:Nat->η} {n:Int} {c:η} (hc:En n c) (p:Nat->Bool) (j:Nat):VM cl c (fL p j)=jl c (JC cl p j):=by
 rw[<- XS hc j];unfold VM fL;rw[List.foldl_map];rfl
theorem KP {cl:Nat->η} {j:Nat} {k:Int} (h0:0<=k) (h1:k<j):aJ (T:=.sl (.int .i64)) ((bt j).map cl) k=cl k.toNat:=by
 obtain⟨k,rfl⟩:∃i:Nat,k=i:=⟨k.toNat,by omega⟩
 rw[lU,dC,aA,bc,Hn (by omega)];rfl
theorem Jo {w:WT} {l:List ET} {g:List η} {e:ET} {cl:Nat->η} {j:Nat} (hcl:∀k,k<j->En (j:Int) (cl k)) {c y:η} (hc:En (j:Int) c) (M:∀k∈y,0<=k/\k<j) (hn:y.length<=1000) {R:Type} {B:(η×Int)×(WT×List ET)×List η×List η×ET->Option (((η×Int)×(WT×List ET)×List η×List η×ET)⊕R)} {Q P:R->Prop} (Z:∀r,P r->Q r) (he:Ok (B ((VM cl c y,(y.length:Int)),(w,l),g,(bt j).map cl,e)) λr=>∃z,r= .inr z/\P z):
 Ok (iter (λx=>bcase (fV x.1.2 (aO (al y))) (chk (eX x.1.2 (al y)) λ_=>lt (aJ (T:=.int .i64) y x.1.2) λI=>chk (eX I (al x.2.2.2.1)) λ_=>chk (eX I (al x.2.2.2.1)) λ_=>lt (aJ (T:=.sl (.int .i64)) x.2.2.2.1 I) λU=>obind (nQ (x.1.1,U)) λY=>af (lD ((Y,bk .i64 (x.1.2+1)),x.2))) (B x)) ((c,0),(w,l),g,(bt j).map cl,e)) Q:=by
 refine ca y.length (λi x=>x=((VM cl c (y.take i),(i:Int)),(w,l),g,(bt j).map cl,e)) ?_ ?_ (by rw[LG];rfl)
 .rintro i x hi rfl;have hm:=M _ (bJ (T:=.int .i64) (xs:=y) (j:=(i:Int)) (by omega) (by omega));refine du ?_;refine cg (aS ?_);have J:(aJ (T:=.int .i64) y (i:Int):Int)<(((bt j).map cl).length:Nat):=by rw[bY,iC];exact hm.2
  refine aR hm.1 J (aR hm.1 J (aS ?_));dsimp only;rw[KP hm.1 hm.2];have e1:=Fp hcl (y.take i) c hc λk hk=>M k (fZ hk)
  have e2:=hcl (aJ (T:=.int .i64) y (i:Int)).toNat (by
   have h3:(aJ (T:=.int .i64) y (i:Int):Int)<(j:Int):=hm.2;have h4:(0:Int)<=aJ (T:=.int .i64) y (i:Int):=hm.1;omega)
  refine aU (by rw[Xo];exact Iz _ _ e1.lb e2.lb) (ar ?_);rw[act hi,gO (by omega)]
 .rintro x rfl;rw[cX];obtain⟨_,e,r,rfl,h⟩:=he;exact dv (aii e (Z r h))
theorem VF {w:WT} {l:List ET} (tr:TR (w,l)) {j:Nat} (hj:j<l.length):∀k∈Y6 w l j,0<=k/\k<j:=λk hk=>by
 rcases bV.1 hk with hk|hk
 .exact PA hk
 .split at hk
  .rename_i h;rw[aL.1 hk];exact⟨(ai7 tr hj h).2.2,aar _ _ _⟩
  .cases hk
theorem ak2 (w:WT) {l:List ET} {j:Nat} (hj:j<=900):(Y6 w l j).length<=1000:=by
 have:=J2 (dB (Im w l j)) j;unfold Y6;rw[bx];split<;>simp<;>omega
theorem akd {w:WT} {l:List ET} {cl:Nat->η} (tr:TR (w,l)) (C:CL w l cl) {j:Nat} (hj:j<l.length) (hcl:∀k,k<j->En (j:Int) (cl k)) {c:η} (hc:En (j:Int) c) (e:c=if 0<=ut l (bZ l j).th j then cl (ut l (bZ l j).th j).toNat else []):tk (VM cl (VM cl c (Y6 w l j)) (fL (dB (QD w l j)) j)) (bZ l j).th=LM w l cl j:=by
 rw[akc tr C hj,<-e];have h1:VM cl c (Y6 w l j)=jl (jl c (JC cl (dB (Im w l j)) j)) (wkC l cl j):=by
  have h2:=acu (cl:=cl) hc (dB (Im w l j)) j;have I:=Fp hcl (fL (dB (Im w l j)) j) c hc λk hk=>PA hk
  rw[h2]at I;unfold Y6 wkC;by_cases h:(bZ l j).k=17
  .rw[aD h,aD h,<-h2];unfold VM;rw[dR];rfl
  .rw[ay h,ay h,iZ,h2,mD I]
 have J:En (j:Int) (VM cl c (Y6 w l j)):=Fp hcl _ c hc (VF tr hj);rw[acu J,h1]
theorem an1 {c d:η} {t:Nat} (h:d.getD t 0<=c.getD t 0):tk (jl c d) t=jl (tk c t) d:=uh (by simp only[EB,oc];omega) λi=>by
 rw[uq,pJ,pJ,pJ,uq,kr,kr,kr];by_cases e:i=t
 .subst e;simp only[aD];omega
 .simp only[ay e]
theorem aff {w:WT} {l:List ET} {cl:Nat->η} (tr:TR (w,l)) (C:CL w l cl) {j:Nat} (hj:j<l.length) {a:η} (I:tk a (bZ l j).th=LM w l cl j):a.getD (bZ l j).th 0=(Cx l (bZ l j).th j:Int):=by
 obtain⟨hA,ht,_⟩:=P' tr C j (by omega);have h1:(LM w l cl j).getD (bZ l j).th 0=(Cx l (bZ l j).th j:Int)+1:=by
  have J:Cn l j ((qh w (vh w l cl j) (bZ l j)).foldl AI.jl ((vh w l cl j).T.getD (bZ l j).th [])):=Pv Cn.jl _ _ (hA.T _) (hA.src (w:=w) _);have hL:=(El (qh w (vh w l cl j) (bZ l j)) ((vh w l cl j).T.getD (bZ l j).th [])).2 (bZ l j).th;have h2:=ht (bZ l j).th;have M:=J (bZ l j).th;unfold LM t_;rw[uq,aD rfl];omega
 rw[<- I,uq,aD rfl]at h1;omega
theorem ae4 {w:WT} {l:List ET} (tr:TR (w,l)):k_ (w,l)=af ((bt l.length).map (xw w l),(bt l.length).map (nJ w l)):=by
 have hl:=tr.len;dsimp only at hl;have C:=ai1 w l;refine cI ?_;unfold k_ aX bf bp ch dA bL bd bz iT bB bF kl aY cK aF cF;refine ca l.length (λj x=>x=((j:Int),(w,l),(bt j).map (xw w l),(bt j).map (nJ w l))) ?_ ?_ rfl
 .rintro j x hj rfl;have hjl:j<=l.length:=by omega
  obtain⟨p0,p1⟩:=UR l (bZ l j).th j;have hcl:∀k,k<j->En (j:Int) (nJ w l k):=λk hk=>(K6 tr C (show k<l.length by omega)).mono (by omega)
  have et:=oy tr hj;refine du (cg (aS ?_));refine aZ (λx=>x=(if 0<=ut l (bZ l j).th j then nJ w l (ut l (bZ l j).th j).toNat else [],(w,l),(bt j).map (xw w l),(bt j).map (nJ w l),eN l j)) ?_ ?_
  .refine aU (Hk tr hj) (eV (λh=>?_) λh=>ar ?_)
   .have q:ut l (bZ l j).th j<(((bt j).map (nJ w l)).length:Nat):=by rw[bY,iC];exact p1
    refine aR h q (aR h q (aS (ar ?_)));dsimp only;rw[KP h p1,aD h]
   .rw[ay (by omega)]
  rintro x rfl;have hc:En (j:Int) (if 0<=ut l (bZ l j).th j then nJ w l (ut l (bZ l j).th j).toNat else []):=by
   split
   .exact hcl _ (by omega)
   .exact En.nil (by omega)
  have hls:=J2 (dB (QD w l j)) j;have hck:=akd tr C hj hcl hc rfl;have Y:=Fp hcl (Y6 w l j) _ hc (VF tr hj);have M:=Fp hcl (fL (dB (QD w l j)) j) _ Y λk hk=>PA hk
  generalize (if 0<=ut l (bZ l j).th j then nJ w l (ut l (bZ l j).th j).toNat else [])=c at*
  refine aU (ahw tr hj) ?_;refine Jo hcl hc (VF tr hj) (ak2 w (by omega)) (P:=λr=>r= .inl (((j+1:Nat):Int),(w,l),(bt (j+1)).map (xw w l),(bt (j+1)).map (nJ w l))) (λr h=>by subst h;rfl) ?_;refine ax (P:=λr=>r= .inl (((j+1:Nat):Int),(w,l),(bt (j+1)).map (xw w l),(bt (j+1)).map (nJ w l))) ?_ λr hr=>ar ⟨r,rfl,hr⟩
  refine aU (ahd tr hj) (Jo hcl Y (λk hk=>PA hk) (by omega) (P:=λr=>r= .inl (((j+1:Nat):Int),(w,l),(bt (j+1)).map (xw w l),(bt (j+1)).map (nJ w l))) (λr h=>h) ?_);refine ax (P:=λr=>r= .inl (((j+1:Nat):Int),(w,l),(bt (j+1)).map (xw w l),(bt (j+1)).map (nJ w l))) ?_ λr hr=>ar ⟨r,rfl,hr⟩
  generalize VM (nJ w l) (VM (nJ w l) c (Y6 w l j)) (fL (dB (QD w l j)) j)=a at*
  have hac:=aff tr C hj hck;have e1:(eN l j).1=((bZ l j).th:Int):=et.th;have ek:(eN l j).2.1=((bZ l j).k:Int):=et.k;have h7:=M.2 (bZ l j).th;have tick:∀{b:η},En (j:Int) b->mn (b,(eN l j).1)=af (tk b (bZ l j).th):=λ{b} hb=>by
   have:=hb.2 (bZ l j).th;rw[e1];exact UQ _ _ hb.lb (Cl tr hj).th4 this.1 (by omega)
  refine aU (x:=LM w l (nJ w l) j) (by rw[<- hck];exact tick M) (bh (by simp;omega) (by omega) ?_);refine aZ (λx=>x=(if QH l j then jl a (nJ w l (QF l j)) else a,(w,l),(bt (j+1)).map (xw w l),(bt j).map (nJ w l),eN l j)) ?_ ?_
  .have eR:(bt j).map (xw w l)++[xw w l j]=(bt (j+1)).map (xw w l):=by rw[xB,cC];rfl
   dsimp only;rw[eR];refine aK (λI=>?_) λI=>ar ?_
   .have I:(eN l j).2.1=3:=I;have I:(bZ l j).k=3:=by omega
    have oj:(eN l j).2.2.1=((bZ l j).ob:Int):=et.ob (by rw[I];decide);refine aZ (λx=>x=(if QH l j then jl a (nJ w l (QF l j)) else a,(w,l),(bt (j+1)).map (xw w l),(bt j).map (nJ w l),eN l j)) ?_ λx Z=>ar Z
    refine ca j (λm x=>x=((a,(j:Int)-1-m),(w,l),(bt (j+1)).map (xw w l),(bt j).map (nJ w l),eN l j)/\Ht l (bZ l j).ob (j-m)=Ht l (bZ l j).ob j) ?_ ?_ ⟨?_,by rw[Nat.sub_zero]⟩
    .rintro m x hm ⟨rfl,el⟩;refine eV (λ_=>?_) λg=>by dsimp only at g;omega
     rw[show (j:Int)-1-m=((j-m-1:Nat):Int) by omega];have hk:j-m-1<l.length:=by omega
     have ekk:=oy tr hk;have kk:(eN l (j-m-1)).2.1=((bZ l (j-m-1)).k:Int):=ekk.k;refine aZ (λx=>x.2=((w,l),(bt (j+1)).map (xw w l),(bt j).map (nJ w l),eN l j)/\(x.1=ai↔(bZ l (j-m-1)).k=4/\(bZ l (j-m-1)).ob=(bZ l j).ob)) ?_ ?_
     .refine cg (aS (aK (λJ=>cg (aS (ar ⟨rfl,?_⟩))) λJ=>ar ⟨rfl,?_⟩))
      .have J:(eN l (j-m-1)).2.1=4:=J;have J:(bZ l (j-m-1)).k=4:=by omega
       have ob:(eN l (j-m-1)).2.2.1=((bZ l (j-m-1)).ob:Int):=ekk.ob (by rw[J];decide);change decide ((eN l (j-m-1)).2.2.1=(eN l j).2.2.1)=ai↔_;rw[ob,oj,be];omega
      .have J:¬(eN l (j-m-1)).2.1=4:=J;exact⟨λq=>(by cases q),λq=>by omega⟩
     rintro⟨x,y⟩ ⟨e,h⟩;dsimp only at e h;subst e;have e2:Ht l (bZ l j).ob (j-m)=if (bZ l (j-m-1)).k=4/\(bZ l (j-m-1)).ob=(bZ l j).ob then ((j-m-1:Nat):Int) else Ht l (bZ l j).ob (j-m-1):=by
      rw[show j-m=j-m-1+1 by omega,Ht,Nat.add_sub_cancel]
     refine aP (λhb=>?_) λhb=>ar ?_
     .rw[aD (h.1 hb),el]at e2;have rd:QH l j:=⟨I,by omega⟩
      have er:QF l j=j-m-1:=by unfold QF;omega
      have q:((j-m-1:Nat):Int)<(((bt j).map (nJ w l)).length:Nat):=by rw[bY,iC];omega
      refine aR (by dsimp only;omega) q (aR (by dsimp only;omega) q (aS ?_));dsimp only;rw[KP (by omega) (by omega),dC];refine aU (by rw[Xo];exact Iz _ _ M.lb (hcl _ (by omega)).lb) (ar ?_);dsimp only;rw[aD rd,er]
     .rw[ay (λq=>by have:=h.2 q;rw[show x=aj from hb]at this;cases this),el]at e2;dsimp only;refine ⟨by rw[ic (by omega) (by omega)];congr 2;omega,?_⟩;rw[e2];congr 1
    .rintro x ⟨rfl,el⟩;refine eV (λg=>by dsimp only at g;omega) λ_=>ar ?_
     rw[vw]at el;have U:¬QH l j:=λr=>by have:=r.2;rw[<- el]at this;exact cY this (by show ¬(0:Int)<= -1;omega)
     dsimp only;rw[ay U]
    .rw[ic (by omega) (by omega)];congr 2;omega
   .have I:¬(eN l j).2.1=3:=I;have U:¬QH l j:=λr=>by have:=r.1;omega
    dsimp only;rw[ay U]
  rintro x rfl;dsimp only;have fin:∀{b:η},En (j:Int) b->tk b (bZ l j).th=nJ w l j->Ok (obind (mn (b,(eN l j).1)) λy=>chk (a_ (((bt j).map (nJ w l)).length+[y].length) 24) λ_=>af (lD (bk .i64 ((j:Int)+1),(w,l),(bt (j+1)).map (xw w l),(bt j).map (nJ w l)++[y]))) λr=>r=(lD (((j+1:Nat):Int),(w,l),(bt (j+1)).map (xw w l),(bt (j+1)).map (nJ w l)):_⊕(List η×List η)):=λ{b} hb e=>by
   refine aU (tick hb) (bh (by simp;omega) (by omega) (ar ?_));have eS:(bt j).map (nJ w l)++[nJ w l j]=(bt (j+1)).map (nJ w l):=by rw[xB,cC];rfl
   rw[e,gO (by omega),eS]
  by_cases rd:QH l j
  .rw[aD rd];have hr:=IQ rd;have hd:=hcl _ hr;refine fin (M.jl hd) ?_;have e9:nJ w l j=jl (xw w l j) (nJ w l (QF l j)):=by rw[EG,aD rd]
   rw[an1,hck,e9];have:=((P' tr C j (by omega)).2.2 _ hr).mono (show QF l j+1<=j by omega);rw[hac];exact this _
  .rw[ay rd];exact fin M (by rw[hck];exact (by rw[EG,ay rd]:nJ w l j=xw w l j).symm)
 .rintro x rfl;exact dv (ar rfl)
theorem ah3:tR ()=af ai:=by kernel_rfl
end
end Go.Proofs.YtgijlolllojpaaaGreatDoor.AI
