/-
  Texts of the proof, part 3 of 5: what is used to prove the statement. No condition.
-/
import Derived.Test.YtgijlolllojpaaaGreatDoorShbReadsQ1
import Derived.KernelRfl
import Derived.WalkSpells
import Derived.Laws.CopyRow
namespace Go.Proofs.YtgijlolllojpaaaGreatDoor.AI
open Go.RowKit
set_option maxRecDepth 100000
set_option maxHeartbeats 4000000
set_option linter.unusedVariables false
set_option linter.unusedSimpArgs false
open _root_.Bool renaming true→ai,false→aj
open Call renaming operands→eK
open _root_.Int renaming ofNat_eq_natCast→au,ofNat→aO,toNat→aS,reduceEq→aZ,reduceNeg→bm,toNat_natCast→gz
open IntKind renaming wrap→oI
open _root_.List renaming length→al,replicate→aG,length_cons→bZ,take→du,range→eS,cons_append→gh,length_singleton→gm,length_nil→jQ,nil_append→lE
open _root_.Nat renaming beq→aB,add_zero→dg
open Oper renaming wp→GW
open _root_.Option renaming some→af,none→ah,map_some→b_,getD_some→uz
open _root_.Prod renaming p2→aV,p3→bg,p4→bp,q3→bL,p5→cw,q5→cO,q4→db,p6→dN,q6→eP,p7→jd,q7→mg,q8→nh,p8→uy,p10→wH,p9→wJ,p11→Dr,q11→Kk,q9→MM
open Result renaming andThen_ok→cG
open Sem renaming run_bind→eA,run→ng
open _root_.Sum renaming inr→bU,inl→oE
open World renaming shape?→rz,cell?→ML
noncomputable section
def NE (op:Int):Prop:=op=1\/op=2\/op=3\/op=14
def ZE (e:Xp):Prop:=GE 4 e\/e= .mk 0 0 [] []
structure NO (nT:Nat) (s:Sx):Prop where
 o0:1<=s.op
 o1:s.op<=15
 vr:s.op=1->s.index=[]->s.name∈NV
 lk:s.op=4->s.name=[109]\/s.name=[110]
 rw:s.op=5\/s.op=6->s.name=[114]
 cn:s.op=9\/s.op=10\/s.op=11->s.name=[99]
 sp:s.op=12\/s.op=13->s.name∈vF.take nT
 se:s.op=14->s.name=[102]
 ge:s.op=15->s.name=[97]/\s.arg=[102]
 el:¬s.op=2->s.els=[]
 bo:s.op=1\/9<=s.op->s.body=[]
variable {nT:Nat}
def GS (nT:Nat):Nat->Sx->Prop
 |0,_=>False
 |d+1,s=>(s.index≠[]->s.name=[113])/\s.index.length<=1/\(∀ e∈s.index,GE 4 e)/\(NE s.op->GE 4 s.expr)/\ZE s.expr/\s.body.length<=8/\s.els.length<=8/\(∀ x∈s.body,GS nT d x)/\(∀ x∈s.els,GS nT d x)/\NO nT s
theorem GS.mono:∀ {d:Nat} {s:Sx},GS nT d s->GS nT (d+1) s
 |0,_,h=>h.elim
 |_+1,_,⟨a,b,c,e,f,g,i,j,k,l⟩=>⟨a,b,c,e,f,g,i,λx I=>(j x I).mono,λx I=>(k x I).mono,l⟩
theorem GS.le {d k:Nat} {s:Sx} (h:GS nT d s) (hk:d<=k):GS nT k s:=by
 induction hk with
 |refl=>exact h
 |step _ I=>exact I.mono
theorem NO.asg {s a:List UInt8} {e:Xp} {i:List Xp} (hs:i=[]->s∈NV):NO nT (.mk 1 0 s a i e [] []):=by
 constructor<;>simp[Sx.op,Sx.name,Sx.index,Sx.els,Sx.body];exact λh=>by simpa using hs h
theorem GS.asg {d:Nat} {s:List UInt8} (hs:s∈NV) {e:Xp} (h:GE 4 e):GS nT (d+1) (.mk 1 0 s [] [] e [] []):=
 ⟨λh=>(h rfl).elim,by simp[Sx.index],λe he=>(by cases he),λ_=>h,.inl h,by simp[Sx.body],by simp[Sx.els],λx I=>(by cases I),λx I=>(by cases I),NO.asg λ_=>hs⟩
theorem GS.aix {d:Nat} {i e:Xp} (hi:GE 4 i) (h:GE 4 e):GS nT (d+1) (.mk 1 0 [113] [] [i] e [] []):=
 ⟨λ_=>rfl,by simp[Sx.index],λe he=>(by simp only[Sx.index,aL] at he;rw[he];exact hi),λ_=>h,.inl h,by simp[Sx.body],by simp[Sx.els],λx I=>(by cases I),λx I=>(by cases I),NO.asg λh=>(by cases h)⟩
theorem GS.we {d:Nat} {op:Int} {s a:List UInt8} {e:Xp} {b l:List Sx} (h:GE 4 e) (hb:b.length<=8) (hl:l.length<=8) (I:∀ x∈b,GS nT d x) (gl:∀ x∈l,GS nT d x) (hn:NO nT (.mk op 0 s a [] e b l)):GS nT (d+1) (.mk op 0 s a [] e b l):=
 ⟨λh=>(h rfl).elim,by simp[Sx.index],λe he=>(by cases he),λ_=>h,.inl h,hb,hl,I,gl,hn⟩
theorem GS.wo {d:Nat} {op ln:Int} {s a:List UInt8} {b:List Sx} (M:4<=op/\op≠14) (hb:b.length<=8) (J:∀ x∈b,GS nT d x) (hn:NO nT (.mk op ln s a [] (.mk 0 0 [] []) b [])):GS nT (d+1) (.mk op ln s a [] (.mk 0 0 [] []) b []):=
 ⟨λh=>(h rfl).elim,by simp[Sx.index],λe he=>(by cases he),λh=>(by have h:op=1\/op=2\/op=3\/op=14:=h;omega),.inr rfl,hb,by simp[Sx.els],J,λx I=>(by cases I),hn⟩
def QS (nT:Nat) (d:Nat) (n:Int) (t:Oz) (h:HD) (y:MK×Oz×HD×List Sx):Prop:=(y.2.2.2.length:Int)<=max 0 n/\(∀ s∈y.2.2.2,GS nT (d+1) s)/\uv t y.2.1/\y.2.2.1.2=h.2
def QT (nT:Nat) (d:Nat) (t:Oz) (h:HD) (y:Sx×MK×Oz×HD):Prop:=GS nT (d+1) y.1/\uv t y.2.2.1/\y.2.2.2.2=h.2
def QB (nT:Nat) (d:Nat) (t:Oz) (h:HD) (y:List Sx×MK×Oz×HD):Prop:=y.1.length<=2/\(∀ s∈y.1,GS nT (d+1) s)/\uv t y.2.2.1/\y.2.2.2.2=h.2
abbrev RS:Type:=((Int×Int)×MK×Oz×HD)->Option (MK×Oz×HD×List Sx)
abbrev RT:Type:=(Int×MK×Oz×HD)->Option (Sx×MK×Oz×HD)
abbrev RBk:Type:=((List UInt8×Int)×MK×Oz×HD)->Option (List Sx×MK×Oz×HD)
def SpS (nT:Nat) (rs:RS) (d:Nat):Prop:=∀ (n:Int) (m:MK) (t:Oz) (h:HD),n<=3->TP t->h.2.length+d<=100->Ok (rs (((d:Int),n),m,t,h)) (QS nT d n t h)
def SpT (nT:Nat) (I:RT) (d:Nat):Prop:=∀ (m:MK) (t:Oz) (h:HD),TP t->h.2.length+d<=100->Ok (I ((d:Int),m,t,h)) (QT nT d t h)
def SpB (nT:Nat) (I:RBk) (d:Nat):Prop:=∀ (s:List UInt8) (m:MK) (t:Oz) (h:HD),TP t->h.2.length+1+d<=100->Ok (I ((s,(d:Int)),m,t,h)) (QB nT d t h)
theorem Xe (rs:RS) (M:RT) (rb:RBk) (d:Nat) (ht:SpT nT M d):SpS nT (mm rs M rb) d:=by
 intro n m t h hn hp hh;unfold mm aV bg bp bL db cO be bx bE cK aE cB dW;refine pM (λx=>(n-x.1).toNat) (λx=>0<=x.1/\(x.1<=n\/x.1=0)/\uv t x.2.2.1/\(x.2.2.2.1.length:Int)<=x.1/\(∀ s∈x.2.2.2.1,GS nT (d+1) s)/\x.2.2.2.2.2=h.2) ?_ ⟨eJ _,.inr rfl,uv.refl hp,by simp,λs hs=>(by cases hs),rfl⟩;rintro⟨(i:Int),m',t',l,h'⟩ ⟨i0,i1,e1,e2,e3,J⟩;dsimp only at i0 i1 e1 e2 e3 J;refine aY (λx=>x.2=(m',t',l,h')/\(x.1=ai->i<n)) ?_ ?_
 .refine bH (λg=>aK (λ_=>ar ⟨rfl,λ_=>g⟩) λ_=>ar ⟨rfl,λ_=>g⟩) λ_=>ar ⟨rfl,λh=>(by cases h)⟩
 rintro⟨b,x⟩ ⟨Z,Y⟩;dsimp only at Z Y;subst Z;refine aP (λhb=>?_) λ_=>ar ⟨by dsimp only;omega,e3,e1,J⟩
 have g:=Y hb;refine ax (ht m' t' h' e1.p (by rw[J];exact hh)) λy hy=>?_
 obtain⟨s,m2,t2,h2⟩:=y;obtain⟨k1,k2,U⟩:=hy;dsimp only at k1 k2 U;refine bd (by simp) (bk (by simp;omega) (by omega) (ar ?_));dsimp only;rw[fc,yl,ic (n:=i+1) (by omega) (by omega)];refine ⟨⟨by omega,by omega,e1.trans k2,by simp;omega,λx I=>?_,U.trans J⟩,by omega⟩;rcases bW.1 I with I|I
 .exact e3 x I
 .rw[aL] at I;subst I;exact k1
theorem Xh (rs:RS) (rt:RT) (rb:RBk) (d:Nat) (hs:SpS nT rs d):SpB nT (mn rs rt rb) d:=by
 intro s m t h hp hh;unfold mn aV bg bL db bE aX;refine bk (by simp;omega) (by omega) ?_;refine ax (gf 2 t hp) λy M=>?_
 obtain⟨k,t1⟩:=y;obtain⟨J,Z,I,_⟩:=M;have I:=I (by decide);dsimp only at J Z I;have ew:bl .i64 (1+k)=1+k:=ic (by omega) (by omega);dsimp only;rw[ew];refine ax (hs (1+k) m t1 (h.1,h.2++[s]) (by omega) J.p (by simp;omega)) λy M=>?_
 obtain⟨m2,t2,h2,l⟩:=y;obtain⟨k1,k2,Y,U⟩:=M;dsimp only at k1 k2 Y U;refine bd (by simp) ?_;dsimp only;rw[U];have el:bl .i64 ((aO (h.2++[s]).length)-1)=(h.2.length:Int):=by
  rw[bu,gm,ic (by simp<;>omega) (by simp<;>omega)];simp<;>omega
 rw[el];refine c6 (dZ (by omega) (zF (by simp;omega) (ar ?_)));refine ⟨by dsimp only;omega,k2,J.trans Y,?_⟩;show du (aS (h.2.length:Int)) (h.2++[s])=h.2;simp
theorem Cp (s:List UInt8) (m:MK) (t:Oz) (h:HD) (hh:h.2.length<=100):Ok (eD (s,m,t,h)) λy=>y.2=(m,t,h):=by
 unfold eD db;exact ax (xW h.2 s (by omega)) λy _=>ar rfl
theorem ZD (rs:RS) (rt:RT) (rb:RBk) (d:Nat) (hd:d<=5) (h0:1<=d->SpS nT rs 0) (hS:1<=d->SpS nT rs (d-1)) (hB:1<=d->SpB nT rb (d-1)):SpT nT (nK rs rt rb) d:=by
 intro m t h hp hh;unfold nK aV bg bp bL db cO be bx bE kA aE dW;refine ax (gf 18 t hp) λy J=>?_
 obtain⟨k,t1⟩:=y;obtain⟨s1,k0,k1,_⟩:=J;have k1:=k1 (by decide);dsimp only at s1 k0 k1;have hE:∀ (j:Nat) (m':MK) (t':Oz) (h':HD),j<=1->TP t'->Ok (eY ((j:Int),m',t',h')) λy=>GE 4 y.1/\y.2.1=m'/\uv t' y.2.2.1/\y.2.2.2=h':=λj m' t' h' hj ht'=>(Y' j (by omega) m' t' h' ht').mono λy J=>⟨J.1.le (by omega),J.2⟩
 have ed:bl .i64 ((d:Int)-1)=(d:Int)-1:=ic (by omega) (by omega);have ed1:1<=d->(d:Int)-1=((d-1:Nat):Int):=λ_=>by omega
 refine aY (λx=>x.2=((m.1,bl .i64 (m.2.1-1),m.2.2),t1,(0,0,[],[],0,0,[]),h)/\(x.1=ai->1<=d)) ?_ ?_
 .refine bH (λg=>aT (bH (λ_=>ar ⟨rfl,λ_=>?_⟩) λ_=>ar ⟨rfl,λh=>(by cases h)⟩)) λ_=>ar ⟨rfl,λh=>(by cases h)⟩
  dsimp only at g;omega
 generalize ((m.1,bl .i64 (m.2.1-1),m.2.2):MK)=m0;rintro⟨nest,x⟩ ⟨e,hn⟩;dsimp only at e hn;subst e;refine bH (λ_=>?_) λg4=>?_
 .refine aR k0 (by dsimp only[al];omega) (aR k0 (by dsimp only[al];omega) (aT ?_));refine ax (hE 1 m0 t1 h (by omega) s1.p) λy J=>?_
  obtain⟨e,m2,t2,h2⟩:=y;obtain⟨v1,v2,v3,v4⟩:=J;dsimp only at v1 v2 v3 v4;subst v2;subst v4;refine bd (by simp) (aU (tu _ _) (ar ?_));dsimp only;rw[fc,yl];have hnv:∀ z∈([[120],[121],[120],[118]]:List (List UInt8)),z∈NV:=by decide
  exact⟨GS.asg (hnv _ (bJ (T:=.str) k0 (by dsimp only[al];omega))) v1,s1.trans v3,rfl⟩
 dsimp only at g4;refine aK (λ_=>?_) λg5=>?_
 .refine ax (gf 2 t1 s1.p) λy J=>?_
  obtain⟨u1,u2,u3,_⟩:=J;have u3:=u3 (by decide);refine aR u2 u3 (aR u2 u3 (aT ?_));refine ax (hE 1 m0 y.2 h (by omega) u1.p) λz U=>?_
  obtain⟨e,m2,t2,h2⟩:=z;obtain⟨v1,v2,v3,v4⟩:=U;dsimp only at v1 v2 v3 v4;subst v2;subst v4;refine bd (by simp) (aU (tu _ _) (ar ?_));dsimp only;rw[fc,yl];have hnv:∀ z∈([[97],[98]]:List (List UInt8)),z∈NV:=by decide
  exact⟨GS.asg (hnv _ (bJ (T:=.str) u2 u3)) v1,s1.trans (u1.trans v3),rfl⟩
 dsimp only at g5;refine aK (λ_=>?_) λg6=>?_
 .refine ax (hE 0 m0 t1 h (by omega) s1.p) λz U=>?_
  obtain⟨e,m2,t2,h2⟩:=z;obtain⟨v1,v2,v3,v4⟩:=U;dsimp only at v1 v2 v3 v4;subst v2;subst v4;refine bd (by simp) ?_;refine ax (hE 1 m2 t2 h2 (by omega) v3.p) λz U=>?_
  obtain⟨e',m3,t3,h3⟩:=z;obtain⟨w1,Z,w3,w4⟩:=U;dsimp only at w1 Z w3 w4;subst Z;subst w4;refine bd (by simp) (ar ?_);dsimp only;rw[fc,fc];exact⟨GS.aix v1 w1,s1.trans (v3.trans w3),rfl⟩
 dsimp only at g6;have U:∀ (c:Prop),c->c:=λ_ h=>h
 have dd:1<=d->d-1+1=d:=λ_=>by omega
 have w8:8<=k->bl .i64 (k-8)=k-8:=λ_=>ic (by omega) (by omega)
 refine aY (λx=>x.2=(m0,t1,(0,0,[],[],0,0,[]),h)/\(x.1=ai->1<=d)) ?_ ?_
 .refine aK (λ_=>ar ⟨rfl,λg=>?_⟩) λ_=>ar ⟨rfl,λh=>(by cases h)⟩
  dsimp only at g;rw[sW] at g;omega
 rintro⟨b,x⟩ ⟨e,hb⟩;dsimp only at e hb;subst e;refine aP (λI=>?_) λ_=>?_
 .have M:=hb I;refine ax (hE 1 m0 t1 h (by omega) s1.p) λz U=>?_
  obtain⟨e,m2,t2,h2⟩:=z;obtain⟨v1,v2,v3,v4⟩:=U;dsimp only at v1 v2 v3 v4;subst v2;subst v4;refine bd (by simp) ?_;dsimp only;rw[ed,ed1 M];refine ax (hS M 1 m2 t2 h2 (by omega) v3.p (by omega)) λz U=>?_
  obtain⟨m3,t3,h3,l⟩:=z;obtain⟨w1,Z,w3,w4⟩:=U;dsimp only at w1 Z w3 w4;rw[dd M] at Z;refine bd (by simp) ?_;refine aY (λx=>x.2.2.2.1=(2,0,[],[],e.op,e.n,e.name,e.l)/\uv t1 x.2.1/\x.2.2.2.2.1.2=h2.2/\x.2.2.2.2.2.1=l/\x.2.2.2.2.2.2.length<=8/\∀ s∈x.2.2.2.2.2.2,GS nT d s) ?_ ?_
  .refine ax (gf 2 t3 w3.p) λy J=>?_
   refine aK (λ_=>?_) λ_=>ar ⟨rfl,v3.trans (w3.trans J.1),w4,rfl,by simp,λs hs=>(by cases hs)⟩
   dsimp only;refine ax (hS M 1 m3 y.2 h3 (by omega) J.1.p (by rw[w4];omega)) λz U=>?_
   obtain⟨m4,t4,h4,l2⟩:=z;obtain⟨x1,x2,x3,x4⟩:=U;dsimp only at x1 x2 x3 x4;rw[dd M] at x2;exact bd (by simp) (ar ⟨rfl,v3.trans (w3.trans (J.1.trans x3)),x4.trans w4,rfl,by dsimp only;omega,x2⟩)
  rintro⟨m5,t5,z5,e5,h5,l5,l6⟩ ⟨x1,x2,x3,x4,x5,x6⟩;dsimp only at x1 x2 x3 x4 x5 x6;subst x1;subst x4;refine ar ?_;dsimp only;rw[fc];exact⟨GS.we v1 (by first|omega|(dsimp only;omega)) x5 Z x6 (by constructor<;>simp[Sx.op,Sx.name,Sx.index,Sx.arg,Sx.els,Sx.body]),s1.trans x2,x3⟩
 refine aY (λx=>x.2=(m0,t1,(0,0,[],[],0,0,[]),h)/\(x.1=ai->1<=d)) ?_ ?_
 .refine aK (λ_=>ar ⟨rfl,λg=>?_⟩) λ_=>ar ⟨rfl,λh=>(by cases h)⟩
  dsimp only at g;rw[sW] at g;omega
 rintro⟨b,x⟩ ⟨e,hb⟩;dsimp only at e hb;subst e;refine aP (λI=>?_) λ_=>?_
 .have M:=hb I;refine aU (G7 _) (aU (Nb _) (aU (EC _ _ _) ?_));dsimp only;rw[ed,ed1 M];refine ax (hS M 1 _ t1 h (by omega) s1.p (by omega)) λz U=>?_
  obtain⟨m3,t3,h3,l⟩:=z;obtain⟨w1,Z,w3,w4⟩:=U;dsimp only at w1 Z w3 w4;rw[dd M] at Z;refine bd (by simp) ?_;refine aU (G7 _) (aU (Nb _) (aU (EC _ _ _) (aU (tu _ _) ?_)));refine bk (by simp;omega) (by omega) (ar ?_);dsimp only;rw[fc,fc,yl];refine ⟨GS.we (GE.bin (by omega) (GE.nm (by decide) 2) (GE.num _ 2)) (by simp;omega) (by simp) (λx Y=>?_) (λx Y=>(by cases Y)) (by constructor<;>simp[Sx.op,Sx.name,Sx.index,Sx.arg,Sx.els,Sx.body]),s1.trans w3,w4⟩;rcases bW.1 Y with Y|Y
  .exact Z x Y
  .rw[aL] at Y;subst Y;rw[<- dd M];exact GS.asg (by decide) (GE.bin (by omega) (GE.nm (by decide) 2) (GE.num _ 2))
 refine aY (λx=>x.2=(m0,t1,(0,0,[],[],0,0,[]),h)/\(x.1=ai->nest=ai/\(k=8\/k=9))) ?_ ?_
 .refine aK (λg=>aP (λgn=>?_) λ_=>ar ⟨rfl,λh=>(by cases h)⟩) λ_=>aK (λg=>aP (λgn=>?_) λ_=>ar ⟨rfl,λh=>(by cases h)⟩) λ_=>ar ⟨rfl,λh=>(by cases h)⟩
  all_goals
   dsimp only at g ⊢;rw[w8 (by omega)];refine aR (by omega) (by simp;omega) (aR (by omega) (by simp;omega) (aT ?_));refine ax (Cp _ m0 t1 h (by omega)) λy J=>?_
   obtain⟨yb,y2⟩:=y;dsimp only at J;subst J;exact bd (by simp) (ar ⟨rfl,λ_=>⟨gn,by omega⟩⟩)
 rintro⟨b,x⟩ ⟨e,hb⟩;dsimp only at e hb;subst e;refine aP (λI=>?_) λ_=>?_
 .obtain⟨q1,q2⟩:=hb I;have M:=hn q1;have hnm:aJ (T:=.str) [[109],[110]] (k-8)=[109]\/aJ (T:=.str) [[109],[110]] (k-8)=[110]:=by rcases q2 with rfl|rfl<;>simp[aJ]
  dsimp only;rw[w8 (by omega),ed,ed1 M];refine aR (by omega) (by simp;omega) (aR (by omega) (by simp;omega) (aT ?_));refine ax (hB M _ m0 t1 h s1.p (by omega)) λz U=>?_
  obtain⟨l,m3,t3,h3⟩:=z;obtain⟨w1,Z,w3,w4⟩:=U;dsimp only at w1 Z w3 w4;rw[dd M] at Z;exact bd (by simp) (ar ⟨GS.wo (by omega) (by first|omega|(dsimp only;omega)) Z (by constructor<;>simp[Sx.op,Sx.name,Sx.index,Sx.arg,Sx.els,Sx.body];exact hnm),s1.trans w3,w4⟩)
 refine aY (λx=>x.2=(m0,t1,(0,0,[],[],0,0,[]),h)/\(x.1=ai->nest=ai/\(k=10\/k=11))) ?_ ?_
 .refine aK (λg=>aP (λgn=>?_) λ_=>ar ⟨rfl,λh=>(by cases h)⟩) λ_=>aK (λg=>aP (λgn=>?_) λ_=>ar ⟨rfl,λh=>(by cases h)⟩) λ_=>ar ⟨rfl,λh=>(by cases h)⟩
  all_goals
   dsimp only at g ⊢;refine ax (Cp _ m0 t1 h (by omega)) λy J=>?_
   obtain⟨yb,y2⟩:=y;dsimp only at J;subst J;exact bd (by simp) (ar ⟨rfl,λ_=>⟨gn,by omega⟩⟩)
 rintro⟨b,x⟩ ⟨e,hb⟩;dsimp only at e hb;subst e;refine aP (λI=>?_) λ_=>?_
 .obtain⟨q1,q2⟩:=hb I;have M:=hn q1;dsimp only;rw[ed,ed1 M,ic (n:=k-10) (by omega) (by omega),ic (n:=k-10+5) (by omega) (by omega)];refine ax (hB M _ m0 t1 h s1.p (by omega)) λz U=>?_
  obtain⟨l,m3,t3,h3⟩:=z;obtain⟨w1,Z,w3,w4⟩:=U;dsimp only at w1 Z w3 w4;rw[dd M] at Z;exact bd (by simp) (ar ⟨GS.wo (by omega) (by first|omega|(dsimp only;omega)) Z (by constructor<;>simp[Sx.op,Sx.name,Sx.index,Sx.arg,Sx.els,Sx.body]<;>omega),s1.trans w3,w4⟩)
 refine aY (λx=>x.2=(m0,t1,(0,0,[],[],0,0,[]),h)/\(x.1=ai->nest=ai)) ?_ ?_
 .exact aK (λ_=>ar ⟨rfl,λg=>g⟩) λ_=>ar ⟨rfl,λh=>(by cases h)⟩
 rintro⟨b,x⟩ ⟨e,hb⟩;dsimp only at e hb;subst e;refine aP (λI=>?_) λ_=>?_
 .have M:=hn (hb I);refine ax (gf 2 t1 s1.p) λy J=>?_
  obtain⟨u1,u2,u3,_⟩:=J;have u3:=u3 (by decide);dsimp only;rw[ic (n:=1+y.1) (by omega) (by omega)];refine ax (h0 M (1+y.1) _ y.2 h (by omega) u1.p (by omega)) λz U=>?_
  obtain⟨m3,t3,h3,l⟩:=z;obtain⟨w1,Z,w3,w4⟩:=U;dsimp only at w1 Z w3 w4;exact bd (by simp) (ar ⟨GS.wo (by omega) (by first|omega|(dsimp only;omega)) (λx Y=>(Z x Y).le (by omega)) (by constructor<;>simp[Sx.op,Sx.name,Sx.index,Sx.arg,Sx.els,Sx.body]),s1.trans (u1.trans w3),w4⟩)
 refine aY (λx=>x.2=(m0,t1,(0,0,[],[],0,0,[]),h)/\(x.1=ai->nest=ai)) ?_ ?_
 .exact aK (λ_=>aP (λgn=>ar ⟨rfl,λ_=>gn⟩) λ_=>ar ⟨rfl,λh=>(by cases h)⟩) λ_=>ar ⟨rfl,λh=>(by cases h)⟩
 rintro⟨b,x⟩ ⟨e,hb⟩;dsimp only at e hb;subst e;refine aP (λI=>?_) λ_=>?_
 .have M:=hn (hb I);dsimp only;rw[ed,ed1 M];refine ax (hS M 2 _ t1 h (by omega) s1.p (by omega)) λz U=>?_
  obtain⟨m3,t3,h3,l⟩:=z;obtain⟨w1,Z,w3,w4⟩:=U;dsimp only at w1 Z w3 w4;rw[dd M] at Z;exact bd (by simp) (ar ⟨GS.wo (by omega) (by first|omega|(dsimp only;omega)) Z (by constructor<;>simp[Sx.op,Sx.name,Sx.index,Sx.arg,Sx.els,Sx.body]),s1.trans w3,w4⟩)
 refine aY (λx=>x.2=(m0,t1,(0,0,[],[],0,0,[]),h)/\(x.1=ai->nest=ai)) ?_ ?_
 .refine aK (λ_=>aP (λgn=>aP (λ_=>?_) λ_=>ar ⟨rfl,λh=>(by cases h)⟩) λ_=>ar ⟨rfl,λh=>(by cases h)⟩) λ_=>ar ⟨rfl,λh=>(by cases h)⟩
  refine ax (Cp _ m0 t1 h (by omega)) λy J=>?_
  obtain⟨yb,y2⟩:=y;dsimp only at J;subst J;exact bd (by simp) (ar ⟨rfl,λ_=>gn⟩)
 rintro⟨b,x⟩ ⟨e,hb⟩;dsimp only at e hb;subst e;refine aP (λI=>?_) λ_=>?_
 .have M:=hn (hb I);refine aU (G7 _) (aU (tu _ _) (ar ?_));dsimp only;rw[fc,yl];refine ⟨GS.wo (by omega) (by simp) (λx Y=>?_) (by constructor<;>simp[Sx.op,Sx.name,Sx.index,Sx.arg,Sx.els,Sx.body]),s1,rfl⟩;simp only[bi,cr,fY] at Y;rw[<- dd M];rcases Y with rfl|rfl
  .exact GS.wo (by omega) (by simp) (λx Y=>(by cases Y)) (by constructor<;>simp[Sx.op,Sx.name,Sx.index,Sx.arg,Sx.els,Sx.body])
  .exact GS.asg (by decide) (GE.nm (by decide) 3)
 refine aY (λx=>x.2=(m0,t1,(0,0,[],[],0,0,[]),h)/\(x.1=ai->nest=ai)) ?_ ?_
 .refine aK (λ_=>aP (λgn=>?_) λ_=>ar ⟨rfl,λh=>(by cases h)⟩) λ_=>ar ⟨rfl,λh=>(by cases h)⟩
  refine ax (Cp _ m0 t1 h (by omega)) λy J=>?_
  obtain⟨yb,y2⟩:=y;dsimp only at J;subst J;exact bd (by simp) (ar ⟨rfl,λ_=>gn⟩)
 rintro⟨b,x⟩ ⟨e,hb⟩;dsimp only at e hb;subst e;refine aP (λI=>?_) λ_=>?_
 .have M:=hn (hb I);refine ax (gf 2 t1 s1.p) λy J=>ar ?_
  obtain⟨u1,u2,u3,_⟩:=J;have u3:=u3 (by decide);dsimp only;rw[ic (n:=10+y.1) (by omega) (by omega)];refine ⟨GS.wo (by omega) (by simp) (λx Y=>?_) (by constructor<;>simp[Sx.op,Sx.name,Sx.index,Sx.arg,Sx.els,Sx.body]),s1.trans u1,rfl⟩;simp only[bi,cr,fY] at Y;rw[Y,<-dd M];exact GS.wo (by omega) (by simp) (λx Y=>(by cases Y)) (by constructor<;>simp[Sx.op,Sx.name,Sx.index,Sx.arg,Sx.els,Sx.body]<;>omega)
 refine aY (λx=>x.2=(m0,t1,(0,0,[],[],0,0,[]),h)) ?_ ?_
 .exact aK (λ_=>aP (λ_=>aP (λ_=>ar rfl) λ_=>ar rfl) λ_=>ar rfl) λ_=>ar rfl
 rintro⟨b,x⟩ e;dsimp only at e;subst e;refine aP (λI=>?_) λ_=>?_
 .refine ax (hE 1 _ t1 h (by omega) s1.p) λz U=>?_
  obtain⟨e,m2,t2,h2⟩:=z;obtain⟨v1,v2,v3,v4⟩:=U;dsimp only at v1 v2 v3 v4;subst v2;subst v4;refine bd (by simp) (ar ?_);dsimp only;rw[fc];exact⟨GS.we v1 (by simp) (by simp) (λx Y=>(by cases Y)) (λx Y=>(by cases Y)) (by constructor<;>simp[Sx.op,Sx.name,Sx.index,Sx.arg,Sx.els,Sx.body]),s1.trans v3,rfl⟩
 refine aY (λx=>x.2.1=m0/\uv t1 x.2.2.1/\x.2.2.2.2=h) ?_ ?_
 .refine aK (λ_=>aP (λ_=>?_) λ_=>ar ⟨rfl,uv.refl s1.p,rfl⟩) λ_=>ar ⟨rfl,uv.refl s1.p,rfl⟩
  exact ax (gf 2 t1 s1.p) λy J=>ar ⟨rfl,J.1,rfl⟩
 rintro⟨b,m9,t9,z9,h9⟩ ⟨e1,e2,e3⟩;dsimp only at e1 e2 e3;subst e1;subst e3;refine aP (λI=>?_) λ_=>?_
 .exact ar ⟨GS.wo (by omega) (by simp) (λx Y=>(by cases Y)) (by constructor<;>simp[Sx.op,Sx.name,Sx.index,Sx.arg,Sx.els,Sx.body]),s1.trans e2,rfl⟩
 refine ax (hE 1 _ t9 h9 (by omega) e2.p) λz U=>?_
 obtain⟨e,m2,t2,h2⟩:=z;obtain⟨v1,v2,v3,v4⟩:=U;dsimp only at v1 v2 v3 v4;subst v2;subst v4;refine bd (by simp) (aU (tu _ _) (ar ?_));dsimp only;rw[fc,yl];exact⟨GS.asg (by decide) v1,s1.trans (e2.trans v3),rfl⟩
theorem L8:∀ (n:Nat),(∀ d:Nat,d<=5->3*d+1<=n->SpT nT (eo n) d)/\(∀ d:Nat,d<=5->3*d+2<=n->SpS nT (dB n) d)/\(∀ d:Nat,d<=5->3*d+3<=n->SpB nT (dQ n) d)
 |0=>⟨λd _ h=>by omega,λd _ h=>by omega,λd _ h=>by omega⟩
 |n+1=>by
  obtain⟨J,I,M⟩:=L8 n;refine ⟨λd h1 h2=>?_,λd h1 h2=>?_,λd h1 h2=>?_⟩
  .exact ZD (dB n) (eo n) (dQ n) d h1 (λh=>I 0 (by omega) (by omega)) (λh=>I (d-1) (by omega) (by omega)) (λh=>M (d-1) (by omega) (by omega))
  .exact Xe (dB n) (eo n) (dQ n) d (J d h1 (by omega))
  .exact Xh (dB n) (eo n) (dQ n) d (I d h1 (by omega))
theorem WP (d:Nat) (hd:d<=5):SpS nT qa d:=(L8 fuel).2.1 d hd (by rw[jL];omega)
def GX:Nat->Xp->Prop
 |0,_=>False
 |d+1,e=>e.l.length<=2/\∀ x∈e.l,GX d x
theorem GE.x:∀ {d:Nat} {e:Xp},GE d e->GX d e
 |0,_,h=>h.elim
 |_+1,_,h=>⟨h.2.2.1,λx I=>(h.2.2.2.1 x I).x⟩
theorem ZE.x {e:Xp} (h:ZE e):GX 4 e:=by
 rcases h with h|rfl
 .exact h.x
 .exact⟨by simp[Xp.l],λx I=>(by cases I)⟩
def GT:Nat->Sx->Prop
 |0,_=>False
 |d+1,s=>s.index.length<=1/\(∀ e∈s.index,GX 4 e)/\GX 4 s.expr/\s.body.length<=8/\s.els.length<=8/\(∀ x∈s.body,GT d x)/\(∀ x∈s.els,GT d x)
theorem GS.t {nT:Nat}:∀ {d:Nat} {s:Sx},GS nT d s->GT d s
 |0,_,h=>h.elim
 |_+1,_,⟨_,b,c,_,f,g,i,j,k,_⟩=>⟨b,λe he=>(c e he).x,f.x,g,i,λx I=>(j x I).t,λx I=>(k x I).t⟩
theorem xA (s:Sx):nE (Sx.op s,Sx.line s,Sx.name s,Sx.arg s,Sx.index s,dT (Xp.op (Sx.expr s),Xp.n (Sx.expr s),Xp.name (Sx.expr s),Xp.l (Sx.expr s)),Sx.body s,Sx.els s)=s:=by
 rw[fc,yl]
theorem RU (k:Int):Ok (ma k) λ_=>True:=by
 unfold ma be jN aE;with_reducible repeat' first|(refine OS.ok ?_;constructor)|refine IM.mk λ_=>?_
 all_goals trivial
theorem qu (e:Xp):Ok (o9 e) λ_=>True:=by
 unfold o9 be aE;with_reducible repeat' first|(refine OS.ok ?_;constructor)|refine IM.mk λ_=>?_
 all_goals trivial
theorem yQ:∀ (n d:Nat) (e:Xp),d<n->GX d e->Ok (g_ n e) λ_=>True
 |0,_,_,h,_=>by omega
 |n+1,0,_,_,h=>h.elim
 |n+1,d+1,e,hn,h=>by
  obtain⟨h1,h2⟩:=h;rw[rX];unfold lQ be bx iI bK cK aE cB;refine aY (λx=>x.2=e) (aK (λ_=>ar (fc e)) λ_=>ar (fc e)) ?_;rintro⟨b,x⟩ J;dsimp only at J;subst J;refine aY (λy=>y.2=x) ?_ ?_
  .refine ax (RU _) λ_ _=>?_
   with_reducible repeat' first|refine b8 (λ_=>?_) λ_=>?_|refine bH (λ_=>?_) λ_=>?_|refine d_ (λ_=>?_) λ_=>?_|refine aP (λ_=>?_) λ_=>?_|exact ar (fc x)|refine ax (io _) λ_ _=>?_
  rintro⟨M,y⟩ I;dsimp only at I;subst I;refine aP (λ_=>ar trivial) λ_=>?_
  refine ch y.l.length (λi x=>x.1=(i:Int)/\x.2=y) ?_ ?_ ⟨rfl,fc y⟩
  .rintro i ⟨a,z⟩ hi ⟨e1,e2⟩;dsimp only at e1 e2;subst e1;subst e2;refine dC ?_;refine cD (aT ?_);refine ax (yQ n d _ (by omega) (h2 _ (bJ (T:=.ex) (xs:=z.l) (j:=(i:Int)) (by omega) (by omega)))) λ_ _=>?_
   refine d_ (λ_=>ar trivial) λ_=>ar ?_
   dsimp only;exact⟨gW (by omega),fc z⟩
  .rintro⟨a,z⟩ ⟨e1,e2⟩;dsimp only at e1 e2;subst e1;subst e2;exact dx (ar trivial)
theorem f_ (e:Xp) (h:GX 4 e):Ok (iW e) λ_=>True:=yQ fuel 4 e (by rw[jL];omega) h
theorem Kv (d:Int×Int×List UInt8×Int×Int×List UInt8):Ok (jV d) λ_=>True:=by
 unfold jV aV bg cw eP be bx iI aE;refine aY (λ_=>True) ?_ λx _=>aP (λ_=>ar trivial) λ_=>?_
 .with_reducible repeat' first|refine b8 (λ_=>?_) λ_=>?_|refine bH (λ_=>?_) λ_=>?_|refine d_ (λ_=>?_) λ_=>?_|exact ar trivial|refine ax (io _) λ_ _=>?_
 refine aY (λ_=>True) ?_ λx _=>aP (λ_=>ar trivial) λ_=>?_
 .with_reducible repeat' first|refine b8 (λ_=>?_) λ_=>?_|refine aK (λ_=>?_) λ_=>?_|refine d_ (λ_=>?_) λ_=>?_|exact ar trivial|refine ax (io _) λ_ _=>?_
 with_reducible repeat' first|(refine OS.ok ?_;constructor)|refine IM.mk λ_=>?_
 all_goals trivial
theorem Gp (I:Sx->Option Bool) (rs:List Sx->Option Bool) (l:List Sx) (hl:l.length<=1000) (h:∀ s∈l,Ok (I s) λ_=>True):Ok (jr I rs l) λ_=>True:=by
 unfold jr bx ve aX cK aE cB;refine ch l.length (λi x=>x=(i:Int)) ?_ ?_ rfl
 .rintro i x hi rfl;refine dC ?_;refine cD ?_;refine ax (h _ (bJ (T:=.sm) (xs:=l) (j:=(i:Int)) (by omega) (by omega))) λ_ _=>?_
  exact d_ (λ_=>ar trivial) λ_=>ar (gW (by omega))
 .rintro x rfl;exact dx (ar trivial)
theorem IH (J:Sx->Option Bool) (rs:List Sx->Option Bool) (s:Sx) (h1:∀ e∈s.index,GX 4 e) (h2:GX 4 s.expr) (hb:Ok (rs s.body) λ_=>True) (he:Ok (rs s.els) λ_=>True):Ok (jX J rs s) λ_=>True:=by
 unfold jX be bx jN iI bK aE dW;refine aY (λx=>x.2=s) ?_ ?_
 .with_reducible repeat' first|refine b8 (λ_=>?_) λ_=>?_|refine aK (λ_=>?_) λ_=>?_|refine bH (λ_=>?_) λ_=>?_|refine fw (λ_=>?_) λ_=>?_|refine d_ (λ_=>?_) λ_=>?_|refine aP (λ_=>?_) λ_=>?_|exact ar (xA _)|refine ax (io _) λ_ _=>?_|refine ax (qu _) λ_ _=>?_|refine ax (f_ _ h2x) λ_ _=>?_
 rintro⟨b,x⟩ I;dsimp only at I;have I:=I.symm;subst I;refine aP (λ_=>ar trivial) λ_=>?_
 refine aY (λx=>x.2=s) ?_ ?_
 .with_reducible repeat' first|refine b8 (λ_=>?_) λ_=>?_|refine aK (λ_=>?_) λ_=>?_|refine bH (λ_=>?_) λ_=>?_|refine fw (λ_=>?_) λ_=>?_|refine d_ (λ_=>?_) λ_=>?_|refine aP (λ_=>?_) λ_=>?_|exact ar (xA _)|refine ax (io _) λ_ _=>?_|refine ax (qu _) λ_ _=>?_|refine ax (f_ _ h2x) λ_ _=>?_
 rintro⟨b,x⟩ I;dsimp only at I;have I:=I.symm;subst I;refine aY (λx=>x.2=s) ?_ ?_
 .with_reducible repeat' first|refine b8 (λ_=>?_) λ_=>?_|refine aK (λ_=>?_) λ_=>?_|refine bH (λ_=>?_) λ_=>?_|refine fw (λ_=>?_) λ_=>?_|refine d_ (λ_=>?_) λ_=>?_|refine aP (λ_=>?_) λ_=>?_|exact ar (xA _)|refine ax (io _) λ_ _=>?_|refine ax (qu _) λ_ _=>?_|refine ax (f_ _ h2x) λ_ _=>?_
 rintro⟨b,x⟩ I;dsimp only at I;have I:=I.symm;subst I;refine aP (λ_=>ar trivial) λ_=>?_
 refine aY (λx=>x.2=s) ?_ ?_
 .with_reducible repeat' first|refine b8 (λ_=>?_) λ_=>?_|refine aK (λ_=>?_) λ_=>?_|refine bH (λ_=>?_) λ_=>?_|refine fw (λ_=>?_) λ_=>?_|refine d_ (λ_=>?_) λ_=>?_|refine aP (λ_=>?_) λ_=>?_|exact ar (xA _)|refine ax (io _) λ_ _=>?_|refine ax (qu _) λ_ _=>?_|refine ax (f_ _ h2x) λ_ _=>?_
 rintro⟨b,x⟩ I;dsimp only at I;have I:=I.symm;subst I;refine aP (λ_=>ar trivial) λ_=>?_
 refine aY (λx=>x.2=s) ?_ ?_
 .with_reducible repeat' first|refine b8 (λ_=>?_) λ_=>?_|refine aK (λ_=>?_) λ_=>?_|refine bH (λ_=>?_) λ_=>?_|refine fw (λ_=>?_) λ_=>?_|refine d_ (λ_=>?_) λ_=>?_|refine aP (λ_=>?_) λ_=>?_|exact ar (xA _)|refine ax (io _) λ_ _=>?_|refine ax (qu _) λ_ _=>?_|refine ax (f_ _ h2x) λ_ _=>?_
  all_goals
   rename_i g;dsimp only[au] at g;refine cD (aT ?_);refine ax (f_ _ (h1 _ (bJ (T:=.ex) (xs:=Sx.index _) (j:=0) (by omega) (by omega)))) λ_ _=>ar (xA _)
 rintro⟨b,x⟩ I;dsimp only at I;have I:=I.symm;subst I;refine aP (λ_=>ar trivial) λ_=>?_
 refine aY (λx=>x.2=s) ?_ ?_
 .with_reducible repeat' first|refine b8 (λ_=>?_) λ_=>?_|refine aK (λ_=>?_) λ_=>?_|refine bH (λ_=>?_) λ_=>?_|refine fw (λ_=>?_) λ_=>?_|refine d_ (λ_=>?_) λ_=>?_|refine aP (λ_=>?_) λ_=>?_|exact ar (xA _)|refine ax (io _) λ_ _=>?_|refine ax (qu _) λ_ _=>?_|refine ax (f_ _ h2x) λ_ _=>?_
 rintro⟨b,x⟩ I;dsimp only at I;have I:=I.symm;subst I;refine aY (λx=>x.2=s) ?_ ?_
 .have h2x:GX 4 (dT (Xp.op (Sx.expr s),Xp.n (Sx.expr s),Xp.name (Sx.expr s),Xp.l (Sx.expr s))):=by rw[fc];exact h2
  with_reducible repeat' first|refine b8 (λ_=>?_) λ_=>?_|refine aK (λ_=>?_) λ_=>?_|refine bH (λ_=>?_) λ_=>?_|refine fw (λ_=>?_) λ_=>?_|refine d_ (λ_=>?_) λ_=>?_|refine aP (λ_=>?_) λ_=>?_|exact ar (xA _)|refine ax (io _) λ_ _=>?_|refine ax (qu _) λ_ _=>?_|refine ax (f_ _ h2x) λ_ _=>?_
 rintro⟨b,x⟩ I;dsimp only at I;have I:=I.symm;subst I;refine aP (λ_=>ar trivial) λ_=>?_
 refine aY (λx=>x.2=s) ?_ ?_
 .with_reducible repeat' first|refine b8 (λ_=>?_) λ_=>?_|refine aK (λ_=>?_) λ_=>?_|refine bH (λ_=>?_) λ_=>?_|refine fw (λ_=>?_) λ_=>?_|refine d_ (λ_=>?_) λ_=>?_|refine aP (λ_=>?_) λ_=>?_|exact ar (xA _)|refine ax (io _) λ_ _=>?_|refine ax (qu _) λ_ _=>?_|refine ax (f_ _ h2x) λ_ _=>?_
 rintro⟨b,x⟩ I;dsimp only at I;have I:=I.symm;subst I;refine aY (λx=>x.2=s) ?_ ?_
 .with_reducible repeat' first|refine b8 (λ_=>?_) λ_=>?_|refine aK (λ_=>?_) λ_=>?_|refine bH (λ_=>?_) λ_=>?_|refine fw (λ_=>?_) λ_=>?_|refine d_ (λ_=>?_) λ_=>?_|refine aP (λ_=>?_) λ_=>?_|exact ar (xA _)|refine ax (io _) λ_ _=>?_|refine ax (qu _) λ_ _=>?_|refine ax (f_ _ h2x) λ_ _=>?_
 rintro⟨b,x⟩ I;dsimp only at I;have I:=I.symm;subst I;refine aP (λ_=>ar trivial) λ_=>?_
 refine aY (λ_=>True) ?_ λ_ _=>ar trivial
 refine ax hb λ_ _=>aP (λ_=>ax he λ_ _=>ar trivial) λ_=>ar trivial
theorem IR:∀ (n:Nat),(∀ (d:Nat) (s:Sx),2*d<n->GT d s->Ok (ef n s) λ_=>True)/\(∀ (d:Nat) (l:List Sx),2*d+1<n->l.length<=1000->(∀ s∈l,GT d s)->Ok (dz n l) λ_=>True)
 |0=>⟨λd _ h=>by omega,λd _ h=>by omega⟩
 |n+1=>by
  obtain⟨J,I⟩:=IR n;refine ⟨λd s hd h=>?_,λd l hd hl h=>?_⟩
  .cases d with
   |zero=>exact h.elim
   |succ d=>
    obtain⟨_,Z,Y,g4,g5,U,M⟩:=h;exact IH (ef n) (dz n) s Z Y (I d _ (by omega) (by omega) U) (I d _ (by omega) (by omega) M)
  .exact Gp (ef n) (dz n) l hl λs hs=>J d s (by omega) (h s hs)
theorem J9 (d:Nat) (hd:d<=100) (l:List Sx) (hl:l.length<=1000) (h:∀ s∈l,GT d s):Ok (nC l) λ_=>True:=(IR fuel).2 d l (by rw[jL];omega) hl h
abbrev DT:Type:=Int×Int×List UInt8×Int×Int×List UInt8
abbrev HT:Type:=List UInt8×Int×List (List UInt8)×List Sx
abbrev PG:Type:=List DT×List HT
structure PX (p:PG):Prop where
 d:p.1.length<=100
 t:p.2.length<=8
 l:∀ t∈p.2,t.2.2.1.length<=100
 b:∀ t∈p.2,t.2.2.2.length<=100
 s:∀ t∈p.2,∀ s∈t.2.2.2,GT 5 s
theorem X1 (p:PG) (h:PX p):Ok (pq p) λ_=>True:=by
 obtain⟨hd,ht,hl,hb,hs⟩:=h;unfold pq aV bp cO bx bK aX cK aE cB;refine ch p.1.length (λi x=>x.1=(i:Int)/\x.2=p) ?_ ?_ ⟨rfl,rfl⟩
 .rintro i ⟨a,x⟩ hi ⟨e1,e2⟩;dsimp only at e1 e2;subst e1;subst e2;refine dC ?_;refine cD (aT ?_);refine ax (Kv _) λ_ _=>?_
  exact d_ (λ_=>ar trivial) λ_=>ar ⟨gW (by omega),rfl⟩
 rintro⟨a,x⟩ ⟨e1,e2⟩;dsimp only at e1 e2;subst e1;subst e2;refine dx ?_;refine ax (P:=λ_=>True) ?_ λ_ _=>ar trivial
 refine ch x.2.length (λi y=>y.1=(i:Int)/\y.2=x) ?_ ?_ ⟨rfl,rfl⟩
 .rintro i ⟨a,x⟩ hi ⟨e1,e2⟩;dsimp only at e1 e2;subst e1;have e2:=e2.symm;subst e2;refine dC ?_;refine cD (aT ?_);have hm:=bJ (T:=yh) (xs:=x.2) (j:=(i:Int)) (by omega) (by omega);have h1:=hl _ hm;have h2:=hb _ hm;have M:=hs _ hm;revert h1 h2 M;generalize (aJ (T:=yh) x.2 (i:Int))=t;intro h1 h2 M;refine ch t.2.2.1.length (λk y=>y.1=(k:Int)/\y.2=(x,t)) ?_ ?_ ⟨rfl,rfl⟩
  .rintro k ⟨a,z⟩ hk ⟨J,I⟩;dsimp only at J I;subst J;subst I;refine dC ?_;refine cD (aT ?_);refine ax (io _) λ_ _=>?_
   exact d_ (λ_=>ar trivial) λ_=>ar ⟨gW (by omega),rfl⟩
  .rintro⟨a,z⟩ ⟨J,I⟩;dsimp only at J I;subst J;subst I;refine dx ?_;refine ax (P:=λr=>match r with|.inl y=>y.1=((i+1:Nat):Int)/\y.2=x|.inr _=>True) ?_ ?_
   .refine aY (λy=>y.2=x) ?_ ?_
    .refine ax (io _) λ_ _=>d_ (λ_=>ar rfl) λ_=>?_
     exact ax (J9 5 (by omega) _ (by dsimp only;omega) M) λ_ _=>ar rfl
    rintro⟨b,y⟩ e;dsimp only at e;subst e;exact aP (λ_=>ar trivial) λ_=>ar ⟨gW (by omega),rfl⟩
   .rintro (y|y) U
    .exact ar U
    .exact ar trivial
 .rintro⟨a,y⟩ ⟨e1,e2⟩;dsimp only at e1 e2;subst e1;subst e2;exact dx (ar trivial)
theorem wF (l:List DT) (s:List UInt8) (hl:l.length<=1000):Ok (gZ (l,s)) λr=> -1<=r/\r<(l.length:Int):=by
 unfold gZ bx bK aX cK aE cB;refine ch l.length (λi x=>x=(i:Int)) ?_ ?_ rfl
 .rintro i x hi rfl;refine dC ?_;refine cD (aT ?_);exact aK (λ_=>ar ⟨by omega,by omega⟩) λ_=>ar (gW (by omega))
 .rintro x rfl;exact dx (ar ⟨by omega,by omega⟩)
theorem r9 (l:List HT) (s:List UInt8) (hl:l.length<=1000):Ok (gH (l,s)) λr=> -1<=r/\r<(l.length:Int):=by
 unfold gH bx bK aX cK aE cB;refine ch l.length (λi x=>x=(i:Int)) ?_ ?_ rfl
 .rintro i x hi rfl;refine dC ?_;refine cD (aT ?_);exact aK (λ_=>ar ⟨by omega,by omega⟩) λ_=>ar (gW (by omega))
 .rintro x rfl;exact dx (ar ⟨by omega,by omega⟩)
def DD (p:PG) (s:List UInt8):Prop:=∃ v,gZ (p.1,s)=af v/\0<=v/\v<(p.1.length:Int)
theorem Ya (p:PG) (h:PX p) (t:Int) (s:List UInt8):Ok (po (p,t,s)) λk=>k≠0->k≠7->k≠8->DD p s:=by
 have hd:=h.d;have ht:=h.t;unfold po be bx jN iI ve bK aX aE;refine aY (λx=>x.2=p) ?_ ?_
 .refine fw (λU=>bH (λM=>?_) λ_=>ar rfl) λ_=>ar rfl
  dsimp only[au] at U M;refine aR U M (aT ?_);have hm:=h.l _ (bJ (T:=yh) (xs:=p.2) (j:=t) U M);exact ax (xW _ s (dc hm (by omega))) λ_ _=>ar rfl
 rintro⟨b,x⟩ e;dsimp only at e;have e:=e.symm;subst e;refine aP (λ_=>ar λ_ _ h=>(h rfl).elim) λ_=>?_
 obtain⟨v,hv,v0,J⟩:=wF p.1 s (by omega);refine aU hv ?_;refine bH (λ_=>?_) λg=>?_
 .exact ax (r9 p.2 s (by omega)) λ_ _=>fw (λ_=>ar λ_ h=>(h rfl).elim) λ_=>ar λh=>(h rfl).elim
 have I:DD p s:=⟨v,hv,g,J⟩
 refine aR g J (aT ?_);refine aK (λ_=>?_) λ_=>?_
 .exact aR g J (aT (b8 (λ_=>ar λ_ _ _=>I) λ_=>ar λ_ _ _=>I))
 refine aK (λ_=>ar λ_ _ _=>I) λ_=>?_
 refine aY (λx=>x.2=p) (aK (λ_=>ar rfl) λ_=>aK (λ_=>ar rfl) λ_=>aK (λ_=>ar rfl) λ_=>ar rfl) ?_;rintro⟨b,x⟩ e;dsimp only at e;have e:=e.symm;subst e;exact aP (λ_=>aR g J (aT (ar λ_ _ _=>I))) λ_=>ar λ_ _ _=>I
theorem oJ (p:PG) (h:PX p) (t:Int) (s:List UInt8) (a b:Int):Ok (gu (p,t,s,a,b)) λr=>r=0->(a≠7/\a≠8)->(b≠7/\b≠8)->DD p s:=by
 unfold gu aV bg db be iI aE;refine ax (Ya p h t s) λk hk=>?_
 refine aK (λ_=>ar λh=>(by cases h)) λg=>?_
 refine aY (λx=>x=aj->k=a\/k=b) ?_ ?_
 .refine b8 (λ_=>ar λh=>?_) λh=>ar λ_=>.inl h
  simp at h;exact .inr h
 rintro x I;refine aP (λ_=>ar λh=>(by cases h)) λh=>ar λ_ h1 h2=>hk g ?_ ?_
 .rcases I h with h|h<;>omega
 .rcases I h with h|h<;>omega
theorem L9:∀ (n d:Nat) (e:Xp),d<n->GX d e->Ok (mU n e) λ_=>True
 |0,_,_,h,_=>by omega
 |n+1,0,_,_,h=>h.elim
 |n+1,d+1,e,hn,h=>by
  obtain⟨h1,h2⟩:=h;rw[xH];unfold t8 bx bK cK aE cB;refine ch e.l.length (λi x=>x.1.2.2=(i:Int)/\x.2=e) ?_ ?_ ⟨rfl,fc e⟩
  .rintro i ⟨⟨a,b,c⟩,z⟩ hi ⟨e1,e2⟩;dsimp only at e1 e2;subst e1;subst e2;refine dC ?_;refine cD (aT ?_);refine ax (L9 n d _ (by omega) (h2 _ (bJ (T:=.ex) (xs:=z.l) (j:=(i:Int)) (by omega) (by omega)))) λ_ _=>ar ?_
   exact⟨gW (by omega),fc z⟩
  .rintro⟨⟨a,b,c⟩,z⟩ ⟨e1,e2⟩;dsimp only at e1 e2;subst e1;subst e2;exact dx (ar trivial)
theorem Fk (p:PG) (hp:PX p) (t:Int):∀ (n d:Nat) (e:Xp),d<n->GX d e->Ok (mT n (p,t,e)) λ_=>True
 |0,_,_,h,_=>by omega
 |n+1,0,_,_,h=>h.elim
 |n+1,d+1,e,hn,h=>by
  obtain⟨h1,h2⟩:=h;rw[xG];unfold t7 be bx bK cK aE cB;refine aY (λx=>x.2.1=p/\x.2.2=e) ?_ ?_
  .refine aK (λ_=>ax (oJ p hp t _ _ _) λ_ _=>ar ⟨rfl,fc e⟩) λ_=>aK (λ_=>ax (oJ p hp t _ _ _) λ_ _=>ar ⟨rfl,fc e⟩) λ_=>ar ⟨rfl,fc e⟩
  rintro⟨r,M,e'⟩ ⟨J,I⟩;dsimp only at J I;have J:=J.symm;subst J;have I:=I.symm;subst I;refine pM (λx=>((e.l.length:Int)-x.1.2).toNat) (λx=>0<=x.1.2/\x.2.1=p/\x.2.2=e) ?_ ⟨eJ _,rfl,fc e⟩;rintro⟨⟨a,(b:Int)⟩,M,e'⟩ ⟨b0,J,I⟩;dsimp only at b0 J I;have J:=J.symm;subst J;have I:=I.symm;subst I;refine aY (λx=>x.2.1=p/\x.2.2=e/\(x.1=ai->b<(e.l.length:Int))) ?_ ?_
  .exact bH (λg=>ar ⟨rfl,fc e,λ_=>g⟩) λ_=>ar ⟨rfl,fc e,λh=>(by cases h)⟩
  rintro⟨c,M,e'⟩ ⟨J,I,U⟩;dsimp only at J I U;have J:=J.symm;subst J;have I:=I.symm;subst I;refine aP (λhc=>?_) λ_=>ar trivial
  have g:=U hc;refine aR b0 g (aT ?_);refine ax (Fk p hp t n d _ (by omega) (h2 _ (bJ (T:=.ex) (xs:=e.l) (j:=b) b0 g))) λ_ _=>ar ?_
  dsimp only;rw[ic (n:=b+1) (by omega) (by omega)];exact⟨⟨by omega,rfl,fc e⟩,by omega⟩
theorem wE (p:PG) (hp:PX p) (t:Int) (e:Xp) (h:GX 4 e):Ok (l_ (p,t,e)) λ_=>True:=by
 unfold l_ bx aE;have M:GX 4 (dT (Xp.op e,Xp.n e,Xp.name e,Xp.l e)):=by rw[fc];exact h
 refine ax (f_ _ M) λ_ _=>d_ (λ_=>ar trivial) λ_=>?_
 refine ax (L9 fuel 4 _ (by rw[jL];omega) M) λ_ _=>?_
 refine aY (λx=>x.2.1=p/\x.2.2=e) (bH (λ_=>ar ⟨rfl,fc e⟩) λ_=>ar ⟨rfl,fc e⟩) ?_;rintro⟨r,U,e'⟩ ⟨J,I⟩;dsimp only at J I;have J:=J.symm;subst J;have I:=I.symm;subst I;exact aP (λ_=>ar trivial) λ_=>ax (Fk p hp t fuel 4 _ (by rw[jL];omega) M) λ_ _=>ar trivial
theorem fy (b:Bool):Ok (cX b) λ_=>True:=by
 unfold cX;exact aP (λ_=>ar trivial) λ_=>ar trivial
theorem tD (x:Int×Int):Ok (iR x) λr=>r=0->x.1=0/\x.2=0:=by
 unfold iR iI;exact b8 (λh=>ar λh2=>(h h2).elim) λh=>ar λh2=>⟨h,h2⟩
abbrev WK:Type:=(List DT×List HT×Int)×(Bool×List Sx)×List (List UInt8)×List (List UInt8)
theorem WY (a b:Int) (s:List UInt8) (w:WK) (h:w.2.1.2.length<=100):Ok (dM ((a,b,s),w)) λy=>y.2=w:=by
 unfold dM aV be bx kA aX cK aE cB;refine ch w.2.1.2.length (λi x=>x.1=(i:Int)/\x.2=w) ?_ ?_ ⟨rfl,rfl⟩
 .rintro i ⟨c,x⟩ hi ⟨e1,e2⟩;dsimp only at e1 e2;subst e1;have e2:=e2.symm;subst e2;refine dC ?_;refine cD (cD (aT ?_));refine aY (λx=>x.2=w) ?_ ?_
  .refine aK (λ_=>aK (λ_=>ar rfl) λ_=>ar rfl) λ_=>aK (λ_=>aK (λ_=>ar rfl) λ_=>ar rfl) λ_=>ar rfl
  rintro⟨c,x⟩ e;dsimp only at e;have e:=e.symm;subst e;exact aP (λ_=>ar rfl) λ_=>ar ⟨gW (by omega),rfl⟩
 .rintro⟨c,x⟩ ⟨e1,e2⟩;dsimp only at e1 e2;subst e1;have e2:=e2.symm;subst e2;exact dx (ar rfl)
def OP:Nat->Sx->Nat
 |0,_=>0
 |d+1,s=>1+(s.body.map (OP d)).sum+(s.els.map (OP d)).sum
def m_ (d:Nat) (l:List Sx):Nat:=(l.map (OP d)).sum
def KS:Nat->Nat
 |0=>0
 |d+1=>1+16*KS d
theorem MY {α:Type} {f:α->Nat} {k:Nat}:∀ {l:List α},(∀ x∈l,f x<=k)->(l.map f).sum<=l.length*k
 |[],_=>by simp
 |x::r,h=>by
  have:=MY (l:=r) λy I=>h y (cL _ I)
  have:=h x (dv ..);rw[gg,List.sum_cons,bZ,iM];omega
theorem Uv:∀ {d:Nat} {s:Sx},GT d s->OP d s<=KS d
 |0,_,h=>h.elim
 |d+1,s,⟨_,_,_,Y,U,M,J⟩=>by
  have a:=MY (f:=OP d) (l:=s.body) λx I=>Uv (M x I)
  have b:=MY (f:=OP d) (l:=s.els) λx I=>Uv (J x I)
  have c:=cE (KS d) Y;have e:=cE (KS d) U;show 1+_+_<=1+16*KS d;omega
theorem Oe:∀ {d:Nat} {s:Sx},GT d s->OP (d+1) s=OP d s
 |0,_,h=>h.elim
 |d+1,s,⟨_,_,_,_,_,M,J⟩=>by
  show 1+(s.body.map (OP (d+1))).sum+(s.els.map (OP (d+1))).sum=1+(s.body.map (OP d)).sum+(s.els.map (OP d)).sum;rw[pI λx I=>Oe (M x I),pI λx I=>Oe (J x I)]
theorem ZT {d:Nat} {l:List Sx} (h:∀ s∈l,GT d s):m_ d l<=l.length*KS d:=MY λx I=>Uv (h x I)
theorem ww {d:Nat} {l:List Sx} {i:Nat} (hi:i<l.length):m_ d (l.take (i+1))=m_ d (l.take i)+OP d (aJ (T:=.sm) l (i:Int)):=by
 unfold m_;rw[nR (T:=.sm) hi,cN,ER];simp
theorem Of {d:Nat} (l:List Sx) (i:Nat):m_ d (l.take i)<=m_ d l:=by
 conv=>rhs;rw[<- AM i l]
 unfold m_;rw[cN,ER];omega
theorem Ef:∀ (n d:Nat) (l:List Sx),d<n->l.length<=1000->(∀ s∈l,GT d s)->KS d<=100000->mV n l=af ((m_ d l:Nat):Int)
 |0,_,_,h,_,_,_=>by omega
 |n+1,d,l,hn,hl,h,J=>by
  refine cJ ?_;rw[xI];unfold t_ bx ve aX cK aE cB;have hb:=ZT h;have I:=Nat.mul_le_mul hl J;refine ch l.length (λi x=>x.2=(i:Int)/\x.1=(l.length:Int)-i+(m_ d (l.take i):Nat)) ?_ ?_ ⟨rfl,by simp[m_]⟩
  .rintro i ⟨a,b⟩ hi ⟨e1,e2⟩;dsimp only at e1 e2;subst e1;subst e2;have hp:=Of (d:=d) l (i+1);rw[ww hi] at hp;refine dC ?_;refine cD (aT ?_);rw[ww hi];have hm:=h _ (bJ (T:=.sm) (xs:=l) (j:=(i:Int)) (by omega) (by omega));revert hm hp;generalize (aJ (T:=.sm) l (i:Int))=s;intro hp hm;cases d with
   |zero=>exact hm.elim
   |succ d=>
    obtain⟨_,_,_,Z,Y,U,M⟩:=hm;have hk:KS (d+1)=1+16*KS d:=rfl;have hc:OP (d+1) s=1+m_ d s.body+m_ d s.els:=rfl;rw[hc] at hp ⊢;refine aU (Ef n d _ (by omega) (by omega) U (by omega)) ?_;refine cD (aT ?_);refine aU (Ef n d _ (by omega) (by omega) M (by omega)) (ar ⟨gW (by omega),?_⟩);dsimp only;rw[ic (n:=(l.length:Int)-i+(m_ (d+1) (l.take i):Nat)+(m_ d s.body:Nat)) (by omega) (by omega),ic (by omega) (by omega)];omega
  .rintro⟨a,b⟩ ⟨e1,e2⟩;dsimp only at e1 e2;subst e1;subst e2;rw[cP];exact dx (ar (by dsimp only;omega))
theorem T2 (l:List DT) (hl:l.length<=100):Ok (qW l) λ_=>True:=by
 unfold qW aV bg bp bL db eP be bx jN iI bE bK aX cK aE cB;refine ch l.length (λi x=>x.2.2.2.2=(i:Int)) ?_ ?_ rfl
 .rintro i ⟨a,b,c,d,e⟩ hi e1;dsimp only at e1;subst e1;refine dC ?_;refine aY (λ_=>True) ?_ λx _=>ar (gW (by omega))
  refine cD (aT ?_);have htk:(du (aS (i:Int)) l).length<=100:=by rw[bD];omega
  refine c6 (dZ (by dsimp only;omega) (dZ (by dsimp only;omega) ?_));refine ax (wF _ _ (dc htk (by omega))) λv hv=>?_
  refine fw (λ_=>ar trivial) λ_=>bH (λ_=>ar trivial) λ_=>?_
  refine aY (λ_=>True) ?_ λx _=>?_
  .refine aY (λ_=>True) (aK (λ_=>ar trivial) λ_=>ar trivial) λx _=>aP (λ_=>ar trivial) λ_=>?_
   refine aY (λ_=>True) (aK (λ_=>ar trivial) λ_=>ar trivial) λx _=>aP (λ_=>ar trivial) λ_=>?_
   exact aK (λ_=>ar trivial) λ_=>ar trivial
  refine aY (λ_=>True) (bH (λ_=>ar trivial) λ_=>bH (λ_=>ar trivial) λ_=>bH (λ_=>ar trivial) λ_=>ar trivial) λx _=>aP (λ_=>ar trivial) λ_=>?_
  refine aK (λ_=>?_) λ_=>ar trivial
  refine c6 (dZ (by dsimp only;omega) (dZ (by dsimp only;omega) ?_));refine ax (wF _ _ (dc htk (by omega))) λv hv=>?_
  refine bH (λ_=>ar trivial) λg=>?_
  have h2:=hv.2;rw[bD] at h2;exact aR g (by dsimp only at h2 ⊢;omega) (aT (b8 (λ_=>ar trivial) λ_=>ar trivial))
 .rintro⟨a,b,c,d,e⟩ e1;dsimp only at e1;subst e1;exact dx (ar trivial)
theorem MT (p:PG) (h:PX p):Ok (nB p) λ_=>True:=by
 have hd:=h.d;have ht:=h.t;unfold nB aV bg bp bx jN bE bK aX cK aE cB;refine ch p.2.length (λi x=>x.1=(i:Int)/\x.2=p) ?_ ?_ ⟨rfl,rfl⟩
 .rintro i ⟨a,x⟩ hi ⟨e1,e2⟩;dsimp only at e1 e2;subst e1;have e2:=e2.symm;subst e2;refine dC ?_;refine cD (aT ?_);refine aY (λx=>x.2.1=p) ?_ ?_
  .refine ax (wF _ _ (by dsimp only;omega)) λv hv=>fw (λ_=>ar rfl) λ_=>?_
   refine c6 (dZ (by dsimp only;omega) (dZ (by dsimp only;omega) ?_));exact ax (r9 _ _ (by rw[bD];dsimp only;omega)) λ_ _=>ar rfl
  rintro⟨b,x,z⟩ e;dsimp only at e;have e:=e.symm;subst e;exact aP (λ_=>ar trivial) λ_=>ar ⟨gW (by omega),rfl⟩
 rintro⟨a,x⟩ ⟨e1,e2⟩;dsimp only at e1 e2;subst e1;have e2:=e2.symm;subst e2;refine dx ?_;refine ax (P:=λ_=>True) ?_ λ_ _=>ar trivial
 refine ch p.2.length (λi x=>x.1=(i:Int)/\x.2=p) ?_ ?_ ⟨rfl,rfl⟩
 .rintro i ⟨a,x⟩ hi ⟨e1,e2⟩;dsimp only at e1 e2;subst e1;have e2:=e2.symm;subst e2;refine dC ?_;refine cD (aT ?_);have hm:=h.l _ (bJ (T:=yh) (xs:=p.2) (j:=(i:Int)) (by omega) (by omega));revert hm;generalize (aJ (T:=yh) p.2 (i:Int))=t;intro hm;refine bH (λ_=>ar trivial) λ_=>?_
  refine ch t.2.2.1.length (λk y=>y.1=(k:Int)/\y.2=(p,t)) ?_ ?_ ⟨rfl,rfl⟩
  .rintro k ⟨a,z⟩ hk ⟨J,I⟩;dsimp only at J I;subst J;subst I;refine dC ?_;refine cD (aT ?_);refine aY (λx=>x.2=(p,t)) ?_ ?_
   .refine ax (wF _ _ (by dsimp only;omega)) λv hv=>fw (λ_=>ar rfl) λ_=>?_
    refine ax (r9 _ _ (by dsimp only;omega)) λv hv=>fw (λ_=>ar rfl) λ_=>?_
    refine c6 (dZ (by dsimp only;omega) (dZ (by dsimp only;omega) ?_));exact ax (xW _ _ (by rw[bD];dsimp only;omega)) λ_ _=>ar rfl
   rintro⟨b,x⟩ e;dsimp only at e;subst e;exact aP (λ_=>ar trivial) λ_=>ar ⟨gW (by omega),rfl⟩
  .rintro⟨a,z⟩ ⟨J,I⟩;dsimp only at J I;subst J;subst I;exact dx (ar ⟨gW (by omega),rfl⟩)
 .rintro⟨a,x⟩ ⟨e1,e2⟩;dsimp only at e1 e2;subst e1;have e2:=e2.symm;subst e2;exact dx (ar trivial)
structure WQ (w:WK) (y:Int×WK):Prop where
 p:y.2.1=w.1
 a:y.2.2.1=w.2.1
 s:y.2.2.2.1.length<=w.2.2.1.length+1
 t:y.2.2.2.2.length<=w.2.2.2.length+1
theorem WQ.same (w:WK) (e:Int):WQ w (e,w):=⟨rfl,rfl,Nat.le_succ _,Nat.le_succ _⟩
theorem afw (s:Sx) (D:List DT) (T:List HT) (t:Int) (A:Bool×List Sx) (sp se:List (List UInt8)) (hp:PX (D,T)) (hA:A.2.length<=100) (h1:sp.length<=100000000) (h2:se.length<=100000000) (J:∀ e∈s.index,GX 4 e) (he:GX 4 s.expr):Ok (l9 (s,((D,T,t),A,sp,se))) (WQ ((D,T,t),A,sp,se)):=by
 have hex:GX 4 (dT (Xp.op s.expr,Xp.n s.expr,Xp.name s.expr,Xp.l s.expr)):=by rw[fc];exact he
 have hin:∀ (a b:Int) (n:List UInt8),Ok (dM ((a,b,n),((D,T,t),A,sp,se))) λy=>y.2=((D,T,t),A,sp,se):=λa b n=>WY a b n _ hA
 have hth:T.length<=1000:=by have:=hp.t;dsimp only at this;omega
 have hdl:D.length<=1000:=by have:=hp.d;dsimp only at this;omega
 have sm:∀ e,WQ ((D,T,t),A,sp,se) (e,((D,T,t),A,sp,se)):=WQ.same _;unfold l9 aV bg bp cw bL db cO eP be jN iI bE bK aE dW;refine ax (hin _ _ _) λy I=>?_
 obtain⟨b1,M⟩:=y;dsimp only at I;subst I;refine bd (by simp) ?_;refine ax (hin _ _ _) λy I=>?_
 obtain⟨b2,M⟩:=y;dsimp only at I;subst I;refine bd (by simp) ?_;refine ax (hin _ _ _) λy I=>?_
 obtain⟨Z,M⟩:=y;dsimp only at I;subst I;refine bd (by simp) ?_;refine aK (λ_=>?_) λ_=>?_
 .refine aK (λ_=>?_) λg=>?_
  .exact ax (oJ _ hp _ _ _ _) λ_ _=>ax (wE _ hp _ _ hex) λ_ _=>ax (tD _) λ_ _=>ar (sm _)
  .refine ax (oJ _ hp _ _ _ _) λ_ _=>?_
   dsimp only[au] at g;refine cD (aT ?_);refine ax (wE _ hp _ _ (J _ (bJ (T:=.ex) (xs:=s.index) (j:=0) (by omega) (by omega)))) λ_ _=>?_
   exact ax (wE _ hp _ _ hex) λ_ _=>ax (tD _) λ_ _=>ax (tD _) λ_ _=>ar (sm _)
 refine aY (λx=>x.2=((D,T,t),A,s,(D,T),sp,se)) (aK (λ_=>ar (by dsimp only;rw[xA])) λ_=>ar (by dsimp only;rw[xA])) ?_;rintro⟨b,x⟩ e;dsimp only at e;subst e;refine aP (λ_=>ax (wE _ hp _ _ hex) λ_ _=>ar (sm _)) λ_=>?_
 refine aK (λ_=>?_) λ_=>?_
 .refine aY (λx=>WQ ((D,T,t),A,sp,se) x) ?_ λx J=>ar J
  refine ax (oJ _ hp _ _ _ _) λ_ _=>aP (λ_=>?_) λ_=>?_
  .exact ax (fy _) λ_ _=>ax (tD _) λ_ _=>ar (sm _)
  .refine ax (hin _ _ _) λy I=>?_
   obtain⟨U,M⟩:=y;dsimp only at I;subst I;exact bd (by simp) (ax (fy _) λ_ _=>ax (tD _) λ_ _=>ar (sm _))
 refine aY (λx=>x.2=((D,T,t),A,s,(D,T),sp,se)) (aK (λ_=>ar (by dsimp only;rw[xA])) λ_=>ar (by dsimp only;rw[xA])) ?_;rintro⟨b,x⟩ e;dsimp only at e;subst e;refine aP (λ_=>?_) λ_=>?_
 .refine aY (λx=>WQ ((D,T,t),A,sp,se) x) ?_ λx J=>ar J
  refine ax (oJ _ hp _ _ _ _) λ_ _=>aP (λ_=>?_) λ_=>?_
  .exact ax (fy _) λ_ _=>ax (tD _) λ_ _=>ar (sm _)
  .refine ax (hin _ _ _) λy I=>?_
   obtain⟨U,M⟩:=y;dsimp only at I;subst I;exact bd (by simp) (ax (fy _) λ_ _=>ax (tD _) λ_ _=>ar (sm _))
 refine aK (λ_=>ax (fy _) λ_ _=>ar (sm _)) λ_=>?_
 refine aK (λ_=>?_) λ_=>?_
 .refine aY (λx=>WQ ((D,T,t),A,sp,se) x) ?_ λx J=>ar J
  exact aP (λ_=>ax (fy _) λ_ _=>ar (sm _)) λ_=>ax (fy _) λ_ _=>ar (sm _)
 refine aY (λx=>x.2=((D,T,t),A,s,(D,T),sp,se)) (aK (λ_=>ar (by dsimp only;rw[xA])) λ_=>aK (λ_=>ar (by dsimp only;rw[xA])) λ_=>ar (by dsimp only;rw[xA])) ?_;rintro⟨b,x⟩ e;dsimp only at e;subst e;refine aP (λ_=>?_) λ_=>?_
 .refine ax (oJ _ hp _ _ _ _) λr hr=>b8 (λ_=>ar (sm _)) λg=>?_
  obtain⟨v,hv,v0,Y⟩:=hr g (by omega) (by omega);refine aU hv (aR v0 Y (aT ?_));refine ax (hin _ _ _) λy I=>?_
  obtain⟨U,M⟩:=y;dsimp only at I;subst I;refine bd (by simp) ?_;refine aY (λx=>WQ ((D,T,t),A,sp,se) x) ?_ λx J=>ar J
  refine aP (λ_=>ax (fy _) λ_ _=>ar (sm _)) λ_=>d_ (λ_=>ax (fy _) λ_ _=>ar (sm _)) λ_=>?_
  exact aK (λ_=>ax (fy _) λ_ _=>ar (sm _)) λ_=>ax (fy _) λ_ _=>ar (sm _)
 refine aK (λ_=>?_) λ_=>?_
 .refine ax (oJ _ hp _ _ _ _) λr hr=>b8 (λ_=>ar (sm _)) λg=>?_
  refine ax (r9 T _ hth) λv hv=>?_
  refine aY (λx=>x.2=((D,T,t),A,s,sp,se)) ?_ ?_
  .refine aP (λ_=>ar (by dsimp only;rw[xA])) λ_=>aP (λ_=>ar (by dsimp only;rw[xA])) λ_=>aP (λ_=>ar (by dsimp only;rw[xA])) λ_=>aK (λ_=>ar (by dsimp only;rw[xA])) λ_=>ar (by dsimp only;rw[xA])
  rintro⟨b,x⟩ e;dsimp only at e;subst e;refine aP (λ_=>ar (sm _)) λ_=>?_
  refine ax (xW sp _ (by omega)) λ_ _=>fw (λ_=>ar (sm _)) λ_=>?_
  exact bk (by simp;omega) (by omega) (ar ⟨rfl,rfl,by simp,Nat.le_succ _⟩)
 refine aK (λ_=>?_) λ_=>?_
 .refine aY (λx=>WQ ((D,T,t),A,sp,se) x) ?_ λx J=>ar J
  refine ax (oJ _ hp _ _ _ _) λr hr=>?_
  refine aP (λ_=>ax (fy _) λ_ _=>ax (tD _) λ_ _=>ar (sm _)) λ_=>?_
  refine aP (λ_=>ax (fy _) λ_ _=>ax (tD _) λ_ _=>ar (sm _)) λ_=>?_
  exact ax (r9 T _ hth) λv hv=>ax (fy _) λ_ _=>ax (tD _) λ_ _=>ar (sm _)
 refine aK (λ_=>?_) λ_=>?_
 .refine aY (λx=>x.2=((D,T,t),A,s,(D,T),sp,se)) ?_ ?_
  .refine ax (oJ _ hp _ _ _ _) λr hr=>?_
   exact aP (λ_=>ax (fy _) λ_ _=>ax (tD _) λ_ _=>ar (by dsimp only;rw[xA])) λ_=>ax (fy _) λ_ _=>ax (tD _) λ_ _=>ar (by dsimp only;rw[xA])
  rintro⟨b,x⟩ e;dsimp only at e;subst e;refine aY (λx=>x.2=((D,T,t),A,s,(D,T),sp,se)) ?_ ?_
  .refine aY (λx=>x.2=((D,T,t),A,s,(D,T),sp,se)) ?_ ?_
   .exact aK (λ_=>ax (xW se _ (by omega)) λ_ _=>ar (by dsimp only;rw[xA])) λ_=>ar (by dsimp only;rw[xA])
   rintro⟨b,x⟩ e;dsimp only at e;subst e;exact aP (λ_=>ar (by dsimp only;rw[xA])) λ_=>ar (by dsimp only;rw[xA])
  rintro⟨b,x⟩ e;dsimp only at e;subst e;refine bk (by simp;omega) (by omega) ?_;exact ax (wE _ hp _ _ hex) λ_ _=>ax (tD _) λ_ _=>ar ⟨rfl,rfl,Nat.le_succ _,by simp⟩
 exact ax (oJ _ hp _ _ _ _) λ_ _=>ax (oJ _ hp _ _ _ _) λ_ _=>ax (fy _) λ_ _=>ax (tD _) λ_ _=>ax (tD _) λ_ _=>ar (sm _)
abbrev RA4:Type:=(List Sx×WK)->Option ((Int×Int)×WK)
structure QA (l:List Sx) (d:Nat) (w:WK) (y:(Int×Int)×WK):Prop where
 p:y.2.1=w.1
 a:y.2.2.1.2.length=w.2.1.2.length
 s:y.2.2.2.1.length<=w.2.2.1.length+l.length*KS d
 t:y.2.2.2.2.length<=w.2.2.2.length+l.length*KS d
def SpA (rr:RA4) (d:Nat):Prop:=∀ (l:List Sx) (w:WK),l.length<=100->(∀ s∈l,GT d s)->PX (w.1.1,w.1.2.1)->w.2.1.2.length+d<=50->w.2.2.1.length+l.length*KS d<=100000000->w.2.2.2.length+l.length*KS d<=100000000->Ok (rr (l,w)) (QA l d w)
theorem acm (rr:RA4) (d:Nat) (hr:∀ d',d=d'+1->SpA rr d'):SpA (mc rr) d:=by
 rintro l ⟨⟨D,T,t⟩,A,sp,se⟩ hl hg hp hA h1 h2;dsimp only at hp hA h1 h2;have hK:∀ i:Nat,i<=l.length->i*KS d<=l.length*KS d:=λi hi=>cE _ hi
 unfold mc aV bg bp bL db cO ck be bx iI bE bK aX cK aE cB dW;refine ch l.length (λi x=>x.1=(i:Int)/\x.2.1=(D,T,t)/\x.2.2.1.2.length=A.2.length/\x.2.2.2.1.length<=sp.length+i*KS d/\x.2.2.2.2.length<=se.length+i*KS d) ?_ ?_ ⟨rfl,rfl,rfl,by simp,by simp⟩
 .rintro i ⟨a,P,A',sp',se'⟩ hi ⟨e1,e2,e3,Y,U⟩;dsimp only at e1 e2 e3 Y U;subst e1;subst e2;have hKi:=hK (i+1) (by omega);have hKs:=iM i (KS d);rw[Nat.succ_eq_add_one] at hKs;refine dC ?_;refine cD (aT ?_);have hm:=hg _ (bJ (T:=.sm) (xs:=l) (j:=(i:Int)) (by omega) (by omega));revert hm;generalize (aJ (T:=.sm) l (i:Int))=s;intro hm;cases d with
  |zero=>exact hm.elim
  |succ d=>
   have hR:=hr d rfl;obtain⟨_,g2,g3,g4,g5,g6,g7⟩:=hm;have hk:KS (d+1)=1+16*KS d:=rfl;have kb:s.body.length*KS d<=8*KS d:=cE _ g4;have ke:s.els.length*KS d<=8*KS d:=cE _ g5;dsimp only;rw[xA];refine ax (afw s D T t A' sp' se' hp (by omega) (by omega) (by omega) g2 g3) λy M=>?_
   obtain⟨e,P2,A2,sp2,se2⟩:=y;obtain⟨J,I,q3,q4⟩:=M;dsimp only at J I q3 q4;subst J;subst I;refine bd (by simp) ?_;refine aY (λx=>x.2=((D,T,t),s,A2,sp2,se2)) (bH (λ_=>ar rfl) λ_=>ar rfl) ?_;rintro⟨e,x⟩ ex;dsimp only at ex;subst ex;refine b8 (λ_=>ar ⟨rfl,e3,by dsimp only;omega,by dsimp only;omega⟩) λ_=>?_
   refine bk (by simp;omega) (by omega) (aR (by simp) (by simp;omega) (aR (by simp) (by simp;omega) ?_));dsimp only;rw[xA];refine ax (hR s.body ((D,T,t),(A2.1,cq (A2.2++[_]) _ s),sp2,se2) (by omega) g6 hp ?_ ?_ ?_) λy M=>?_
   .dsimp only;rw[bR];simp;omega
   .dsimp only;omega
   .dsimp only;omega
   obtain⟨e6,P6,A6,sp6,se6⟩:=y;obtain⟨J,I,q5,q6⟩:=M;dsimp only at J I q5 q6;subst J;rw[bR,bu,gm] at I;refine bd (by simp) ?_;refine aY (λx=>x.2.1=(D,T,t)/\x.2.2.1.2.length=A2.2.length+1/\x.2.2.2.1.length<=sp2.length+16*KS d/\x.2.2.2.2.length<=se2.length+16*KS d) ?_ ?_
   .refine aK (λ_=>?_) λ_=>ar ⟨rfl,I,by dsimp only;omega,by dsimp only;omega⟩
    refine ax (hR s.els ((D,T,t),A6,sp6,se6) (by omega) g7 hp (by dsimp only;omega) (by dsimp only;omega) (by dsimp only;omega)) λy M=>?_
    obtain⟨e7,P7,A7,sp7,se7⟩:=y;obtain⟨r1,r2,r5,Z⟩:=M;dsimp only at r1 r2 r5 Z;subst r1;exact bd (by simp) (ar ⟨rfl,r2.trans I,by dsimp only;omega,by dsimp only;omega⟩)
   rintro⟨e8,P8,A8,sp8,se8⟩ ⟨r1,r2,r5,Z⟩;dsimp only at r1 r2 r5 Z;subst r1;have el:bl .i64 ((aO A8.2.length)-1)=(A2.2.length:Int):=by
    rw[r2,ic (by simp<;>omega) (by simp<;>omega)];simp<;>omega
   dsimp only;rw[el];have tk:(du (aS (A2.2.length:Int)) A8.2).length=A2.2.length:=by rw[bD];omega
   refine c6 (dZ (by omega) (zF (by rw[r2];omega) ?_));refine b8 (λ_=>ar ⟨rfl,by dsimp only;omega,by dsimp only;omega,by dsimp only;omega⟩) λ_=>ar ?_
   exact⟨gW (by omega),rfl,by dsimp only;omega,by dsimp only;omega,by dsimp only;omega⟩
 .rintro⟨a,P,A',sp',se'⟩ ⟨e1,e2,e3,Y,U⟩;dsimp only at e1 e2 e3 Y U;subst e1;subst e2;exact dx (ar ⟨rfl,e3,Y,U⟩)
theorem VU:∀ (n d:Nat),d<n->SpA (iw n) d
 |0,_,h=>by omega
 |n+1,d,h=>acm (iw n) d λI hd=>VU n I (by omega)
theorem Dm (p:PG) (h:PX p):Ok (fd p) λr=>r.1=0->(p.2.map λt=>m_ 5 t.2.2.2).sum<=60:=by
 have hd:=h.d;have ht:=h.t;unfold fd aV bg bp bL cO bx iI bE bK aX cK aE cB;refine ax (X1 p h) λ_ _=>d_ (λ_=>ar λh=>(by cases h)) λ_=>?_
 refine ax (T2 p.1 hd) λ_ _=>b8 (λhn=>ar λh=>(hn h).elim) λ_=>bH (λ_=>ar λh=>(by cases h)) λ_=>?_
 refine ax (MT p h) λ_ _=>b8 (λhn=>ar λh=>(hn h).elim) λ_=>?_
 have J:KS 5=69905:=rfl;refine ch p.2.length (λi x=>x.1.2=(i:Int)/\x.2=p/\x.1.1=((((p.2.take i).map λt=>m_ 5 t.2.2.2).sum:Nat):Int)/\(x.1.1:Int)<=((i*6990500:Nat):Int)) ?_ ?_ ⟨rfl,rfl,by simp,by simp⟩
 .rintro i ⟨⟨(c:Int),a⟩,x⟩ hi ⟨e1,e2,e3,I⟩;dsimp only at e1 e2 e3 I;subst e1;have e2:=e2.symm;subst e2;refine dC ?_;refine cD (aT ?_);have hm:=bJ (T:=yh) (xs:=p.2) (j:=(i:Int)) (by omega) (by omega);have hb:=h.b _ hm;have hcb:=ZT (h.s _ hm);have hcb2:=cE (KS 5) hb;rw[J] at hcb hcb2;refine aU (Ef fuel 5 _ (by rw[jL];omega) (dc hb (by omega)) (h.s _ hm) (by rw[J];omega)) (ar ⟨gW (by omega),rfl,?_,?_⟩)
  .dsimp only;rw[nR (T:=yh) hi,cN,ER,ic (by omega) (by omega),e3];simp
  .dsimp only;rw[ic (by omega) (by omega)];omega
 rintro⟨⟨(c:Int),a⟩,x⟩ ⟨e1,e2,e3,I⟩;dsimp only at e1 e2 e3 I;subst e1;have e2:=e2.symm;subst e2;rw[cP] at e3;refine dx ?_;refine ax (P:=λr=>r.1=0->(p.2.map λt=>m_ 5 t.2.2.2).sum<=60) ?_ λ_ h=>ar h
 refine bH (λ_=>ar λh=>(by cases h)) λM=>?_
 have M:c<=60:=M;refine ch p.2.length (λi x=>x.1=(i:Int)/\x.2.1=p/\x.2.2.1.1=p.1/\x.2.2.1.2.1=p.2/\x.2.2.2.1.2.length=0/\x.2.2.2.2.1.length<=i*6990500/\x.2.2.2.2.2.length<=i*6990500) ?_ ?_ ⟨rfl,rfl,rfl,rfl,rfl,by simp,by simp⟩
 .rintro i ⟨a,x,⟨D,T,t⟩,A,sp,se⟩ hi ⟨e1,e2,e3,I,e5,e6,e7⟩;dsimp only at e1 e2 e3 I e5 e6 e7;subst e1;have e2:=e2.symm;subst e2;subst e3;subst I;refine dC ?_;refine cD (aT ?_);have hm:=bJ (T:=yh) (xs:=p.2) (j:=(i:Int)) (by omega) (by omega);have hb:=h.b _ hm;have hs:=h.s _ hm;revert hb hs;dsimp only;generalize (aJ (T:=yh) p.2 (i:Int))=th;intro hb hs;have hk:KS 5=69905:=rfl;have hle:th.2.2.2.length*KS 5<=100*KS 5:=cE _ hb;rw[hk] at hle;refine ax (VU fuel 5 (by rw[jL];omega) th.2.2.2 ((p.1,p.2,(i:Int)),A,sp,se) hb hs h (by dsimp only;omega) (by dsimp only;rw[hk];omega) (by dsimp only;rw[hk];omega)) λy Z=>?_
  obtain⟨e,P2,A2,sp2,se2⟩:=y;obtain⟨U,Y,q3,q4⟩:=Z;dsimp only at U Y q3 q4;subst U;rw[hk] at q3 q4;refine bd (by simp) (b8 (λhn=>ar λh=>(hn h).elim) λ_=>ar ?_);exact⟨gW (by omega),rfl,rfl,rfl,by dsimp only;omega,by dsimp only;omega,by dsimp only;omega⟩
 .rintro⟨a,x,P,w⟩ ⟨e1,e2,_⟩;dsimp only at e1 e2;subst e1;have e2:=e2.symm;subst e2;exact dx (ar λ_=>by omega)
theorem cZ {R:Type} {o o':Option R} {Q:R->Prop} (h:o=o') (hk:Ok o' Q):Ok o Q:=h▸hk
def D0:List DT:=[(1,0,[120],0,0,[]),(1,0,[121],0,1,[]),(2,0,[118],0,0,[]),(1,0,[113],2,0,[]),(3,0,[109],0,0,[]),(3,0,[110],0,0,[]),(4,0,[114],0,0,[]),(5,0,[99],0,0,[109]),(6,0,[102],0,0,[])]
def L0:List (List UInt8):=[[97],[98]]
set_option maxHeartbeats 20000000 in
theorem ajj:∃ r,fd (D0,[([109,97,105,110],0,L0,[nE (1,0,[120],[],[],dT (1,1,[],[]),[],[])])])=af r/\r.1=0:=by
 suffices h:Ok (fd (D0,[([109,97,105,110],0,L0,[nE (1,0,[120],[],[],dT (1,1,[],[]),[],[])])])) λr=>r.1=0 by
  obtain⟨y,h1,h2⟩:=h;exact⟨y,h1,h2⟩
 unfold fd aV bg bp bL cO bx iI bE bK aX cK aE cB;with_reducible repeat' first|exact ar rfl|refine Vq ?_|refine Vp ?_|refine Vo ?_|refine Vm ?_|refine Pr ?_|refine abs ?_|refine aT ?_|refine fx rfl ?_|refine fD rfl ?_|refine bd rfl ?_|refine Vn ?_|refine Ps ?_|refine cZ (pq.eq_1 ..) ?_|refine cZ (jV.eq_1 ..) ?_|refine cZ (e_.eq_1 ..) ?_|refine cZ (jz.eq_1 ..) ?_|refine cZ (ki.eq_1 ..) ?_|refine cZ (k9.eq_1 ..) ?_|refine cZ (o_.eq_1 ..) ?_|refine cZ (qX.eq_1 ..) ?_|refine cZ (nC.eq_1 ..) ?_|refine cZ (jr.eq_1 ..) ?_|refine cZ (jX.eq_1 ..) ?_|refine cZ (lQ.eq_1 ..) ?_|refine cZ (iW.eq_1 ..) ?_|refine cZ (ma.eq_1 ..) ?_|refine cZ (o9.eq_1 ..) ?_|refine cZ (qW.eq_1 ..) ?_|refine cZ (gZ.eq_1 ..) ?_|refine cZ (nB.eq_1 ..) ?_|refine cZ (gH.eq_1 ..) ?_|refine cZ (iS.eq_1 ..) ?_|refine cZ (Bj.eq_1 ..) ?_|refine cZ (t_.eq_1 ..) ?_|refine cZ (vj.eq_1 ..) ?_|refine cZ (mc.eq_1 ..) ?_|refine cZ (l9.eq_1 ..) ?_|refine cZ (dM.eq_1 ..) ?_|refine cZ (gu.eq_1 ..) ?_|refine cZ (po.eq_1 ..) ?_|refine cZ (l_.eq_1 ..) ?_|refine cZ (Bi.eq_1 ..) ?_|refine cZ (t8.eq_1 ..) ?_|refine cZ (Bh.eq_1 ..) ?_|refine cZ (t7.eq_1 ..) ?_|refine cZ (iR.eq_1 ..) ?_|refine cZ (cX.eq_1 ..) ?_|refine cZ (ck.eq_1 ..) ?_|refine cZ (congrFun (gE dz jL) _) ?_|refine cZ (x_ _ _) ?_|refine cZ (congrFun (gE ef jL) _) ?_|refine cZ (yN _ _) ?_|refine cZ (congrFun (gE g_ jL) _) ?_|refine cZ (rX _ _) ?_|refine cZ (congrFun (gE mV jL) _) ?_|refine cZ (xI _ _) ?_|refine cZ (congrFun (gE iw jL) _) ?_|refine cZ (Bu _ _) ?_|refine cZ (congrFun (gE mU jL) _) ?_|refine cZ (xH _ _) ?_|refine cZ (congrFun (gE mT jL) _) ?_|refine cZ (xG _ _) ?_
 all_goals trace_state
structure TM (nT:Nat) (t:HT):Prop where
 l:t.2.2.1=L0
 b:t.2.2.2.length<=8
 s:∀ s∈t.2.2.2,GS nT 3 s
structure PJ (p:PG):Prop where
 d:p.1=D0
 t0:1<=p.2.length
 t:p.2.length<=4
 m:∀ t∈p.2,TM p.2.length t
 n:p.2.map Prod.fst=vF.take p.2.length
theorem PJ.x {p:PG} (h:PJ p):PX p:=⟨by rw[h.d];decide,by have:=h.t;omega,λt ht=>by rw[(h.m t ht).l];decide,λt ht=>by have:=(h.m t ht).b;omega,λt ht s hs=>((h.m t ht).s s hs).le (by omega:3<=5) |>.t⟩
theorem QP:rT ()=af D0:=rfl
theorem aa7:∀ m:Nat,m<5->∀ j:Nat,j<m->aJ (T:=.str) vF (j:Int)∈vF.take m:=by decide
theorem O7 {nT:Nat} (op:Int) {n:List UInt8} (J:op=12\/op=13) (hn:n∈vF.take nT):GS nT 3 (nE (op,0,n,[],[],dT (0,0,[],[]),[],[])):=GS.wo (by omega) (by simp) (λx I=>(by cases I)) (by rcases J with rfl|rfl<;>(constructor<;>simp[Sx.op,Sx.name,Sx.index,Sx.arg,Sx.els,Sx.body]<;>exact hn))
theorem Ga (x:List Int) (hl:x.length<=9223372036854775807) (hx:∀ z∈x,0<=z/\z<=255):Ok (oz x) λp=>PJ p/\∃ r,fd p=af r/\r.1=0:=by
 unfold oz aV bg bp cw dN jd uy bL eP mg nh MM be bx iI bE kA cK aE cB dW;refine aU QP ?_;refine ax (gf 3 (x,0) ⟨hl,hx,by dsimp only;omega,by dsimp only;omega⟩) λy J=>?_
 obtain⟨n,t0⟩:=y;obtain⟨s0,n0,n1,_⟩:=J;have n1:=n1 (by decide);dsimp only at s0 n0 n1;have ew:bl .i64 (2+n)=2+n:=ic (by omega) (by omega);obtain⟨nT,hnT⟩:∃ m:Nat,2+n=(m:Int):=⟨(2+n).toNat,by omega⟩
 refine ch nT (λi x=>x.1=(i:Int)/\x.2.2.1=D0/\x.2.2.2.1=vF/\TP x.2.2.2.2.1/\x.2.2.2.2.2.1.2=[]/\x.2.2.2.2.2.2.map Prod.fst=vF.take i/\∀ t∈x.2.2.2.2.2.2,TM nT t) ?_ ?_ ⟨rfl,rfl,rfl,s0.p,rfl,rfl,λt ht=>(by cases ht)⟩
 .rintro i ⟨a,m,D,N,t,h,th⟩ hi ⟨e1,e2,e3,e4,e5,e6,e7⟩;dsimp only at e1 e2 e3 e4 e5 e6 e7;subst e1;subst e2;refine bH (λg=>?_) λg=>(by dsimp only at g;rw[ew] at g;omega)
  have l4:N.length=4:=by rw[e3];rfl
  refine cD (cD (aT ?_));have hthl:th.length=i:=by have:=gE al e6;rw[bY,bD] at this;have q4:vF.length=4:=rfl;omega
  refine aY (λx=>x.2.2.2.1.1=aJ (T:=.str) N (i:Int)/\x.2.1=D0/\x.2.2.1=vF/\TP x.2.2.2.2.1/\x.2.2.2.2.2.1.2=[]/\x.2.2.2.2.2.2.1=th/\x.2.2.2.2.2.2.2.1=L0/\x.2.2.2.2.2.2.2.2.length<=3/\∀ s∈x.2.2.2.2.2.2.2.2,GS nT 3 s) ?_ ?_
  .refine aK (λ_=>?_) λ_=>ar ⟨rfl,rfl,e3,e4,e5,rfl,rfl,by simp,λs hs=>(by cases hs)⟩
   refine ch (1+n).toNat (λk x=>x.2.2.2.2.1.1=aJ (T:=.str) N (i:Int)/\x.1=1+(k:Int)/\x.2.2.1=D0/\x.2.2.2.1=vF/\TP x.2.2.2.2.2.1/\x.2.2.2.2.2.2.1.2=[]/\x.2.2.2.2.2.2.2.1=th/\x.2.2.2.2.2.2.2.2.1=L0/\x.2.2.2.2.2.2.2.2.2.length<=k/\∀ s∈x.2.2.2.2.2.2.2.2.2,GS nT 3 s) ?_ ?_ ⟨rfl,rfl,rfl,e3,e4,e5,rfl,rfl,by simp,λs hs=>(by cases hs)⟩
   .rintro k ⟨c,m1,D1,N1,z1,t1,h1,th1,l1,b1⟩ hk ⟨fz,f1,f2,I,Z,f5,Y,U,f8,M⟩;dsimp only at fz f1 f2 I Z f5 Y U f8 M;subst f1;refine bH (λ_=>?_) λg=>(by dsimp only at g;rw[ew] at g;omega)
    have l41:N1.length=4:=by rw[I];rfl
    refine cD (cD (aT ?_));refine bk (by simp;omega) (by omega) (ar ?_);dsimp only;rw[ic (n:=1+(k:Int)+1) (by omega) (by omega)];refine ⟨fz,by omega,f2,I,Z,f5,Y,U,by simp;omega,λs hs=>?_⟩;rcases bW.1 hs with hs|hs
    .exact M s hs
    .rw[aL] at hs;rw[hs];refine O7 12 (.inl rfl) ?_;rw[I,show 1+(k:Int)=((1+k:Nat):Int) by omega];exact aa7 nT (by omega) (1+k) (by omega)
   .rintro⟨c,m1,D1,N1,z1,t1,h1,th1,l1,b1⟩ ⟨fz,f1,f2,I,Z,f5,Y,U,f8,M⟩;dsimp only at fz f1 f2 I Z f5 Y U f8 M;subst f1;refine bH (λg=>(by dsimp only at g;rw[ew] at g;omega)) λ_=>ar ?_
    exact⟨fz,f2,I,Z,f5,Y,U,by dsimp only;omega,M⟩
  rintro⟨m1,D1,N1,z1,t1,h1,th1,l1,b1⟩ ⟨fz,f2,I,Z,f5,Y,U,f8,M⟩;dsimp only at fz f2 I Z f5 Y U f8 M;subst f2;subst Y;subst U;refine ax (gf 3 t1 Z) λy J=>?_
  obtain⟨k2,t2⟩:=y;obtain⟨u1,u2,u3,_⟩:=J;have u3:=u3 (by decide);dsimp only at u1 u2 u3;dsimp only;rw[ic (n:=1+k2) (by omega) (by omega)];refine ax (WP (nT:=nT) 2 (by omega) (1+k2) m1 t2 h1 (by omega) u1.p (by rw[f5];simp)) λy J=>?_
  obtain⟨m3,t3,h3,l3⟩:=y;obtain⟨w1,w2,w3,w4⟩:=J;dsimp only at w1 w2 w3 w4;refine bd (by simp) (bk (by simp;omega) (by omega) ?_);have hbody:∀ s∈b1++l3,GS nT 3 s:=λs hs=>by
   rcases bW.1 hs with hs|hs
   .exact M s hs
   .exact w2 s hs
  have hlen:(b1++l3).length<=6:=by rw[bu];omega
  refine aY (λx=>x.2.2.2.1.1=aJ (T:=.str) N (i:Int)/\x.2.1=D0/\x.2.2.1=vF/\TP x.2.2.2.2.1/\x.2.2.2.2.2.1.2=[]/\x.2.2.2.2.2.2.1=th1/\x.2.2.2.2.2.2.2.1=L0/\x.2.2.2.2.2.2.2.2.length<=8/\∀ s∈x.2.2.2.2.2.2.2.2,GS nT 3 s) ?_ ?_
  .refine aY (λx=>x.2.2.2.2.1.1=aJ (T:=.str) N (i:Int)/\x.2.2.1=D0/\x.2.2.2.1=vF/\TP x.2.2.2.2.2.1/\x.2.2.2.2.2.2.1.2=[]/\x.2.2.2.2.2.2.2.1=th1/\x.2.2.2.2.2.2.2.2.1=L0/\x.2.2.2.2.2.2.2.2.2=b1++l3) ?_ ?_
   .refine aK (λ_=>?_) λ_=>ar ⟨fz,rfl,I,w3.p,w4.trans f5,rfl,rfl,rfl⟩
    exact ax (gf 3 t3 w3.p) λy J=>ar ⟨fz,rfl,I,J.1.p,w4.trans f5,rfl,rfl,rfl⟩
   rintro⟨b,m4,D4,N4,z4,t4,h4,th4,l4,b4⟩ ⟨pz,p2,p3,p4,p5,p6,p7,p8⟩;dsimp only at pz p2 p3 p4 p5 p6 p7 p8;subst p2;subst p6;subst p7;subst p8;have l44:N4.length=4:=by rw[p3];rfl
   refine aP (λ_=>?_) λ_=>ar ⟨pz,rfl,p3,p4,p5,rfl,rfl,by dsimp only;omega,hbody⟩
   refine cD (cD (aT ?_));refine bk (by simp at hlen ⊢;omega) (by omega) (ar ⟨pz,rfl,p3,p4,p5,rfl,rfl,by dsimp only;rw[bu,gm];omega,λs hs=>?_⟩);rcases bW.1 hs with hs|hs
   .exact hbody s hs
   .rw[aL] at hs;rw[hs];refine O7 13 (.inr rfl) ?_;rw[p3];exact aa7 nT (by omega) 1 (by omega)
  rintro⟨m4,D4,N4,z4,t4,h4,th4,l4,b4⟩ ⟨pz,p2,p3,p4,p5,p6,p7,p8,p9⟩;dsimp only at pz p2 p3 p4 p5 p6 p7 p8 p9;subst p2;subst p6;subst p7;refine bk (by simp;omega) (by omega) (ar ?_);dsimp only;refine ⟨gW (by omega),rfl,p3,p4,p5,by rw[nR (T:=.str) (xs:=vF) (i:=i) (by have q4:vF.length=4:=rfl;omega),cN,e6,<-e3];show _++[z4.1]=_;rw[pz],λt ht=>?_⟩;rcases bW.1 ht with ht|ht
  .exact e7 t ht
  .rw[aL] at ht;rw[ht];exact⟨rfl,p8,p9⟩
 .rintro⟨a,m,D,N,t,h,th⟩ ⟨e1,e2,e3,e4,e5,e6,e7⟩;dsimp only at e1 e2 e3 e4 e5 e6 e7;subst e1;subst e2;refine bH (λg=>(by dsimp only at g;rw[ew] at g;omega)) λ_=>?_
  have hthl:th.length=nT:=by have:=gE al e6;rw[bY,bD] at this;have q4:vF.length=4:=rfl;omega
  have hpm:PJ (D0,th):=⟨rfl,by dsimp only;omega,by dsimp only;omega,by dsimp only;rw[hthl];exact e7,by dsimp only;rw[hthl];exact e6⟩
  refine ax (P:=λp=>PJ p/\∃ r,fd p=af r/\r.1=0) ?_ λr hr=>ar hr
  obtain⟨y,J,_⟩:=Dm (D0,th) hpm.x;refine aU J (b8 (λ_=>?_) λh=>ar ⟨hpm,y,J,h⟩);refine aU QP (aU (Nb _) (aU (tu _ _) (ar ?_)));refine ⟨⟨rfl,by simp,by simp,λt ht=>?_,rfl⟩,ajj⟩;simp only[aL] at ht;rw[ht];refine ⟨rfl,by simp,λs hs=>?_⟩;simp only[aL] at hs;rw[hs,fc,yl];exact GS.asg (by decide) (GE.num _ 3)
abbrev iA (l:List IT) (k:Nat):IT:=aJ (T:=AS) l (k:Int)
def JT (l:List IT) (ρ:Nat->Nat) (a e k:Nat):Prop:=(iA l k).1=5->∃ k':Nat,(iA l k).2.1=(k':Int)/\(k'=e\/a<=k'/\k'<e/\ρ k'<ρ k)
def qz (l:List IT) (a e:Nat):Prop:=a<=e/\∃ ρ:Nat->Nat,∀ k,a<=k->k<e->1<=ρ k/\ρ k<=e-a/\JT l ρ a e k/\((iA l k).1<5->k+1=e\/ρ (k+1)<ρ k)
theorem qz.nil (l:List IT) (a:Nat):qz l a a:=⟨bV _,λ_=>0,λk h1 h2=>by omega⟩
theorem qz.one {l:List IT} {a:Nat} (h:¬(iA l a).1=5):qz l a (a+1):=⟨by omega,λ_=>1,λk h1 h2=>⟨bV 1,by show 1<=a+1-a;omega,λI=>by rw[show k=a by omega] at I;exact (h I).elim,λ_=>.inl (by omega)⟩⟩
theorem qz.congr {l I:List IT} {a e:Nat} (h:qz l a e) (hc:∀ k,a<=k->k<e->iA I k=iA l k):qz I a e:=by
 obtain⟨h1,ρ,h2⟩:=h;exact⟨h1,ρ,λk M J=>by unfold JT;rw[hc k M J];exact h2 k M J⟩
theorem qz.app {l:List IT} {a b c:Nat} (h:qz l a b) (k:qz l b c):qz l a c:=by
 obtain⟨h1,ρ,h2⟩:=h;obtain⟨k1,σ,k2⟩:=k;refine ⟨by omega,λk=>if k<b then ρ k+(c-b) else σ k,λk Y U=>?_⟩;by_cases hk:k<b
 .obtain⟨J,M,q3,q4⟩:=h2 k Y hk;simp only[aF hk];refine ⟨by omega,by omega,?_,λI=>?_⟩
  .intro I;simp only[aF hk];obtain⟨k',e,r⟩:=q3 I;refine ⟨k',e,?_⟩;rcases r with r|⟨r1,r2,r3⟩
   .subst r;by_cases hc:k'=c
    .exact .inl hc
    .have:=(k2 k' (bV _) (by omega)).2.1;rw[aC (BN _)];exact .inr ⟨by omega,by omega,by omega⟩
   .rw[aF r2];exact .inr ⟨r1,by omega,by omega⟩
  .rcases q4 I with r|r
   .by_cases hc:k+1=c
    .exact .inl hc
    .have:=(k2 (k+1) (by omega) (by omega)).2.1;rw[aC (by omega)];exact .inr (by omega)
   .by_cases hb:k+1<b
    .rw[aF hb];exact .inr (by omega)
    .rw[aC hb];by_cases hc:k+1=c
     .exact .inl hc
     .have:=(k2 (k+1) (by omega) (by omega)).2.1;exact .inr (by omega)
 .obtain⟨J,M,q3,q4⟩:=k2 k (by omega) U;simp only[aC hk];refine ⟨J,by omega,?_,λI=>?_⟩
  .intro I;simp only[aC hk];obtain⟨k',e,r⟩:=q3 I;refine ⟨k',e,r.imp id λ⟨r1,r2,r3⟩=>⟨by omega,r2,?_⟩⟩;rw[aC (by omega)];exact r3
  .rw[aC (by omega)];exact q4 I
theorem qz.ite {l:List IT} {a j e:Nat} (h:qz l a j) (hj:(iA l j).1=5) (U:(iA l j).2.1=(e:Int)) (k:qz l (j+1) e):qz l a e:=by
 obtain⟨h1,ρ,h2⟩:=h;obtain⟨k1,σ,k2⟩:=k;refine ⟨by omega,λk=>if k<j then ρ k+(e-j) else if k=j then e-j else σ k,λk Z Y=>?_⟩;by_cases hk:k<j
 .obtain⟨J,M,q3,q4⟩:=h2 k Z hk;simp only[aF hk];refine ⟨by omega,by omega,?_,λI=>?_⟩
  .intro I;simp only[aF hk];obtain⟨k',e',r⟩:=q3 I;refine ⟨k',e',.inr ?_⟩;rcases r with r|⟨r1,r2,r3⟩
   .rw[r,aC (BN _),aF rfl];exact⟨by omega,by omega,by omega⟩
   .rw[aF r2];exact⟨r1,by omega,by omega⟩
  .refine .inr ?_;by_cases hb:k+1<j
   .rw[aF hb];rcases q4 I with r|r<;>omega
   .rw[aC hb,aF (by omega)];omega
 .by_cases hkj:k=j
  .subst hkj;simp only[aC hk,aF];exact⟨by omega,by omega,λ_=>⟨e,U,.inl rfl⟩,λI=>by rw[hj] at I;omega⟩
  .obtain⟨J,M,q3,q4⟩:=k2 k (by omega) Y;simp only[aC hk,aC hkj];refine ⟨J,by omega,?_,λI=>?_⟩
   .intro I;simp only[aC hk,aC hkj];obtain⟨k',e',r⟩:=q3 I;refine ⟨k',e',r.imp id λ⟨r1,r2,r3⟩=>⟨by omega,r2,?_⟩⟩;rw[aC (by omega),aC (by omega)];exact r3
   .rw[aC (by omega),aC (by omega)];exact q4 I
theorem qz.whl {l:List IT} {a c j:Nat} (h:qz l a c) (hc:(iA l c).1=10) (k:qz l (c+1) j) (hj:(iA l j).1=5) (Y:(iA l j).2.1=(a:Int)):qz l a (j+1):=by
 obtain⟨h1,ρ,h2⟩:=h;obtain⟨k1,σ,k2⟩:=k;refine ⟨by omega,λk=>if k<c then ρ k+1 else if k=c then 1 else if k<j then σ k+(c-a)+2 else c-a+2,λk Z g2=>?_⟩;by_cases hk:k<c
 .obtain⟨U,M,q3,q4⟩:=h2 k Z hk;simp only[aF hk];refine ⟨by omega,by omega,?_,λI=>?_⟩
  .intro I;simp only[aF hk];obtain⟨k',e',r⟩:=q3 I;refine ⟨k',e',.inr ?_⟩;rcases r with r|⟨r1,r2,r3⟩
   .rw[r,aC (BN _),aF rfl];exact⟨by omega,by omega,by omega⟩
   .rw[aF r2];exact⟨r1,by omega,by omega⟩
  .refine .inr ?_;by_cases hb:k+1<c
   .rw[aF hb];rcases q4 I with r|r<;>omega
   .rw[aC hb,aF (by omega)];omega
 .by_cases hkc:k=c
  .subst hkc;simp only[aC hk,aF];exact⟨by omega,by omega,λI=>by rw[hc] at I;omega,λI=>by rw[hc] at I;omega⟩
  .simp only[aC hk,aC hkc];by_cases hkj:k<j
   .obtain⟨U,M,q3,q4⟩:=k2 k (by omega) hkj;simp only[aF hkj];refine ⟨by omega,by omega,?_,λI=>?_⟩
    .intro I;simp only[aC hk,aC hkc,aF hkj];obtain⟨k',e',r⟩:=q3 I;refine ⟨k',e',.inr ?_⟩;rcases r with r|⟨r1,r2,r3⟩
     .rw[r,aC (by omega),aC (by omega),aC (BN _)];exact⟨by omega,by omega,by omega⟩
     .rw[aC (by omega),aC (by omega),aF r2];exact⟨by omega,by omega,by omega⟩
    .refine .inr ?_;rw[aC (by omega),aC (by omega)];by_cases hb:k+1<j
     .rw[aF hb];rcases q4 I with r|r<;>omega
     .rw[aC hb];omega
   .have hkj:k=j:=by omega
    subst hkj;simp only[aC (BN _)];refine ⟨by omega,by omega,λ_=>⟨a,Y,.inr ⟨bV _,by omega,?_⟩⟩,λI=>by rw[hj] at I;omega⟩;simp only[aC hk,aC hkc,aC (BN _)];by_cases J:a<c
    .rw[aF J];have:=(h2 a (bV _) J).2.1;omega
    .rw[aC J,aF (by omega)];omega
def OB (nT:Nat) (i:IT):Prop:=
 if i.1=6 then 0<=i.2.2.1/\i.2.2.1<=2 else if i.1=8 then 0<=i.2.1/\i.2.1<=2 else if i.1=7 then i.2.2.1=3/\i.2.2.2.2.1=2 else if i.1=9 then i.2.1=3/\i.2.2.2.2.1=2 else if i.1=11\/i.1=12 then i.2.1=0\/i.2.1=1 else if 13<=i.1/\i.1<=16 then i.2.1=2 else if 21<=i.1/\i.1<=23 then i.2.1=0 else if i.1=24\/i.1=25 then 0<=i.2.1/\i.2.1<(nT:Int) else if i.1=26 then i.2.1=0 else if i.1=27 then i.2.2.1=0 else if i.1=4 then 6<=i.2.2.2.2.1/\i.2.2.2.2.1<=18 else ¬i.1=3
structure GO (nT:Nat) (i:IT):Prop where
 o1:1<=i.1
 o2:i.1<=27
 r:∀ j:Int,j∈iJ i->0<=j/\j<32
 b:OB nT i
def SO (ss:List (Int×Int×Int)) (t s:Int):Prop:=0<=s/\s<ss.length/\(aJ (T:=xy) ss s).1=t
structure GI (nT:Nat) (ss:List (Int×Int×Int)) (t:Int) (i:IT):Prop where
 o:GO nT i
 s:SO ss t i.2.2.2.2.2
theorem Ta (l:List IT) (hl:l.length<=1000000) (h1:1<=l.length) (hb:qz l 0 (l.length-1)) (he:(iA l (l.length-1)).1=28) (k:Nat) (hk:k<l.length):o8 (l,(k:Int))=af ai:=by
 obtain⟨_,ρ,hρ⟩:=hb;refine cJ ?_;unfold o8 be bx jN bK aX cK aE cB;refine pM (λx=>((l.length:Int)+1-x.2).toNat) (λx=>0<=x.2/\∃ q:Nat,x.1=(q:Int)/\q<l.length/\((if q<l.length-1 then ρ q else 0:Nat):Int)+x.2<=(l.length:Int)) ?_ ⟨by dsimp only;omega,k,rfl,hk,?_⟩
 .rintro⟨a,(n:Int)⟩ ⟨n0,q,e,hq,hr⟩;dsimp only at n0 e hr;subst e;refine fw (λ_=>?_) λg=>(by dsimp only[au] at g;omega)
  refine gJ ?_;refine gJ (bH (λg=>by dsimp only at g;omega) λ_=>ar ?_);refine fD (by rw[lP];dsimp only[au];omega) ?_;refine cD (aT ?_);refine aU (EJ _) ?_;refine d_ (λ_=>ar rfl) λhs=>?_
  have hs:1<=(iA l q).1/\(iA l q).1<=5:=bt hs;have J:q<l.length-1:=u_ λh=>by rw[show q=l.length-1 by omega] at hs;rw[he] at hs;omega
  obtain⟨r1,r2,r3,Z⟩:=hρ q (kU _) J;rw[aF J] at hr;refine cD (aT ?_);have fin:∀ I:Nat,I=l.length-1\/I<l.length-1/\ρ I<ρ q->0<=n+1/\∃ M:Nat,(I:Int)=(M:Int)/\M<l.length/\((if M<l.length-1 then ρ M else 0:Nat):Int)+(n+1)<=(l.length:Int):=λI h=>⟨by omega,I,rfl,by omega,by
   rcases h with h|⟨h,h'⟩
   .rw[aC (by omega)];omega
   .rw[aF h];omega⟩
  refine aK (λU=>?_) λU=>ar (ar ?_)
  .obtain⟨I,e,Y⟩:=r3 U;refine aR (ep _) (by dsimp only;omega) (aT (ar (ar ?_)));dsimp only;rw[ic (n:=n+1) (by omega) (by omega)];have:=fin I (Y.imp id λh=>⟨h.2.1,h.2.2⟩);rw[<- e] at this;exact⟨this,by omega⟩
  .dsimp only;have U:¬(iA l q).1=5:=U;rw[ic (n:=n+1) (by omega) (by omega),gW (by omega)];refine ⟨fin (q+1) ?_,by omega⟩;rcases Z (by omega) with h|h
   .exact .inl h
   .by_cases hb:q+1=l.length-1
    .exact .inl hb
    .exact .inr ⟨by omega,h⟩
 .dsimp only;split
  .rename_i h;have:=(hρ k (kU _) h).2.1;omega
  .omega
theorem JZ (w:WT) (I:w.1=C0):mQ (w,3,2)=af ai:=by
 refine cJ ?_;have h0:(0:Int)<=3:=by decide
 have h1:(3:Int)<(w.1.length:Int):=by rw[I];decide
 have J:aJ (T:=OZ) w.1 3=([113],0,2,aj,0):=by rw[I];rfl
 unfold mQ be iI bK aX aE;refine gJ (aU (rG _ _) (aK (λ_=>?_) λh=>(h ⟨h0,h1⟩).elim));dsimp only;rw[J];refine aR h0 h1 (aT (aK (λ_=>?_) λh=>(h rfl).elim));refine aR h0 h1 (aT (b8 (λ_=>?_) λh=>cU h (by decide)));exact aR h0 h1 (aT (ar (ar rfl)))
theorem M' {nT:Nat} (w:WT) (i:IT) (hw:WX w) (hT:w.2.2.2.2.1.length=nT) (hb:OB nT i):lm (w,i)=af ai:=by
 obtain⟨hc,hl,hd,hf,_,_,_⟩:=hw;refine cJ ?_;unfold lm aV bg bp cw dN be jN bK aX aE;unfold OB at hb;simp only[rG,Vt];refine aK (λh=>?_) λn6=>?_
 .rw[aF h] at hb;have J:(aJ (T:=OZ) w.1 i.2.2.1).2.2.1=(0:Int):=by
   rw[hc];rcases (by omega:i.2.2.1=0\/i.2.2.1=1\/i.2.2.1=2) with h|h|h<;>rw[h]<;>rfl
  have hi:0<=i.2.2.1/\i.2.2.1<(w.1.length:Int):=⟨hb.1,by rw[hc];have:=hb.2;show i.2.2.1<5;omega⟩
  exact gJ (aK (λ_=>aR hi.1 hi.2 (aT (ar (ar (aQ J))))) λh=>(h hi).elim)
 rw[aC n6] at hb;refine aK (λh=>?_) λZ=>?_
 .rw[aF h] at hb;have J:(aJ (T:=OZ) w.1 i.2.1).2.2.1=(0:Int):=by
   rw[hc];rcases (by omega:i.2.1=0\/i.2.1=1\/i.2.1=2) with h|h|h<;>rw[h]<;>rfl
  have hi:0<=i.2.1/\i.2.1<(w.1.length:Int):=⟨hb.1,by rw[hc];have:=hb.2;show i.2.1<5;omega⟩
  exact gJ (aK (λ_=>aR hi.1 hi.2 (aT (ar (ar (aQ J))))) λh=>(h hi).elim)
 rw[aC Z] at hb;refine aK (λh=>?_) λn7=>?_
 .rw[aF h] at hb;rw[hb.1,hb.2];exact aU (JZ w hc) (ar rfl)
 rw[aC n7] at hb;refine aK (λh=>?_) λY=>?_
 .rw[aF h] at hb;rw[hb.1,hb.2];exact aU (JZ w hc) (ar rfl)
 rw[aC Y] at hb;refine aY (λx=>x.2=(w,i)/\(x.1=ai↔i.1=11\/i.1=12)) (aK (λh=>ar ⟨rfl,λ_=>.inl h,λ_=>aQ h⟩) λh=>ar ⟨rfl,λh2=>.inr (bt h2),λh2=>aQ (h2.resolve_left h)⟩) ?_;rintro⟨b,x⟩ ⟨e,M⟩;dsimp only at e M;subst e;refine aP (λh=>?_) λh=>?_
 .rw[aF (M.1 h)] at hb;have J:(aJ (T:=Su) w.2.1 i.2.1).2=aj:=by
   rw[hl];rcases hb with h|h<;>rw[h]<;>rfl
  have hi:0<=i.2.1/\i.2.1<(w.2.1.length:Int):=⟨by omega,by rw[hl];show i.2.1<3;omega⟩
  exact gJ (aK (λ_=>aR hi.1 hi.2 (aT (ar (ar (by dsimp only;rw[J];rfl))))) λh=>(h hi).elim)
 rw[aC λh2=>by rw[M.2 h2] at h;cases h] at hb;have hj:∀ {p:Prop} {b:Bool},(b=ai->p)->(p->b=ai)->b=aj->¬p:=λ_ h2 U I=>by rw[h2 I] at U;cases U
 refine aY (λx=>x.2=(w,i)/\(x.1=ai->13<=i.1/\i.1<=16)/\(13<=i.1/\i.1<=16->x.1=ai)) (aK (λh=>ar ⟨rfl,λ_=>by first|omega|(dsimp only at h;omega),λ_=>aQ h⟩) λ_=>aK (λh=>ar ⟨rfl,λ_=>by first|omega|(dsimp only at h;omega),λ_=>aQ h⟩) λ_=>aK (λh=>ar ⟨rfl,λ_=>by first|omega|(dsimp only at h;omega),λ_=>aQ h⟩) λ_=>ar ⟨rfl,λh=>by have:=bt h;first|omega|(dsimp only at this;omega),λh=>aQ (by first|omega|(dsimp only at *;omega))⟩) ?_;rintro⟨b,x⟩ ⟨e,h1,h2⟩;dsimp only at e h1 h2;subst e;refine aP (λh=>?_) λh=>?_
 .rw[aF (h1 h)] at hb;have hi:0<=i.2.1/\i.2.1<(w.2.1.length:Int):=⟨by omega,by rw[hl];show i.2.1<3;omega⟩
  exact gJ (aK (λ_=>aR hi.1 hi.2 (aT (ar (ar (by dsimp only;rw[hb,hl];rfl))))) λh=>(h hi).elim)
 rw[aC (hj h1 h2 h)] at hb;refine aY (λx=>x.2=(w,i)/\(x.1=ai->21<=i.1/\i.1<=23)/\(21<=i.1/\i.1<=23->x.1=ai)) (aK (λh=>ar ⟨rfl,λ_=>by first|omega|(dsimp only at h;omega),λ_=>aQ h⟩) λ_=>aK (λh=>ar ⟨rfl,λ_=>by first|omega|(dsimp only at h;omega),λ_=>aQ h⟩) λ_=>ar ⟨rfl,λh=>by have:=bt h;first|omega|(dsimp only at this;omega),λh=>aQ (by first|omega|(dsimp only at *;omega))⟩) ?_;rintro⟨b,x⟩ ⟨e,h1,h2⟩;dsimp only at e h1 h2;subst e;refine aP (λh=>?_) λh=>?_
 .rw[aF (h1 h)] at hb;exact ar (aQ ⟨by dsimp only;omega,by dsimp only;rw[hd];show i.2.1<1;omega⟩)
 rw[aC (hj h1 h2 h)] at hb;refine aY (λx=>x.2=(w,i)/\(x.1=ai->i.1=24\/i.1=25)/\(i.1=24\/i.1=25->x.1=ai)) (aK (λh=>ar ⟨rfl,λ_=>.inl h,λ_=>aQ h⟩) λh=>ar ⟨rfl,λh2=>.inr (bt h2),λh2=>aQ (h2.resolve_left h)⟩) ?_;rintro⟨b,x⟩ ⟨e,h1,h2⟩;dsimp only at e h1 h2;subst e;refine aP (λh=>?_) λh=>?_
 .rw[aF (h1 h)] at hb;exact ar (aQ ⟨hb.1,by dsimp only;rw[hT];exact hb.2⟩)
 rw[aC (hj h1 h2 h)] at hb;refine aK (λh=>?_) λn=>?_
 .rw[aF h] at hb;exact ar (aQ ⟨by dsimp only;omega,by dsimp only;rw[hf];show i.2.1<1;omega⟩)
 rw[aC n] at hb;refine aK (λh=>?_) λn=>?_
 .rw[aF h] at hb;exact ar (aQ ⟨by dsimp only;omega,by dsimp only;rw[hf];show i.2.2.1<1;omega⟩)
 rw[aC n] at hb;by_cases I:i.1=4
 .rw[aF I] at hb;refine aK (λh=>by have h:i.1=3:=h;omega) λ_=>aK (λ_=>?_) λh=>(h I).elim
  refine gJ (fw (λ_=>ar (ar (Nn.2 hb.2))) λh=>by dsimp only at h;omega)
 .rw[aC I] at hb;exact aK (λh=>(hb h).elim) λ_=>aK (λh=>(I h).elim) λ_=>ar rfl
structure GC (nT:Nat) (ss:List (Int×Int×Int)) (k:Int) (c:Int×List IT):Prop where
 r0:1<=c.1
 r1:c.1<=32
 n:1<=c.2.length
 u:c.2.length<=1000000
 e:(iA c.2 (c.2.length-1)).1=28/\(iA c.2 (c.2.length-1)).2.2.2.2.2= -1
 b:qz c.2 0 (c.2.length-1)
 i:∀ q:Nat,q<c.2.length-1->GI nT ss k (iA c.2 q)
 r:∀ q:Nat,q<c.2.length-1->(iA c.2 q).1=10->0<=(iA c.2 q).2.2.1/\(iA c.2 q).2.2.1<(c.2.length:Int)
 g:∀ q:Nat,q<c.2.length-1->∀ j:Int,j∈iJ (iA c.2 q)->j<c.1
theorem Dw {nT:Nat} {w:WT} {k:Int} {c:Int×List IT} (hw:WX w) (hT:w.2.2.2.2.1.length=nT) (hc:GC nT w.2.2.2.2.2 k c):ii (w,k,c)=af ai:=by
 obtain⟨r0,r1,n1,hu,he,hb,hi,hr,hg⟩:=hc;refine cJ ?_;unfold ii aV bg bp cw bL cO nh be bx iI bK aX cK aE cB;refine aY (λx=>x.2=(w,c)/\x.1=aj) ?_ ?_
 .refine bH (λh=>by have h:c.1<0:=h;omega) λ_=>bH (λh=>by have h:32<c.1:=h;omega) λ_=>ar ⟨rfl,bF λh=>by have h:aO c.2.length=0:=h;dsimp only[au] at h;omega⟩
 rintro⟨b,x⟩ ⟨e,Y⟩;dsimp only at e Y;subst e;subst Y;refine fE ?_;refine ch c.2.length (λi x=>x.1=(i:Int)/\x.2=(w,c)) ?_ ?_ ⟨rfl,rfl⟩
 .rintro i ⟨a,x⟩ hi2 ⟨e1,e2⟩;dsimp only at e1 e2;subst e1;subst e2;have hla:=Ta c.2 hu n1 hb he.1 i hi2;have Z:∀ z:IT,z=iA c.2 i->(i<c.2.length-1->GI nT w.2.2.2.2.2 k z/\(z.1=10->0<=z.2.2.1/\z.2.2.1<(c.2.length:Int))/\(z.1=5->0<=z.2.1/\z.2.1<(c.2.length:Int))/\∀ j:Int,j∈iJ z->j<c.1)/\(i=c.2.length-1->z.1=28/\z.2.2.2.2.2= -1):=λz Z=>by
   subst Z;refine ⟨λh=>⟨hi i h,hr i h,λh5=>?_,hg i h⟩,λh=>by rw[h];exact he⟩;obtain⟨_,ρ,hρ⟩:=hb;obtain⟨q',e,hq'⟩:=(hρ i (kU _) h).2.2.1 h5;rw[e];omega
  refine dC ?_;refine cD (aT ?_);generalize hzz:(aJ (T:=AS) c.2 (i:Int))=z;obtain⟨I,J⟩:=Z z hzz.symm;have hcs:i<c.2.length-1\/i=c.2.length-1:=by omega
  have o1:1<=z.1:=by
   rcases hcs with h|h
   .exact (I h).1.o.o1
   .rw[(J h).1];decide
  have o2:z.1<=28:=by
   rcases hcs with h|h
   .exact Int.le_trans (I h).1.o.o2 (by decide)
   .rw[(J h).1];decide
  have M:z.1=28->i=c.2.length-1:=λh=>hcs.resolve_left λg=>by have:=(I g).1.o.o2;rw[h] at this;exact cU this (by decide)
  have hob:OB nT z:=by
   rcases hcs with h|h
   .exact (I h).1.o.b
   .unfold OB;rw[(J h).1];simp
  have hrg:∀ j:Int,j∈iJ z->0<=j/\j<c.1:=λj hj=>by
   rcases hcs with h|h
   .exact⟨((I h).1.o.r j hj).1,(I h).2.2.2 j hj⟩
   .unfold iJ at hj;rw[(J h).1] at hj;simp at hj
  have hwr:bl .i64 (aO c.2.length-1)=((c.2.length-1:Nat):Int):=by rw[ic (by dsimp only[au];omega) (by dsimp only[au];omega)];dsimp only[au];omega
  have hcd:((decide (z.1=28)==decide ((i:Int)=bl .i64 (aO c.2.length-1))) !=ai)=aj:=by
   rw[hwr];rcases hcs with h|h
   .rw[bF λh2=>by have:=M h2;omega,bF (by omega:¬(i:Int)=((c.2.length-1:Nat):Int))];rfl
   .rw[aQ (J h).1,aQ (by omega:(i:Int)=((c.2.length-1:Nat):Int))];rfl
  refine aY (λx=>x=(aj,w,c,z)) ?_ ?_
  .refine bH (λh=>cU h (BJ.2 o1)) λ_=>bH (λh=>cU h (BJ.2 o2)) λ_=>fD hcd ?_
   refine aU (M' w z hw hT hob) (fD rfl (aU hla (ar rfl)))
  rintro x rfl;refine fE (aY (λx=>x=(aj,w,c,z)) ?_ ?_)
  .simp only[rG,Vt];refine aK (λh=>?_) λh=>?_
   .have h5:=(J (M h)).2;exact b8 (λg=>(g h5).elim) λ_=>b8 (λg=>(g h).elim) λ_=>ar rfl
   .have hsi:=(I (hcs.resolve_right λg=>h (J g).1)).1.s;refine b8 (λ_=>b8 (λg=>(g ⟨hsi.1,hsi.2.1⟩).elim) λg=>aR g.1 g.2 (aT (ar ?_))) λg=>(h g).elim
    rw[aQ hsi.2.2];rfl
  rintro x rfl;refine fE (aY (λx=>x=(aj,w,c,z)) ?_ ?_)
  .simp only[rG,Vt];have U:z.1=5\/z.1=10->i<c.2.length-1:=λh=>hcs.resolve_right λg=>by rw[(J g).1] at h;exact cU h (by decide)
   refine aK (λh=>?_) λh=>?_
   .have h2:=(I (U (.inl h))).2.2.1 h;refine b8 (λg=>(g h2).elim) λ_=>aK (λg=>?_) λ_=>ar rfl
    rw[h] at g;exact cU g (by decide)
   .refine aK (λg=>ar ?_) λ_=>ar rfl
    have h2:=(I (U (.inr g))).2.1 g;rw[aQ (show 0<=z.2.2.1/\z.2.2.1<aO c.2.length from h2)];rfl
  rintro x rfl;refine fE (aU (s5 z) ?_);have hrl:=B4 z;refine ch (iJ z).length (λj x=>x=((j:Int),w,c)) ?_ ?_ rfl
  .rintro j x hj rfl;refine dC ?_;refine cD (aT ?_);refine aU (rG _ _) (b8 (λg=>(g (hrg _ (bJ (T:=.int .i64) (xs:=iJ z) (j:=(j:Int)) (by omega) (by omega)))).elim) λ_=>ar ?_);dsimp only;rw[gW (by omega)]
  .rintro x rfl;exact dx (ar ⟨gW (by omega),rfl⟩)
 .rintro⟨a,x⟩ ⟨e1,e2⟩;dsimp only at e1 e2;subst e1;subst e2;exact dx (ar rfl)
abbrev GN:Type:=List (List UInt8×Int×Int×Bool×Int)×List (List UInt8×Bool)×List (List UInt8×Int)×List (List UInt8)×List (List UInt8)×List (Int×Int×Int)×List (List UInt8)×Int×Int
theorem LY (l:List (List UInt8×Bool)) (s:List UInt8) (hl:l.length<=1000):Ok (j7 (l,s)) λr=> -1<=r/\r<l.length/\(0<=r->(aJ (T:=Su) l r).1=s)/\(r<0->∀ c∈l,c.1≠s):=by
 unfold j7 bx bK aX cK aE cB;refine ch l.length (λi x=>x=(i:Int)/\∀ k:Nat,k<i->(aJ (T:=Su) l (k:Int)).1≠s) ?_ ?_ ⟨rfl,λk hk=>by omega⟩
 .rintro i x hi ⟨rfl,I⟩;refine dC ?_;refine cD (aT ?_);refine aK (λh=>ar ⟨by omega,by omega,λ_=>h,λh=>by omega⟩) λh=>ar ⟨gW (by omega),λk hk=>?_⟩
  rcases b7 k i with h1|h1
  .exact I k h1
  .rw[show k=i by omega];exact h
 .rintro x ⟨rfl,I⟩;exact dx (ar ⟨by omega,by omega,λh=>by omega,λ_=>il (T:=Su) (p:=λc=>c.1≠s) I⟩)
theorem aep {r:Int} {s:List UInt8} (h: -1<=r/\r<F5.length/\(0<=r->(aJ (T:=Su) F5 r).1=s)/\(r<0->∀ c∈F5,c.1≠s)):(s=[109]->r=0)/\(s=[110]->r=1)/\(s=[114]->r=2):=by
 obtain⟨h0,h1,h2,I⟩:=h;have h1:r<3:=h1;rcases (by omega:r= -1\/r=0\/r=1\/r=2) with rfl|rfl|rfl|rfl
 .have I:=I (by decide);exact⟨λh=>(I ([109],aj) (by decide) h.symm).elim,λh=>(I ([110],aj) (by decide) h.symm).elim,λh=>(I ([114],ai) (by decide) h.symm).elim⟩
 .have h2:[109]=s:=h2 (by decide);subst h2;exact⟨λ_=>rfl,λh=>(by cases h),λh=>(by cases h)⟩
 .have h2:[110]=s:=h2 (by decide);subst h2;exact⟨λh=>(by cases h),λ_=>rfl,λh=>(by cases h)⟩
 .have h2:[114]=s:=h2 (by decide);subst h2;exact⟨λh=>(by cases h),λh=>(by cases h),λ_=>rfl⟩
theorem zQ (w:WT) (s:List UInt8) (J:w.1=C0):Ok (kZ (w,s)) λr=>(s∈NV->s∉L0->0<=r/\r<=2)/\(s=[113]->r=3):=by
 have hl:w.1.length=5:=by rw[J];rfl
 unfold kZ bx bK aX cK aE cB;refine ch w.1.length (λi x=>x.1=(i:Int)/\x.2=w/\∀ k:Nat,k<i->(aJ (T:=OZ) w.1 (k:Int)).1≠s) ?_ ?_ ⟨rfl,rfl,λk hk=>by omega⟩
 .rintro i ⟨a,x⟩ hi ⟨e1,e2,e3⟩;dsimp only at e1 e2 e3;subst e1;have e2:=e2.symm;subst e2;refine dC ?_;refine cD (aT ?_);refine aK (λh=>ar ?_) λg=>ar ?_
  .rw[J] at h e3;rw[hl] at hi;rcases (by omega:i=0\/i=1\/i=2\/i=3\/i=4) with rfl|rfl|rfl|rfl|rfl
   .have h:[120]=s:=h;subst h;exact⟨λ_ _=>⟨by dsimp only;omega,by dsimp only;omega⟩,λh=>(by cases h)⟩
   .have h:[121]=s:=h;subst h;exact⟨λ_ _=>⟨by dsimp only;omega,by dsimp only;omega⟩,λh=>(by cases h)⟩
   .have h:[118]=s:=h;subst h;exact⟨λ_ _=>⟨by dsimp only;omega,by dsimp only;omega⟩,λh=>(by cases h)⟩
   .have h:[113]=s:=h;subst h;exact⟨λh=>cU h (by decide),λ_=>rfl⟩
   .have h:[113]=s:=h;exact (e3 3 (by omega) h).elim
  .refine ⟨gW (by omega),rfl,λk hk=>?_⟩;rcases b7 k i with h1|h1
   .exact e3 k h1
   .rw[show k=i by omega];exact g
 .rintro⟨a,x⟩ ⟨e1,e2,e3⟩;dsimp only at e1 e2 e3;subst e1;have e2:=e2.symm;subst e2;refine dx (ar ?_);have hn:=il (T:=OZ) (p:=λc=>c.1≠s) e3;rw[J] at hn;have a1:=hn ([120],0,0,aj,0) (by decide);have a2:=hn ([121],0,0,aj,1) (by decide);have a3:=hn ([118],0,0,ai,0) (by decide);have M:=hn ([113],0,2,aj,0) (by decide);refine ⟨λh I=>?_,λh=>(M h.symm).elim⟩;simp only[bi,cr,fY,L0] at h I;rcases h with rfl|rfl|rfl|rfl|rfl
  .exact (I (.inl rfl)).elim
  .exact (I (.inr rfl)).elim
  .exact (a1 rfl).elim
  .exact (a2 rfl).elim
  .exact (a3 rfl).elim
theorem HG (i:IT) (g:GN) (out:List IT) (h:out.length<=100000000):Ok (cz (i,g,out)) λy=>y.1=g/\y.2=out++[(i.1,i.2.1,i.2.2.1,i.2.2.2.1,i.2.2.2.2.1,g.2.2.2.2.2.2.2.1)]:=by
 unfold cz aV bg bp jd bE;exact bk (by simp;omega) (by omega) (ar ⟨rfl,rfl⟩)
def VE:Nat->Nat
 |0=>0
 |d+1=>1+2*VE d
theorem Ig {l m:List IT} {k:Nat} (h:k<l.length):iA (l++m) k=iA l k:=by
 unfold iA;rw[yK,yK,ay,ay,bG h]
theorem wY (l:List IT) (x:IT):iA (l++[x]) l.length=x:=by
 unfold iA;rw[yK,ay,bT (bV _)];simp
structure QC (nT:Nat) (ss:List (Int×Int×Int)) (t:Int) (n:Nat) (out o:List IT):Prop where
 l:out.length<=o.length
 u:o.length<=out.length+n
 p:∀ k:Nat,k<out.length->iA o k=iA out k
 b:qz o out.length o.length
 i:∀ k:Nat,out.length<=k->k<o.length->GI nT ss t (iA o k)
 r:∀ k:Nat,out.length<=k->k<o.length->(iA o k).1=10->0<=(iA o k).2.2.1/\(iA o k).2.2.1<=(o.length:Int)
variable {nT:Nat} {ss:List (Int×Int×Int)} {t:Int}
theorem QC.nil (n:Nat) (out:List IT):QC nT ss t n out out:=⟨bV _,by omega,λ_ _=>rfl,qz.nil _ _,λk h1 h2=>by omega,λk h1 h2=>by omega⟩
theorem QC.trans {a b c:Nat} {x y z:List IT} (h:QC nT ss t a x y) (k:QC nT ss t b y z) (hc:a+b<=c):QC nT ss t c x z:=by
 obtain⟨h1,h2,h3,h4,h5,h6⟩:=h;obtain⟨k1,k2,I,k4,Z,Y⟩:=k;refine ⟨by omega,by omega,λq hq=>(I q (by omega)).trans (h3 q hq),(h4.congr λq _ hq=>I q hq).app k4,λq U M=>?_,λq U M J=>?_⟩
 .by_cases hq:q<y.length
  .rw[I q hq];exact h5 q U hq
  .exact Z q (by omega) M
 .by_cases hq:q<y.length
  .rw[I q hq] at J ⊢;have:=h6 q U hq J;omega
  .exact Y q (by omega) M J
theorem QC.one {out:List IT} {i:IT} (h:GI nT ss t i) (I:¬i.1=5/\¬i.1=10):QC nT ss t 1 out (out++[i]):=by
 have hl:(out++[i]).length=out.length+1:=by rw[bu];rfl
 refine ⟨by omega,by omega,λk hk=>Ig hk,?_,λk h1 h2=>?_,λk h1 h2 J=>?_⟩
 .rw[hl];exact qz.one (by rw[wY];exact I.1)
 .rw[show k=out.length by omega,wY];exact h
 .rw[show k=out.length by omega,wY] at J;exact (I.2 J).elim
structure GK (ss:List (Int×Int×Int)) (t:Int) (g:GN):Prop where
 c:g.1=C0
 l:g.2.2.2.2.2.2.1=L0
 s:SO ss t g.2.2.2.2.2.2.2.1
theorem Xg {nT:Nat} {op A B C N Z:Int} (h1:1<=op) (h2:op<=27) (hr:∀ j:Int,j∈iJ (op,A,B,C,N,Z)->0<=j/\j<32) (hb:OB nT (op,A,B,C,N,Z)):GO nT (op,A,B,C,N,Z):=⟨h1,h2,hr,hb⟩
theorem DC {op:Int} {r:Int×Int×Int×Int×Int} {g:GN} {out:List IT} (h:out.length<=100000000) (hg:GK ss t g) (hi:GO nT (op,r)) (J:¬op=5/\¬op=10):Ok (cz ((op,r),g,out)) λy=>y.1=g/\QC nT ss t 1 out y.2:=(HG (op,r) g out h).mono λy I=>⟨I.1,by rw[I.2];exact QC.one ⟨⟨hi.o1,hi.o2,hi.r,hi.b⟩,hg.s⟩ J⟩
theorem L6:∀ (n d:Nat),d<n->∀ (e:Xp) (k:Int) (g:GN) (out:List IT),GE d e->GK ss t g->0<=k->k+d<=31->out.length+VE d<=100000000->Ok (iC n ((e,k),g,out)) λy=>y.1=g/\QC nT ss t (VE d) out y.2
 |0,_,h,_,_,_,_,_,_,_,_,_=>by omega
 |n+1,0,_,e,_,_,_,h,_,_,_,_=>h.elim
 |n+1,d+1,hn,e,k,g,out,h,hg,k0,k1,hb=>by
  obtain⟨h1,h2,h3,h4,h5,h6⟩:=h;obtain⟨gc,gl,gs⟩:=id hg;have hv:VE (d+1)=1+2*VE d:=rfl;rw[Ad];unfold qe aV bg bp cw dN be jN bE bK aE cB;refine aY (λy=>y.1=g/\QC nT ss t (VE (d+1)) out y.2) ?_ λx hx=>ar hx
  have fin:∀ {y:GN×List IT},(y.1=g/\QC nT ss t 1 out y.2)->y.1=g/\QC nT ss t (VE (d+1)) out y.2:=λh=>⟨h.1,(QC.nil 0 out).trans h.2 (by omega)⟩
  refine aK (λ_=>?_) λn1=>?_
  .refine ax (DC (nT:=nT) (by omega) hg (Xg (by decide) (by decide) (by simp[iJ];omega) ((by decide:¬(1:Int)=3))) (by decide)) λy I=>bd (by simp) (ar (fin I))
  refine aK (λZ=>?_) λZ=>?_
  .refine ax (xW _ _ (by dsimp only;rw[gl];decide)) λv hv=>fw (λg0=>?_) λg0=>?_
   .have J:=hv.2.1;dsimp only at J g0;rw[gl] at J;have J:v<2:=J;refine ax (DC (nT:=nT) (by omega) hg (Xg (by decide) (by decide) (by simp[iJ];omega) ((by decide:¬(2:Int)=3))) (by decide)) λy I=>bd (by simp) (ar (fin I))
   .have J:=hv.2.2.2 g0;dsimp only at J;rw[gl] at J;refine ax (zQ _ _ gc) λv Y=>?_
    have v2:=Y.1 (h5 Z) J;refine ax (DC (nT:=nT) (by omega) hg (Xg (by decide) (by decide) (by simp[iJ];omega) (v2)) (by decide)) λy I=>bd (by simp) (ar (fin I))
  have hl:=h2 n1 Z;have hrec:∀ (j:Nat),j<e.l.length->∀ (k':Int) (o:List IT),0<=k'->k'+d<=31->o.length+VE d<=100000000->Ok (iC n ((aJ (T:=.ex) e.l (j:Int),k'),g,o)) λy=>y.1=g/\QC nT ss t (VE d) o y.2:=λj hj k' o q0 U ho=>L6 n d (by omega) _ k' g o (h4 _ (bJ (T:=.ex) (xs:=e.l) (j:=(j:Int)) (by omega) (by omega))) hg q0 U ho
  refine aK (λn3=>?_) λn3=>?_
  .refine cD (aT ?_);refine ax (hrec 0 hl k out k0 (by omega) (by omega)) λy I=>?_
   obtain⟨g2,o2⟩:=y;obtain⟨U,M⟩:=I;dsimp only at U M;subst U;have q3:=M.u;refine bd (by simp) ?_;refine ax (zQ _ _ gc) λv Y=>?_
   have v3:=Y.2 (h1 n3);have v3:v=3:=v3;subst v3;refine aR (by decide) (by dsimp only;rw[gc];decide) (aT ?_);refine ax (DC (nT:=nT) (by omega) hg (Xg (by decide) (by decide) (by simp[iJ];omega) (⟨rfl,by dsimp only;rw[gc];rfl⟩)) (by decide)) λy I=>bd (by simp) (ar ⟨I.1,M.trans I.2 (by omega)⟩)
  obtain⟨h7,h8,h9⟩:=h6 n1 Z n3;refine aK (λn4=>?_) λn4=>?_
  .dsimp only[au] at n4;omega
  .have hl2:1<e.l.length:=by omega
   refine cD (aT ?_);refine ax (hrec 0 hl k out k0 (by omega) (by omega)) λy I=>?_
   obtain⟨g2,o2⟩:=y;obtain⟨U,M⟩:=I;dsimp only at U M;subst U;have q3:=M.u;refine bd (by simp) ?_;refine cD (aT ?_);dsimp only;rw[ic (n:=k+1) (by omega) (by omega)];refine ax (hrec 1 hl2 _ o2 (by omega) (by omega) (by omega)) λy I=>?_
   obtain⟨g3,o3⟩:=y;obtain⟨r1,r2⟩:=I;dsimp only at r1 r2;subst r1;have r3:=r2.u;refine bd (by simp) ?_;refine ax (DC (nT:=nT) (by omega) hg (Xg (by decide) (by decide) (by simp[iJ];omega) (⟨h8,h9⟩)) (by decide)) λy I=>bd (by simp) (ar ⟨I.1,(M.trans r2 (bV _)).trans I.2 (by omega)⟩)
theorem Sr (e:Xp) (k:Int) (g:GN) (out:List IT) (he:GE 4 e) (hg:GK ss t g) (I:0<=k) (k1:k<=27) (h:out.length<=99999900):Ok (iB ((e,k),g,out)) λy=>y.1=g/\QC nT ss t 15 out y.2:=L6 fuel 4 (by rw[jL];omega) e k g out he hg I (by omega) (by have:VE 4=15:=rfl;omega)
structure GB (nT:Nat) (g:GN):Prop where
 c:g.1=C0
 l:g.2.1=F5
 d:g.2.2.1=LB
 f:g.2.2.2.1=R7
 t:g.2.2.2.2.1=vF.take nT
 h:g.2.2.2.2.2.2.1=L0
structure GQ (g y:GN):Prop where
 a:y.1=g.1
 b:y.2.1=g.2.1
 c:y.2.2.1=g.2.2.1
 d:y.2.2.2.1=g.2.2.2.1
 e:y.2.2.2.2.1=g.2.2.2.2.1
 h:y.2.2.2.2.2.2.1=g.2.2.2.2.2.2.1
theorem GQ.refl (g:GN):GQ g g:=⟨rfl,rfl,rfl,rfl,rfl,rfl⟩
theorem GQ.trans {a b c:GN} (h:GQ a b) (k:GQ b c):GQ a c:=⟨k.a.trans h.a,k.b.trans h.b,k.c.trans h.c,k.d.trans h.d,k.e.trans h.e,k.h.trans h.h⟩
variable {nT:Nat} {ss:List (Int×Int×Int)} {t:Int}
theorem GB.of {g y:GN} (h:GB nT g) (q:GQ g y):GB nT y:=⟨q.a.trans h.c,q.b.trans h.l,q.c.trans h.d,q.d.trans h.f,q.e.trans h.t,q.h.trans h.h⟩
theorem GQ.site (g:GN) (x:List (Int×Int×Int)) (a b:Int):GQ g (g.1,g.2.1,g.2.2.1,g.2.2.2.1,g.2.2.2.2.1,x,g.2.2.2.2.2.2.1,a,b):=⟨rfl,rfl,rfl,rfl,rfl,rfl⟩
abbrev gS (g:GN):Int:=g.2.2.2.2.2.2.2.1
abbrev gN (g:GN):Int:=g.2.2.2.2.2.2.2.2
structure QG (nT:Nat) (ss:List (Int×Int×Int)) (t:Int) (n m:Nat) (g:GN) (out:List IT) (y:GN×List IT):Prop where
 q:GQ g y.1
 c:QC nT ss t n out y.2
 x:gN y.1=gN g+(m:Int)
theorem wR {op:Int} {r:Int×Int×Int×Int×Int} {g:GN} {out:List IT} (h:out.length<=100000000) (hg:GB nT g) (hs:SO ss t (gS g)) (hi:GO nT (op,r)) (I:¬op=5/\¬op=10):Ok (cz ((op,r),g,out)) λy=>y.1=g/\QC nT ss t 1 out y.2:=DC h ⟨hg.c,hg.h,hs⟩ hi I
theorem BR (e:Xp) (k:Int) (g:GN) (out:List IT) (he:GE 4 e) (hg:GB nT g) (hs:SO ss t (gS g)) (I:0<=k) (k1:k<=27) (h:out.length<=99999000):Ok (iB ((e,k),g,out)) λy=>y.1=g/\QC nT ss t 15 out y.2:=Sr e k g out he ⟨hg.c,hg.h,hs⟩ I k1 (by omega)
theorem GB.len {g:GN} (h:GB nT g):aO (al g.2.2.2.2.2.2.1)=2:=by rw[h.h];rfl
theorem UM (s:Sx) (g:GN) (out:List IT) (h1:s.index≠[]->s.name=[113]) (h2:∀ e∈s.index,GE 4 e) (h3:GE 4 s.expr) (h4:s.index=[]->s.name∈NV) (hg:GB nT g) (hs:SO ss t (gS g)) (h:out.length<=99990000):Ok (lJ (s,g,out)) λy=>y.1=g/\QC nT ss t 40 out y.2:=by
 have hex:GE 4 (dT (Xp.op s.expr,Xp.n s.expr,Xp.name s.expr,Xp.l s.expr)):=by rw[fc];exact h3
 have e3:bl .i64 ((2:Int)+1)=3:=ic (by decide) (by decide);unfold lJ aV bg bp cw dN bx jN bE bK aX;refine bH (λJ=>?_) λJ=>?_
 .dsimp only[au] at J;refine cD (aT ?_);refine ax (BR _ _ g out (h2 _ (bJ (T:=.ex) (xs:=s.index) (j:=0) (by omega) (by omega))) hg hs (by rw[hg.len];decide) (by rw[hg.len];decide) (by omega)) λy I=>?_
  obtain⟨g2,o2⟩:=y;obtain⟨Y,U⟩:=I;dsimp only at Y U;subst Y;have q3:=U.u;refine bd (by simp) ?_;dsimp only;rw[hg.len,e3];refine ax (BR _ _ g2 o2 hex hg hs (by decide) (by decide) (by omega)) λy I=>?_
  obtain⟨g3,o3⟩:=y;obtain⟨r1,r2⟩:=I;dsimp only at r1 r2;subst r1;have r3:=r2.u;refine bd (by simp) ?_;refine ax (zQ _ _ hg.c) λv hv=>?_
  have Z:=hv.2 (h1 (λh=>by rw[h] at J;simp at J));have Z:v=3:=Z;subst Z;refine aR (by decide) (by dsimp only;rw[hg.c];decide) (aT ?_);refine ax (wR (by omega) hg hs (Xg (by decide) (by decide) (by simp[iJ,hg.h,L0]) (⟨rfl,by dsimp only;rw[hg.c];rfl⟩)) (by decide)) λy I=>bd (by simp) (ar ⟨I.1,(U.trans r2 (bV _)).trans I.2 (by omega)⟩)
 .have hi0:s.index=[]:=gD.1 (by dsimp only[au] at J;omega);refine ax (BR _ _ g out hex hg hs (by rw[hg.len];decide) (by rw[hg.len];decide) (by omega)) λy I=>?_
  obtain⟨g2,o2⟩:=y;obtain⟨Y,U⟩:=I;dsimp only at Y U;subst Y;have q3:=U.u;refine bd (by simp) ?_;refine ax (xW _ _ (by dsimp only;rw[hg.h];decide)) λv hv=>fw (λJ=>?_) λJ=>?_
  .have M:=hv.2.1;dsimp only at M J;rw[hg.h] at M;have M:v<2:=M;refine ax (wR (by omega) hg hs (Xg (by decide) (by decide) (by simp[iJ,hg.h,L0];omega) ((by decide:¬(2:Int)=3))) (by decide)) λy I=>bd (by simp) (ar ⟨I.1,U.trans I.2 (by omega)⟩)
  .have M:=hv.2.2.2 J;dsimp only at M;rw[hg.h] at M;refine ax (zQ _ _ hg.c) λv hv2=>?_
   have v2:=hv2.1 (h4 hi0) M;refine ax (wR (by omega) hg hs (Xg (by decide) (by decide) (by simp[iJ,hg.h,L0]) (v2)) (by decide)) λy I=>bd (by simp) (ar ⟨I.1,U.trans I.2 (by omega)⟩)
theorem ZS (s:List UInt8) (g:GN) (out:List IT) (hg:GB nT g):Ok (jk (s,g,out)) λy=>y.2=(g,out)/\(s=[99]->y.1=0):=by
 have hd:g.2.2.1.length=1:=by rw[hg.d];rfl
 unfold jk aV bx bK aX cK aE cB;refine ch 1 (λi x=>x.1=(i:Int)/\x.2=(g,out)/\(s=[99]->i=0)) ?_ ?_ ⟨rfl,rfl,λ_=>rfl⟩
 .rintro i ⟨a,x⟩ hi ⟨e1,e2,e3⟩;dsimp only at e1 e2 e3;subst e1;subst e2;refine dC ?_;refine cD (aT ?_);refine aK (λ_=>ar ⟨rfl,λ_=>by dsimp only;omega⟩) λh=>ar ⟨gW (by omega),rfl,λh2=>?_⟩
  refine (h ?_).elim;dsimp only;rw[hg.d,show i=0 by omega,h2];rfl
 .rintro⟨a,x⟩ ⟨e1,e2,e3⟩;dsimp only at e1 e2 e3;subst e1;subst e2;exact dx (ar ⟨rfl,λh=>by have:=e3 h;omega⟩)
def ME:Nat->Nat
 |0=>0
 |d+1=>50+16*ME d
def SR (ss:List (Int×Int×Int)) (t a:Int) (m:Nat):Prop:=0<=a/\a+m<=1000/\∀ i:Int,a<=i->i<a+m->SO ss t i
def SpG (nT:Nat) (ss:List (Int×Int×Int)) (t:Int) (I:Sx×GN×List IT->Option (GN×List IT)) (d:Nat):Prop:=∀ (s:Sx) (g:GN) (out:List IT),GS nT d s->GB nT g->SR ss t (gN g) (OP d s)->out.length+ME d<=90000000->Ok (I (s,g,out)) (QG nT ss t (ME d) (OP d s) g out)
def aab (nT:Nat) (ss:List (Int×Int×Int)) (t:Int) (rs:List Sx×GN×List IT->Option (GN×List IT)) (d:Nat):Prop:=∀ (l:List Sx) (g:GN) (out:List IT),l.length<=100->(∀ s∈l,GS nT d s)->GB nT g->SR ss t (gN g) (m_ d l)->out.length+l.length*ME d<=90000000->Ok (rs (l,g,out)) (QG nT ss t (l.length*ME d) (m_ d l) g out)
abbrev FS6:Type:=List Sx×GN×List IT->Option (GN×List IT)
abbrev FT6:Type:=Sx×GN×List IT->Option (GN×List IT)
abbrev FA6:Type:=(Sx×Int×Int×Int)×GN×List IT->Option (GN×List IT)
variable {nT:Nat} {ss:List (Int×Int×Int)} {t:Int}
def ah1 (nT:Nat) (ss:List (Int×Int×Int)) (t:Int) (I:FT6) (d:Nat):Prop:=∀ (s:Sx) (g:GN) (out:List IT),s.op=2\/s.op=3->GE 4 s.expr->s.body.length<=8->s.els.length<=8->(∀ x∈s.body,GS nT d x)->(∀ x∈s.els,GS nT d x)->(¬s.op=2->s.els=[])->GB nT g->SO ss t (gS g)->SR ss t (gN g) (m_ d s.body+m_ d s.els)->out.length+ME (d+1)<=90000000->Ok (I (s,g,out)) (QG nT ss t (17+16*ME d) (m_ d s.body+m_ d s.els) g out)
def ah2 (nT:Nat) (ss:List (Int×Int×Int)) (t:Int) (ra:FA6) (d:Nat):Prop:=∀ (s:Sx) (a b c:Int) (g:GN) (out:List IT),s.body.length<=8->(∀ x∈s.body,GS nT d x)->GO nT (a,c,0,0,0,0)->GO nT (b,c,0,0,0,0)->¬a=5/\¬a=10->¬b=5/\¬b=10->GB nT g->SO ss t (gS g)->SR ss t (gN g) (m_ d s.body)->out.length+ME (d+1)<=90000000->Ok (ra ((s,a,b,c),g,out)) (QG nT ss t (17+16*ME d) (m_ d s.body) g out)
theorem SR.sub {a b:Int} {m n:Nat} (h:SR ss t a m) (h1:a<=b) (h2:b+n<=a+m):SR ss t b n:=⟨by have:=h.1;omega,by have:=h.2.1;omega,λi J I=>h.2.2 i (by omega) (by omega)⟩
theorem TW (rs:FS6) (U:FT6) (Z:FT6) (ra:FA6) (d:Nat) (ht:SpG nT ss t U d):aab nT ss t (qf rs U Z ra) d:=by
 intro l g out hl hs hg hso hb;unfold qf bx bE bK aX cK aE cB;refine ch l.length (λi x=>x.1=(i:Int)/\QG nT ss t (i*ME d) (m_ d (l.take i)) g out x.2) ?_ ?_ ⟨rfl,GQ.refl g,QC.nil _ _,by simp[m_]⟩
 .rintro i ⟨a,Y,o2⟩ hi ⟨e1,J,I,q3⟩;dsimp only at e1 J I q3;subst e1;have hK:(i+1)*ME d<=l.length*ME d:=cE _ (by omega);have hKs:=iM i (ME d);rw[Nat.succ_eq_add_one] at hKs;have hp:=Of (d:=d) l (i+1);rw[ww hi] at hp;have q4:=I.u;refine dC ?_;refine cD (aT ?_);refine ax (ht _ Y o2 (hs _ (bJ (T:=.sm) (xs:=l) (j:=(i:Int)) (by omega) (by omega))) (hg.of J) (hso.sub (by rw[q3];omega) (by rw[q3];dsimp only;omega)) (by omega)) λy M=>bd (by simp) (ar ?_)
  rw[ww hi];exact⟨gW (by omega),J.trans M.q,I.trans M.c (by omega),by rw[M.x,q3];dsimp only;omega⟩
 .rintro⟨a,Y,o2⟩ ⟨e1,q⟩;dsimp only at e1;subst e1;rw[cP] at q;exact dx (ar q)
theorem Qi (rs:FS6) (rt:FT6) (rb:FT6) (ra:FA6) (d:Nat) (hS:aab nT ss t rs d):ah2 nT ss t (oM rs rt rb ra) d:=by
 intro s a b c g out h1 h2 ga gb na nb hg hs hso hb;have hm:ME (d+1)=50+16*ME d:=rfl;have kb:s.body.length*ME d<=8*ME d:=cE _ h1;unfold oM aV bg bp cw dN jd bL nh bE;refine ax (wR (by omega) hg hs ga na) λy I=>?_
 obtain⟨Z,o2⟩:=y;obtain⟨Y,J⟩:=I;dsimp only at Y J;subst Y;have q3:=J.u;refine bd (by simp) ?_;refine ax (hS s.body Z o2 (by omega) h2 hg hso (by omega)) λy I=>?_
 obtain⟨M,o3⟩:=y;obtain⟨r1,r2,r3⟩:=I;dsimp only at r1 r2 r3;have r4:=r2.u;refine bd (by simp) ?_;have U:=r1.trans (GQ.site M M.2.2.2.2.2.1 Z.2.2.2.2.2.2.2.1 M.2.2.2.2.2.2.2.2);refine ax (wR (by dsimp only;omega) (hg.of U) hs gb nb) λy I=>bd (by simp) (ar ⟨?_,?_,?_⟩)
 .rw[I.1];exact U
 .exact (J.trans r2 (bV _)).trans I.2 (by omega)
 .rw[I.1];exact r3
theorem yG {l:List IT} {j k:Nat} {x:IT} (h:j<l.length):iA (cq l (j:Int) x) k=if k=j then x else iA l k:=IC (T:=AS) l j k x h
abbrev ptB (l:List IT) (j:Nat) (b:Int):List IT:=cq l (j:Int) ((iA l j).1,(iA l j).2.1,b,(iA l j).2.2.2.1,(iA l j).2.2.2.2.1,(iA l j).2.2.2.2.2)
abbrev ptA (l:List IT) (j:Nat) (a:Int):List IT:=cq l (j:Int) ((iA l j).1,a,(iA l j).2.2.1,(iA l j).2.2.2.1,(iA l j).2.2.2.2.1,(iA l j).2.2.2.2.2)
theorem GI.pb {i:IT} {b:Int} (h:GI nT ss t i) (h1:i.1=10):GI nT ss t (i.1,i.2.1,b,i.2.2.2.1,i.2.2.2.2.1,i.2.2.2.2.2):=by
 obtain⟨Z,Y,U,M,J,I⟩:=i;dsimp only at h1;subst h1;exact⟨⟨h.o.o1,h.o.o2,h.o.r,(by decide:¬(10:Int)=3)⟩,h.s⟩
theorem QC.cbr {n m:Nat} {out o1 o2 I:List IT} {br:IT} (h1:QC nT ss t n out o1) (h2:o2=o1++[br]) (hb:GI nT ss t br) (U:br.1=10) (M:QC nT ss t m o2 I) (F:List IT) (hl:I.length<=F.length) (Y:∀ k:Nat,k<I.length->¬k=o1.length->iA F k=iA I k) (hFb:∃ b:Int,(0<=b/\b<=(F.length:Int))/\iA F o1.length=(br.1,br.2.1,b,br.2.2.2.1,br.2.2.2.2.1,br.2.2.2.2.2)):(∀ k:Nat,k<out.length->iA F k=iA out k)/\qz F out.length o1.length/\(iA F o1.length).1=10/\qz F (o1.length+1) I.length/\(∀ k:Nat,out.length<=k->k<I.length->GI nT ss t (iA F k))/\∀ k:Nat,out.length<=k->k<I.length->(iA F k).1=10->0<=(iA F k).2.2.1/\(iA F k).2.2.1<=(F.length:Int):=by
 have l2:o2.length=o1.length+1:=by rw[h2,bu];rfl
 have l1:=h1.l;have l3:=M.l;have e1:∀ k:Nat,k<o1.length->iA F k=iA o1 k:=λk hk=>by rw[Y k (by omega) (by omega),M.p k (by omega),h2,Ig hk]
 obtain⟨b,hb0,eb⟩:=hFb;refine ⟨λk hk=>(e1 k (by omega)).trans (h1.p k hk),h1.b.congr λk _ hk=>e1 k hk,by rw[eb];exact U,?_,λk g1 J=>?_,λk g1 J Z=>?_⟩
 .have:=M.b;rw[l2] at this;exact this.congr λk g1 J=>Y k J (by omega)
 .rcases MN k o1.length with hk|hk|hk
  .rw[e1 k hk];exact h1.i k g1 hk
  .rw[hk,eb];exact hb.pb U
  .rw[Y k J (by omega)];exact M.i k (by omega) J
 .rcases MN k o1.length with hk|hk|hk
  .rw[e1 k hk] at Z ⊢;have:=h1.r k g1 hk Z;omega
  .rw[hk,eb];exact hb0
  .rw[Y k J (by omega)] at Z ⊢;have:=M.r k (by omega) J Z;omega
theorem K7 (rs:FS6) (rt:FT6) (rb:FT6) (ra:FA6) (d:Nat) (hS:aab nT ss t rs d):ah1 nT ss t (mj rs rt rb ra) d:=by
 intro s g out hop he h1 h2 h3 h4 hel hg hs hso hb;have hm:ME (d+1)=50+16*ME d:=rfl;have kb:s.body.length*ME d<=8*ME d:=cE _ h1;have ke:s.els.length*ME d<=8*ME d:=cE _ h2;have hex:GE 4 (dT (Xp.op s.expr,Xp.n s.expr,Xp.name s.expr,Xp.l s.expr)):=by rw[fc];exact he
 unfold mj aV bg bp cw dN jd nh ck be bE aX;refine ax (BR _ _ g out hex hg hs (by rw[hg.len];decide) (by rw[hg.len];decide) (by omega)) λy hy=>?_
 obtain⟨Y,o1⟩:=y;obtain⟨p1,p2⟩:=hy;dsimp only at p1 p2;subst p1;have p3:=p2.u;have p4:=p2.l;refine bd (by simp) ?_;refine ax (HG _ Y o1 (by omega)) λy hy=>?_
 obtain⟨J,o2⟩:=y;obtain⟨q1,q2⟩:=hy;dsimp only at q1 q2;subst q1;rw[hg.len] at q2;have hbr:GI nT ss t ((10,2,0,0,0,J.2.2.2.2.2.2.2.1):IT):=⟨Xg (by decide) (by decide) (by simp[iJ]) (by decide:¬(10:Int)=3),hs⟩
 have l2:o2.length=o1.length+1:=by rw[q2,bu];rfl
 refine bd (by simp) ?_;refine ax (hS s.body J o2 (by omega) h3 hg (hso.sub (eJ _) (by omega)) (by omega)) λy hy=>?_
 obtain⟨U,I⟩:=y;obtain⟨r1,r2,r3⟩:=hy;dsimp only at r1 r2 r3;have r4:=r2.u;have r5:=r2.l;have ebr:iA I o1.length=(10,2,0,0,0,J.2.2.2.2.2.2.2.1):=by rw[r2.p _ (by omega),q2,wY]
 refine bd (by simp) ?_;have qs:=r1.trans (GQ.site U U.2.2.2.2.2.1 J.2.2.2.2.2.2.2.1 U.2.2.2.2.2.2.2.2);refine aK (λh3w=>?_) λh3w=>?_
 .have hels:m_ d s.els=0:=by rw[hel (by have h3w:s.op=3:=h3w;omega)];rfl
  rw[hels,dg];refine ax (HG _ _ I (by omega)) λy hy=>?_
  obtain⟨g4,M⟩:=y;obtain⟨w1,w2⟩:=hy;dsimp only at w1 w2;have l4:M.length=I.length+1:=by rw[w2,bu];rfl
  refine bd (by simp) (aR (ep _) (by dsimp only[au];omega) (aR (ep _) (by dsimp only[au];omega) (ar ?_)));have hat:o1.length<M.length:=by omega
  have ej:iA M I.length=(5,(out.length:Int),0,0,0,J.2.2.2.2.2.2.2.1):=by rw[w2,wY];rfl
  have e43:∀ k:Nat,k<I.length->iA M k=iA I k:=λk hk=>by rw[w2,Ig hk]
  refine ⟨by dsimp only;rw[w1];exact qs,?_,by dsimp only;rw[w1];exact r3⟩;dsimp only;have eF:∀ {z:IT} {k:Nat},¬k=o1.length->iA (cq M ((o1.length:Nat):Int) z) k=iA M k:=λh=>by rw[yG hat,aC h]
  obtain⟨f1,f2,f3,f4,f5,f6⟩:=p2.cbr q2 hbr rfl r2 (ptB M o1.length (aO M.length)) (by rw[bR];omega) (λk hk hn=>(eF hn).trans (e43 k hk)) ⟨_,⟨ep _,by rw[bR];exact eJ _⟩,by rw[yG hat,aF rfl,e43 _ (by omega),ebr];rfl⟩;show QC nT ss t _ out (ptB M o1.length (aO M.length));have ejF:iA (ptB M o1.length (aO M.length)) I.length=(5,(out.length:Int),0,0,0,J.2.2.2.2.2.2.2.1):=(eF (by omega:¬I.length=o1.length)).trans ej;refine ⟨by rw[bR];omega,by rw[bR];omega,f1,?_,λk Y J=>?_,λk Y J U=>?_⟩
  .rw[(bR _ _ _).trans l4];exact f2.whl f3 f4 (by rw[ejF]) (by rw[ejF])
  .rw[bR,l4] at J;by_cases hk:k<I.length
   .exact f5 k Y hk
   .rw[show k=I.length by omega,ejF];exact⟨Xg (by decide) (by decide) (by simp[iJ]) (by decide:¬(5:Int)=3),hs⟩
  .have g2':=J;rw[bR,l4] at g2';by_cases hk:k<I.length
   .exact f6 k Y hk U
   .rw[show k=I.length by omega,ejF] at U;cases U
 refine aK (λhz=>?_) λ_=>?_
 .have hels:m_ d s.els=0:=by rw[gD.1 (by dsimp only[au] at hz;omega:s.els.length=0)];rfl
  rw[hels,dg];refine aR (ep _) (by dsimp only[au];omega) (aR (ep _) (by dsimp only[au];omega) (ar ⟨qs,?_,r3⟩));dsimp only;have hat:o1.length<I.length:=by omega
  obtain⟨f1,f2,f3,f4,f5,f6⟩:=p2.cbr q2 hbr rfl r2 (ptB I o1.length (aO I.length)) (by rw[bR];omega) (λk hk hn=>by rw[yG hat,aC hn]) ⟨_,⟨ep _,by rw[bR];exact eJ _⟩,by rw[yG hat,aF rfl,ebr];rfl⟩;show QC nT ss t _ out (ptB I o1.length (aO I.length));refine ⟨by rw[bR];omega,by rw[bR];omega,f1,?_,λk Y J=>?_,λk Y J U=>?_⟩
  .rw[bR];exact (f2.app (qz.one (by rw[f3];decide))).app f4
  .rw[bR] at J;exact f5 k Y J
  .exact f6 k Y (by rw[bR] at J;exact J) U
 .refine ax (HG _ _ I (by omega)) λy hy=>?_
  obtain⟨g4,M⟩:=y;obtain⟨w1,w2⟩:=hy;dsimp only at w1 w2;have l4:M.length=I.length+1:=by rw[w2,bu];rfl
  have qs4:GQ J g4:=by rw[w1];exact qs
  have x4:gN g4=gN J+(m_ d s.body:Nat):=by rw[w1];exact r3
  have hat:o1.length<M.length:=by omega
  have ej:iA M I.length=(5,0,0,0,0,J.2.2.2.2.2.2.2.1):=by rw[w2,wY]
  have e43:∀ k:Nat,k<I.length->iA M k=iA I k:=λk hk=>by rw[w2,Ig hk]
  refine bd (by simp) (aR (ep _) (by dsimp only[au];omega) (aR (ep _) (by dsimp only[au];omega) ?_));have eF:∀ {z:IT} {k:Nat},¬k=o1.length->iA (cq M ((o1.length:Nat):Int) z) k=iA M k:=λh=>by rw[yG hat,aC h]
  refine ax (hS s.els g4 (ptB M o1.length (aO M.length)) (by omega) h4 (hg.of qs4) (hso.sub (by rw[x4];omega) (by rw[x4];omega)) (by rw[bR];omega)) λy hy=>?_
  obtain⟨g5,Z⟩:=y;obtain⟨z1,z2,z3⟩:=hy;dsimp only at z1 z2 z3;have z4:=z2.l;have z5:=z2.u;have zp:=z2.p;have zb:=z2.b;have zi:=z2.i;have zr:=z2.r;rw[bR] at z4 z5 zp zb zi zr;have hj5:I.length<Z.length:=by omega
  refine bd (by simp) (aR (ep _) (by dsimp only[au];omega) (aR (ep _) (by dsimp only[au];omega) (ar ⟨qs4.trans z1,?_,by dsimp only;rw[z3,x4];omega⟩)));dsimp only;show QC nT ss t _ out (ptA Z I.length (aO Z.length));have eG:∀ {z:IT} {k:Nat},¬k=I.length->iA (cq Z ((I.length:Nat):Int) z) k=iA Z k:=λh=>by rw[yG hj5,aC h]
  have ej5:iA Z I.length=(5,0,0,0,0,J.2.2.2.2.2.2.2.1):=by rw[zp _ (by omega),eF (by omega),ej]
  obtain⟨f1,f2,f3,f4,f5,f6⟩:=p2.cbr q2 hbr rfl r2 (ptA Z I.length (aO Z.length)) (by rw[bR];omega) (λk hk hn=>by rw[eG (by omega),zp k (by omega),eF hn,e43 k hk]) ⟨aO M.length,⟨ep _,by rw[bR];dsimp only[au];omega⟩,by rw[eG (by omega),zp _ (by omega),yG hat,aF rfl,e43 _ (by omega),ebr]⟩;have ejF:iA (ptA Z I.length (aO Z.length)) I.length=(5,aO Z.length,0,0,0,J.2.2.2.2.2.2.2.1):=by rw[yG hj5,aF rfl,ej5]
  refine ⟨by rw[bR];omega,by rw[bR];omega,f1,?_,λk Y J=>?_,λk Y J U=>?_⟩
  .rw[bR];refine ((f2.app (qz.one (by rw[f3];decide))).app f4).ite (by rw[ejF]) (by rw[ejF];rfl) ?_;rw[l4] at zb;exact zb.congr λk Y J=>eG (by omega)
  .rw[bR] at J;rcases MN k I.length with hk|hk|hk
   .exact f5 k Y hk
   .rw[hk,ejF];exact⟨Xg (by decide) (by decide) (by simp[iJ]) (by decide:¬(5:Int)=3),hs⟩
   .rw[eG (by omega)];exact zi k (by omega) J
  .have g2':=J;rw[bR] at g2';rcases MN k I.length with hk|hk|hk
   .exact f6 k Y hk U
   .rw[hk,ejF] at U;cases U
   .rw[eG (by omega)] at U ⊢;rw[bR];exact zr k (by omega) g2' U
theorem Xf (rs:FS6) (rt:FT6) (rb:FT6) (ra:FA6) (d:Nat) (hB:ah1 nT ss t rb d) (hA:ah2 nT ss t ra d):SpG nT ss t (rH rs rt rb ra) (d+1):=by
 intro s g out hs hg hso hb;have hm:ME (d+1)=50+16*ME d:=rfl;obtain⟨i1,i2,i3,i4,i5,i6,i7,i8,i9,Y⟩:=hs;have hcn:OP (d+1) s=1+m_ d s.body+m_ d s.els:=rfl;rw[hcn] at hso ⊢;obtain⟨so0,so1,so2⟩:=id hso;have so0:0<=g.2.2.2.2.2.2.2.2:=so0;have so1:g.2.2.2.2.2.2.2.2+((1+m_ d s.body+m_ d s.els:Nat):Int)<=1000:=so1;have ew:bl .i64 (g.2.2.2.2.2.2.2.2+1)=g.2.2.2.2.2.2.2.2+1:=ic (by omega) (by omega);have gs:=GQ.site g g.2.2.2.2.2.1 g.2.2.2.2.2.2.2.2 (bl .i64 (g.2.2.2.2.2.2.2.2+1));unfold rH aV bg bp cw dN bL nh be bE aX aE cB dW;refine aY (λx=>QG nT ss t (ME (d+1)) (1+m_ d s.body+m_ d s.els) g out x) ?_ λx hx=>ar hx
 dsimp only;have Z:SO ss t (gS ((g.1,g.2.1,g.2.2.1,g.2.2.2.1,g.2.2.2.2.1,g.2.2.2.2.2.1,g.2.2.2.2.2.2.1,g.2.2.2.2.2.2.2.2,bl .i64 (g.2.2.2.2.2.2.2.2+1)):GN)):=so2 _ (eJ _) (by show g.2.2.2.2.2.2.2.2<g.2.2.2.2.2.2.2.2+((1+m_ d s.body+m_ d s.els:Nat):Int);omega);have hn1:gN ((g.1,g.2.1,g.2.2.1,g.2.2.2.1,g.2.2.2.2.1,g.2.2.2.2.2.1,g.2.2.2.2.2.2.1,g.2.2.2.2.2.2.2.2,bl .i64 (g.2.2.2.2.2.2.2.2+1)):GN)=gN g+1:=ew;revert gs Z hn1;generalize ((g.1,g.2.1,g.2.2.1,g.2.2.2.1,g.2.2.2.2.1,g.2.2.2.2.2.1,g.2.2.2.2.2.2.1,g.2.2.2.2.2.2.2.2,bl .i64 (g.2.2.2.2.2.2.2.2+1)):GN)=U;intro gs Z hn1;have M:=hg.of gs;have hso1:=hso.sub (b:=gN U) (n:=m_ d s.body+m_ d s.els) (by rw[hn1];omega) (by rw[hn1];omega);have fin:∀ (n m:Nat) (y:GN×List IT),QG nT ss t n m U out y->n<=ME (d+1)->m=m_ d s.body+m_ d s.els->QG nT ss t (ME (d+1)) (1+m_ d s.body+m_ d s.els) g out y:=λn m y J hn hm=>⟨gs.trans J.q,(QC.nil 0 out).trans J.c (by omega),by rw[J.x,hn1];omega⟩
 have fin0:s.op=1\/9<=s.op->∀ (n:Nat) (y:GN×List IT),y.1=U/\QC nT ss t n out y.2->n<=ME (d+1)->QG nT ss t (ME (d+1)) (1+m_ d s.body+m_ d s.els) g out y:=λI n y J hn=>fin n 0 y ⟨by rw[J.1];exact GQ.refl U,J.2,by rw[J.1];simp⟩ hn (by rw[Y.bo I,Y.el (by omega)];rfl)
 refine aK (λI=>?_) λ_=>?_
 .refine ax (UM (nE _) U out ?_ ?_ ?_ ?_ M Z (by omega)) λy J=>bd (by simp) (ar (fin0 (.inl I) _ _ J (by omega)))
  .rw[xA];exact i1
  .rw[xA];exact i3
  .rw[xA];exact i4 (.inl I)
  .rw[xA];exact Y.vr I
 refine aY (λx=>x.2=(U,s,out)/\(x.1=ai↔s.op=2\/s.op=3)) ?_ ?_
 .exact aK (λh=>ar ⟨by dsimp only;rw[xA],λ_=>.inl h,λ_=>aQ h⟩) λh=>ar ⟨by dsimp only;rw[xA],λh2=>.inr (bt h2),λh2=>aQ (h2.resolve_left h)⟩
 rintro⟨b,x⟩ ⟨e,hb2⟩;dsimp only at e hb2;subst e;refine aP (λhb3=>?_) λhbf=>?_
 .dsimp only;rw[xA];refine ax (hB s U out (hb2.1 hb3) (i4 (by rcases hb2.1 hb3 with h|h;exact .inr (.inl h);exact .inr (.inr (.inl h)))) i6 i7 i8 i9 Y.el M Z hso1 hb) λy J=>bd (by simp) (ar (fin _ _ _ J (by omega) rfl))
 have har:∀ (a b c:Int),4<=s.op->GO nT (a,c,0,0,0,0)->GO nT (b,c,0,0,0,0)->¬a=5/\¬a=10->¬b=5/\¬b=10->Ok (ra ((s,a,b,c),U,out)) λy=>QG nT ss t (ME (d+1)) (1+m_ d s.body+m_ d s.els) g out y:=λa b c h4 ga gb na nb=>(hA s a b c U out i6 i8 ga gb na nb M Z (hso1.sub (eJ _) (by omega)) hb).mono λy J=>fin _ _ _ J (by omega) (by rw[Y.el (by omega)];rfl)
 have hput:∀ {op:Int} {r:Int×Int×Int×Int×Int},9<=s.op->GO nT (op,r)->¬op=5/\¬op=10->Ok (cz ((op,r),U,out)) (QG nT ss t (ME (d+1)) (1+m_ d s.body+m_ d s.els) g out):=λh9 hi h5=>(wR (by omega) M Z hi h5).mono λy J=>fin0 (.inr h9) _ _ J (by omega)
 have hlk:∀ n:List UInt8,Ok (j7 (U.2.1,n)) λr=>(n=[109]->r=0)/\(n=[110]->r=1)/\(n=[114]->r=2):=λn=>(LY U.2.1 n (by rw[M.l];decide)).mono λr h=>aep (by rw[M.l] at h;exact h)
 have hcond:∀ (n:List UInt8),Ok (jk (n,U,out)) λy=>y.2=(U,out)/\(n=[99]->y.1=0):=λn=>ZS n U out M
 have hth:Ok (iS (U.2.2.2.2.1,s.name)) λr=>s.op=12\/s.op=13->0<=r/\r<(nT:Int):=(xW U.2.2.2.2.1 s.name (by rw[M.t,bD];have q4:vF.length=4:=rfl;omega)).mono λr hr I=>by
  have hn:=Y.sp I;have hl:(vF.take nT).length<=nT:=pJ ..;obtain⟨_,h2,_,h4⟩:=hr;rw[M.t] at h2 h4;exact⟨BJ.1 λh=>h4 h hn,by omega⟩
 have hft:∀ n:List UInt8,Ok (iS (U.2.2.2.1,n)) λr=>n=[102]->r=0:=λn=>(xW U.2.2.2.1 n (by rw[M.f];decide)).mono λr hr hn=>by
  obtain⟨h1,h2,_,h4⟩:=hr;rw[M.f] at h2 h4;have h2:r<1:=h2;have:¬r<0:=λh=>h4 h (by rw[hn];decide)
  omega
 dsimp only;rw[xA];have gor:∀ {a c:Int},1<=a->a<=27->iJ (a,c,0,0,0,0)=[]->OB nT (a,c,0,0,0,0)->GO nT (a,c,0,0,0,0):=λh1 h2 h3 h4=>⟨h1,h2,by rw[h3];exact λj hj=>(by cases hj),h4⟩
 refine aK (λI=>ax (hlk _) λv hv=>ax (har _ _ _ (by have I:s.op=4:=I;omega) (gor (by decide) (by decide) rfl ?_) (gor (by decide) (by decide) rfl ?_) (by decide) (by decide)) λy J=>bd (by simp) (ar J)) λ_=>?_
 .exact (Y.lk I).imp hv.1 hv.2.1
 .exact (Y.lk I).imp hv.1 hv.2.1
 refine aK (λI=>ax (hlk _) λv hv=>ax (har _ _ _ (by have I:s.op=5:=I;omega) (gor (by decide) (by decide) rfl ?_) (gor (by decide) (by decide) rfl ?_) (by decide) (by decide)) λy J=>bd (by simp) (ar J)) λ_=>?_
 .exact hv.2.2 (Y.rw (.inl I))
 .exact hv.2.2 (Y.rw (.inl I))
 refine aK (λI=>ax (hlk _) λv hv=>ax (har _ _ _ (by have I:s.op=6:=I;omega) (gor (by decide) (by decide) rfl ?_) (gor (by decide) (by decide) rfl ?_) (by decide) (by decide)) λy J=>bd (by simp) (ar J)) λ_=>?_
 .exact hv.2.2 (Y.rw (.inr I))
 .exact hv.2.2 (Y.rw (.inr I))
 refine aK (λI=>ax (har _ _ _ (by have I:s.op=7:=I;omega) (gor (by decide) (by decide) rfl (by decide:¬(17:Int)=3)) (gor (by decide) (by decide) rfl (by decide:¬(18:Int)=3)) (by decide) (by decide)) λy J=>bd (by simp) (ar J)) λ_=>?_
 refine aK (λI=>ax (har _ _ _ (by have I:s.op=8:=I;omega) (gor (by decide) (by decide) rfl (by decide:¬(19:Int)=3)) (gor (by decide) (by decide) rfl (by decide:¬(20:Int)=3)) (by decide) (by decide)) λy J=>bd (by simp) (ar J)) λ_=>?_
 refine aK (λI=>ax (hcond _) λy J=>?_) λ_=>?_
 .obtain⟨v,y2⟩:=y;obtain⟨y3,y4⟩:=J;dsimp only at y3;subst y3;exact bd (by simp) (ax (hput (by have I:s.op=9:=I;omega) (gor (by decide) (by decide) rfl (y4 (Y.cn (.inl I)))) (by decide)) λy J=>bd (by simp) (ar J))
 refine aK (λI=>ax (hcond _) λy J=>?_) λ_=>?_
 .obtain⟨v,y2⟩:=y;obtain⟨y3,y4⟩:=J;dsimp only at y3;subst y3;exact bd (by simp) (ax (hput (by have I:s.op=10:=I;omega) (gor (by decide) (by decide) rfl (y4 (Y.cn (.inr (.inl I))))) (by decide)) λy J=>bd (by simp) (ar J))
 refine aK (λI=>ax (hcond _) λy J=>?_) λ_=>?_
 .obtain⟨v,y2⟩:=y;obtain⟨y3,y4⟩:=J;dsimp only at y3;subst y3;exact bd (by simp) (ax (hput (by have I:s.op=11:=I;omega) (gor (by decide) (by decide) rfl (y4 (Y.cn (.inr (.inr I))))) (by decide)) λy J=>bd (by simp) (ar J))
 refine aK (λI=>ax hth λv hv=>ax (hput (by have I:s.op=12:=I;omega) (gor (by decide) (by decide) rfl (hv (.inl I))) (by decide)) λy J=>bd (by simp) (ar J)) λ_=>?_
 refine aK (λI=>ax hth λv hv=>ax (hput (by have I:s.op=13:=I;omega) (gor (by decide) (by decide) rfl (hv (.inr I))) (by decide)) λy J=>bd (by simp) (ar J)) λ_=>?_
 refine aK (λI=>?_) λn14=>?_
 .have hex:GE 4 (dT (Xp.op s.expr,Xp.n s.expr,Xp.name s.expr,Xp.l s.expr)):=by rw[fc];exact i4 (.inr (.inr (.inr I)))
  refine ax (BR _ _ U out hex M Z (by rw[hg.len];decide) (by rw[hg.len];decide) (by omega)) λy J=>?_
  obtain⟨g2,o2⟩:=y;obtain⟨q1,q2⟩:=J;dsimp only at q1 q2;subst q1;have q3:=q2.u;refine bd (by simp) (ax (hft _) λv hv=>?_);refine ax (wR (by omega) M Z (Xg (by decide) (by decide) (by simp[iJ,hg.h,L0]) (hv (Y.se I))) (by decide)) λy J=>bd (by simp) (ar (fin0 (.inr (by have I:s.op=14:=I;omega)) 16 _ ⟨J.1,q2.trans J.2 (bV _)⟩ (by omega)))
 refine aK (λI=>?_) λn15=>?_
 .refine ax (xW _ _ (by rw[M.h];decide)) λv hv=>ax (hft _) λv2 hv2=>?_
  have hge:=Y.ge I;have hl:(0:Int)<=v/\v<2:=by
   obtain⟨_,h2,_,h4⟩:=hv;rw[M.h] at h2 h4;exact⟨BJ.1 λh=>h4 h (by rw[hge.1];decide),h2⟩
  exact ax (hput (by have I:s.op=15:=I;omega) (Xg (by decide) (by decide) (by simp[iJ];omega) (hv2 hge.2)) (by decide)) λy J=>bd (by simp) (ar J)
 .exfalso;have h1:=Y.o0;have h2:=Y.o1;have h3:¬(s.op=2\/s.op=3):=λh=>by have hbf:b=aj:=hbf;rw[hb2.2 h] at hbf;cases hbf
  omega
variable {nT:Nat} {ss:List (Int×Int×Int)} {t:Int}
theorem VS:∀ (n:Nat),(∀ d:Nat,3*d<n->SpG nT ss t (eE n) d)/\(∀ d:Nat,3*d+1<n->aab nT ss t (dF n) d)/\(∀ d:Nat,3*d+2<n->ah1 nT ss t (c4 n) d)/\(∀ d:Nat,3*d+2<n->ah2 nT ss t (dA n) d)
 |0=>⟨λd h=>by omega,λd h=>by omega,λd h=>by omega,λd h=>by omega⟩
 |n+1=>by
  obtain⟨J,I,M,hA⟩:=VS n;refine ⟨λd h=>?_,λd h=>?_,λd h=>?_,λd h=>?_⟩
  .cases d with
   |zero=>exact λs g out hs=>hs.elim
   |succ d=>exact Xf (dF n) (eE n) (c4 n) (dA n) d (M d (by omega)) (hA d (by omega))
  .exact TW (dF n) (eE n) (c4 n) (dA n) d (J d (by omega))
  .exact K7 (dF n) (eE n) (c4 n) (dA n) d (I d (by omega))
  .exact Qi (dF n) (eE n) (c4 n) (dA n) d (I d (by omega))
theorem NH (d:Nat) (hd:d<=100):aab nT ss t tN d:=(VS fuel).2.1 d (by rw[jL];omega)
structure SL (t k:Int) (m:Nat) (S:List (Int×Int×Int)):Prop where
 l:S.length=m
 v:∀ i:Nat,i<m->(aJ (T:=xy) S (i:Int)).1=t/\(aJ (T:=xy) S (i:Int)).2.1=k+i
theorem IE {T:Ty} {l m:List T.den} {k:Nat} (h:k<l.length):aJ (l++m) (k:Int)=aJ l (k:Int):=by
 rw[yK,yK,ay,ay,bG h]
theorem ID {T:Ty} {l m:List T.den} {k:Nat} (h:l.length<=k):aJ (l++m) (k:Int)=aJ m ((k-l.length:Nat):Int):=by
 rw[yK,yK,ay,ay,bT h]
theorem SL.nil (t k:Int):SL t k 0 []:=⟨rfl,λi h=>by omega⟩
theorem SL.one (t k z:Int):SL t k 1 [(t,k,z)]:=⟨rfl,λi h=>by rw[show i=0 by omega];exact⟨rfl,by show k=k+((0:Nat):Int);omega⟩⟩
theorem SL.app {k k':Int} {a b:Nat} {S S':List (Int×Int×Int)} (h:SL t k a S) (h':SL t k' b S') (hk:k'=k+a):SL t k (a+b) (S++S'):=by
 obtain⟨h1,h2⟩:=h;obtain⟨J,I⟩:=h';refine ⟨by rw[bu];omega,λi hi=>?_⟩;by_cases hl:i<S.length
 .rw[IE (T:=xy) hl];exact h2 i (by omega)
 .rw[ID (T:=xy) (by omega)];have:=I (i-S.length) (by omega);exact⟨this.1,this.2.trans (show k'+((i-S.length:Nat):Int)=k+(i:Int) by omega)⟩
theorem Ec:∀ (n d:Nat),d<n->∀ (t k:Int) (l:List Sx) (out:List (Int×Int×Int)),l.length<=100->(∀ s∈l,GT d s)->0<=k->k+m_ d l<=100000000->out.length+m_ d l<=100000000->Ok (pg n ((t,k,l),out)) λy=>y.1=k+m_ d l/\∃ S,y.2=out++S/\SL t k (m_ d l) S
 |0,_,h,_,_,_,_,_,_,_,_,_=>by omega
 |n+1,d,hn,t,k,l,out,hl,hs,k0,hkb,hb=>by
  rw[Gq];unfold w9 bx ve bE aX cK aE cB;refine ch l.length (λi x=>x.1.2=(i:Int)/\x.1.1=k+m_ d (l.take i)/\∃ S,x.2=out++S/\SL t k (m_ d (l.take i)) S) ?_ ?_ ⟨rfl,by simp[m_],[],by simp,by simp[m_];exact SL.nil t k⟩
  .rintro i ⟨⟨a,b⟩,o⟩ hi ⟨e1,e2,S,e3,e4⟩;dsimp only at e1 e2 e3;subst e1;subst e2;subst e3;have hp:=Of (d:=d) l (i+1);rw[ww hi] at hp;rw[ww hi];refine dC ?_;have hin:((i:Nat):Int)<(l.length:Int):=by omega
   have hm:=hs _ (bJ (T:=.sm) (xs:=l) (j:=(i:Int)) (by omega) (by omega));have hSl:=e4.l;cases d with
   |zero=>exact hm.elim
   |succ d=>
    obtain⟨_,_,_,g4,g5,g6,g7⟩:=hm;have hc:OP (d+1) (aJ (T:=.sm) l (i:Int))=1+m_ d (Sx.body (aJ (T:=.sm) l (i:Int)))+m_ d (Sx.els (aJ (T:=.sm) l (i:Int))):=rfl;rw[hc] at hp ⊢;dsimp only;refine aR (by omega) hin (aT (bk (by simp;omega) (by omega) (aR (by omega) hin (aT ?_))));rw[ic (n:=k+(m_ (d+1) (l.take i):Nat)+1) (by omega) (by omega)];refine ax (Ec n d (by omega) _ _ _ _ (by omega) g6 (by omega) (by omega) (by simp;omega)) λy I=>bd (by simp) ?_
    obtain⟨a2,o2⟩:=y;obtain⟨Z,S2,Y,U⟩:=I;dsimp only at Z Y;subst Z;subst Y;have hSl2:=U.l;refine aR (by omega) hin (aT ?_);refine ax (Ec n d (by omega) _ _ _ _ (by omega) g7 (by omega) (by omega) (by simp;omega)) λy I=>bd (by simp) (ar ?_)
    obtain⟨a3,o3⟩:=y;obtain⟨M,S3,J,z3⟩:=I;dsimp only at M J;subst M;subst J;refine ⟨gW (by omega),by dsimp only;omega,S++([_]++(S2++S3)),by simp only[jJ];rfl,?_⟩;refine e4.app ?_ rfl;rw[sg];exact (SL.one t _ _).app (U.app z3 rfl) (by simp)
  .rintro⟨⟨a,b⟩,o⟩ ⟨e1,e2,e3⟩;dsimp only at e1 e2 e3;subst e1;subst e2;rw[cP] at e3 ⊢;exact dx (ar ⟨rfl,e3⟩)
theorem U' {T k' U k:Int} {l S:List (Int×Int×Int)} {m:Nat} (h:Kq T l=af (k',U)) (Y:SL t k m S) (hk:(k'=t/\U=k)\/(k'<t/\t<T/\k=0)):∀ i:Nat,i<=m->Kq T (l++S.take i)=af (if i=0 then (k',U) else (t,k+i))
 |0,_=>by rw[List.take_zero,lG,aF rfl];exact h
 |i+1,hi=>by
  have ih:=U' h Y hk i (by omega);rw[nR (T:=xy) (xs:=S) (i:=i) (by rw[Y.l];omega),<-jJ,Vb,ih];obtain⟨I,M⟩:=Y.v i (by omega);rw[aC (Nat.succ_ne_zero i)];by_cases J:i=0
  .subst J;rw[aF rfl];unfold Sl;dsimp only;rcases hk with ⟨h1,h2⟩|⟨h1,h2,Z⟩
   .rw[aF ⟨by rw[I,h1],by rw[M,h2];simp⟩,h1,h2];simp
   .rw[aC (λh=>by rw[I] at h;omega),aF ⟨by rw[I];exact h1,by rw[I];exact h2,by rw[M,Z];rfl⟩,I,Z];simp
  .rw[aC J];unfold Sl;dsimp only;rw[aF ⟨I,M⟩];congr 2;omega
abbrev CE6:Type:=List UInt8×Int×Int×Bool×Int
abbrev W4T:Type:=List CE6×List (List UInt8×Bool)×List (List UInt8×Int)×List (List UInt8)
def ceD (z:DT):List CE6:=(eS (aS (j9 z.2.2.2.1 1))).map λ(k:Nat)=>(z.2.2.1,(k:Int),z.2.2.2.1,decide (z.1=2),z.2.2.2.2.1)
def adD (y:W4T) (z:DT):W4T:=
 if z.1=1\/z.1=2 then (y.1++ceD z,y.2) else if z.1=3\/z.1=4 then (y.1,y.2.1++[(z.2.2.1,decide (z.1=4))],y.2.2) else if z.1=5 then (y.1,y.2.1,y.2.2.1++[(z.2.2.1,0)],y.2.2.2) else (y.1,y.2.1,y.2.2.1,y.2.2.2++[z.2.2.1])
def W4 (i:Nat):W4T:=(D0.take i).foldl adD ([],[],[],[])
theorem W4_9:W4 9=(C0,F5,LB,R7):=rfl
theorem W4_s {i:Nat} (hi:i<9):W4 (i+1)=adD (W4 i) (aJ (T:=tDc) D0 (i:Int)):=by
 unfold W4;rw[nR (T:=tDc) (xs:=D0) hi,fG];rfl
theorem D0_c:∀ i:Nat,i<9->(aJ (T:=tDc) D0 (i:Int)).1=5->i=7:=by decide
theorem ajy:∀ i:Nat,i<9->(W4 i).1.length<=5/\(W4 i).2.1.length<=3/\(W4 i).2.2.1.length<=1/\(W4 i).2.2.2.length<=1/\j9 (aJ (T:=tDc) D0 (i:Int)).2.2.2.1 1<=2/\1<=j9 (aJ (T:=tDc) D0 (i:Int)).2.2.2.1 1:=by decide
def bsN (p:PG) (i:Nat):Nat:=((p.2.take i).map λt=>m_ 5 t.2.2.2).sum
def boN (p:PG) (i:Nat):Nat:=m_ 5 (aJ (T:=yh) p.2 (i:Int)).2.2.2
theorem aey {p:PG} {i:Nat} (hi:i<p.2.length):bsN p (i+1)=bsN p i+boN p i:=by
 unfold bsN boN;rw[nR (T:=yh) hi,cN,ER];simp
theorem UH {p:PG} (i:Nat) (h:(p.2.map λt=>m_ 5 t.2.2.2).sum<=60):bsN p i<=60:=by
 refine dc ?_ h
 conv=>rhs;rw[<- AM i p.2]
 unfold bsN;rw[cN,ER];omega
structure SW (p:PG) (i:Nat) (S:List (Int×Int×Int)):Prop where
 l:S.length=bsN p i
 f:∃ a b,Kq p.2.length S=af (a,b)/\(a<i\/a=0/\b=0)
 s:∀ j:Nat,j<i->SR S (j:Int) (bsN p j:Nat) (boN p j)
structure WW (p:PG) (w:WT):Prop where
 x:WX w
 t:w.2.2.2.2.1=vF.take p.2.length
 s:∀ j:Nat,j<p.2.length->SR w.2.2.2.2.2 (j:Int) (bsN p j:Nat) (boN p j)
theorem SO.app {S S':List (Int×Int×Int)} {t s:Int} (h:SO S t s):SO (S++S') t s:=by
 obtain⟨h0,h1,h2⟩:=h;obtain⟨s,rfl⟩:∃ n:Nat,s=(n:Int):=⟨s.toNat,by omega⟩
 exact⟨h0,by rw[bu];omega,by rw[IE (T:=xy) (by omega)];exact h2⟩
theorem UP (p:PG) (hp:PJ p) (r:Int×Int) (hr:fd p=af r) (h0:r.1=0) (hc:(p.2.map λt=>m_ 5 t.2.2.2).sum<=60):Ok (tO p) (WW p):=by
 have hpt:=hp.t;unfold tO aV bg bp cw dN bL db cO eP mg be bx iI bE bK aX cK aE cB;refine aU hr (b8 (λh=>(h h0).elim) λ_=>?_);have hD:p.1=D0:=hp.d;have hlen:p.1.length=9:=by rw[hD];rfl
 refine ch 9 (λi x=>x.1=(i:Int)/\x.2.1=p/\x.2.2=W4 i) ?_ ?_ ⟨rfl,rfl,rfl⟩
 .rintro i ⟨a,p',y⟩ hi ⟨e1,e2,e3⟩;dsimp only at e1 e2 e3;subst e1;have e2:=e2.symm;subst e2;obtain⟨b1,b2,b3,b4,b5,b6⟩:=ajy i hi;rw[<- e3] at b1 b2 b3 b4;have hW:=W4_s hi;rw[<- e3] at hW;have hcd:=D0_c i hi;have hlk:i=7->y.2.1=F5/\(aJ (T:=tDc) D0 (i:Int)).2.2.2.2.2=[109]:=λh=>by subst h;rw[e3];exact⟨rfl,rfl⟩
  refine dC ?_;refine cD (aT ?_);dsimp only;rw[hD];revert hW hcd hlk b5 b6;generalize (aJ (T:=tDc) D0 (i:Int))=z;intro b5 b6 hW hcd hlk;refine aY (λx=>x=(p,W4 (i+1))) ?_ ?_
  .rw[hW];unfold adD;refine aY (λx=>x.2=(p,z,y)/\(x.1=ai↔(z.1=1\/z.1=2))) ?_ ?_
   .exact aK (λh=>ar ⟨rfl,λ_=>.inl h,λ_=>aQ h⟩) λh=>ar ⟨rfl,λh2=>.inr (bt h2),λh2=>aQ (h2.resolve_left h)⟩
   rintro⟨b,x⟩ ⟨e,hb⟩;dsimp only at e hb;subst e;refine aP (λI=>?_) λI=>?_
   .rw[aF (hb.1 I)];unfold ceD;obtain⟨m,hm⟩:∃ m:Nat,j9 z.2.2.2.1 1=(m:Int):=⟨(j9 z.2.2.2.1 1).toNat,by omega⟩
    rw[hm,gz];refine ch m (λk x=>x=((k:Int),p,z,y.1++(eS k).map (λ(k:Nat)=>(z.2.2.1,(k:Int),z.2.2.2.1,decide (z.1=2),z.2.2.2.2.1)),y.2)) ?_ ?_ (by simp)
    .rintro k x hk rfl;refine bH (λ_=>?_) λg=>(by dsimp only at g;rw[hm] at g;omega)
     refine bk (by simp;omega) (by omega) (ar ?_);dsimp only;rw[gW (by omega),List.range_succ,cN,<-jJ];rfl
    .rintro x rfl;exact bH (λg=>(by dsimp only at g;rw[hm] at g;omega)) λ_=>ar rfl
   rw[aC λh=>by have I:b=aj:=I;rw[hb.2 h] at I;cases I];refine aY (λx=>x.2=(p,z,y)/\(x.1=ai↔(z.1=3\/z.1=4))) ?_ ?_
   .exact aK (λh=>ar ⟨rfl,λ_=>.inl h,λ_=>aQ h⟩) λh=>ar ⟨rfl,λh2=>.inr (bt h2),λh2=>aQ (h2.resolve_left h)⟩
   rintro⟨c,x⟩ ⟨e,U⟩;dsimp only at e U;subst e;refine aP (λh=>?_) λh=>?_
   .rw[aF (U.1 h)];exact bk (by simp;omega) (by omega) (ar rfl)
   rw[aC λh2=>by have h:c=aj:=h;rw[U.2 h2] at h;cases h];refine aK (λh5=>?_) λh5=>?_
   .obtain⟨l1,l2⟩:=hlk (hcd h5);rw[aF h5];refine ax (LY _ _ (by dsimp only;rw[l1];decide)) λv hv=>?_
    have hv:=(aep (by dsimp only at hv;rw[l1] at hv;exact hv)).1 l2;subst hv;exact bk (by simp;omega) (by omega) (ar rfl)
   .rw[aC h5];exact bk (by simp;omega) (by omega) (ar rfl)
  rintro x rfl;exact ar ⟨gW (by omega),rfl,rfl⟩
 .rintro⟨a,p',y⟩ ⟨e1,e2,j⟩;dsimp only at e1 e2 j;subst e1;have e2:=e2.symm;subst e2;rw[W4_9] at j;subst j;refine dx ?_;refine ax (P:=WW p) ?_ λr hr=>ar hr
  refine ch p.2.length (λi x=>x.1=(i:Int)/\x.2.1=p/\x.2.2.1=C0/\x.2.2.2.1=F5/\x.2.2.2.2.1=LB/\x.2.2.2.2.2.1=R7/\x.2.2.2.2.2.2.1=vF.take i/\SW p i x.2.2.2.2.2.2.2) ?_ ?_ ⟨rfl,rfl,rfl,rfl,rfl,rfl,rfl,rfl,⟨0,0,rfl,.inr ⟨rfl,rfl⟩⟩,λj hj=>by omega⟩
  .rintro i ⟨a,p2,c2,l2,d2,f2,t2,s2⟩ hi ⟨e1,e2,e3,e4,e5,e6,Z,M,⟨fa,fb,f8,f9⟩,J⟩;dsimp only at e1 e2 e3 e4 e5 e6 Z M f8 J;subst e1;have e2:=e2.symm;subst e2;have hb8:=UH (i+1) hc;have hbs:=aey hi;refine dC ?_;have hin:((i:Nat):Int)<(p.2.length:Int):=by omega
   have hm:=hp.m _ (bJ (T:=yh) (xs:=p.2) (j:=(i:Int)) (by omega) hin);have hnm:(aJ (T:=yh) p.2 (i:Int)).1=aJ (T:=.str) vF (i:Int):=by
    have h1:=nR (T:=yh) hi;have h2:=gE (List.map Prod.fst) h1;rw[cN,kz,kz,hp.n,List.take_take,List.take_take,sa (by omega),sa (by omega),nR (T:=.str) (xs:=vF) (i:=i) (by have q4:vF.length=4:=rfl;omega)] at h2;exact ((List.cons.inj (List.append_cancel_left h2)).1).symm
   have htl:t2.length=i:=by rw[Z,bD];have q4:vF.length=4:=rfl;omega
   dsimp only;refine aR (by omega) hin (aT (bk (by simp;omega) (by omega) (aR (by omega) hin (aT ?_))));refine ax (Ec fuel 5 (by rw[jL];omega) _ _ _ s2 (by have:=hm.b;omega) (λs hs=>((hm.s s hs).le (by omega:3<=5)).t) (eJ _) ?_ ?_) λy hy=>bd (by simp) (ar ?_)
   .show (0:Int)+(boN p i:Nat)<=_;omega
   .show s2.length+boN p i<=_;omega
   obtain⟨_,S,h2,Y⟩:=hy;have Y:SL (i:Int) 0 (boN p i) S:=Y;refine ⟨gW (by omega),rfl,e3,e4,e5,e6,?_,?_⟩
   .dsimp only;rw[Z,hnm,<-nR (T:=.str) (xs:=vF) (i:=i) (by have q4:vF.length=4:=rfl;omega)]
   .dsimp only;rw[h2];refine ⟨by rw[bu,Y.l,M,hbs],?_,λj hj=>?_⟩
    .have hr:=U' f8 Y (by rcases f9 with h|⟨h,h'⟩;exact .inr ⟨h,by omega,rfl⟩;rcases Kl i with hi0|hi0;exact .inl ⟨by omega,h'⟩;exact .inr ⟨by omega,by omega,rfl⟩) (boN p i) (bV _);rw[<- Y.l,cP] at hr;rw[hr];split
     .exact⟨_,_,rfl,f9.imp (λh=>by omega) id⟩
     .exact⟨_,_,rfl,.inl (by omega)⟩
    .rcases b7 j i with h1|h1
     .obtain⟨g1,g2,g3⟩:=J j h1;exact⟨g1,g2,λq q1 q2=>(g3 q q1 q2).app⟩
     .have hj:j=i:=by omega
      subst hj;refine ⟨by omega,by omega,λq q1 q2=>?_⟩;obtain⟨q,rfl⟩:∃ n:Nat,q=(n:Int):=⟨q.toNat,by omega⟩
      refine ⟨by omega,by rw[bu,Y.l];omega,?_⟩;rw[ID (T:=xy) (by omega)];exact (Y.v _ (by omega)).1
  .rintro⟨a,p2,c2,l2,d2,f2,t2,s2⟩ ⟨e1,e2,e3,e4,e5,e6,Z,M,⟨fa,fb,f8,f9⟩,J⟩;dsimp only at e1 e2 e3 e4 e5 e6 Z M f8 J;subst e1;have e2:=e2.symm;subst e2;subst e3;subst e4;subst e5;subst e6;subst Z;refine dx (ar ?_);have hb8:=UH p.2.length hc;refine ⟨⟨rfl,rfl,rfl,rfl,⟨p.2.length,hp.t0,hp.t,rfl⟩,by dsimp only;omega,?_⟩,rfl,J⟩;unfold SV0;have hTl:(vF.take p.2.length).length=p.2.length:=by rw[bD];have q4:vF.length=4:=rfl;omega
   dsimp only;rw[hTl,f8];simp
def X4:List (List UInt8):=[[120],[121],[118],[113],[109],[110],[114],[99],[102]]
set_option maxHeartbeats 20000000 in
theorem Y6 (t:List (List UInt8)) (ht:t.length<=4) (s:List (Int×Int×Int)):o7 (C0,F5,LB,R7,t,s)=af (X4++t,ai):=by
 refine cJ ?_;unfold o7 aV bg bp cw db mg be bx iI bE bK aX cK aE cB;with_reducible repeat' first|exact ar rfl|refine Vq ?_|refine Vp ?_|refine Vo ?_|refine Vm ?_|refine abs ?_|refine aT ?_|refine fx rfl ?_|refine fD rfl ?_|refine bd rfl ?_|refine Vn ?_|refine Ps ?_|refine Pr ?_
 refine bk (by show 9+t.length<=1073741824;omega) (by decide) ?_;with_reducible repeat' first|exact ar rfl|refine Vq ?_|refine Vp ?_|refine Vo ?_|refine Vm ?_|refine abs ?_|refine aT ?_|refine fx rfl ?_|refine fD rfl ?_|refine bd rfl ?_|refine Vn ?_|refine Ps ?_|refine Pr ?_
theorem R5:∀ x∈X4++vF,Ok (e_ x) λb=>b=ai:=by
 intro x I;simp only[X4,vF,gh,lE,bi,cr,fY] at I;rcases I with rfl|rfl|rfl|rfl|rfl|rfl|rfl|rfl|rfl|rfl|rfl|rfl|rfl;all_goals with_reducible repeat' first|exact ar rfl|refine Vq ?_|refine Vp ?_|refine Vo ?_|refine Vm ?_|refine Pr ?_|refine abs ?_|refine aT ?_|refine fx rfl ?_|refine fD rfl ?_|refine bd rfl ?_|refine Vn ?_|refine Ps ?_|refine cZ (e_.eq_1 ..) ?_|refine cZ (jz.eq_1 ..) ?_|refine cZ (ki.eq_1 ..) ?_|refine cZ (k9.eq_1 ..) ?_|refine cZ (o_.eq_1 ..) ?_|refine cZ (qX.eq_1 ..) ?_
theorem GT.up:∀ {d:Nat} {s:Sx},GT d s->GT (d+1) s
 |0,_,h=>h.elim
 |_+1,_,⟨a,b,c,e,f,g,i⟩=>⟨a,b,c,e,f,λx I=>GT.up (g x I),λx I=>GT.up (i x I)⟩
theorem agc {l:List Sx} (h:∀ s∈l,GT 3 s):m_ 5 l=m_ 3 l:=by
 unfold m_;rw[pI λx I=>(Oe (GT.up (h x I))).trans (Oe (h x I))]
theorem ah4:∀ i:Nat,i<13->∀ r:Nat,r<i->aJ (T:=.str) (X4++vF) (r:Int)≠aJ (T:=.str) (X4++vF) (i:Int):=by decide
theorem O8 (T:Int):∀ l:List (Int×Int×Int),l.foldl (Sl T) ah=ah
 |[]=>rfl
 |_::r=>O8 T r
theorem Va {T:Int} {l:List (Int×Int×Int)} (h:Kq T l≠ah) (i:Nat):Kq T (l.take i)≠ah:=λhn=>h (by
 unfold Kq at hn ⊢;rw[<- AM i l,fG,hn,O8])
theorem YK {T t n:Int} {z:Int×Int×Int} (h:Sl T (af (t,n)) z≠ah):Sl T (af (t,n)) z=af (z.1,z.2.1+1)/\(z.1=t/\z.2.1=n\/t<z.1/\z.1<T/\z.2.1=0):=by
 unfold Sl at h ⊢;dsimp only at h ⊢;by_cases h1:z.1=t/\z.2.1=n
 .rw[aF h1];exact⟨by rw[h1.1,h1.2],.inl h1⟩
 .rw[aC h1] at h ⊢;by_cases h2:t<z.1/\z.1<T/\z.2.1=0
  .rw[aF h2];exact⟨by rw[h2.2.2];rfl,.inr h2⟩
  .rw[aC h2] at h;exact (h rfl).elim
theorem Bb {R:Type} {a b:Int} {t f:Option R} {Q:R->Prop} (h:b<=a) (hf:Ok f Q):Ok (bcase (fP a b) t f) Q:=fD (fZ.2 h) hf
theorem GJ {w:WT} (hx:WX w):gY w=af ai:=by
 obtain⟨w1,w2,w3,w4,I,J⟩:=w;obtain⟨hc,hl,hd,hf,⟨n,n1,n4,ht⟩,hs,hv⟩:=hx;dsimp only at hc hl hd hf ht hs;subst hc;subst hl;subst hd;subst hf;have hT:I.length=n:=by rw[ht,bD];have q4:vF.length=4:=rfl;omega
 have hv:Kq I.length J≠ah:=hv;refine cJ ?_;unfold gY aV bg bp cw cO eP be bx jN iI bE bK aX cK aE cB;refine aY (λx=>x=(aj,C0,F5,LB,R7,I,J)) ?_ ?_
 .refine Bb (show (5:Int)<=12 by decide) (Bb (show (3:Int)<=4 by decide) (Bb (show (1:Int)<=2 by decide) (Bb (show (1:Int)<=2 by decide) (Bb (show (1:Int)<=(I.length:Int) by omega) (Bb (show (I.length:Int)<=4 by omega) (ar ?_))))));dsimp only[au];rw[fZ.2 (show (J.length:Int)<=60 by omega)]
 rintro x rfl;refine fE (aU (Y6 I (by omega) J) (fD rfl ?_));have hN:X4++I=(X4++vF).take (9+n):=by rw[ht];rcases (by omega:n=1\/n=2\/n=3\/n=4) with rfl|rfl|rfl|rfl<;>rfl
 have hNl:(X4++I).length=9+n:=by rw[bu,hT];rfl
 have hNg:∀ i:Nat,i<9+n->aJ (T:=.str) (X4++I) (i:Int)=aJ (T:=.str) (X4++vF) (i:Int):=λi hi=>by
  rw[hN,yK,yK,ay,ay,List.getElem?_take_of_lt hi]
 refine ch (9+n) (λi x=>x=((i:Int),C0,F5,LB,R7,I,J)) ?_ ?_ rfl
 .rintro i x hi rfl;refine bH (λ_=>?_) λg=>(by dsimp only[au] at g;rw[hNl] at g;omega)
  refine aY (λx=>x=(aj,C0,F5,LB,R7,I,J)) ?_ ?_
  .refine aR (by dsimp only;omega) (by dsimp only;rw[hNl];omega) (aT ?_);have hmem:aJ (T:=.str) (X4++I) (i:Int)∈X4++vF:=by rw[hNg i hi];exact bJ (T:=.str) (by omega) (by have:(X4++vF).length=13:=rfl;omega)
   refine ax (R5 _ hmem) λb hb=>?_
   refine fD (by rw[hb];rfl) (c6 (dZ (by dsimp only;omega) (dZ (by dsimp only;rw[hNl];omega) ?_)));refine aR (by dsimp only;omega) (by dsimp only;rw[hNl];omega) (aT ?_);refine ax (xW _ _ (by dsimp only;rw[bD,hNl];omega)) λr hr=>ar ?_
   obtain⟨_,h2,Z,_⟩:=hr;dsimp only at h2 Z;rw[bD,hNl] at h2;have hr0:¬0<=r:=λh0=>by
    have Z:=Z h0;obtain⟨r,rfl⟩:∃ m:Nat,r=(m:Int):=⟨r.toNat,by omega⟩
    rw[yK,ay,List.getElem?_take_of_lt (by omega),<-ay,<-yK (T:=.str),hNg r (by omega),hNg i hi] at Z;exact ah4 i (by omega) r (by omega) Z
   rw[lP.2 (by omega)]
  .rintro x rfl;exact fE (ar (by dsimp only;rw[gW (by omega)]))
 rintro x rfl;refine bH (λg=>(by dsimp only[au] at g;rw[hNl] at g;omega)) λ_=>?_
 refine ax (P:=λb=>b=ai) ?_ λy hy=>ar hy
 refine ch 1 (λi x=>x=((i:Int),C0,F5,LB,R7,I,J)) ?_ ?_ rfl
 .rintro i x hi rfl;have hi0:i=0:=by omega
  subst hi0;refine fx rfl (bd rfl (aT (aY (λx=>x=(aj,C0,F5,LB,R7,I,J)) ?_ ?_)))
  .exact fD rfl (fD rfl (bd rfl (aT (ar rfl))))
  .rintro x rfl;exact fE (ar (by dsimp only;rw[gW (by omega)]))
 rintro x rfl;refine bH (λg=>(by have g:(1:Int)<1:=g;omega)) λ_=>?_
 refine ax (P:=λb=>b=ai) ?_ λy hy=>ar hy
 refine ch J.length (λi x=>x=((i:Int),C0,F5,LB,R7,I,J)/\∃ t k:Int,Kq I.length (J.take i)=af (t,k)/\0<=t/\t<(I.length:Int)/\(i=0->t=0/\k=0)/\(¬i=0->(aJ (T:=xy) J ((i-1:Nat):Int)).1=t/\(aJ (T:=xy) J ((i-1:Nat):Int)).2.1+1=k/\0<k/\k<=i)) ?_ ?_ ⟨rfl,0,0,rfl,by omega,by omega,λ_=>⟨rfl,rfl⟩,λh=>(h rfl).elim⟩
 .rintro i x hi ⟨rfl,t,k,hF,t0,tT,hz,hp⟩;have hw:¬(i:Int)=0->bl .i64 ((i:Int)-1)=((i-1:Nat):Int):=λh=>by rw[ic (by omega) (by omega)];omega
  have hnx:=Hy (T:=I.length) hi;have hne:=Va hv (i+1);rw[hnx,hF] at hne;obtain⟨hs1,M⟩:=YK hne;rw[hF,hs1] at hnx;refine dC ?_;refine aY (λx=>x=(C0,F5,LB,R7,I,J)) ?_ ?_
  .refine cD (aT ?_);revert M;generalize (aJ (T:=xy) J (i:Int))=z;obtain⟨(U:Int),(z2:Int),z3⟩:=z;intro M;dsimp only at M;refine aY (λx=>x=(aj,(C0,F5,LB,R7,I,J),U,z2,z3)) ?_ ?_
   .refine Bb (show (0:Int)<=U by omega) (ar ?_);dsimp only[au];rw[lP.2 (show U<(I.length:Int) by omega)]
   rintro x rfl;refine fE (aY (λx=>x.2=((C0,F5,LB,R7,I,J),U,z2,z3)/\(x.1=ai->i=0\/¬t=U)/\(x.1=aj->¬i=0/\t=U)) ?_ ?_)
   .refine aK (λh=>ar ⟨rfl,λ_=>.inl (by have h:((i:Nat):Int)=0:=h;omega),λh=>(by cases h)⟩) λh=>?_
    have h:¬((i:Nat):Int)=0:=h;dsimp only;rw[hw h];have hq:=(hp (by omega)).1;exact aR (by omega) (by first|omega|(dsimp only;omega)) (aT (ar ⟨rfl,λh2=>.inr (by rw[<- hq];simpa using h2),λh2=>⟨by omega,by rw[<- hq];simpa using h2⟩⟩))
   rintro⟨c,x⟩ ⟨e,Y,hc⟩;dsimp only at e Y hc;subst e;refine aP (λhct=>?_) λhcf=>?_
   .have hz2:z2=0:=by
     rcases Y hct with h|h
     .have:=hz h;omega
     .omega
    refine aY (λx=>x=(aj,C0,F5,LB,R7,I,J)) ?_ ?_
    .refine b8 (λh=>(h hz2).elim) λ_=>bH (λh=>?_) λ_=>ar rfl
     have h:(0:Int)<((i:Nat):Int):=h;dsimp only;rw[hw (by omega)];have hq:=(hp (by omega)).1;refine aR (by omega) (by first|omega|(dsimp only;omega)) (aT (ar ?_));dsimp only;rw[hq,fZ.2 (show t<=U by omega)]
    rintro x rfl;exact fE (ar rfl)
   .obtain⟨h1,h2⟩:=hc hcf;obtain⟨_,p2,p3,p4⟩:=hp h1;dsimp only;rw[hw (by omega)];refine aR (by omega) (by first|omega|(dsimp only;omega)) (aT ?_);refine b8 (λh=>(h ?_).elim) λ_=>ar rfl
    try dsimp only
    rw[p2,ic (by omega) (by omega)];omega
  .rintro x rfl;refine ar ⟨by dsimp only;rw[gW (by omega)],_,_,hnx,?_⟩;revert M;rw[show i+1-1=i by omega];generalize (aJ (T:=xy) J (i:Int))=z;obtain⟨(U:Int),(z2:Int),z3⟩:=z;intro M;dsimp only at M ⊢;refine ⟨by omega,by omega,λh=>by omega,λ_=>⟨rfl,rfl,?_,?_⟩⟩
   .by_cases h0:i=0
    .have:=hz h0;omega
    .have:=hp h0;omega
   .by_cases h0:i=0
    .have:=hz h0;omega
    .have:=hp h0;omega
 .rintro x ⟨rfl,_⟩;exact dx (ar rfl)
theorem UR {c:CT} (I:WX c.1) (hl:c.2.length=c.1.2.2.2.2.1.length) (h:∀ k:Nat,k<c.2.length->GC c.2.length c.1.2.2.2.2.2 (k:Int) (aJ (T:=vD) c.2 (k:Int))):jx c=af ai:=by
 obtain⟨w,l⟩:=c;dsimp only at I hl h;have M:l.length<=4:=by
  obtain⟨n,_,J,ht⟩:=I.t;rw[hl,ht,bD];omega
 refine cJ ?_;unfold jx bp bx bK aX cK aE cB;refine aY (λx=>x=(aj,w,l)) ?_ ?_
 .refine aU (GJ I) (fD rfl (ar ?_));dsimp only;rw[hl];simp
 rintro x rfl;refine fE (ch l.length (λi x=>x=((i:Int),w,l)) ?_ ?_ rfl)
 .rintro i x hi rfl;refine dC ?_;refine cD (aT (aU (Dw I hl.symm (h i hi)) (fD rfl (ar ?_))));dsimp only;rw[gW (by omega)]
 .rintro x rfl;exact dx (ar rfl)
theorem OC (p:PG) (hp:PJ p) (hr4:∃ r,fd p=af r/\r.1=0):Ok (p_ p) λy=>CB y.1:=by
 have hpt:=hp.t;obtain⟨r,hr,h0⟩:=hr4;obtain⟨r',hr',Y⟩:=Dm p hp.x;rw[hr] at hr';cases hr';have Y:=Y h0;unfold p_ aV bg bp cw dN bL cO eP nh bx iI bE bK kA aX cK aE cB;refine aU hr (b8 (λh=>(h h0).elim) λ_=>?_);refine ax (UP p hp r hr h0 Y) λw M=>?_
 have hwT:w.2.2.2.2.1.length=p.2.length:=by rw[M.t,bD];have q4:vF.length=4:=rfl;omega
 refine ch p.2.length (λi x=>x.1.1=((bsN p i:Nat):Int)/\x.1.2=(i:Int)/\x.2.1=p/\x.2.2.1=w/\x.2.2.2.length=i/\∀ j:Nat,j<i->GC p.2.length w.2.2.2.2.2 (j:Int) (aJ (T:=vD) x.2.2.2 (j:Int))) ?_ ?_ ⟨rfl,rfl,rfl,rfl,rfl,λj hj=>by omega⟩
 .rintro i ⟨⟨a,b⟩,p2,w2,cs⟩ hi ⟨e0,e1,e2,e3,Z,e5⟩;dsimp only at e0 e1 e2 e3 Z e5;subst e0;subst e1;have e2:=e2.symm;subst e2;have e3:=e3.symm;subst e3;have hin:((i:Nat):Int)<(p.2.length:Int):=by omega
  refine dC ?_;have hm:=hp.m _ (bJ (T:=yh) (xs:=p.2) (j:=(i:Int)) (by omega) hin);have hsr:=M.s i hi;have hbs:=aey hi;have hb1:=UH (i+1) Y;have hbo:boN p i=m_ 3 (aJ (T:=yh) p.2 (i:Int)).2.2.2:=agc λs hs=>(hm.s s hs).t
  rw[hbo] at hsr hbs;dsimp only;refine aR (by omega) hin (aT (aR (by omega) hin (aT ?_)));revert hm hsr hbs;generalize (aJ (T:=yh) p.2 (i:Int))=t;intro hm hsr hbs;have hk:ME 3=50+16*(50+16*50):=rfl;have hle:=cE (ME 3) hm.b;rw[hk] at hle;have hll:t.2.2.1.length=2:=by rw[hm.l];rfl
  refine ax (NH (nT:=p.2.length) (ss:=w.2.2.2.2.2) (t:=(i:Int)) 3 (by omega) _ _ [] (by have:=hm.b;omega) hm.s ⟨M.x.c,M.x.l,M.x.d,M.x.f,M.t,hm.l⟩ hsr (by rw[hk,jQ];omega)) λy hy=>bd (by simp) ?_
  obtain⟨g2,o2⟩:=y;obtain⟨q1,q2,q3⟩:=hy;dsimp only at q1 q2 q3;have q4:=q2.u;rw[hk,jQ] at q4;refine ax (HG _ _ o2 (by omega)) λy hy=>bd (by simp) ?_
  obtain⟨g3,I⟩:=y;obtain⟨hg3,U⟩:=hy;dsimp only at hg3 U;have hL:aO (al g3.2.2.2.2.2.2.1)=2:=by
   rw[hg3];show aO (al g2.2.2.2.2.2.2.1)=2;rw[q1.h];show aO (al t.2.2.1)=2;rw[hll];rfl
  have l3:I.length=o2.length+1:=by rw[U,bu];rfl
  have J:I.length-1=o2.length:=by omega
  have iq:∀ q:Nat,q<o2.length->iA I q=iA o2 q:=λq hq=>by rw[U,Ig hq]
  have iend:iA I o2.length=(28,0,0,0,0,-1):=by rw[U,wY]
  have hreg:∀ q:Nat,q<I.length->∀ j:Int,j∈iJ (iA I q)->0<=j/\j<32:=λq hq j hj=>by
   by_cases h:q<o2.length
   .rw[iq q h] at hj;exact (q2.i q (kU _) h).o.r j hj
   .rw[show q=o2.length by omega,iend] at hj;simp[iJ] at hj
  dsimp only;rw[hL];refine ch I.length (λk x=>∃ rg:Int,x=((k:Int),p,w,g3,rg,cs,I)/\2<=rg/\rg<=32/\∀ q:Nat,q<k->∀ j:Int,j∈iJ (iA I q)->j<rg) ?_ ?_ ⟨2,rfl,by omega,by omega,λq hq=>by omega⟩
  .rintro k x hk2 ⟨rg,rfl,r0,r1,r2⟩;refine dC ?_;dsimp only;refine cD (cD (aT (aU (s5 _) ?_)));have hrk:=hreg k hk2;have hrl:=B4 (iA I k);revert hrk hrl;generalize hins:(aJ (T:=AS) I (k:Int))=ins;rw[show iA I k=ins from hins];intro hrk hrl;refine ch (iJ ins).length (λj x=>∃ rg':Int,x=((j:Int),p,w,g3,rg',cs,I)/\rg<=rg'/\rg'<=32/\∀ q:Nat,q<j->rg'>aJ (T:=.int .i64) (iJ ins) (q:Int)) ?_ ?_ ⟨rg,rfl,eJ _,r1,λq hq=>by omega⟩
   .rintro j x hj ⟨rg',rfl,s0,s1,s2⟩;refine dC ?_;refine cD (aT (ar ?_));have hz:=hrk _ (bJ (T:=.int .i64) (xs:=iJ ins) (j:=(j:Int)) (by omega) (by omega));dsimp only;obtain⟨z,hzj⟩:∃ z:Int,aJ (T:=.int .i64) (iJ ins) (j:Int)=z:=⟨_,rfl⟩
    rw[hzj] at hz ⊢;have hz0:(0:Int)<=z:=hz.1;have hz1:(32:Int)>z:=hz.2;rw[gW (by omega),ic (n:=z+1) (by omega) (by omega)];have him:rg'<=j9 rg' (z+1)/\z+1<=j9 rg' (z+1)/\j9 rg' (z+1)<=32:=by
     unfold j9;split
     .rename_i h;have h:=sW.1 h;omega
     .rename_i h;have h:=fZ.1 (Bool.eq_false_iff.2 h);omega
    refine ⟨_,rfl,by omega,him.2.2,λq hq=>?_⟩;rcases b7 q j with h1|h1
    .have:=s2 q h1;omega
    .rw[show q=j by omega,hzj];exact Int.lt_of_lt_of_le (show z<z+1 by omega) him.2.1
   .rintro x ⟨rg',rfl,s0,s1,s2⟩;refine dx (ar ?_);refine ⟨rg',by dsimp only;rw[gW (by omega)],by omega,s1,λq hq j hj=>?_⟩;rcases b7 q k with h1|h1
    .have:=r2 q h1 j hj;omega
    .rw[show q=k by omega,show iA I k=ins from hins] at hj;exact il (T:=.int .i64) (p:=λc=>rg'>c) s2 j hj
  .rintro x ⟨rg,rfl,r0,r1,r2⟩;refine dx (Ps (bk (by simp;omega) (by omega) (Pr (ar ?_))));dsimp only;have q3':(g2.2.2.2.2.2.2.2.2:Int)=(bsN p i:Nat)+(m_ 3 t.2.2.2:Nat):=q3;refine ⟨by rw[q3',hbs];omega,gW (by omega),rfl,rfl,by simp;omega,λj hj=>?_⟩;rcases b7 j i with h1|h1
   .rw[IE (T:=vD) (by rw[Z];exact h1)];exact e5 j h1
   .rw[show j=i by omega,ID (T:=vD) (by rw[Z];omega),Z,GY];refine ⟨show (1:Int)<=rg by omega,r1,show 1<=I.length by omega,show I.length<=1000000 by omega,?_,?_,?_,?_,?_⟩
    .show (iA I (I.length-1)).1=28/\(iA I (I.length-1)).2.2.2.2.2= -1;rw[J,iend];exact⟨rfl,rfl⟩
    .show qz I 0 (I.length-1);rw[J];exact q2.b.congr λq _ hq=>iq q hq
    .show ∀ q:Nat,q<I.length-1->GI p.2.length w.2.2.2.2.2 (i:Int) (iA I q);rw[J];exact λq hq=>by rw[iq q hq];exact q2.i q (kU _) hq
    .show ∀ q:Nat,q<I.length-1->(iA I q).1=10->0<=(iA I q).2.2.1/\(iA I q).2.2.1<(I.length:Int)
     rw[J];intro q hq h10;rw[iq q hq] at h10 ⊢;have:=q2.r q (kU _) hq h10;omega
    .exact λq hq j hj=>r2 q (show q<I.length by have hq:q<I.length-1:=hq;omega) j hj
 .rintro⟨⟨a,b⟩,p2,w2,cs⟩ ⟨e0,e1,e2,e3,Z,e5⟩;dsimp only at e0 e1 e2 e3 Z e5;subst e1;subst e2;subst e3;refine dx (ar ?_);have hgc:∀ t∈cs,∃ k:Nat,GC p2.2.length w2.2.2.2.2.2 (k:Int) t:=il (T:=vD) λk hk=>⟨k,e5 k (by omega)⟩
  refine ⟨by dsimp only;omega,λt ht=>?_,λt ht=>?_,M.x,UR M.x ?_ ?_⟩
  .obtain⟨k,hk⟩:=hgc t ht;exact hk.u
  .obtain⟨k,hk⟩:=hgc t ht;exact hk.r0
  .dsimp only;rw[Z,hwT]
  .dsimp only;rw[Z];exact e5
theorem KE (a b:List Int) (M:a.length<=9223372036854775807) (J:∀ z∈a,0<=z/\z<=255) (hb:b.length<=1000000):Ok (rU (a,b)) TR:=by
 unfold rU;refine ax (P:=CB) ?_ λc hc=>ax (U2 b hb) λl hl=>?_
 .unfold wW;exact ax (Ga a M J) λp hp=>ax (OC p hp.1 hp.2) λy I=>ar I
 .exact ax (ah3 c l hc (by omega)) λy I=>ar I
theorem OA (a b c:List Int) (n:Int) (n0:0<=n) (n1:n<=1000000) (M:a.length<=9223372036854775807) (J:∀ z∈a,0<=z/\z<=255) (hc:c.length<=9223372036854775807) (I:∀ z∈c,0<=z/\z<=255):Ok (kO ((a,b,c),n)) TR:=by
 unfold kO bx bE aX;refine bH (λ_=>ax (HB c n hc I) λy h=>ar h) λ_=>?_
 have h0:0<=Gh (aO b.length) n/\Gh (aO b.length) n<=(b.length:Int)/\Gh (aO b.length) n<=n:=by
  unfold Gh;split
  .rename_i h;rw[sW] at h;dsimp only[au] at h;exact⟨n0,by omega,eJ _⟩
  .rename_i h;have h:=fZ.1 (Bool.eq_false_iff.2 h);dsimp only[au] at h ⊢;exact⟨by omega,eJ _,h⟩
 refine c6 (dZ h0.1 (dZ h0.2.1 ?_));have h1:(du (aS (Gh (aO b.length) n)) b).length<=1000000:=by rw[bD];have:=h0.1;have:=h0.2.2;omega
 exact ax (KE a _ M J h1) λy h=>ar h
def HS.zero (w:vw):HS:=⟨aG w.2.2.2.2.1.length [],aG w.2.2.2.2.1.length [],aG w.2.1.length [],aG w.2.1.length [],aG w.1.length [],aG w.2.2.2.1.length [],[],aG w.2.2.2.2.1.length [],aG w.2.2.2.2.1.length (-1)⟩
theorem HS.zero_ok {w:vw} (h1:w.1.length<=1000) (h2:w.2.1.length<=1000) (J:w.2.2.2.1.length<=1000) (I:w.2.2.2.2.1.length<=1000):OJ 0 (HS.zero w):=by
 have z:(0:Int)<=0:=by omega
 exact⟨z,by omega,AK.repl z _,AK.repl z _,AK.repl z _,AK.repl z _,AK.repl z _,AK.repl z _,En.nil z,AK.repl z _,by simpa[HS.zero] using I,by simp[HS.zero],by simp[HS.zero],by simp[HS.zero],by simpa[HS.zero] using h2,by simp[HS.zero],by simpa[HS.zero] using h1,by simpa[HS.zero] using J⟩
structure Wu (w:vw) (h:HS):Prop where
 T:h.T.length=w.2.2.2.2.1.length
 L:h.L.length=w.2.1.length
 C:h.C.length=w.1.length
 F:h.F.length=w.2.2.2.1.length
theorem Wu.zero (w:vw):Wu w (HS.zero w):=⟨by simp[HS.zero],by simp[HS.zero],by simp[HS.zero],by simp[HS.zero]⟩
theorem Wu.ent {w:vw} {h:HS} (f:Wu w h) (e:EV) (x:List Int):Wu w (h_ w h e x):=by
 obtain⟨a,b,c,d,g,i,j,k⟩:=uR w h e x;exact⟨a.trans f.T,c.trans f.L,g.trans f.C,i.trans f.F⟩
theorem Wu.step {w:vw} {h:HS} (f:Wu w h) (e:EV):Wu w (EW w h e).1:=f.ent e _
def evP (e:ET):EV:=⟨e.1.toNat,e.2.1.toNat,e.2.2.1.toNat,e.2.2.2.1⟩
theorem ajk {w:WT} {e:ET} (f:EvF w e):EvT (evP e) e:=by
 obtain⟨⟨k1,k2,ce,lk,cd,th,fu⟩,t0,_,_⟩:=f;refine ⟨(F8 t0).symm,(F8 (by omega)).symm,λh=>(F8 ?_).symm,rfl⟩;unfold evP at h;simp only[bi,cr,fY] at h;by_cases h1:e.2.1=3\/e.2.1=4
 .exact (ce h1).1
 by_cases h2:6<=e.2.1/\e.2.1<=11
 .exact (lk h2).1
 by_cases M:16<=e.2.1/\e.2.1<=19
 .exact (cd M).1
 by_cases J:e.2.1=20\/e.2.1=21
 .exact (th J).1
 by_cases I:e.2.1=22\/e.2.1=23
 .exact (fu I).1
 omega
theorem NT {w:WT} {e:ET} (f:EvF w e) (wb:WB w) {h:HS} (I:Wu w h):EOK w h (evP e):=by
 obtain⟨⟨k1,k2,ce,lk,cd,th,fu⟩,t0,t1,J⟩:=f;have b5:=wb.t;have Z:=I.T;have Y:=I.L;have U:=I.C;have M:=I.F;unfold evP;refine ⟨by dsimp only;omega,by dsimp only;omega,by dsimp only;omega,by dsimp only;omega,λq=>?_,λq=>?_,λq=>?_,λq=>?_,λq=>?_⟩<;>dsimp only at q ⊢
 .have:=th (by omega);omega
 .have:=lk (by omega);omega
 .have g:=cd (by omega);have hl:e.2.2.1.toNat<w.2.2.1.length:=by omega
  have hm:=J (w.2.2.1.getD e.2.2.1.toNat ([],0)) (by rw[ay,aA hl];exact uC hl);refine ⟨hl,hm.1,?_⟩;unfold Vu;have:=hm.2;have:=hm.1;omega
 .have:=ce (by omega);omega
 .have:=fu (by omega);omega
theorem je {σ R:Type} {f:σ->Option (σ⊕R)} {Q:R->Prop} (n:Nat) (hn:n<=1000000) (I:Nat->σ->Prop) (h0:∀ i x,i<n->I i x->Ok (f x) λr=>match r with|.inl y=>I (i+1) y|.inr r=>Q r) (h1:∀ x,I n x->Ok (f x) λr=>match r with|.inl _=>False|.inr r=>Q r) {x:σ} (U:I 0 x):Ok (fX f x) Q:=by
 have key:∀ m i x,i+m=n->I i x->∃ r,iterN f (m+1) x=af r/\Q r:=by
  intro m;induction m with
  |zero=>
   intro i x hi U;have:i=n:=by omega
   subst this;obtain⟨r,M,J⟩:=h1 x U;cases r with
   |inl y=>exact J.elim
   |inr r=>exact⟨r,by rw[iterN,M],J⟩
  |succ m Y=>
   intro i x hi U;obtain⟨r,M,J⟩:=h0 i x (by omega) U;cases r with
   |inl y=>
    obtain⟨r,g3,Z⟩:=Y (i+1) y (by omega) J;exact⟨r,by rw[iterN,M];exact g3,Z⟩
   |inr r=>exact⟨r,yF (n:=1) (by rw[iterN,M]) (by omega),J⟩
 obtain⟨r,M,J⟩:=key n 0 x (by omega) U;exact⟨r,yF M (by omega),J⟩
theorem MQ (a b:Int):eU (a,b)=af (decide (0<=a/\a<b)):=by
 refine cJ ?_;unfold eU jN aE;with_reducible repeat' first|(refine OS.ok ?_;constructor)|refine IM.mk λ_=>?_
 .by_cases h:a<b<;>simp[*,fP]
 .simp;omega
theorem Sh (l:List Int) (t:Int) (hl:l.length<=1000):km (l,t)=af (l.contains t):=by
 refine cJ ?_;unfold km re xg be bx bK aX cK aE cB;refine ax (P:=λy:Int=>0<=y↔t∈l) ?_ λy I=>ar ?_
 .refine je l.length (by omega) (λi x=>x=(i:Int)/\∀ j,j<i->¬l.getD j 0=t) ?_ ?_ ⟨rfl,λj hj=>by omega⟩
  .rintro i x hi ⟨rfl,hn⟩;refine dC ?_;refine cD (aT (aK (λh=>ar ?_) λh=>ar ?_))
   .refine ⟨λ_=>?_,λ_=>by omega⟩;have h:t=aJ (T:=.int .i64) l (i:Int):=h;rw[h];exact bJ (T:=.int .i64) (xs:=l) (by omega) (by omega)
   .refine ⟨gW (by omega),λj hj=>?_⟩;have h:¬t=l.getD i 0:=h;by_cases e:j=i
    .subst e;exact λg=>h g.symm
    .exact hn j (by omega)
  .rintro x ⟨rfl,hn⟩;refine dx (ar ?_);refine ⟨λg=>(by omega),λg=>?_⟩;obtain⟨j,hj,e⟩:=List.getElem_of_mem g;exact (hn j hj (by rw[ay,aA hj];exact e)).elim
 .by_cases h:t∈l
  .have:=I.2 h;simp[cV,h,this]
  .have:¬0<=y:=λg=>h (I.1 g)
   simp[cV,h,this]
theorem afk (w:WT) (s:SY) (I:w.2.2.1.length<=1000) (cd:∀ c∈w.2.2.1,0<=c.2/\c.2<w.2.1.length) (e1:s.1.length=w.2.1.length) (e2:s.2.2.1.length=w.2.2.2.1.length) (e3:s.2.2.2.length=w.2.2.2.2.1.length):j8 (w,s)=af ai:=by
 refine cJ ?_;unfold j8 sX aV bg bp db bx iI bK aX cK aE cB;refine aY (λx=>x=(aj,w)) ?_ ?_
 .refine b8 (λh=>(h (by dsimp only[au];omega)).elim) λ_=>b8 (λh=>(h (by dsimp only[au];omega)).elim) λ_=>ar ?_
  dsimp only[au];rw[e3];simp
 rintro x rfl;refine fE (je w.2.2.1.length (by omega) (λi x=>x=((i:Int),w)) ?_ ?_ rfl)
 .rintro i x hi rfl;refine dC ?_;refine cD (aT (aU (MQ _ _) (b8 (λh=>(h ?_).elim) λ_=>ar ?_)))
  .exact cd _ (bJ (T:=Sk) (xs:=w.2.2.1) (j:=(i:Int)) (by omega) (by omega))
  .dsimp only;rw[gW (by omega)]
 .rintro x rfl;exact dx (ar rfl)
theorem Z_ (w:WT) (k o:Int) (h:NM w k o):lK (w,k,o)=af ai:=by
 refine cJ ?_;obtain⟨k1,k2,ce,lk,cn,th,fu,no,mu,rw_⟩:=h;unfold lK aV bg bp cw be bK aX aE;rcases @Ib k with rfl|rfl|rfl|rfl|rfl|rfl|rfl|rfl|rfl|rfl|rfl|rfl|rfl|rfl|rfl|rfl|rfl|rfl|rfl|rfl|rfl|rfl|rfl|⟨hk,I⟩
 case inr.inr.inr.inr.inr.inr.inr.inr.inr.inr.inr.inr.inr.inr.inr.inr.inr.inr.inr.inr.inr.inr.inr=>omega
 all_goals simp only[aZ,bm,sG,MQ]
 all_goals with_reducible repeat' first|(refine OS.ok ?_;constructor)|refine IM.mk λ_=>?_
 all_goals try simp only[au,qG] at*
 all_goals first|omega|exact rw_ ⟨by decide,by decide⟩|(simp only[*,Bool.not_false,dL];done)
theorem afu {n:Nat} (w:WT) (s:SY) (hs:SB n s) (hn:n<=1000) (t k o:Int) (he:EN w s t k o) (hr:UW w s t k o):ox (w,s,t,k,o)=af ai:=by
 refine cJ ?_;obtain⟨nm,t0,t1,cd,e1,e2,e3⟩:=id he;obtain⟨_,_,ce,lk,cn,th,fu,no,mu,rw_⟩:=nm;obtain⟨_,_,_,aq,wr,ra,rl,rr,xb,xe,ab,ae,nt,sp,jo,se,ge⟩:=hr;have hm:16<=k/\k<=19->0<=(aJ (T:=Sk) w.2.2.1 o).2/\(aJ (T:=Sk) w.2.2.1 o).2<w.2.1.length:=λh=>cd _ (bJ (cn h).1 (cn h).2)
 have J:6<=k/\k<=11->km ((aJ (T:=zR) s.1 o).2,t)=af ((aJ (T:=zR) s.1 o).2.contains t):=λh=>Sh _ _ (by
  have:=hs.rd _ (bJ (T:=zR) (lk h).1 (by have:=(lk h).2;omega));omega)
 have lk1:6<=k/\k<=11->0<=o/\o<(s.1.length:Int):=λh=>by have:=lk h;omega
 have I:t<(s.2.2.2.length:Int):=by omega
 have fu1:k=22\/k=23->0<=o/\o<(s.2.2.1.length:Int):=λh=>by have:=fu h;omega
 have th1:k=20\/k=21->0<=o/\o<(s.2.2.2.length:Int):=λh=>by have:=th h;omega
 have tr:∀ {p:Prop} [Decidable p],p->decide p=ai:=λh=>aQ h
 unfold ox aV bg bp db cO be iI bK aX aE;refine aK (λh=>?_) λZ=>?_
 .have h:k=6:=h;exact aR (lk1 (by omega)).1 (lk1 (by omega)).2 (aT (ar (tr (aq (.inl h)))))
 refine aK (λh=>?_) λM=>?_
 .have h:k=10:=h;refine gJ (aR (lk1 (by omega)).1 (lk1 (by omega)).2 (aT (aK (λ_=>?_) λg=>(g (aq (.inr (.inr h)))).elim)));refine aR (lk1 (by omega)).1 (lk1 (by omega)).2 (aT (ar (ar (tr ?_))));have:=wr h;dsimp only[au] at this ⊢;omega
 refine aK (λh=>?_) λY=>?_
 .have h:k=8:=h;refine gJ (aR (lk1 (by omega)).1 (lk1 (by omega)).2 (aT (aK (λ_=>?_) λg=>(g (aq (.inr (.inl h)))).elim)));refine aR (lk1 (by omega)).1 (lk1 (by omega)).2 (aT (aU (J (by omega)) (ar (ar ?_))));rw[ra h];rfl
 refine aY (λx=>x.2=(w,s)/\(x.1=ai↔k=7\/k=11)) (aK (λh=>ar ⟨rfl,λ_=>.inl h,λ_=>tr h⟩) λh=>ar ⟨rfl,λh2=>.inr (bt h2),λh2=>tr (h2.resolve_left h)⟩) ?_;rintro⟨b,x⟩ ⟨e,hb⟩;dsimp only at e hb;subst e;refine aP (λh=>?_) λ_=>?_
 .have h:=hb.1 h;exact aR (lk1 (by omega)).1 (lk1 (by omega)).2 (aT (ar (tr (rl h))))
 refine aK (λh=>?_) λU=>?_
 .have h:k=9:=h;refine aR (lk1 (by omega)).1 (lk1 (by omega)).2 (aT (aU (J (by omega)) (ar (rr h))))
 refine aK (λh=>ar (tr (xb h))) λ_=>aK (λh=>ar (tr (xe h))) λ_=>?_
 refine aK (λh=>aR t0 I (aT (ar (by have:=ab h;dsimp only at this ⊢;rw[this];rfl)))) λ_=>aK (λh=>aR t0 I (aT (ar (ae h)))) λ_=>?_
 refine aY (λx=>x.2=(w,s)/\(x.1=ai->k=16\/k=18\/k=19)) (aK (λh=>ar ⟨rfl,λ_=>.inl h⟩) λ_=>aK (λh=>ar ⟨rfl,λ_=>.inr (.inl h)⟩) λ_=>ar ⟨rfl,λh=>.inr (.inr (bt h))⟩) ?_;rintro⟨c,x⟩ ⟨e,hc⟩;dsimp only at e hc;subst e;refine aP (λh=>?_) λ_=>?_
 .have h:=hc h;have hq:=hm (by omega);exact aR (cn (by omega)).1 (cn (by omega)).2 (aT (aR hq.1 (by rw[e1];exact hq.2) (aT (ar (tr (nt h))))))
 refine aK (λh=>?_) λ_=>?_
 .have h:k=20:=h;exact gJ (b8 (λ_=>aR (th1 (.inl h)).1 (th1 (.inl h)).2 (aT (ar (ar (tr (sp h).2))))) λg=>((sp h).1 g).elim)
 refine aK (λh=>?_) λ_=>?_
 .have h:k=21:=h;exact gJ (b8 (λ_=>aR (th1 (.inr h)).1 (th1 (.inr h)).2 (aT (ar (ar (tr (jo h).2))))) λg=>((jo h).1 g).elim)
 refine aK (λh=>aR (fu1 (.inl h)).1 (fu1 (.inl h)).2 (aT (ar (by have:=se h;dsimp only at this ⊢;rw[this];rfl)))) λ_=>aK (λh=>aR (fu1 (.inr h)).1 (fu1 (.inr h)).2 (aT (ar (ge h)))) λ_=>ar rfl
theorem Do {n:Nat} (w:WT) (s:SY) (hs:SB n s) (hn:n<=1000) (U:w.2.2.1.length<=1000) (t k o:Int) (he:EN w s t k o) (hr:UW w s t k o):iX (w,s,t,k,o)=af ai:=by
 refine cJ ?_;obtain⟨nm,t0,t1,cd,e1,e2,e3⟩:=id he;have hrd:=afu w s hs hn t k o he hr;have M:t<(s.2.2.2.length:Int):=by omega
 unfold iX aV bg bp bL db cO be bK aX aE;refine aY (λx=>x=(aj,w,s)) ?_ ?_
 .refine aU (afk w s U cd e1 e2 e3) (fD rfl (aU (MQ _ _) ?_));refine b8 (λh=>(h ⟨t0,t1⟩).elim) λ_=>aU (Z_ w k o nm) (ar rfl)
 rintro x rfl;refine fE (aR t0 M (aT ?_));refine aK (λh=>ar (aQ (hr.b h))) λn1=>?_
 refine aK (λh=>?_) λn17=>?_
 .have h:k=17:=h;obtain⟨a1,a2,a3⟩:=hr.wk h;obtain⟨J,I⟩:=nm.cd (by omega);have hq:=cd _ (bJ (T:=Sk) (xs:=w.2.2.1) (j:=o) J I);refine gJ (aK (λ_=>aK (λ_=>?_) λg=>(g a2).elim) λg=>(g a1).elim);exact aR J I (aT (aR hq.1 (by rw[e1];exact hq.2) (aT (ar (ar (aQ a3))))))
 refine gJ (aK (λ_=>aU hrd (ar (ar rfl))) λg=>(g (hr.r n1 n17)).elim)
theorem abq (w:WT) (e:ET) (h1:e.2.1=1\/e.2.1=2->e.2.2.2.2.1= -1) (h2:¬(e.2.1=1\/e.2.1=2)->0<=e.2.2.2.2.1/\e.2.2.2.2.1<w.2.2.2.2.2.length/\(aJ (T:=xy) w.2.2.2.2.2 e.2.2.2.2.1).1=e.1):jv (w,e)=af ai:=by
 refine cJ ?_;unfold jv aV dN cO be bx jN bK aX aE;refine aY (λx=>x.2=(w,e)/\(x.1=ai↔e.2.1=1\/e.2.1=2)) (aK (λh=>ar ⟨rfl,λ_=>.inl h,λ_=>rfl⟩) λh=>ar ⟨rfl,λh2=>.inr (bt h2),λh2=>aQ (h2.resolve_left h)⟩) ?_;rintro⟨b,x⟩ ⟨e1,hb⟩;dsimp only at e1 hb;subst e1;refine aP (λh=>ar (aQ (h1 (hb.1 h)))) λh=>?_
 obtain⟨a1,a2,a3⟩:=h2 λg=>by rw[hb.2 g] at h;cases h
 exact gJ (fw (λ_=>dC (aR a1 a2 (aT (ar (ar (aQ a3)))))) λg=>(by dsimp only at g;omega))
theorem Z8 {l:List Int} (h:GR l) (i:Nat) (hi:i<l.length):∀ z∈l.drop (i+1),l.getD i 0<z:=by
 induction l generalizing i with
 |nil=>cases hi
 |cons a l I=>
  cases i with
  |zero=>exact λz J=>h.1 z (by simpa using J)
  |succ i=>exact I h.2 i (by simpa using hi)
theorem QN (w:WT) (s:SN) (e:ET) (ce:e.2.1=3\/e.2.1=4->0<=e.2.2.1/\e.2.2.1<w.1.length) (de:0<e.2.2.2.2.2.1.length->e.2.1=5\/(e.2.1=3\/e.2.1=4)/\¬(aJ (T:=OZ) w.1 e.2.2.1).2.2.1=0) (fr:0<e.2.2.2.2.2.2.length->e.2.1=4\/e.2.1=22) (t0:0<=e.1) (t1:e.1<s.2.2.2.length) (nd:AN (aJ (T:=.int .i64) s.2.2.2 e.1) e.2.2.2.2.2.1) (nf:AN (aJ (T:=.int .i64) s.2.2.2 e.1) e.2.2.2.2.2.2) (ld:e.2.2.2.2.2.1.length<=1000000) (lf:e.2.2.2.2.2.2.length<=1000000):eQ (w,s,e)=af ai:=by
 refine cJ ?_;unfold eQ jh aV bg bp cw bL db eP be bx jN bE bK aX cK aE cB;refine aY (λx=>x.2=(s,e)/\((e.2.1=3\/e.2.1=4)/\¬(aJ (T:=OZ) w.1 e.2.2.1).2.2.1=0->x.1=ai)) ?_ ?_
 .refine aK (λh=>?_) λn3=>aK (λh=>?_) λn4=>?_
  .exact aR (ce (.inl h)).1 (ce (.inl h)).2 (aT (ar ⟨rfl,λg=>by simpa using g.2⟩))
  .exact aR (ce (.inr h)).1 (ce (.inr h)).2 (aT (ar ⟨rfl,λg=>by simpa using g.2⟩))
  .exact ar ⟨rfl,λg=>(g.1.elim n3 n4).elim⟩
 rintro⟨b,x⟩ ⟨e1,hb⟩;dsimp only at e1 hb;subst e1;refine aY (λx=>x.1=s/\x.2.1=e/\(0<e.2.2.2.2.2.1.length->x.2.2.1=ai)/\(0<e.2.2.2.2.2.2.length->x.2.2.2=ai)) ?_ ?_
 .refine aK (λZ=>aK (λI=>ar ⟨rfl,rfl,λ_=>rfl,λ_=>rfl⟩) λI=>ar ⟨rfl,rfl,λ_=>rfl,λg=>?_⟩) λZ=>aK (λI=>ar ⟨rfl,rfl,λg=>?_,λ_=>rfl⟩) λI=>ar ⟨rfl,rfl,λg=>?_,λg=>?_⟩
  .exact aQ ((fr g).resolve_left I)
  .exact hb ((de g).resolve_left Z)
  .exact hb ((de g).resolve_left Z)
  .exact aQ ((fr g).resolve_left I)
 rintro⟨s',e',a,b'⟩ ⟨e1,e2,h1,h2⟩;dsimp only at e1 e2 h1 h2;subst e1;subst e2;have key:∀ (r:List Int),r.length<=1000000->AN (aJ (T:=.int .i64) s'.2.2.2 e'.1) r->∀ j:Nat,j<r.length->∀ z∈r.drop (j+1),aJ (T:=.int .i64) r (j:Int)<z:=λr _ h j hj z U=>Z8 h.a j hj z U
 refine je 2 (by omega) (λi x=>x=((i:Int),s',e',a,b')) ?_ ?_ rfl
 .rintro i x hi rfl;refine dC ?_;refine c6 (dZ (by dsimp only;omega) (zF (by dsimp only;omega) (aT ?_)));have hr:∃ r:List Int,aJ (T:=.sl (.int .i64)) [e'.2.2.2.2.2.1,e'.2.2.2.2.2.2] (i:Int)=r/\AN (aJ (T:=.int .i64) s'.2.2.2 e'.1) r/\r.length<=1000000/\(0<r.length->aJ (T:=.bool) [a,b'] (i:Int)=ai):=by
   match i,hi with
   |0,_=>exact⟨_,rfl,nd,ld,h1⟩
   |1,_=>exact⟨_,rfl,nf,lf,h2⟩
  obtain⟨r,er,hA,hl,Y⟩:=hr;have er':aJ (T:=.sl aM) [e'.2.2.2.2.2.1,e'.2.2.2.2.2.2] (i:Int)=r:=er;dsimp only at er' ⊢;rw[er'];refine aY (λx=>x=(aj,s',e',a,b')) ?_ ?_
  .refine bH (λg=>?_) λ_=>ar rfl
   have g':0<r.length:=by dsimp only[au] at g;omega
   refine c6 (dZ (by omega) (zF (by omega) (cD (aT (ar ?_)))));rw[Y g'];rfl
  rintro x rfl;refine fE ?_;refine je r.length (by omega) (λj x=>x.1.2=(j:Int)/\x.2=(s',e',a,b')/\∀ z∈r.drop j,x.1.1<z) ?_ ?_ ⟨rfl,rfl,λz U=>?_⟩
  .rintro j ⟨⟨la,ix⟩,x⟩ hj ⟨M,J,g3⟩;dsimp only at M J g3;subst M;subst J;have m:aJ (T:=.int .i64) r (j:Int)∈r:=bJ (T:=.int .i64) (xs:=r) (by omega) (by omega);have m2:aJ (T:=.int .i64) r (j:Int)∈r.drop j:=by
    have:aJ (T:=.int .i64) r (j:Int)=r[j]:=by
     show r.getD j 0=_;rw[ay,aA hj];rfl
    rw[this,List.drop_eq_getElem_cons hj];exact dv
   refine dC ?_;refine cD (aT (aY (λx=>x=(aj,s',e',a,b')) ?_ ?_))
   .refine fw (λg=>?_) λ_=>aR t0 t1 (aT (ar ?_))
    .have q1:=g3 _ m2;exact cU q1 (by dsimp only at g;exact λq=>cU (Int.lt_of_lt_of_le q g) (Int.lt_irrefl _))
    .have:=(hA.m _ m).2;rw[lP.2 (show aJ (T:=.int .i64) r (j:Int)<aJ (T:=.int .i64) s'.2.2.2 e'.1 from this)]
   rintro x rfl;exact fE (ar ⟨gW (by omega),rfl,key r hl hA j hj⟩)
  .rintro⟨⟨la,ix⟩,x⟩ ⟨M,J,_⟩;dsimp only at M J;subst M;subst J;exact dx (ar (gE (·,s',e',a,b') (gW (by omega))))
  .have:=(hA.m z (by simpa using U)).1;dsimp only;omega
 .rintro x rfl;exact dx (ar rfl)
theorem aji (w:WT) (s:SN) (I:w.2.2.1.length<=1000) (t k o:Int) (he:EN w s.1 t k o) (hf:F16 w s):kL (w,s)=af ai:=by
 obtain⟨_,_,_,cd,e1,e2,e3⟩:=he;obtain⟨U,M,J⟩:=hf;refine cJ ?_;unfold kL aV bg bp db be aX aE;refine gJ (aU (afk w s.1 I cd e1 e2 e3) (Vs (aK (λ_=>aK (λ_=>ar (ar (aQ ?_))) λg=>(g ?_).elim) λg=>(g ?_).elim)));all_goals dsimp only[au];omega
theorem G1 (th:List (Int×Int×Bool)) (c:Int) (i:Nat):wl th c (i+1)=if Hn c (aJ (T:=ju) th (i:Int)) then wl th c i++[(i:Int)] else wl th c i:=rfl
theorem abd {n:Nat} (w:WT) (s:SN) (hs:SB n s.1) (e:ET) (hf:F16 w s) (he:EN w s.1 e.1 e.2.1 e.2.2.1) (va:VA w s.1 s.2.1 s.2.2.1 e.1 e.2.1 e.2.2.1 e.2.2.2.1):gk (s,e)=af ai:=by
 refine cJ ?_;obtain⟨t,k,o,v,si,de,fr⟩:=e;obtain⟨s1,s2,s3,s4⟩:=s;obtain⟨nm,t0,t1,cd,e1,e2,e3⟩:=he;obtain⟨_,_,ce,lk,cn,th,fu,_,_,_⟩:=nm;obtain⟨f1,f2,f3⟩:=hf;have hth:=hs.th;obtain⟨v3,Y,v5,vel⟩:=va;dsimp only at*
 unfold gk lx aV bg bp cw bL be bx bK aX cK aE cB;refine aK (λh=>?_) λn3=>?_
 .have h:k=3:=h;obtain⟨c0,c1⟩:=ce (.inl h);exact aR c0 (by rw[f1];exact c1) (aT (ar (aQ (v3 h))))
 refine aK (λh=>?_) λZ=>?_
 .have h:k=23:=h;obtain⟨c0,c1⟩:=fu (.inr h);exact aR c0 (by rw[f2];exact c1) (aT (ar (aQ (Y h))))
 refine aK (λh=>?_) λn5=>?_
 .have h:k=5:=h;exact gJ (aK (λ_=>ar (ar rfl)) λg=>ar (ar (aQ ((v5 h).resolve_left g))))
 refine aY (λx=>x.2=((s1,s2,s3,s4),t,k,o,v,si,de,fr)/\(x.1=aj->¬k=4/\¬k=22)) (aK (λh=>ar ⟨rfl,λh2=>(by rw[aQ h] at h2;cases h2)⟩) λh=>ar ⟨rfl,λh2=>⟨h,Sn h2⟩⟩) ?_;rintro⟨b,x⟩ ⟨e,hb⟩;dsimp only at e hb;subst e;refine aP (λh=>ar rfl) λh=>?_
 obtain⟨n4,n22⟩:=hb h;have vel:=vel n3 Z n5 n4 n22;have hWl:=vb s1.2.2.2 o s1.2.2.2.length;refine aK (λh=>?_) λn18=>?_
 .have h:k=18:=h;subst h;rw[EE] at vel;refine je s1.2.2.2.length (by omega) (λi x=>x.1.2.2=(i:Int)/\x.2=(t,18,o,v,si,de,fr)/\x.1.1=((wl s1.2.2.2 o i).length:Int)/\(x.1.2.1=ai↔v∈wl s1.2.2.2 o i)) ?_ ?_ ⟨rfl,rfl,rfl,by simp[wl]⟩
  .rintro i ⟨⟨c,hit,ix⟩,x⟩ hi ⟨J,I,M,U⟩;dsimp only at J I M U;subst J;subst I;subst M;have hl:=vb s1.2.2.2 o i;refine dC ?_;refine aY (λx=>x.2=(t,18,o,v,si,de,fr)/\x.1.1=((wl s1.2.2.2 o (i+1)).length:Int)/\(x.1.2=ai↔v∈wl s1.2.2.2 o (i+1))) ?_ ?_
   .refine cD (aT (aY (λx=>x=(Hn o (aJ (T:=ju) s1.2.2.2 (i:Int)),t,18,o,v,si,de,fr)) ?_ ?_))
    .unfold Hn;refine aK (λh=>ar ?_) λh=>ar ?_
     .dsimp only at h ⊢;rw[h];rfl
     .dsimp only at h ⊢;rw[bF h];rfl
    rintro x rfl;rw[G1];dsimp only;cases hw:Hn o (aJ (T:=ju) s1.2.2.2 (i:Int)) with
    |true=>
     refine Vs (aP (λh=>ar ⟨rfl,?_,?_⟩) λh=>ar ⟨rfl,?_,?_⟩)
     .dsimp only;rw[gW (by omega)];simp
     .simp[U.1 h]
     .dsimp only;rw[gW (by omega)];simp
     .have:¬v∈wl s1.2.2.2 o i:=λg=>by rw[U.2 g] at h;cases h
      simp[this]
    |false=>exact fE (ar ⟨rfl,rfl,U⟩)
   rintro⟨⟨c,hit'⟩,x⟩ ⟨J,I,M⟩;dsimp only at J I M;subst J;subst I;exact ar ⟨gW (by omega),rfl,rfl,M⟩
  .rintro⟨⟨c,hit,ix⟩,x⟩ ⟨J,I,M,U⟩;dsimp only at J I M U;subst J;subst I;subst M;refine dx (ax (P:=λy=>y=ai) (gJ (aP (λ_=>ar (ar rfl)) λh=>?_)) λy hy=>ar hy);have hn:¬v∈wl s1.2.2.2 o s1.2.2.2.length:=λg=>by rw[U.2 g] at h;cases h
   by_cases h0:(wl s1.2.2.2 o s1.2.2.2.length).length=0
   .rw[aF h0] at vel;refine aK (λ_=>ar (ar (aQ vel))) λg=>(g (by dsimp only;omega)).elim
   .rw[aC h0] at vel;have vel:v=AF (wl s1.2.2.2 o s1.2.2.2.length) v:=vel;exact (hn (vel▸Hh v h0)).elim
 refine aK (λh=>?_) λn19=>?_
 .have h:k=19:=h;subst h;rw[agl] at vel;refine je s1.2.2.2.length (by omega) (λi x=>x.1.2=(i:Int)/\x.2=(t,19,o,v,si,de,fr)/\x.1.1=((wl s1.2.2.2 o i).length:Int)) ?_ ?_ ⟨rfl,rfl,rfl⟩
  .rintro i ⟨⟨c,ix⟩,x⟩ hi ⟨J,I,M⟩;dsimp only at J I M;subst J;subst I;subst M;have hl:=vb s1.2.2.2 o i;refine dC ?_;refine aY (λx=>x.2=(t,19,o,v,si,de,fr)/\x.1=((wl s1.2.2.2 o (i+1)).length:Int)) ?_ ?_
   .refine cD (aT (aY (λx=>x=(Hn o (aJ (T:=ju) s1.2.2.2 (i:Int)),t,19,o,v,si,de,fr)) ?_ ?_))
    .unfold Hn;refine aK (λh=>ar ?_) λh=>ar ?_
     .dsimp only at h ⊢;rw[h];rfl
     .dsimp only at h ⊢;rw[bF h];rfl
    rintro x rfl;rw[G1];dsimp only;cases hw:Hn o (aJ (T:=ju) s1.2.2.2 (i:Int)) with
    |true=>
     refine Vs (ar ⟨rfl,?_⟩);dsimp only;rw[gW (by omega)];simp
    |false=>exact fE (ar ⟨rfl,rfl⟩)
   rintro⟨c,x⟩ ⟨J,I⟩;dsimp only at J I;subst J;subst I;exact ar ⟨gW (by omega),rfl,rfl⟩
  .rintro⟨⟨c,ix⟩,x⟩ ⟨J,I,M⟩;dsimp only at J I M;subst J;subst I;subst M;exact dx (ar (aQ vel))
 exact ar (aQ (by rw[af2 _ _ _ _ _ _ n18 n19] at vel;exact vel))
theorem Yy (x:Int×Int×Bool) (c:Int):mb (x,c)=af (Hn c x):=by
 refine cJ ?_;unfold mb Hn be aE;refine gJ (aK (λh=>ar (ar ?_)) λh=>ar (ar ?_))
 .have h:x.1=3:=h;rw[h];rfl
 .have h:¬x.1=3:=h;rw[bF h];rfl
theorem ZU {n:Nat} (s:SY) (hs:SB n s):kl s=af (s.2.1,s.1,s.2.2.1,s.2.2.2):=by
 refine cJ ?_;obtain⟨s1,s2,J,I⟩:=s;have hn:=hs.n1;have hlk:=hs.lk;have hdn:=hs.dn;have hth:=hs.th;have hrd:=hs.rd;dsimp only at hlk hdn hth hrd;unfold kl rI aV bL ck bx bE bK aX cK cB;dsimp only[au];refine c6 (c6 (dZ (by omega) (dZ (by omega) (bk (by simp;omega) (by omega) ?_))));refine je s1.length (by omega) (λi x=>∃ c d,x=((i:Int),(s1,s2,J,I),c,d)/\d.length=s1.length/\∀ j,j<i->d.getD j (0,[])=s1.getD j (0,[])) ?_ ?_ ⟨_,_,rfl,by simp,λj hj=>by omega⟩
 .rintro i x hi ⟨c,d,rfl,hd,he⟩;have hr:=hrd _ (bJ (T:=zR) (xs:=s1) (j:=(i:Int)) (by omega) (by omega));refine dC ?_;refine cD (aT (aU (x:=(aJ (T:=zR) s1 (i:Int)).2) (cJ ?_) ?_))
  .exact bk (by dsimp only;omega) (by omega) (ar rfl)
  refine cD (cD (ar ⟨c,d.set i (aJ (T:=zR) s1 (i:Int)),?_,by simp[hd],λj hj=>?_⟩))
  .dsimp only;rw[gW (by omega)];rfl
  .by_cases e:i=j
   .subst e;rw[ay,List.getElem?_set_self (by omega)];rfl
   .rw[ay,List.getElem?_set_ne e,<-ay];exact he j (by omega)
 .rintro x ⟨c,d,rfl,hd,he⟩;have:d=s1:=by
   refine dw hd λj Y M=>?_
   have:=he j M;rw[ay,ay,aA Y,aA M] at this;exact this
  subst this;refine dx (ax (P:=λy=>y=(s2,d,J,I)) ?_ λy U=>ar U);refine aU (x:=J) (cJ (bk (by dsimp only;omega) (by omega) (ar rfl))) (aU (x:=I) (cJ (bk (by dsimp only;omega) (by omega) (ar rfl))) (ar rfl))
theorem V_ (l:List Int) (i u:Int):AF (l++[i]) u=if l.length=0 then i else if i=u then i else AF l u:=by
 unfold AF;cases l with
 |nil=>
  by_cases h:u=i
  .subst h;simp
  .simp[h];rfl
 |cons a r=>
  have e1:¬(a::r++[i]).length=0:=by simp
  have e2:¬(a::r).length=0:=by simp
  simp only[aC e1,aC e2];by_cases h:i=u
  .subst h;simp
  .have h':¬u=i:=λg=>h g.symm
   rw[aC h];have:(a::r++[i]).contains u=(a::r).contains u:=by simp[h']
   rw[this];rfl
theorem Om {th:List (Int×Int×Bool)} {c u:Int} {i:Nat} (h:¬(wl th c i).length=0):0<=AF (wl th c i) u/\AF (wl th c i) u<i:=by
 have:=qN.1 (Hh u h);exact⟨this.1,this.2.1⟩
theorem JP {l:List Int} {u:Int} (h:l.length=0):AF l u= -1:=by unfold AF;rw[aF h]
theorem abw (s:SY) (o u:Int) (hs:s.2.2.2.length<=1000):jA ((s.2.1,o,u),s.1,s.2.2.1,s.2.2.2)=af (AF (wl s.2.2.2 o s.2.2.2.length) u,s.1,s.2.2.1,if (wl s.2.2.2 o s.2.2.2.length).length=0 then s.2.2.2 else xz s.2.2.2 (AF (wl s.2.2.2 o s.2.2.2.length) u) 4):=by
 refine cJ ?_;obtain⟨s1,s2,J,I⟩:=s;dsimp only at hs ⊢;unfold jA qg aV bg bL ck bx jN kA aX cK aE cB;dsimp only[au];refine je I.length (by omega) (λi x=>x=((AF (wl I o i) u,(i:Int)),s1,J,I,s2)) ?_ ?_ rfl
 .rintro i x hi rfl;refine dC ?_;refine aY (λx=>x=(AF (wl I o (i+1)) u,s1,J,I,s2)) ?_ ?_
  .refine cD (cD (aT ?_));refine aY (λx=>x=(decide (Hn o (aJ (T:=ju) I (i:Int))=ai/\((wl I o i).length=0\/(i:Int)=u)),s1,J,I,s2)) ?_ ?_
   .refine aU (Yy _ _) (aP (λh=>?_) λh=>ar ?_)
    .have h:Hn o (aJ (T:=ju) I (i:Int))=ai:=h;refine bH (λg=>ar ?_) λg=>ar ?_
     .have:(wl I o i).length=0:=u_ λq=>by have:=(Om (u:=u) q).1;dsimp only at g;omega
      simp[h,this]
     .have:¬(wl I o i).length=0:=λq=>by have:=JP (u:=u) q;dsimp only at g;omega
      simp[h,this]
    .have h:Hn o (aJ (T:=ju) I (i:Int))=aj:=h;simp[h]
   rintro x rfl;rw[G1];refine aK (λh=>ar ?_) λh=>ar ?_
   .rw[aF h.1,V_];rcases h.2 with g|g
    .rw[aF g]
    .rw[aF g];simp
   .by_cases g:Hn o (aJ (T:=ju) I (i:Int))=ai
    .rw[aF g,V_,aC λq=>h ⟨g,.inl q⟩,aC λq=>h ⟨g,.inr q⟩]
    .rw[aC g]
  rintro x rfl;exact ar (by dsimp only;rw[gW (by omega)])
 .rintro x rfl;refine dx (ax (P:=λy=>y=(AF (wl I o I.length) u,s1,J,if (wl I o I.length).length=0 then I else xz I (AF (wl I o I.length) u) 4)) ?_ λy M=>ar M);refine aY (λx=>x=(s1,J,if (wl I o I.length).length=0 then I else xz I (AF (wl I o I.length) u) 4)) ?_ ?_
  .refine fw (λg=>?_) λg=>ar ?_
   .have h0:¬(wl I o I.length).length=0:=λq=>by have:=JP (u:=u) q;dsimp only at g;omega
    have hp:=Om (u:=u) h0;refine aR hp.1 hp.2 (aR hp.1 hp.2 (ar ?_));rw[aC h0];rfl
   .have:(wl I o I.length).length=0:=u_ λq=>by have:=(Om (u:=u) q).1;dsimp only at g;omega
    rw[aF this]
  rintro x rfl;exact ar rfl
theorem ac0 (th:List (Int×Int×Bool)) (l:List Int) (i:Int):B' th (l++[i])=xz (B' th l) i 4:=by unfold B';rw[fG];rfl
theorem abz (l:List Int):∀ (th:List (Int×Int×Bool)) (j:Int),0<=j->(∀ z∈l,0<=z/\z<th.length/\¬z=j)->aJ (T:=ju) (B' th l) j=aJ (T:=ju) th j:=by
 induction l with
 |nil=>intro th j _ _;rfl
 |cons x r J=>
  intro th j hj h;have I:=h x (by simp);refine (J (xz th x 4) j hj λz M=>?_).trans ?_
  .have:=h z (by simp[M]);unfold xz;rw[bR];exact this
  .unfold xz;rw[rk (T:=ju) th x j _ I.1 I.2.1 hj,aC λq=>I.2.2 q.symm]
theorem S7 (s:SY) (o:Int) (hs:s.2.2.2.length<=1000):gK ((s.2.1,o),s.1,s.2.2.1,s.2.2.2)=af (((wl s.2.2.2 o s.2.2.2.length).length:Int),s.1,s.2.2.1,B' s.2.2.2 (wl s.2.2.2 o s.2.2.2.length)):=by
 refine cJ ?_;obtain⟨s1,s2,J,I⟩:=s;dsimp only at hs ⊢;unfold gK ml aV bg bL db ck bx kA aX cK aE cB;dsimp only[au];refine je I.length (by omega) (λi x=>x=((((wl I o i).length:Int),(i:Int)),s1,J,B' I (wl I o i),s2)) ?_ ?_ rfl
 .rintro i x hi rfl;have hl:=vb I o i;have hg:aJ (T:=ju) (B' I (wl I o i)) (i:Int)=aJ (T:=ju) I (i:Int):=abz _ _ _ (by omega) λz M=>by have:=qN.1 M;exact⟨this.1,by omega,by omega⟩
  have hq:=G8 (wl I o i) I;refine dC ?_;refine aY (λx=>x=(((wl I o (i+1)).length:Int),s1,J,B' I (wl I o (i+1)),s2)) ?_ ?_
  .refine cD (cD (aT (aU (Yy _ _) ?_)));rw[G1];refine aP (λh=>?_) λh=>ar ?_
   .have h:Hn o (aJ (T:=ju) I (i:Int))=ai:=hg▸h;refine cD (cD (ar ?_));rw[aF h,ac0];dsimp only;rw[gW (by omega)];simp only[bu,bZ,jQ];rfl
   .have h:Hn o (aJ (T:=ju) I (i:Int))=aj:=hg▸h;rw[h];rfl
  rintro x rfl;exact ar (by dsimp only;rw[gW (by omega)])
 .rintro x rfl;exact dx (ar rfl)
theorem ae8 {n:Nat} (w:WT) (s:SY) (hs:SB n s) (hn:n<=1000) (U:w.2.2.1.length<=1000) (t k o u:Int) (he:EN w s t k o) (hr:UW w s t k o) (J:¬k=8) (I:¬k=9):gL (w,s,t,k,o,u)=af ((qK w s t k o u).1,(qK w s t k o u).2,ai):=by
 refine cJ ?_;unfold gL aV bg bp cw dN bL db cO eP mg ck be bE bK kA aE;refine aU (Do w s hs hn U t k o he hr) (fD rfl (aU (ZU s hs) ?_));suffices hmain:Ok _ _ from aY (λx=>((x.2.2.2.1,x.2.1,x.2.2.2.2),x.1)=qK w s t k o u) hmain λx M=>ar (by rw[<- M])
 obtain⟨nm,t0,t1,cd,e1,e2,e3⟩:=id he;obtain⟨_,_,ce,lk,cn,th,fu⟩:=nm;have hm:16<=k/\k<=19->0<=(aJ (T:=Sk) w.2.2.1 o).2/\(aJ (T:=Sk) w.2.2.1 o).2<w.2.1.length:=λh=>cd _ (bJ (cn h).1 (cn h).2)
 rcases @Ib k with rfl|rfl|rfl|rfl|rfl|rfl|rfl|rfl|rfl|rfl|rfl|rfl|rfl|rfl|rfl|rfl|rfl|rfl|rfl|rfl|rfl|rfl|rfl|⟨hk,Y⟩
 case inr.inr.inr.inr.inr.inr.inr.inr.inr.inr.inr.inr.inr.inr.inr.inr.inr.inr.inr.inr.inr.inr.inr=>omega
 all_goals first|exact (J rfl).elim|exact (I rfl).elim|skip
 all_goals simp only[aZ,bm,sG]
 all_goals with_reducible repeat' first|(refine OS.ok ?_;constructor)|refine IM.mk λ_=>?_
 all_goals try simp only[au,qG] at*
 all_goals try rw[bR]
 all_goals first|omega|exact (hm ⟨by decide,by decide⟩).1|exact e1▸(hm ⟨by decide,by decide⟩).2|exact rfl|skip
 .refine aU (abw s o u hs.th) (bd ?_ (ar ?_))
  .have:al (if (wl s.2.2.2 o s.2.2.2.length).length=0 then s.2.2.2 else xz s.2.2.2 (AF (wl s.2.2.2 o s.2.2.2.length) u) 4)=s.2.2.2.length:=by
    split
    .rfl
    .exact bR ..
   dsimp only;rw[this];simp
  .rw[EE];by_cases h:(wl s.2.2.2 o s.2.2.2.length).length=0
   .rw[aF h,aF h,JP h]
   .rw[aC h,aC h]
 .refine aU (S7 s o hs.th) (bd ?_ (ar rfl));dsimp only;rw[G8];simp
def Aj:Nat->List (List Int)
 |0=>[[]]
 |m+1=>Aj m++(Aj m).map ((3-(m:Int))::·)
theorem LH:∀ m,[]∈Aj m
 |0=>by simp[Aj]
 |m+1=>by simp[Aj,LH m]
theorem Dy:∀ (m:Nat) (l:List Int),GR l->(∀ z∈l,4-(m:Int)<=z/\z<4)->l∈Aj m
 |m,[],_,_=>LH m
 |0,a::r,_,h=>by have:=h a (by simp);omega
 |m+1,a::r,hA,h=>by
  have J:=h a (by simp);rw[Aj,bW];by_cases e:a=3-(m:Int)
  .refine .inr (dh.2 ⟨r,Dy m r hA.2 λz I=>?_,by rw[e]⟩);have:=h z (by simp[I]);have:=hA.1 z I;omega
  .refine .inl (Dy m (a::r) hA λz I=>?_);have:=h z I;rcases bi.1 I with rfl|I
   .omega
   .have:=hA.1 z I;omega
theorem aee {l:List Int} (h:GR l) (h2:∀ z∈l,0<=z/\z<4):l∈Aj 4:=Dy 4 l h λz I=>by have:=h2 z I;omega
def in4:List Int:=[0,1,2,3]
theorem VF {t:Int} (h0:0<=t) (h1:t<4):t∈in4:=by
 have:t=0\/t=1\/t=2\/t=3:=by omega
 rcases this with rfl|rfl|rfl|rfl<;>simp[in4]
def aiw (l:List Int) (t:Int):Bool:=l.contains t||((vS (l++[t])==af (wM l [t]))&&(lw (wM l [t])==af (wM l [t]))&&aB (wM l [t]).length (l++[t]).length)
def ajt (l:List Int) (t:Int):Bool:= !l.contains t||(iY (l,t)==af (t,wo l t))
theorem abh:((Aj 4).all λl=>in4.all λt=>aiw l t)=ai:=by kernel_rfl
theorem acs:((Aj 4).all λl=>in4.all λt=>ajt l t)=ai:=by kernel_rfl
theorem srt8 {l:List Int} {t:Int} (h:GR l) (h2:∀ z∈l,0<=z/\z<4) (h0:0<=t) (h1:t<4) (hn:¬t∈l):vS (l++[t])=af (wM l [t])/\lw (wM l [t])=af (wM l [t])/\(wM l [t]).length=(l++[t]).length:=by
 have:=gi.1 (gi.1 abh l (aee h h2)) t (VF h0 h1);unfold aiw at this;have hc:l.contains t=aj:=by simp[hn]
 rw[hc,Bool.false_or,av,av] at this;exact⟨eq_of_beq this.1.1,eq_of_beq this.1.2,aw this.2⟩
theorem del8 {l:List Int} {t:Int} (h:GR l) (h2:∀ z∈l,0<=z/\z<4) (h0:0<=t) (h1:t<4) (hn:l.contains t=ai):iY (l,t)=af (t,wo l t):=by
 have:=gi.1 (gi.1 acs l (aee h h2)) t (VF h0 h1);unfold ajt at this;rw[hn,Bool.not_true,Bool.false_or] at this;exact eq_of_beq this
theorem ad0 (a0 a1 a2:Int) (r0 r1 r2:List Int) (h:Int) (d:List Bool) (th:List (Int×Int×Bool)) (h0:r0.length<=1000) (h1:r1.length<=1000) (h2:r2.length<=1000) (hd:d.length<=1000) (ht:th.length<=1000):mR ([(a0,r0),(a1,r1),(a2,r2)],h,d,th)=af ((h,d,th),(a0,a1,a2),r0,r1,r2):=by
 refine cJ ?_;have cl:∀ l:List Int,l.length<=1000->oL l=af l:=λl hl=>cJ (bk (by omega) (by omega) (ar rfl))
 unfold mR aV bL bx bE bK aX aE;refine bd rfl (aY (λx=>x=(([(a0,r0),(a1,r1),(a2,r2)],h,d,th),0,(a0,a1,a2),r0,r1,r2)) ?_ ?_)
 .exact fx rfl (bd rfl (aT (aU (cl _ h0) (fx rfl (bd rfl (aT (aU (cl _ h1) (fx rfl (bd rfl (aT (aU (cl _ h2) (fD rfl (ar rfl)))))))))))))
 rintro x rfl;refine aU (x:=d) (cJ (bk (by dsimp only;omega) (by omega) (ar rfl))) (aU (x:=th) (cJ (bk (by dsimp only;omega) (by omega) (ar rfl))) (ar rfl))
theorem ae9 {n:Nat} (w:WT) (s:SY) (hs:SB n s) (hn:n<=1000) (I:w.2.2.1.length<=1000) (t k o u:Int) (he:EN w s t k o) (hr:UW w s t k o) (hk:k=8\/k=9):gL (w,s,t,k,o,u)=ah:=by
 have h1:=Do w s hs hn I t k o he hr;have h2:=ZU s hs;rcases hk with rfl|rfl
 .unfold gL aV bg bp cw dN bL db cO eP mg ck be bE bK kA aE;simp only[h1,h2,aZ,bm,sG];cases fe o (al s.1)<;>rfl
 .unfold gL aV bg bp cw dN bL db cO eP mg ck be bE bK kA aE;simp only[h1,h2,aZ,bm,sG];cases fe o (al s.1)<;>rfl
theorem ae7 {n:Nat} (w:WT) (s:SY) (hs:SB n s) (hn:n<=900) (Y:w.2.2.1.length<=1000) (t k u:Int) (he:EN w s t k 2) (hr:UW w s t k 2) (hk:k=8\/k=9) (Z:s.1.length=3) (hA:GR (aJ (T:=zR) s.1 2).2) (I:∀ z∈(aJ (T:=zR) s.1 2).2,0<=z/\z<4) (M:t<4):kP (w,s,t,k,2,u)=af ((qK w s t k 2 u).1,(qK w s t k 2 u).2,ai):=by
 have h1:=Do w s hs (by omega) Y t k 2 he hr;have t0:=he.t0;have ra:=hr.ra;have rr:=hr.rr;have hrd:=hs.rd;have hdn:=hs.dn;have hth:=hs.th;obtain⟨s1,h,d,th⟩:=s
 match s1,Z with
 |[(a0,r0),(a1,r1),(a2,r2)],_=>
  have g0:r0.length<=n:=hrd (a0,r0) (by simp);have g1:r1.length<=n:=hrd (a1,r1) (by simp);have g2:r2.length<=n:=hrd (a2,r2) (by simp);have hA:GR r2:=hA;have I:∀ z∈r2,0<=z/\z<4:=I;dsimp only at hdn hth;have hc:=ad0 a0 a1 a2 r0 r1 r2 h d th (by omega) (by omega) (by omega) hdn hth;refine cJ ?_;unfold kP aV bg bp cw dN jd db cO eP nh be ve bE aE;rcases hk with rfl|rfl
  .have ra:r2.contains t=aj:=ra rfl;obtain⟨J,U,q3⟩:=srt8 hA I t0 M (by simpa using ra);simp only[h1,hc,aZ,bm,sG];refine aY (λx=>x=(0,(h,d,th),0,(((a0,r0),(a1,r1),a2)),ai,wM r2 [t])) ?_ ?_
   .refine bk (by simp;omega) (by omega) (aU J (bd ?_ (aU U (bd ?_ (ar ?_)))))
    .rw[q3];simp
    .simp
    .rfl
   rintro x rfl;exact ar rfl
  .have rr:r2.contains t=ai:=rr rfl;have J:=del8 hA I t0 M rr;simp only[h1,hc,aZ,bm,sG];refine aY (λx=>x=(0,(h,d,th),0,(((a0,r0),(a1,r1),a2)),aj,wo r2 t)) ?_ ?_
   .exact aU J (bd (by simp) (ar rfl))
   rintro x rfl;exact ar rfl
theorem aih {n:Nat} (w:WT) (s:SY) (hs:SB n s) (hn:n<=900) (I:w.2.2.1.length<=1000) (t k o u:Int) (he:EN w s t k o) (hr:UW w s t k o) (h2:k=8\/k=9->o=2) (M:s.1.length=3) (hA:∀ l∈s.1,GR l.2/\∀ z∈l.2,0<=z/\z<4) (J:t<4):rE (w,s,t,k,o,u)=af ((qK w s t k o u).1,(qK w s t k o u).2,ai):=by
 unfold rE;by_cases hk:k=8\/k=9
 .have:=h2 hk;subst this;have hg:=hA _ (bJ (T:=zR) (xs:=s.1) (j:=2) (by omega) (by omega));rw[ae9 w s hs (by omega) I t k 2 u he hr hk,ae7 w s hs hn I t k u he hr hk M hg.1 hg.2 J];rfl
 .rw[ae8 w s hs (by omega) I t k o u he hr (λh=>hk (.inl h)) λh=>hk (.inr h)];rfl
theorem V7 (l:List Int) (h:l.length<=100000):yB l=af l:=cJ (bk (by omega) (by omega) (ar rfl))
theorem ad1 (l:List Int) (h:l.length<=100000):oL l=af l:=cJ (bk (by omega) (by omega) (ar rfl))
theorem aki {n:Nat} (w:WT) (s:SN) (e:ET) (hs:NB n s) (hn:n<=900) (U:w.2.2.1.length<=1000) (Y:F16 w s) (J:EN w s.1 e.1 e.2.1 e.2.2.1) (hS:S16 w s e) (ld:e.2.2.2.2.2.1.length<=1000000) (lf:e.2.2.2.2.2.2.length<=1000000) (h2:e.2.1=8\/e.2.1=9->e.2.2.1=2) (h3:s.1.1.length=3) (hA:∀ l∈s.1.1,GR l.2/\∀ z∈l.2,0<=z/\z<4) (t4:e.1<4):fJ (w,s,e)=af (nxP w s e,ai):=by
 refine cJ ?_;obtain⟨rd,q1,q2,de,fr,nd,nf,va⟩:=id hS;obtain⟨nm,t0,t1,cd,e1,e2,e3⟩:=id J;obtain⟨k1,k2,ce,lk,cn,th,fu,_,_,_⟩:=nm;obtain⟨f1,f2,f3⟩:=id Y;have hsc:=hs.c;have hsf:=hs.f;have hsk:=hs.k;unfold fJ aV bg bp bL db cO ck be bx jN kA aX aE cB;refine aY (λx=>x=(aj,w,s,e,0)) ?_ ?_
 .refine aU (aji w s U _ _ _ J Y) (fD rfl (dx (fw (λg=>(by dsimp only[au] at g;omega)) λ_=>dx (ar ?_))));rw[fZ.2 (show e.2.1<=23 by omega)]
 rintro x rfl;refine fE (aY (λx=>x=(aj,w,s,e,0)) ?_ ?_)
 .exact aU (Do w s.1 hs.sb (by omega) U _ _ _ J rd) (fD rfl (aU (abq w e q1 q2) (fD rfl (aU (QN w s e (λh=>ce h) de fr t0 (by rw[f3];exact t1) nd nf ld lf) (fD rfl (aU (abd w s hs.sb e Y J va) (ar rfl)))))))
 rintro x rfl;refine fE (aY (λx=>x.2=(w,s,e,0)/\qK w s.1 e.1 e.2.1 e.2.2.1 x.1=qK w s.1 e.1 e.2.1 e.2.2.1 e.2.2.2.1) ?_ ?_)
 .exact aK (λ_=>ar ⟨rfl,rfl⟩) λh=>ar ⟨rfl,Wj _ _ _ _ _ _ _ h⟩
 rintro⟨u,x⟩ ⟨Z,hu⟩;dsimp only at Z hu;subst Z;refine aU (aih w s.1 hs.sb hn U _ _ _ u J rd h2 h3 hA t4) (fD rfl (aU (V7 _ (by dsimp only;omega)) (aU (V7 _ (by dsimp only;omega)) (aU (ad1 _ (by dsimp only;omega)) ?_))));rw[hu];refine aY (λx=>x.1=e/\x.2.2.1=(qK w s.1 e.1 e.2.1 e.2.2.1 e.2.2.2.1).1/\x.2.2.2.1=XI s.2.1 e/\x.2.2.2.2.1=Ys s.2.2.1 e/\x.2.2.2.2.2=s.2.2.2) ?_ ?_
 .unfold XI Ys;refine aK (λh=>?_) λh=>aK (λh'=>?_) λh'=>ar ⟨rfl,rfl,(aC h).symm,(aC h').symm,rfl⟩
  .have h:e.2.1=4:=h;have I:=ce (.inr h);exact aR I.1 (by rw[f1];exact I.2) (aR I.1 (by rw[f1];exact I.2) (ar ⟨rfl,rfl,(aF h).symm,(aC (by omega)).symm,rfl⟩))
  .have h:e.2.1=22:=h';have I:=fu (.inl h);exact aR I.1 (by rw[f2];exact I.2) (aR I.1 (by rw[f2];exact I.2) (ar ⟨rfl,rfl,(aC (by omega)).symm,(aF h).symm,rfl⟩))
 rintro⟨x1,x2,x3,x4,x5,x6⟩ ⟨h1,h2,h4,h5,h6⟩;simp only at h1 h2 h4 h5 h6;subst h1;subst h2;subst h4;subst h5;subst h6;have M:x1.1<(s.2.2.2.length:Int):=by rw[f3];exact t1
 exact aR t0 M (aR t0 M (aT (aR t0 M (aR t0 M (ar rfl)))))
theorem XM (r:List Bool) (e:ET) (h1:∀ y∈e.2.2.2.2.2.1,0<=y/\r.getD y.toNat aj=ai) (h2:∀ y∈e.2.2.2.2.2.2,0<=y/\r.getD y.toNat aj=ai) (ld:e.2.2.2.2.2.1.length<=1000000) (I:e.2.2.2.2.2.2.length<=1000000):cf (r,e)=af ai:=by
 refine cJ ?_;unfold cf ka dN mg bx jN bE bK aX cK aE cB;refine je 2 (by omega) (λi x=>x=(i:Int)) ?_ ?_ rfl
 .rintro i x hi rfl;refine bH (λ_=>?_) λg=>(by omega)
  refine c6 (dZ (by omega) (zF (by omega) (aT ?_)));have hr:∃ l:List Int,aJ (T:=.sl (.int .i64)) [e.2.2.2.2.2.1,e.2.2.2.2.2.2] (i:Int)=l/\(∀ y∈l,0<=y/\r.getD y.toNat aj=ai)/\l.length<=1000000:=by
   match i,hi with
   |0,_=>exact⟨_,rfl,h1,ld⟩
   |1,_=>exact⟨_,rfl,h2,I⟩
  obtain⟨l,J,hA,hl⟩:=hr;have er':aJ (T:=.sl aM) [e.2.2.2.2.2.1,e.2.2.2.2.2.2] (i:Int)=l:=J;dsimp only at er' ⊢;rw[er'];refine je l.length (by omega) (λj x=>x=(j:Int)) ?_ ?_ rfl
  .rintro j x hj rfl;refine dC ?_;have m:=hA _ (bJ (T:=.int .i64) (xs:=l) (j:=(j:Int)) (by omega) (by omega));refine cD (aT (aY (λx=>x=aj) ?_ ?_))
   .revert m;generalize aJ (T:=.int .i64) l (j:Int)=z;intro m;have M:z.toNat<r.length:=by
     rcases b7 z.toNat r.length with g|g
     .exact g
     .have:=m.2;rw[ay,bO g] at this;cases this
    refine bH (λg=>(by have:=m.1;omega)) λ_=>fw (λg=>(by have:=m.1;dsimp only[au] at g;omega)) λ_=>aR m.1 (by have:=m.1;omega) (aT (ar ?_))
    have:aJ (T:=.bool) r z=ai:=m.2;show (!aJ (T:=.bool) r z)=aj;rw[this];rfl
   rintro x rfl;exact fE (ar (gW (by omega)))
  .rintro x rfl;exact dx (ar (gW (by omega)))
 .rintro x rfl;exact bH (λg=>(by omega)) λ_=>ar rfl
abbrev W8 (n:Nat) (s:List (Int×Int×Int)):WT:=(C0,F5,LB,R7,vF.take n,s)
theorem WX.w8 {w:WT} (U:WX w):∃ n,(n=1\/n=2\/n=3\/n=4)/\w=W8 n w.2.2.2.2.2:=by
 obtain⟨h1,h2,M,J,⟨n,n1,Y,I⟩,_,_⟩:=U;obtain⟨c,l,d,f,t,s⟩:=w;dsimp only at h1 h2 M J I;subst h1;subst h2;subst M;subst J;subst I;exact⟨n,by omega,rfl⟩
abbrev sn8 (w:WT):SN:=(OM w,ZZ w,fu0 w,aG w.2.2.2.2.1.length 0)
theorem Hx (s:List (Int×Int×Int)):c8 (W8 1 s)=af (sn8 (W8 1 s)):=by kernel_rfl
theorem YI (s:List (Int×Int×Int)):c8 (W8 2 s)=af (sn8 (W8 2 s)):=by kernel_rfl
theorem st3 (s:List (Int×Int×Int)):c8 (W8 3 s)=af (sn8 (W8 3 s)):=by kernel_rfl
theorem st4 (s:List (Int×Int×Int)):c8 (W8 4 s)=af (sn8 (W8 4 s)):=by kernel_rfl
theorem BF {w:WT} (I:WX w):c8 w=af (sn8 w):=by
 obtain⟨n,hn,e⟩:=I.w8;rw[e];rcases hn with rfl|rfl|rfl|rfl
 .exact Hx _
 .exact YI _
 .exact st3 _
 .exact st4 _
abbrev VN4:List (List UInt8):=[[120],[121],[118],[113]]
theorem vc8:gR C0=af (VN4,ai):=by kernel_rfl
theorem vn1 (s:List (Int×Int×Int)):dI (W8 1 s,VN4)=af ai:=by kernel_rfl
theorem vn2 (s:List (Int×Int×Int)):dI (W8 2 s,VN4)=af ai:=by kernel_rfl
theorem vn3 (s:List (Int×Int×Int)):dI (W8 3 s,VN4)=af ai:=by kernel_rfl
theorem vn4 (s:List (Int×Int×Int)):dI (W8 4 s,VN4)=af ai:=by kernel_rfl
theorem vs8 {w:WT} (M:WX w) (hb:VL w):fR w=af ai:=by
 have hv:=M.v;have hs:=M.s;have ht:=hb.t0;unfold SV0 at hv;refine cJ ?_;unfold fR kC aV bg cw cO bx iI bK aX cK aE cB;refine je w.2.2.2.2.2.length (by omega) (λi x=>∃ t n:Int,x=((t,n,(i:Int)),w)/\Kq w.2.2.2.2.1.length (w.2.2.2.2.2.take i)=af (t,n)/\0<=t/\t<w.2.2.2.2.1.length/\0<=n/\n<=i) ?_ ?_ ⟨0,0,rfl,rfl,by omega,by omega,by omega,by omega⟩
 .rintro i x hi ⟨t,n,rfl,h1,t0,t1,n0,n1⟩;refine dC ?_;refine cD (aT ?_);have h2:=Va hv (i+1);have I:Kq w.2.2.2.2.1.length (w.2.2.2.2.2.take (i+1))=Sl w.2.2.2.2.1.length (af (t,n)) (aJ (T:=xy) w.2.2.2.2.2 (i:Int)):=by rw[Hy hi,h1]
  rw[I] at h2;dsimp only;revert h2 I;change _->_->Ok _ _;generalize aJ (T:=xy) w.2.2.2.2.2 (i:Int)=z;intro h2 I;obtain⟨(a:Int),(b:Int),(c:Int)⟩:=z;have Y:(a=t/\b=n)\/(t<a/\a<w.2.2.2.2.1.length/\b=0):=by
   simp only[Sl] at h2;split at h2
   .rename_i h;exact .inl h
   .split at h2
    .rename_i h;exact .inr h
    .exact (h2 rfl).elim
  refine aY (λx=>x=(aj,w,a,b,c)) ?_ ?_
  .refine dx (ar ?_);dsimp only;rw[lP.2 (by dsimp only[au];omega)]
  rintro x rfl;refine fE ?_;rcases Y with ⟨rfl,rfl⟩|⟨U,J,rfl⟩
  .refine aY (λx=>x=((a,b),w,a,b,c)) (dx (ar rfl)) ?_;rintro x rfl;refine b8 (λg=>(g rfl).elim) λ_=>ar ⟨a,b+1,?_,?_,t0,t1,by omega,by omega⟩
   .dsimp only;rw[ic (n:=b+1) (by omega) (by omega),gW (by omega)]
   .rw[I];simp[Sl]
  .refine aY (λx=>x=((a,0),w,a,0,c)) (dC (ar rfl)) ?_;rintro x rfl;refine b8 (λg=>(g rfl).elim) λ_=>ar ⟨a,1,?_,?_,by omega,J,by omega,by omega⟩
   .dsimp only;rw[ic (n:=0+1) (by omega) (by omega),gW (by omega)];rfl
   .rw[I];show (if a=t/\(0:Int)=n then af (t,n+1) else if t<a/\a<_/\(0:Int)=0 then af (a,1) else ah)=af (a,1);rw[aC (by omega),aF ⟨U,J,rfl⟩]
 .rintro x ⟨t,n,rfl,_⟩;exact dx (ar rfl)
theorem VW8 {w:WT} (M:WX w) (hb:VL w):dJ w=af ai:=by
 have hs:=vs8 M hb;have hvn:dI (w,VN4)=af ai:=by
  obtain⟨n,hn,e⟩:=M.w8;rw[e];rcases hn with rfl|rfl|rfl|rfl
  .exact vn1 _
  .exact vn2 _
  .exact vn3 _
  .exact vn4 _
 have hc:=M.c;have hd:=M.d;have hl:=M.l;obtain⟨w1,w2,w3,U,J,I⟩:=w;obtain⟨b1,b2,b3,b4,b0,Z,Y⟩:=hb;dsimp only at hc hd hl b1 b2 b3 b4 Z Y b0;subst hc;subst hd;subst hl;refine cJ ?_;unfold dJ kD aV bg cw cO bx bK aX cK aE cB;have f:∀ n m:Nat,n<=m->fP (m:Int) (aO n)=aj:=λn m h=>fZ.2 (by dsimp only[au];omega)
 refine aY (λx=>x=(aj,C0,F5,LB,U,J,I)) ?_ ?_
 .refine fD rfl (fD rfl (fD rfl (fD (f _ 2 b4) (ar ?_))));rw[show fP 60 (aO (al I))=aj from f _ 60 Y]
 rintro x rfl;refine fE (aY (λx=>x=(aj,C0,F5,LB,U,J,I)) ?_ ?_)
 .refine fD (fZ.2 (by dsimp only[au];omega)) (ar ?_);rw[show fP 4 (aO (al J))=aj from f _ 4 Z]
 rintro x rfl;refine fE (aU vc8 (aY (λx=>x=(aj,C0,F5,LB,U,J,I)) ?_ ?_))
 .exact fE (aU hvn (ar rfl))
 rintro x rfl;refine fE (je 1 (by omega) (λi x=>x=((i:Int),C0,F5,LB,U,J,I)) ?_ ?_ rfl)
 .rintro i x hi rfl;have:i=0:=by omega
  subst this;refine fx rfl (bd rfl (aT (aU (x:=ai) ?_ (fE (ar rfl)))));rfl
 .rintro x rfl;exact fD rfl (aU (x:=ai) (by rw[hs];rfl) (ar rfl))
abbrev eN (l:List ET) (i:Nat):ET:=aJ (T:=tE) l (i:Int)
theorem Bw {l:List ET} {i:Nat} (h:i<l.length):eN l i∈l:=bJ (T:=tE) (by omega) (by omega)
theorem ag9 {l:List ET} {e:ET} {i:Nat} (h:i<l.length):eN (l++[e]) i=eN l i:=by
 unfold eN;rw[yK,yK,ay,ay,bG h]
theorem acr (l:List ET) (e:ET):eN (l++[e]) l.length=e:=by
 unfold eN;rw[yK,ay,bT (bV _),GY];rfl
def MB (w:WT) (l:List ET):SY×List Int×List Int:=l.foldl (λs e=>((qK w s.1 e.1 e.2.1 e.2.2.1 e.2.2.2.1).1,XI s.2.1 e,Ys s.2.2 e)) (OM w,ZZ w,fu0 w)
theorem RJ (w:WT) {l:List ET} {i:Nat} (h:i<l.length):MB w (l.take (i+1))=((qK w (MB w (l.take i)).1 (eN l i).1 (eN l i).2.1 (eN l i).2.2.1 (eN l i).2.2.2.1).1,XI (MB w (l.take i)).2.1 (eN l i),Ys (MB w (l.take i)).2.2 (eN l i)):=by
 rw[nR (T:=tE) h];unfold MB;rw[fG];rfl
theorem Acw.all {w:WT} {l:List ET} {sy:SY} {ce fu:List Int} (h:Acw w l sy ce fu):MB w l=(sy,ce,fu)/\∀ i,i<l.length->SCx w (l.take i) (MB w (l.take i)).1 (MB w (l.take i)).2.1 (MB w (l.take i)).2.2 (eN l i):=by
 induction h with
 |nil=>exact⟨rfl,λi hi=>cU hi (wK _)⟩
 |snoc h hs I=>
  rename_i l sy ce fu e;obtain⟨h1,h2⟩:=I;refine ⟨by unfold MB at h1 ⊢;rw[fG,h1];rfl,λi hi=>?_⟩;rw[bu,gm] at hi;rcases b7 i l.length with g|g
  .rw[kV (by omega),ag9 g];exact h2 i g
  .have:i=l.length:=by omega
   subst this;rw[kV (bV _),cP,acr,h1];exact hs
theorem TR.sc {w:WT} {l:List ET} (tr:TR (w,l)) {i:Nat} (h:i<l.length):SCx w (l.take i) (MB w (l.take i)).1 (MB w (l.take i)).2.1 (MB w (l.take i)).2.2 (eN l i):=by
 obtain⟨sy,ce,fu,ac⟩:=tr.ac;exact ac.all.2 i h
def PI (w:WT) (l:List ET):HS:=l.foldl (λh e=>(EW w h (evP e)).1) (HS.zero w)
def eZ (l:List ET) (i:Nat):EV:=evP (eN l i)
def OQ (w:WT) (l:List ET) (i:Nat):List Int:=xt w (PI w (l.take i)) (eZ l i)
theorem Ii (w:WT) {l:List ET} {i:Nat} (h:i<l.length):PI w (l.take (i+1))=h_ w (PI w (l.take i)) (eZ l i) (OQ w l i):=by
 rw[nR (T:=tE) h];unfold PI;rw[fG];rfl
theorem Ti {w:WT} {l:List ET} (tr:TR (w,l)):∀ i:Nat,i<=l.length->OJ (i:Int) (PI w (l.take i))/\Wu w (PI w (l.take i))
 |0,_=>by
  have wb:=tr.wb;dsimp only at wb;exact⟨HS.zero_ok (by have:=wb.c;omega) (by have:=wb.l;omega) (by have:=wb.f;omega) (by have:=wb.t;omega),Wu.zero w⟩
 |i+1,h=>by
  obtain⟨o,I⟩:=Ti tr i (by omega);have hl:=tr.len;dsimp only at hl;have ok:=NT (tr.ev _ (Bw (l:=l) (i:=i) (by omega))) tr.wb I;rw[Ii w (by omega)];exact⟨YG (w:=w) (e:=eZ l i) o (by omega) ok.th4,I.step (eZ l i)⟩
theorem ZK {w:WT} {l:List ET} (tr:TR (w,l)) {i:Nat} (h:i<l.length):EOK w (PI w (l.take i)) (eZ l i):=NT (tr.ev _ (Bw h)) tr.wb (Ti tr i (by omega)).2
theorem Qs {w:WT} {l:List ET} (tr:TR (w,l)) {i:Nat} (h:i<l.length):EvT (eZ l i) (eN l i):=ajk (tr.ev _ (Bw h))
def LE (a b:List Int):Prop:=a.length<=b.length/\∀ k,a.getD k 0<=b.getD k 0
theorem LE.refl (a:List Int):LE a a:=⟨bV _,λ_=>eJ _⟩
theorem LE.trans {a b c:List Int} (h:LE a b) (g:LE b c):LE a c:=⟨dc h.1 g.1,λk=>Int.le_trans (h.2 k) (g.2 k)⟩
theorem LE.jl {a b:List Int} (h:LE a b):jl a b=b:=LZ (by rw[vV];have:=h.1;omega) λi=>by rw[yD,tU];have:=h.2 i;omega
theorem ai2 (a b:List Int):LE a (jl a b):=⟨by rw[vV];omega,λk=>by rw[yD,tU];omega⟩
theorem al4 (a b:List Int):LE b (jl a b):=⟨by rw[vV];omega,λk=>by rw[yD,tU];omega⟩
theorem afj (a:List Int) (t:Nat):LE a (tk a t):=⟨by rw[LG];omega,λk=>by rw[Ht];split<;>(try subst k)<;>omega⟩
theorem OG:∀ (l:List (List Int)) (c:List Int),LE c (l.foldl jl c)
 |[],c=>LE.refl c
 |x::r,c=>(ai2 c x).trans (OG r _)
theorem ajv (w:vw) (h:HS) (e:EV):LE (h.T.getD e.th []) (xt w h e):=(OG _ _).trans (afj _ _)
theorem qh {α:Type} (l:List α) (i j:Nat) (x d:α):(l.set i x).getD j d=if i=j/\i<l.length then x else l.getD j d:=by
 rw[ay,oH];by_cases e:i=j
 .subst e;by_cases g:i<l.length
  .rw[aF rfl,aF g,aF ⟨rfl,g⟩];rfl
  .rw[aF rfl,aC g,aC λq=>g q.2,ay,bO (by omega)]
 .rw[aC e,aC λq=>e q.1,ay]
structure og (P:List Int->Prop) (h:HS):Prop where
 T:∀ u,P (h.T.getD u [])
 S:∀ u,P (h.S.getD u [])
 L:∀ u,P (h.L.getD u [])
 R:∀ u,P (h.R.getD u [])
 C:∀ u,P (h.C.getD u [])
 F:∀ u,P (h.F.getD u [])
 X:P h.X
 N:∀ u,P (h.N.getD u [])
theorem og.mono {P Q:List Int->Prop} {h:HS} (a:og P h) (g:∀ x,P x->Q x):og Q h:=⟨λu=>g _ (a.T u),λu=>g _ (a.S u),λu=>g _ (a.L u),λu=>g _ (a.R u),λu=>g _ (a.C u),λu=>g _ (a.F u),g _ a.X,λu=>g _ (a.N u)⟩
theorem og.set {P:List Int->Prop} {l:List (List Int)} {c:List Int} (h:∀ u,P (l.getD u [])) (hc:P c) (i:Nat):∀ u,P ((l.set i c).getD u []):=λu=>by
 rw[qh];split
 .exact hc
 .exact h u
theorem og.repl {P:List Int->Prop} (h:P []) (n:Nat):∀ u,P ((aG n []).getD u []):=λu=>by
 rw[ay,k_];split<;>exact h
theorem og.zero {P:List Int->Prop} (h:P []) (w:vw):og P (HS.zero w):=⟨og.repl h _,og.repl h _,og.repl h _,og.repl h _,og.repl h _,og.repl h _,h,og.repl h _⟩
theorem og.step {P:List Int->Prop} (hj:∀ a b,P a->P b->P (jl a b)) {w:vw} {h:HS} (a:og P h) (e:EV) {c:List Int} (hc:P c):og P (h_ w h e c):=by
 have b:og P {h with T:=h.T.set e.th c}:={a with T:=og.set a.T hc _}
 unfold h_;simp only[];repeat' split
 .exact {b with S:=og.set a.S hc _}
 .exact {b with L:=og.set a.L (hj _ _ (a.L _) hc) _}
 .exact {b with R:=og.set a.R (hj _ _ (a.R _) hc) _}
 .exact {b with L:=og.set a.L (hj _ _ (a.L _) hc) _}
 .exact {b with C:=og.set a.C (hj _ _ (a.C _) hc) _}
 .exact b
 .exact {b with F:=og.set a.F (hj _ _ (a.F _) hc) _}
 .exact {b with X:=hj _ _ a.X hc}
 .exact {b with N:=og.set a.N hc _}
 .exact b
 .refine {b with N:=λu=>?_};have:=a.N u;simp only[BQ];rw[ay] at this ⊢;rw[Dt];cases I:h.N[u]? with
  |none=>rw[I] at this;exact this
  |some x=>
   rw[I] at this;simp only[b_,uz];split
   .exact hc
   .exact this
 .exact b
theorem og.src {P:List Int->Prop} {w:vw} {h:HS} (a:og P h) (e:EV):∀ x∈yi w h e,P x:=by
 intro c hc;unfold yi at hc;repeat' (split at hc)
 all_goals simp only[bi,cr,fY] at hc
 .subst hc;exact a.S _
 .subst hc;exact a.T _
 .rcases hc with rfl|rfl
  .exact a.L _
  .exact a.R _
 .subst hc;exact a.L _
 .rcases hc with rfl|rfl|rfl
  .exact a.L _
  .exact a.R _
  .exact a.N _
 .subst hc;exact a.C _
 .subst hc;exact a.F _
 .subst hc;exact a.X
theorem ZH {P:List Int->Prop} (hj:∀ a b,P a->P b->P (jl a b)):∀ (l:List (List Int)) (c:List Int),P c->(∀ x∈l,P x)->P (l.foldl jl c)
 |[],_,hc,_=>hc
 |x::r,_,hc,h=>ZH hj r _ (hj _ _ hc (h x (dv ..))) λy I=>h y (cL _ I)
theorem aes (w:vw) (h:HS) (e:EV) (c:List Int):(h_ w h e c).T=h.T.set e.th c:=by
 unfold h_;simp only[];repeat' split
 all_goals rfl
def JL (l:List ET) (u:Nat):Nat->Nat
 |0=>0
 |i+1=>if (eZ l i).th=u then JL l u i+1 else JL l u i
theorem Rv (l:List ET) (u i:Nat):∀ j,JL l u i<=JL l u (i+j)
 |0=>bV _
 |j+1=>by
  have:=Rv l u i j;show JL l u i<=JL l u (i+j+1);rw[JL];split<;>omega
theorem Od (l:List ET) (u:Nat) {i j:Nat} (h:i<=j):JL l u i<=JL l u j:=by
 obtain⟨k,rfl⟩:∃ k,j=i+k:=⟨j-i,by omega⟩
 exact Rv l u i k
theorem Hg (l:List ET) (i:Nat):JL l (eZ l i).th (i+1)=JL l (eZ l i).th i+1:=by rw[JL,aF rfl]
structure Gd (w:WT) (l:List ET) (i:Nat) (x:List Int):Prop where
 le:∀ u,x.getD u 0<=(JL l u i:Int)
 dn:∀ k,k<i->(JL l (eZ l k).th k:Int)+1<=x.getD (eZ l k).th 0->LE (OQ w l k) x
theorem Gd.nil (w:WT) (l:List ET) (i:Nat):Gd w l i []:=⟨λu=>by simp,λk _ h=>by simp at h;omega⟩
theorem Gd.jl {w:WT} {l:List ET} {i:Nat} (a b:List Int) (I:Gd w l i a) (hb:Gd w l i b):Gd w l i (jl a b):=by
 refine ⟨λu=>?_,λk hk h=>?_⟩
 .rw[yD,tU];have:=I.le u;have:=hb.le u;omega
 .rw[yD,tU] at h;by_cases g:(JL l (eZ l k).th k:Int)+1<=a.getD (eZ l k).th 0
  .exact (I.dn k hk g).trans (ai2 _ _)
  .exact (hb.dn k hk (by omega)).trans (al4 _ _)
theorem Gd.succ {w:WT} {l:List ET} {i:Nat} {x:List Int} (h:Gd w l i x):Gd w l (i+1) x:=by
 refine ⟨λu=>?_,λk hk g=>?_⟩
 .have:=h.le u;have:=Od l u (show i<=i+1 by omega);omega
 .by_cases e:k=i
  .subst e;have:=h.le (eZ l k).th;omega
  .exact h.dn k (by omega) g
structure GS1 (w:WT) (l:List ET) (i:Nat) (h:HS):Prop where
 a:og (Gd w l i) h
 t:∀ u,(h.T.getD u []).getD u 0=(JL l u i:Int)
theorem Ol {w:WT} {l:List ET} {i:Nat} (g:GS1 w l i (PI w (l.take i))):Gd w l (i+1) (OQ w l i)/\(OQ w l i).getD (eZ l i).th 0=(JL l (eZ l i).th i:Int)+1:=by
 have J:Gd w l i ((yi w (PI w (l.take i)) (eZ l i)).foldl AI.jl ((PI w (l.take i)).T.getD (eZ l i).th [])):=ZH Gd.jl _ _ (g.a.T _) (g.a.src (w:=w) _);have M:=g.t (eZ l i).th;have hL:=OG (yi w (PI w (l.take i)) (eZ l i)) ((PI w (l.take i)).T.getD (eZ l i).th []);have U:=(g.a.T (eZ l i).th).dn;have I:=ajv w (PI w (l.take i)) (eZ l i);have e:(OQ w l i).getD (eZ l i).th 0=(JL l (eZ l i).th i:Int)+1:=by
  unfold OQ xt;rw[Ht,aF rfl];have:=hL.2 (eZ l i).th;have:=J.le (eZ l i).th;omega
 refine ⟨⟨λu=>?_,λk hk h=>?_⟩,e⟩
 .by_cases hu:(eZ l i).th=u
  .subst hu;rw[e,Hg];omega
  .have:=J.le u;unfold OQ xt;rw[Ht,aC λq=>hu q.symm,JL,aC hu];exact this
 .by_cases hki:k=i
  .subst hki;exact LE.refl _
  have hk:k<i:=by omega
  by_cases hu:(eZ l k).th=(eZ l i).th
  .refine (U k hk ?_).trans I;rw[hu,M];have:=Od l (eZ l k).th (show k+1<=i from hk);rw[Hg,hu] at this;omega
  .refine (J.dn k hk ?_).trans (afj _ _);unfold OQ xt at h;rw[Ht,aC hu] at h;exact h
theorem Ij {w:WT} {l:List ET} (tr:TR (w,l)):∀ i:Nat,i<=l.length->GS1 w l i (PI w (l.take i))
 |0,_=>⟨og.zero (Gd.nil w l 0) w,λu=>by have:=og.repl (P:=λx=>x.getD u 0=0) (by simp) w.2.2.2.2.1.length u;exact this⟩
 |i+1,h=>by
  have g:=Ij tr i (by omega);obtain⟨J,I⟩:=Ol g;have ht:=(ZK tr (show i<l.length by omega)).th;rw[Ii w (by omega)];refine ⟨og.step Gd.jl (g.a.mono λx h=>h.succ) _ J,λu=>?_⟩;rw[aes,qh];by_cases hu:(eZ l i).th=u
  .subst hu;rw[aF ⟨rfl,ht⟩,I,Hg];omega
  .rw[aC λq=>hu q.1,g.t u,JL,aC hu]
theorem V9 {w:WT} {l:List ET} (tr:TR (w,l)) {i:Nat} (h:i<l.length):(OQ w l i).getD (eZ l i).th 0=(JL l (eZ l i).th i:Int)+1:=(Ol (Ij tr i (by omega))).2
theorem ZW {w:WT} {l:List ET} (tr:TR (w,l)) {i:Nat} (h:i<l.length):Gd w l (i+1) (OQ w l i):=(Ol (Ij tr i (by omega))).1
def Yt (w:WT) (l:List ET) (k j:Nat):Prop:=(JL l (eZ l k).th k:Int)+1<=(OQ w l j).getD (eZ l k).th 0
theorem Yt.le {w:WT} {l:List ET} (tr:TR (w,l)) {k j:Nat} (hk:k<=j) (hj:j<l.length) (h:Yt w l k j):LE (OQ w l k) (OQ w l j):=(ZW tr hj).dn k (by omega) h
theorem Yt.of {w:WT} {l:List ET} (tr:TR (w,l)) {k j:Nat} (hk:k<l.length) (h:LE (OQ w l k) (OQ w l j)):Yt w l k j:=by
 have:=h.2 (eZ l k).th;rw[V9 tr hk] at this;exact this
theorem Yt.own {w:WT} {l:List ET} (tr:TR (w,l)) {k j:Nat} (hk:k<j) (hj:j<l.length) (h:(eZ l k).th=(eZ l j).th):Yt w l k j:=by
 unfold Yt;rw[h,V9 tr hj];have:=Od l (eZ l k).th (show k+1<=j from hk);rw[Hg,h] at this;omega
theorem Yt.trans {w:WT} {l:List ET} (tr:TR (w,l)) {i j k:Nat} (hi:i<=j) (hj:j<=k) (hk:k<l.length) (h:Yt w l i j) (g:Yt w l j k):Yt w l i k:=Yt.of tr (by omega) ((h.le tr hi (by omega)).trans (g.le tr hj hk))
def Kr (w:WT) (l:List ET) (cl:Nat->List Int):Nat->HS
 |0=>HS.zero w
 |i+1=>h_ w (Kr w l cl i) (eZ l i) (cl i)
abbrev chC (w:WT) (l:List ET) (cl:Nat->List Int) (i:Nat):List Int:=xt w (Kr w l cl i) (eZ l i)
def CL (w:WT) (l:List ET) (cl:Nat->List Int):Prop:=∀ i,i<l.length->cl i=chC w l cl i\/∃ s,s<i/\cl i=jl (chC w l cl i) (cl s)
theorem CL.le {w:WT} {l:List ET} {cl:Nat->List Int} (C:CL w l cl) {i:Nat} (h:i<l.length):LE (chC w l cl i) (cl i):=by
 rcases C i h with e|⟨s,_,e⟩
 .rw[e];exact LE.refl _
 .rw[e];exact ai2 _ _
theorem G' {w:WT} {l:List ET} {cl:Nat->List Int} (tr:TR (w,l)) (C:CL w l cl):∀ i:Nat,i<=l.length->OJ (i:Int) (Kr w l cl i)/\Wu w (Kr w l cl i)/\∀ k,k<i->En (i:Int) (cl k)
 |0,_=>by
  have wb:=tr.wb;dsimp only at wb;exact⟨HS.zero_ok (by have:=wb.c;omega) (by have:=wb.l;omega) (by have:=wb.f;omega) (by have:=wb.t;omega),Wu.zero w,λk hk=>by omega⟩
 |i+1,h=>by
  obtain⟨o,I,en⟩:=G' tr C i (by omega);have hl:=tr.len;dsimp only at hl;have ok:=NT (tr.ev _ (Bw (l:=l) (i:=i) (by omega))) tr.wb I;have h1:En ((i:Int)+1) (chC w l cl i):=JN o ok.th4;have h2:En ((i:Int)+1) (cl i):=by
   rcases C i (by omega) with e|⟨s,hs,e⟩
   .rw[e];exact h1
   .rw[e];exact h1.jl ((en s hs).mono (by omega))
  refine ⟨VW o (by omega) h2,I.ent _ _,λk hk=>?_⟩;by_cases e:k=i
  .subst e;exact h2
  .exact (en k (by omega)).mono (by omega)
section
variable {w:WT} {l:List ET} {cl:Nat->List Int} (tr:TR (w,l)) (C:CL w l cl) {i:Nat} (h:i<l.length)
include tr C h
theorem Zp:OJ (i:Int) (Kr w l cl i):=(G' tr C i (by omega)).1
theorem ag3:Wu w (Kr w l cl i):=(G' tr C i (by omega)).2.1
theorem TX:EOK w (Kr w l cl i) (eZ l i):=NT (tr.ev _ (Bw h)) tr.wb (ag3 tr C h)
theorem Oj:En ((i:Int)+1) (cl i):=(G' tr C (i+1) h).2.2 i (by omega)
theorem agd:En ((i:Int)+1) (chC w l cl i):=JN (Zp tr C h) (TX tr C h).th4
end
def Cn (l:List ET) (i:Nat) (x:List Int):Prop:=∀ u,x.getD u 0<=(JL l u i:Int)
theorem Cn.jl {l:List ET} {i:Nat} (a b:List Int) (I:Cn l i a) (hb:Cn l i b):Cn l i (jl a b):=λu=>by rw[yD,tU];have:=I u;have:=hb u;omega
theorem Cn.mono {l:List ET} {i j:Nat} {x:List Int} (h:Cn l i x) (g:i<=j):Cn l j x:=λu=>by have:=h u;have:=Od l u g;omega
def Kx (w:vw) (e:EV):Int×Bool:=if e.k=7\/e.k=11 then ((e.ob:Int),aj) else if e.k=9 then ((e.ob:Int),ai) else if e.k=16 then ((Vu w.2.2.1 e.ob:Nat),aj) else (-1,aj)
def JC (c:Nat->List Int) (p:Nat->Bool):Nat->List Int
 |0=>[]
 |i+1=>if p i=ai then jl (JC c p i) (c i) else JC c p i
theorem aap (c:Nat->List Int) (p:Nat->Bool):∀ i,(∀ k,k<i->p k=aj)->JC c p i=[]
 |0,_=>rfl
 |i+1,h=>by rw[JC,h i (by omega),aC (by simp)];exact aap c p i λk hk=>h k (by omega)
theorem R4 {c:Nat->List Int} {p:Nat->Bool} {i:Nat} (h:p i=ai):JC c p (i+1)=jl (JC c p i) (c i):=by rw[JC,aF h]
theorem EM {c:Nat->List Int} {p:Nat->Bool} {i:Nat} (h:p i=aj):JC c p (i+1)=JC c p i:=by rw[JC,aC (by rw[h];simp)]
theorem ajn (w:vw) (h:HS) (e:EV) (c:List Int):(h_ w h e c).S=if e.k=20 then h.S.set e.ob c else h.S:=by
 unfold h_;simp only[];repeat' split
 all_goals first|rfl|omega
theorem ajq (w:vw) (h:HS) (e:EV) (c:List Int):(h_ w h e c).L=if (e.k=7\/e.k=11) then jat h.L e.ob c else if e.k=16 then jat h.L (Vu w.2.2.1 e.ob) c else h.L:=by
 unfold h_;simp only[];repeat' split
 all_goals first|rfl|omega
theorem ajo (w:vw) (h:HS) (e:EV) (c:List Int):(h_ w h e c).R=if e.k=9 then jat h.R e.ob c else h.R:=by
 unfold h_;simp only[];repeat' split
 all_goals first|rfl|omega
theorem ajs (w:vw) (h:HS) (e:EV) (c:List Int):(h_ w h e c).C=if e.k=4/\OX w.1 e.ob=ai then jat h.C e.ob c else h.C:=by
 unfold h_;simp only[];repeat' split
 all_goals first|rfl|omega|(rename_i h1 h2;exact cU ⟨by assumption,by assumption⟩ h2)|(rename_i h1 h2;exact cU h2.2 h1)|(rename_i h1;exact cU h1.1 (by assumption))
theorem ajr (w:vw) (h:HS) (e:EV) (c:List Int):(h_ w h e c).F=if e.k=22 then jat h.F e.ob c else h.F:=by
 unfold h_;simp only[];repeat' split
 all_goals first|rfl|omega
theorem ajl (w:vw) (h:HS) (e:EV) (c:List Int):(h_ w h e c).X=if e.k=13 then jl h.X c else h.X:=by
 unfold h_;simp only[];repeat' split
 all_goals first|rfl|omega
theorem Ck (l:List (List Int)) (i:Nat) (c:List Int) (o:Nat) (h:i<l.length):(jat l i c).getD o []=if i=o then jl (l.getD o []) c else l.getD o []:=by
 unfold jat;rw[qh];by_cases e:i=o
 .subst e;rw[aF ⟨rfl,h⟩,aF rfl]
 .rw[aC λq=>e q.1,aC e]
abbrev pT (l:List ET) (u k:Nat):Bool:=decide ((eZ l k).th=u)
abbrev pS (l:List ET) (u k:Nat):Bool:=decide ((eZ l k).k=20/\(eZ l k).ob=u)
abbrev pL (w:WT) (l:List ET) (x:Int×Bool) (k:Nat):Bool:=decide (Kx w (eZ l k)=x)
abbrev pC (w:WT) (l:List ET) (o k:Nat):Bool:=decide ((eZ l k).k=4/\(eZ l k).ob=o/\OX w.1 o=ai)
abbrev pF (l:List ET) (o k:Nat):Bool:=decide ((eZ l k).k=22/\(eZ l k).ob=o)
abbrev pX (l:List ET) (k:Nat):Bool:=decide ((eZ l k).k=13)
structure IN (w:WT) (l:List ET) (cl:Nat->List Int) (i:Nat) (h:HS):Prop where
 T:∀ u,h.T.getD u []=JC cl (pT l u) i
 S:∀ u,h.S.getD u []=JC cl (pS l u) i
 L:∀ o:Nat,h.L.getD o []=JC cl (pL w l ((o:Int),aj)) i
 R:∀ o:Nat,h.R.getD o []=JC cl (pL w l ((o:Int),ai)) i
 C:∀ o,h.C.getD o []=JC cl (pC w l o) i
 F:∀ o,h.F.getD o []=JC cl (pF l o) i
 X:h.X=JC cl (pX l) i
theorem YP {w:vw} {e:EV} (h:e.k=7\/e.k=11):Kx w e=((e.ob:Int),aj):=by unfold Kx;rw[aF h]
theorem SS {w:vw} {e:EV} (h:e.k=9):Kx w e=((e.ob:Int),ai):=by unfold Kx;rw[aC (by omega),aF h]
theorem Vf {w:vw} {e:EV} (h:e.k=16):Kx w e=((Vu w.2.2.1 e.ob:Int),aj):=by unfold Kx;rw[aC (by omega),aC (by omega),aF h]
theorem aft {w:vw} {e:EV} (h:¬(e.k=7\/e.k=11)) (h1:¬e.k=9) (h2:¬e.k=16):Kx w e=(-1,aj):=by unfold Kx;rw[aC h,aC h1,aC h2]
theorem IN.zero (w:WT) (l:List ET) (cl:Nat->List Int):IN w l cl 0 (HS.zero w):=
 have r:∀ n:Nat,∀ u,(aG n ([]:List Int)).getD u []=[]:=λn=>og.repl (P:=λx=>x=[]) rfl n
 ⟨r _,r _,λ_=>r _ _,λ_=>r _ _,r _,r _,rfl⟩
theorem IN.step {w:WT} {l:List ET} {cl:Nat->List Int} {i:Nat} {h:HS} (a:IN w l cl i h) (n:Int) (o:OJ n h) (hcT:LE (h.T.getD (eZ l i).th []) (cl i)) (hc:En (n+1) (cl i)) (ok:EOK w h (eZ l i)) (J:(eZ l i).k=20->∀ k,k<i->pS l (eZ l i).ob k=aj):IN w l cl (i+1) (h_ w h (eZ l i) (cl i)):=by
 refine ⟨λu=>?_,λu=>?_,λx=>?_,λx=>?_,λx=>?_,λx=>?_,?_⟩
 .rw[aes,qh];by_cases e:(eZ l i).th=u
  .rw[aF ⟨e,ok.th⟩,R4 (by simpa using e),<-a.T u,LE.jl (by rw[<- e];exact hcT)]
  .rw[aC λq=>e q.1,EM (by simpa using e)];exact a.T u
 .rw[ajn];by_cases k:(eZ l i).k=20
  .rw[aF k,qh];by_cases e:(eZ l i).ob=u
   .rw[aF ⟨e,by rw[o.lS];exact ok.sp (.inl k)⟩,R4 (by simp[k,e]),aap _ _ i (by rw[<- e];exact J k),afx hc]
   .rw[aC λq=>e q.1,EM (by simp[e])];exact a.S u
  .rw[aC k,EM (by simp[k])];exact a.S u
 .rw[ajq];by_cases k:(eZ l i).k=7\/(eZ l i).k=11
  .rw[aF k,Ck _ _ _ _ (ok.lk (by omega))];by_cases e:(eZ l i).ob=x
   .rw[aF e,R4 (by simp[YP k,e]),<-a.L x]
   .rw[aC e,EM (by simp[YP k];omega)];exact a.L x
  rw[aC k];by_cases k2:(eZ l i).k=16
  .rw[aF k2,Ck _ _ _ _ (ok.cd (.inl k2)).2.2];by_cases e:Vu w.2.2.1 (eZ l i).ob=x
   .rw[aF e,R4 (by simp[Vf k2,e]),<-a.L x]
   .rw[aC e,EM (by simp[Vf k2];omega)];exact a.L x
  rw[aC k2,EM]
  .exact a.L x
  .by_cases I:(eZ l i).k=9
   .simp[SS I]
   .simp[aft k I k2]
 .rw[ajo];by_cases k:(eZ l i).k=9
  .rw[aF k,Ck _ _ _ _ (by rw[o.lR];exact ok.lk (by omega))];by_cases e:(eZ l i).ob=x
   .rw[aF e,R4 (by simp[SS k,e]),<-a.R x]
   .rw[aC e,EM (by simp[SS k];omega)];exact a.R x
  rw[aC k,EM]
  .exact a.R x
  .unfold pL Kx;repeat' split
   all_goals first|omega|simp
 .rw[ajs];by_cases k:(eZ l i).k=4/\OX w.1 (eZ l i).ob=ai
  .rw[aF k,Ck _ _ _ _ (ok.ce (.inr k.1)).1];by_cases e:(eZ l i).ob=x
   .rw[aF e,R4 (by simp[k.1,e];rw[<- e];exact k.2),<-a.C x]
   .rw[aC e,EM (by simp[e])];exact a.C x
  .rw[aC k,EM]
   .exact a.C x
   .refine bF λq=>k ⟨q.1,by rw[q.2.1];exact q.2.2⟩
 .rw[ajr];by_cases k:(eZ l i).k=22
  .rw[aF k,Ck _ _ _ _ (ok.fu (.inl k))];by_cases e:(eZ l i).ob=x
   .rw[aF e,R4 (by simp[k,e]),<-a.F x]
   .rw[aC e,EM (by simp[e])];exact a.F x
  .rw[aC k,EM (by simp[k])];exact a.F x
 .rw[ajl];by_cases k:(eZ l i).k=13
  .rw[aF k,R4 (by simp[k]),<-a.X]
  .rw[aC k,EM (by simp[k])];exact a.X
abbrev gT (th:List (Int×Int×Bool)) (u:Int):Int×Int×Bool:=aJ (T:=ju) th u
theorem Ea {T:Ty} (xs:List T.den) (j k:Int) (x:T.den) (hj:0<=j) (hk:0<=k) (h2:k<xs.length):aJ (cq xs j x) k=if k=j then x else aJ xs k:=by
 by_cases h:j<xs.length
 .exact rk xs j k x hj h hk
 .rw[aC (by omega)];unfold aJ cq;rw[ay,ay,oH,aC (by omega)]
theorem wN {th:List (Int×Int×Bool)} {t u:Int} (s:Int) (t0:0<=t) (J:0<=u) (I:u<th.length):gT (xz th t s) u=if u=t then (s,(gT th u).2) else gT th u:=by
 unfold xz gT;rw[Ea _ _ _ _ t0 J I];split
 .rename_i h;subst h;rfl
 .rfl
theorem Wa {th:List (Int×Int×Bool)} {t u:Int} (s:Int) (t0:0<=t) (J:0<=u) (I:u<th.length):gT (cdP th t s) u=if u=t then ((gT th u).1,s,(gT th u).2.2) else gT th u:=by
 unfold cdP gT;rw[Ea _ _ _ _ t0 J I];split
 .rename_i h;subst h;rfl
 .rfl
theorem We {th:List (Int×Int×Bool)} {t u:Int} (s:Bool) (t0:0<=t) (J:0<=u) (I:u<th.length):gT (atP th t s) u=if u=t then ((gT th u).1,(gT th u).2.1,s) else gT th u:=by
 unfold atP gT;rw[Ea _ _ _ _ t0 J I];split
 .rename_i h;subst h;rfl
 .rfl
theorem aj8 {u:Int} (I:0<=u):∀ (l:List Int) (th:List (Int×Int×Bool)),(∀ x∈l,0<=x)->u<th.length->gT (B' th l) u=if u∈l then (4,(gT th u).2) else gT th u
 |[],th,_,_=>by simp[B']
 |x::r,th,h,h2=>by
  have e:B' th (x::r)=B' (xz th x 4) r:=rfl;rw[e,aj8 I r _ (λy J=>h y (cL _ J)) (by unfold xz;rw[bR];exact h2),wN 4 (h x (dv ..)) I h2];by_cases a:u=x
  .subst a;simp
  .simp[a]
structure TH1 (k o v t u:Int) (g g':Int×Int×Bool):Prop where
 a:u=t->g.1≠0/\g.1≠3/\(k=16->g'.1=3/\g'.2.1=o)/\(k≠16->g'.1≠0/\g'.1≠3/\g'.1≠4)/\(k≠1->k≠17->g.1=2)
 b:u≠t->k=18->v=u->g.1=3/\g.2.1=o/\g'.1=4/\g'.2.1=o
 c:u≠t->k=19->g.1=3->g.2.1=o->g'.1=4/\g'.2.1=o
 d:u≠t->¬(k=18/\v=u)->¬(k=19/\g.1=3/\g.2.1=o)->g'.2.1=g.2.1/\(g'.1=g.1\/k=20/\o=u/\g.1=0/\g'.1=1)
 e:k=20->o=u->g'.1≠0
theorem TH1.same {k o v t u:Int} {g g':Int×Int×Bool} (h2:k≠1->k≠17->u=t->g.1=2) (e1:g'.1=g.1) (e2:g'.2.1=g.2.1) (n1:k≠1) (Y:k≠17) (n3:k≠16) (J:k≠20) (U:k=18->v=u->u=t) (M:k=19->g.1=3->g.2.1=o->u=t):TH1 k o v t u g g':=
 ⟨λh=>(by have:=h2 n1 Y h;rw[e1];omega),λh h1 I=>(h (U h1 I)).elim,λh h1 I Z=>(h (M h1 I Z)).elim,λ_ _ _=>⟨e2,.inl e1⟩,λh=>(J h).elim⟩
theorem agj (w:WT) (s:SY) (t k o v:Int) (en:EN w s t k o) (rd:UW w s t k o) (va:k=18->v=(qK w s t k o v).2) (u:Int) (J:0<=u) (I:u<s.2.2.2.length):TH1 k o v t u (gT s.2.2.2 u) (gT (qK w s t k o v).1.2.2.2 u):=by
 have t0:=en.t0;have r2:k≠1->k≠17->u=t->(gT s.2.2.2 u).1=2:=λh1 h2 Y=>by subst Y;exact rd.r h1 h2
 have nm:=en.nm;have k1:=nm.k1;have k2:=nm.k2;obtain⟨s1,s2,M,th⟩:=s;dsimp only at I r2;change TH1 k o v t u (gT th u) (gT (qK w (s1,s2,M,th) t k o v).1.2.2.2 u);by_cases a1:k=1
 .subst a1;have e:gT (qK w (s1,s2,M,th) t 1 o v).1.2.2.2 u=if u=t then (2,(gT th u).2) else gT th u:=wN 2 t0 J I
  rw[e];refine ⟨λh=>?_,λ_ h=>by omega,λ_ h=>by omega,λh _ _=>by rw[aC h];exact⟨rfl,.inl rfl⟩,λh=>by omega⟩;have b:=rd.b rfl;rw[aF h];subst h;have b:(gT th u).1=1:=b;dsimp only;omega
 by_cases a2:k=2
 .subst a2;have e:gT (qK w (s1,s2,M,th) t 2 o v).1.2.2.2 u=if u=t then (5,(gT th u).2) else gT th u:=wN 5 t0 J I
  rw[e];refine ⟨λh=>?_,λ_ h=>by omega,λ_ h=>by omega,λh _ _=>by rw[aC h];exact⟨rfl,.inl rfl⟩,λh=>by omega⟩;have:=r2 (by omega) (by omega) h;rw[aF h];dsimp only;omega
 by_cases a14:k=14\/k=15
 .have e:∃ b,gT (qK w (s1,s2,M,th) t k o v).1.2.2.2 u=if u=t then ((gT th u).1,(gT th u).2.1,b) else gT th u:=by
   rcases a14 with rfl|rfl
   .exact⟨ai,We ai t0 J I⟩
   .exact⟨aj,We aj t0 J I⟩
  obtain⟨b,e⟩:=e;rw[e];refine TH1.same r2 (by split<;>rfl) (by split<;>rfl) a1 (by omega) (by omega) (by omega) (λh=>by omega) λh=>by omega
 by_cases a16:k=16
 .subst a16;have e:gT (qK w (s1,s2,M,th) t 16 o v).1.2.2.2 u=if u=t then (3,o,(gT th u).2.2) else gT th u:=by
   have:gT (cdP (xz th t 3) t o) u=_:=Wa o t0 J (by unfold xz;rw[bR];exact I);refine Eq.trans this ?_;rw[wN 3 t0 J I];split<;>rfl
  rw[e];refine ⟨λh=>?_,λ_ h=>by omega,λ_ h=>by omega,λh _ _=>by rw[aC h];exact⟨rfl,.inl rfl⟩,λh=>by omega⟩;have:=r2 (by omega) (by omega) h;rw[aF h];exact⟨by omega,by omega,λ_=>⟨rfl,rfl⟩,λh=>(h rfl).elim,λ_ _=>this⟩
 by_cases a17:k=17
 .subst a17;have e:gT (qK w (s1,s2,M,th) t 17 o v).1.2.2.2 u=if u=t then (2,0,(gT th u).2.2) else gT th u:=by
   have:gT (cdP (xz th t 2) t 0) u=_:=Wa 0 t0 J (by unfold xz;rw[bR];exact I);refine Eq.trans this ?_;rw[wN 2 t0 J I];split<;>rfl
  rw[e];refine ⟨λh=>?_,λ_ h=>by omega,λ_ h=>by omega,λh _ _=>by rw[aC h];exact⟨rfl,.inl rfl⟩,λh=>by omega⟩;have b:=(rd.wk rfl).1;rw[aF h];subst h;have b:(gT th u).1=4:=b;dsimp only;omega
 by_cases a18:k=18
 .subst a18;have va:=va rfl;rw[EE] at va ⊢;dsimp only at va ⊢;by_cases hl:(wl th o th.length).length=0
  .rw[aF hl] at va ⊢;dsimp only at va ⊢;exact TH1.same r2 rfl rfl a1 (by omega) (by omega) (by omega) (λ_ h=>by omega) λh=>by omega
  .rw[aC hl] at va ⊢;dsimp only at va ⊢;have hv:v∈wl th o th.length:=by
    unfold AF at va;rw[aC hl] at va;split at va
    .rename_i h;simpa using h
    .rw[va];exact bJ (T:=.int .i64) (by omega) (by omega)
   rw[<- va];obtain⟨v0,v1,U⟩:=qN.1 hv;unfold Hn at U;simp only[av,bP] at U;rw[wN 4 v0 J I];refine ⟨λh=>?_,λh _ h2=>?_,λ_ h=>by omega,λh h2 _=>?_,λh=>by omega⟩
   .have:=r2 (by omega) (by omega) h;rw[aC (λq=>by rw[q] at this;exact cU (this.symm.trans U.1) (by decide))];omega
   .subst h2;rw[aF rfl];exact⟨U.1,U.2,rfl,U.2⟩
   .rw[aC λq=>h2 ⟨rfl,q.symm⟩];exact⟨rfl,.inl rfl⟩
 by_cases a19:k=19
 .subst a19;have e:gT (qK w (s1,s2,M,th) t 19 o v).1.2.2.2 u=if u∈wl th o th.length then (4,(gT th u).2) else gT th u:=aj8 J _ th (λx hx=>(qN.1 hx).1) I
  rw[e];have hm:u∈wl th o th.length↔(gT th u).1=3/\(gT th u).2.1=o:=by
   rw[qN];unfold Hn;simp only[av,bP];exact⟨λh=>h.2.2,λh=>⟨J,I,h⟩⟩
  refine ⟨λh=>?_,λ_ h=>by omega,λh _ Y h4=>?_,λh _ Y=>?_,λh=>by omega⟩
  .have:=r2 (by omega) (by omega) h;rw[aC (λq=>by have:=(hm.1 q).1;omega)];omega
  .rw[aF (hm.2 ⟨Y,h4⟩)];exact⟨rfl,h4⟩
  .rw[aC λq=>Y ⟨rfl,hm.1 q⟩];exact⟨rfl,.inl rfl⟩
 by_cases Z:k=20
 .subst Z;have sp:=rd.sp rfl;have o0:=(nm.th (.inl rfl)).1;have e:gT (qK w (s1,s2,M,th) t 20 o v).1.2.2.2 u=if u=o then (1,(gT th u).2) else gT th u:=wN 1 o0 J I
  rw[e];refine ⟨λh=>?_,λ_ h=>by omega,λ_ h=>by omega,λh _ _=>?_,λ_ h=>?_⟩
  .have:=r2 (by omega) (by omega) h;rw[aC (λq=>sp.1 (by omega))];omega
  .by_cases q:u=o
   .subst q;rw[aF rfl];exact⟨rfl,.inr ⟨rfl,rfl,sp.2,rfl⟩⟩
   .rw[aC q];exact⟨rfl,.inl rfl⟩
  .rw[aF h.symm];show (1:Int)≠0;omega
 have e:(qK w (s1,s2,M,th) t k o v).1.2.2.2=th:=by
  unfold qK;rw[aC a1,aC a2];repeat' split
  all_goals first|rfl|omega
 rw[e];exact TH1.same r2 rfl rfl a1 a17 a16 Z (λh=>(a18 h).elim) λh=>(a19 h).elim
def pvN (l:List ET) (u:Nat):Nat->Int
 |0=> -1
 |i+1=>if (eZ l i).th=u then (i:Int) else pvN l u i
def mtN (l:List ET) (u i:Nat) (p:Int):Prop:=0<=p/\(eZ l p.toNat).k=16/\((eZ l i).k=18/\(eZ l i).va=u\/(eZ l i).k=19/\(eZ l i).ob=(eZ l p.toNat).ob)
def OL (l:List ET) (u:Nat):Nat->Int
 |0=> -1
 |i+1=>if (eZ l i).th=u then -1 else if 0<=OL l u i then OL l u i else @ite _ (mtN l u i (pvN l u i)) (Classical.propDecidable _) (i:Int) (-1)
theorem ab9 {l:List ET} {u i:Nat} (h:(eZ l i).th=u):OL l u (i+1)= -1:=by rw[OL,aF h]
theorem aba {l:List ET} {u i:Nat} (h:¬(eZ l i).th=u) (g:0<=OL l u i):OL l u (i+1)=OL l u i:=by rw[OL,aC h,aF g]
theorem abc {l:List ET} {u i:Nat} (h:¬(eZ l i).th=u) (g:OL l u i= -1) (m:mtN l u i (pvN l u i)):OL l u (i+1)=i:=by rw[OL,aC h,aC (by omega),aF m]
theorem abb {l:List ET} {u i:Nat} (h:¬(eZ l i).th=u) (g:OL l u i= -1) (m:¬mtN l u i (pvN l u i)):OL l u (i+1)= -1:=by rw[OL,aC h,aC (by omega),aC m]
theorem Fj {α:Type} (l:List α) (f:Nat->α->α) (u:Nat) (d:α) (h:u<l.length):(l.mapIdx f).getD u d=f u (l.getD u d):=by
 rw[ay,Dt,aA h,ay,aA h];rfl
theorem ajm (w:vw) (h:HS) (e:EV) (c:List Int) (u:Nat) (hu:u<h.W.length) (U:h.N.length=h.W.length):(h_ w h e c).W.getD u 0=if e.k=16/\e.th=u then (e.ob:Int) else if e.k=18/\e.va=u\/e.k=19/\h.W.getD u 0=e.ob then -1 else h.W.getD u 0:=by
 obtain⟨th,k,ob,va⟩:=e;dsimp only;by_cases I:k=16
 .subst I;have e:(h_ w h ⟨th,16,ob,va⟩ c).W=h.W.set th ob:=rfl;rw[e,qh];by_cases q:th=u
  .rw[aF ⟨q,by omega⟩,aF ⟨rfl,q⟩]
  .rw[aC λx=>q x.1,aC λx=>q x.2,aC (by omega)]
 rw[aC λx=>I x.1];by_cases M:k=18
 .subst M;have e:h_ w h ⟨th,18,ob,va⟩ c=if 0<=va/\va<h.N.length then {h with T:=h.T.set th c,N:=h.N.set va.toNat c,W:=h.W.set va.toNat (-1)} else {h with T:=h.T.set th c}:=rfl
  rw[e];split
  .show (h.W.set va.toNat (-1)).getD u 0=_;rw[qh];by_cases q:va=u
   .rw[aF ⟨by omega,by omega⟩,aF (.inl ⟨rfl,q⟩)]
   .rw[aC (by omega),aC (by omega)]
  .rw[aC (by omega)]
 by_cases J:k=19
 .subst J;have e:(h_ w h ⟨th,19,ob,va⟩ c).W=h.W.mapIdx λu x=>if decide (h.W.getD u 0=(ob:Int))=ai then -1 else x:=rfl
  rw[e,Fj _ _ _ _ hu];by_cases q:h.W.getD u 0=ob
  .rw[aF (aQ q),aF (.inr ⟨rfl,q⟩)]
  .rw[aC (by simpa using q),aC (by omega)]
 rw[aC (by omega)];have e:(h_ w h ⟨th,k,ob,va⟩ c).W=h.W:=by
  unfold h_;simp only[];repeat' split
  all_goals first|rfl|omega
 rw[e]
theorem ajp (w:vw) (h:HS) (e:EV) (c:List Int) (u:Nat) (hu:u<h.N.length):(h_ w h e c).N.getD u []=if e.k=18/\e.va=u\/e.k=19/\h.W.getD u 0=e.ob then c else h.N.getD u []:=by
 obtain⟨th,k,ob,va⟩:=e;dsimp only;by_cases J:k=18
 .subst J;have e:h_ w h ⟨th,18,ob,va⟩ c=if 0<=va/\va<h.N.length then {h with T:=h.T.set th c,N:=h.N.set va.toNat c,W:=h.W.set va.toNat (-1)} else {h with T:=h.T.set th c}:=rfl
  rw[e];split
  .show (h.N.set va.toNat c).getD u []=_;rw[qh];by_cases q:va=u
   .rw[aF ⟨by omega,by omega⟩,aF (.inl ⟨rfl,q⟩)]
   .rw[aC (by omega),aC (by omega)]
  .rw[aC (by omega)]
 by_cases I:k=19
 .subst I;have e:(h_ w h ⟨th,19,ob,va⟩ c).N=h.N.mapIdx λu x=>if decide (h.W.getD u 0=(ob:Int))=ai then c else x:=rfl
  rw[e,Fj _ _ _ _ hu];by_cases q:h.W.getD u 0=ob
  .rw[aF (aQ q),aF (.inr ⟨rfl,q⟩)]
  .rw[aC (by simpa using q),aC (by omega)]
 rw[aC (by omega)];have e:(h_ w h ⟨th,k,ob,va⟩ c).N=h.N:=by
  unfold h_;simp only[];repeat' split
  all_goals first|rfl|omega
 rw[e]
abbrev ZF (w:WT) (l:List ET) (i u:Nat):Int×Int×Bool:=gT (MB w (l.take i)).1.2.2.2 (u:Int)
structure WI (w:WT) (l:List ET) (cl:Nat->List Int) (i:Nat) (h:HS) (u:Nat) (g:Int×Int×Bool):Prop where
 W:h.W.getD u 0=if g.1=3 then g.2.1 else -1
 p:g.1=3\/g.1=4->0<=pvN l u i/\(eZ l (pvN l u i).toNat).k=16/\((eZ l (pvN l u i).toNat).ob:Int)=g.2.1
 a:g.1=3->OL l u i= -1
 n:g.1=4->0<=OL l u i/\h.N.getD u []=cl (OL l u i).toNat
 s:g.1=0->∀ k,k<i->pS l u k=aj
theorem afr:∀ n,∀ x∈Wy n,x.1=0\/x.1=1
 |0,x,h=>by cases h
 |n+1,x,h=>by
  rcases bi.1 h with rfl|h
  .exact .inr rfl
  .rw[pi h];exact .inl rfl
theorem WI.zero (w:WT) (l:List ET) (cl:Nat->List Int) (u:Nat) (hu:u<w.2.2.2.2.1.length):WI w l cl 0 (HS.zero w) u (ZF w l 0 u):=by
 have h1:(ZF w l 0 u).1=0\/(ZF w l 0 u).1=1:=afr _ _ (bJ (T:=ju) (xs:=Wy w.2.2.2.2.1.length) (j:=(u:Int)) (by omega) (by rw[G2];omega));have hW:(HS.zero w).W.getD u 0= -1:=by
  have:(aG w.2.2.2.2.1.length (-1:Int)).getD u 0= -1:=by rw[ay,k_,aF hu];rfl
  exact this
 exact⟨by rw[hW,aC (by omega)],λh=>by omega,λh=>by omega,λh=>by omega,λ_ k hk=>by omega⟩
theorem WI.step {w:WT} {l:List ET} {cl:Nat->List Int} {i:Nat} {h:HS} {u:Nat} (a:WI w l cl i h u (ZF w l i u)) (hi:i<l.length) (sc:SCx w (l.take i) (MB w (l.take i)).1 (MB w (l.take i)).2.1 (MB w (l.take i)).2.2 (eN l i)) (et:EvT (eZ l i) (eN l i)) (hu:u<w.2.2.2.2.1.length) (h1:h.W.length=w.2.2.2.2.1.length) (h2:h.N.length=w.2.2.2.2.1.length):WI w l cl (i+1) (h_ w h (eZ l i) (cl i)) u (ZF w l (i+1) u):=by
 have en:=sc.en;have eg:ZF w l (i+1) u=gT (qK w (MB w (l.take i)).1 (eN l i).1 (eN l i).2.1 (eN l i).2.2.1 (eN l i).2.2.2.1).1.2.2.2 (u:Int):=by unfold ZF;rw[RJ w hi]
 have T1:TH1 (eN l i).2.1 (eN l i).2.2.1 (eN l i).2.2.2.1 (eN l i).1 (u:Int) (ZF w l i u) (ZF w l (i+1) u):=by
  rw[eg];exact agj w (MB w (l.take i)).1 (eN l i).1 (eN l i).2.1 (eN l i).2.2.1 (eN l i).2.2.2.1 en sc.rd (λh=>sc.va.el (by omega) (by omega) (by omega) (by omega) (by omega)) (u:Int) (by omega) (by rw[en.e3];omega)
 clear eg;have eW:=ajm w h (eZ l i) (cl i) u (by omega) (by omega);have eN9:=ajp w h (eZ l i) (cl i) u (by omega);have qt:=et.th;have Z:=et.k;have qv:=et.va;have Y:(eZ l i).k=16\/(eZ l i).k=19\/(eZ l i).k=20->(eN l i).2.2.1=((eZ l i).ob:Int):=λh=>et.ob (by rcases h with h|h|h<;>rw[h]<;>decide)
 have pv':pvN l u (i+1)=if (eZ l i).th=u then (i:Int) else pvN l u i:=rfl
 have ps:pS l u i=decide ((eZ l i).k=20/\(eZ l i).ob=u):=rfl;clear en sc;obtain⟨aW,ap,aa,an,as'⟩:=a;obtain⟨ta,tb,tc,td,te⟩:=T1;generalize ZF w l (i+1) u=g' at*
 generalize ZF w l i u=g at*
 by_cases I:(eZ l i).th=u
 .obtain⟨b1,b2,b3,b4,_⟩:=ta (by rw[qt,I]);have w0:OL l u (i+1)= -1:=ab9 I;have hW':h.W.getD u 0= -1:=by rw[aW,aC b2]
  by_cases J:(eZ l i).k=16
  .obtain⟨c1,c2⟩:=b3 (by rw[Z,J];rfl);refine ⟨by rw[eW,aF ⟨J,I⟩,aF c1,c2,Y (.inl J)],λ_=>?_,λ_=>w0,λh=>by omega,λh=>by omega⟩;rw[pv',aF I,gz];exact⟨by omega,J,by rw[c2,Y (.inl J)]⟩
  .obtain⟨c1,c2,c3⟩:=b4 (by rw[Z];omega);refine ⟨?_,λh=>by omega,λh=>by omega,λh=>by omega,λh=>by omega⟩;rw[eW,aC (λx=>J x.1),aC c2,hW'];split<;>rfl
 have hut:(u:Int)≠(eN l i).1:=by rw[qt];omega
 rw[aC I] at pv';rw[aC (λx=>I x.2)] at eW;by_cases A:(eZ l i).k=18/\(eZ l i).va=u\/(eZ l i).k=19/\h.W.getD u 0=(eZ l i).ob
 .have B:g.1=3/\g'.1=4/\g'.2.1=g.2.1/\((eZ l i).k=19->g.2.1=(eZ l i).ob):=by
   rcases A with ⟨k,v⟩|⟨k,v⟩
   .obtain⟨U,M,d3,d4⟩:=tb hut (by rw[Z,k];rfl) (by rw[qv,v]);exact⟨U,d3,by rw[M,d4],λq=>by omega⟩
   .have g3:g.1=3:=by
     rw[aW] at v;split at v
     .assumption
     .omega
    rw[aW,aF g3] at v;obtain⟨U,M⟩:=tc hut (by rw[Z,k];rfl) g3 (by rw[v,Y (.inr (.inl k))]);exact⟨g3,U,by rw[M,v,Y (.inr (.inl k))],λ_=>v⟩
  obtain⟨U,M,d3,d4⟩:=B;obtain⟨p1,p2,p3⟩:=ap (.inl U);have hw:=abc I (aa U) ⟨p1,p2,by
   rcases A with A|⟨k,_⟩
   .exact .inl A
   .exact .inr ⟨k,by have:=d4 k;omega⟩⟩
  rw[aF A] at eW eN9;refine ⟨by rw[eW,aC (by omega)],λ_=>by rw[pv',d3];exact⟨p1,p2,p3⟩,λh=>by omega,λ_=>by rw[hw,gz];exact⟨by omega,eN9⟩,λh=>by omega⟩
 rw[aC A] at eW eN9;have nv:¬((eN l i).2.1=18/\(eN l i).2.2.2.1=(u:Int)):=λq=>A (.inl ⟨by omega,by rw[<- qv];exact q.2⟩)
 have nw:¬((eN l i).2.1=19/\g.1=3/\g.2.1=(eN l i).2.2.1):=λq=>A (.inr ⟨by omega,by rw[aW,aF q.2.1,q.2.2,Y (.inr (.inl (by omega)))]⟩)
 obtain⟨U,M⟩:=td hut nv nw;have nm:g.1=3->¬mtN l u i (pvN l u i):=λq ⟨_,_,m⟩=>by
  obtain⟨_,_,p3⟩:=ap (.inl q);rcases m with m|⟨k,m⟩
  .exact A (.inl m)
  .exact nw ⟨by omega,q,by rw[Y (.inr (.inl k)),m,p3]⟩
 refine ⟨?_,λq=>?_,λq=>?_,λq=>?_,λq k hk=>?_⟩
 .rw[eW,aW,U];rcases M with M|M
  .rw[M]
  .rw[aC (by omega),aC (by omega)]
 .rw[pv',U];exact ap (by omega)
 .have q:g.1=3:=by omega
  exact abb I (aa q) (nm q)
 .have q:g.1=4:=by omega
  obtain⟨n1,n2⟩:=an q;rw[aba I n1,eN9];exact⟨n1,n2⟩
 .have q0:g.1=0:=by omega
  by_cases e:k=i
  .subst e;rw[ps];exact bF λr=>te (by rw[Z,r.1];rfl) (by rw[Y (.inr (.inr r.1)),r.2]) q
  .exact as' q0 k (by omega)
def Gb (l:List ET) (o:Nat):Nat->Int
 |0=> -1
 |i+1=>if (eZ l i).k=4/\(eZ l i).ob=o then (i:Int) else Gb l o i
theorem Zb (l:List ET) (o:Nat):∀ i:Nat,-1<=Gb l o i/\Gb l o i<i
 |0=>⟨eJ _,by show (-1:Int)<0;omega⟩
 |i+1=>by have:=Zb l o i;rw[Gb];split<;>omega
def WH (l:List ET) (i:Nat):Prop:=(eZ l i).k=3/\0<=Gb l (eZ l i).ob i
instance (l:List ET) (i:Nat):Decidable (WH l i):=by unfold WH;exact inferInstance
def SK (l:List ET) (i:Nat):Nat:=(Gb l (eZ l i).ob i).toNat
theorem M7 {l:List ET} {i:Nat} (h:WH l i):SK l i<i:=by have:=Zb l (eZ l i).ob i;have:=h.2;unfold SK;omega
def Sz (w:WT) (l:List ET):Nat->HS×List (List Int)
 |0=>(HS.zero w,[])
 |i+1=>
  let c:=if WH l i then jl (xt w (Sz w l i).1 (eZ l i)) ((Sz w l i).2.getD (SK l i) []) else xt w (Sz w l i).1 (eZ l i)
  (h_ w (Sz w l i).1 (eZ l i) c,(Sz w l i).2++[c])
def vE (w:WT) (l:List ET) (i:Nat):List Int:=(Sz w l (i+1)).2.getD i []
theorem G3 (w:WT) (l:List ET):∀ i,(Sz w l i).2.length=i
 |0=>rfl
 |i+1=>by rw[Sz];simp[G3 w l i]
theorem M3 (w:WT) (l:List ET) {k:Nat}:∀ i,k<i->(Sz w l i).2.getD k []=vE w l k
 |i+1,h=>by
  by_cases e:k=i
  .subst e;rfl
  .rw[<- M3 w l i (by omega),Sz];dsimp only;rw[ay,bG (by rw[G3];omega),ay]
theorem Vc (w:WT) (l:List ET) (i:Nat):vE w l i=if WH l i then jl (xt w (Sz w l i).1 (eZ l i)) (vE w l (SK l i)) else xt w (Sz w l i).1 (eZ l i):=by
 unfold vE;rw[Sz];dsimp only;rw[ay,bT (by rw[G3];omega),G3,GY];show (if WH l i then _ else _)=_;by_cases h:WH l i
 .rw[aF h,aF h,M3 w l i (M7 h)];rfl
 .rw[aC h,aC h]
theorem YL (w:WT) (l:List ET):∀ i,(Sz w l i).1=Kr w l (vE w l) i
 |0=>rfl
 |i+1=>by
  rw[Kr,Vc,<-YL w l i,Sz];dsimp only;by_cases h:WH l i
  .rw[aF h,aF h,M3 w l i (M7 h)]
  .rw[aC h,aC h]
abbrev Hz (w:WT) (l:List ET) (i:Nat):List Int:=chC w l (vE w l) i
theorem HA (w:WT) (l:List ET) (i:Nat):vE w l i=if WH l i then jl (Hz w l i) (vE w l (SK l i)) else Hz w l i:=by
 rw[Vc,YL]
theorem aly (w:WT) (l:List ET):CL w l (vE w l):=λi _=>by
 rw[HA];by_cases h:WH l i
 .rw[aF h];exact .inr ⟨_,M7 h,rfl⟩
 .rw[aC h];exact .inl rfl
theorem aei {w:WT} {l:List ET} {i:Nat} (h:¬(eZ l i).k=3):vE w l i=Hz w l i:=by rw[HA,aC λq=>h q.1]
def Q8 (r:List Int):Prop:=GR r/\∀ z∈r,0<=z/\z<4
def P8 (s:List (Int×List Int)):Prop:=∀ x∈s,Q8 x.2
theorem P8.get {s:List (Int×List Int)} (h:P8 s) (o:Int):Q8 (aJ (T:=zR) s o).2:=by
 unfold aJ;rw[ay];cases e:s[o.toNat]? with
 |none=>exact⟨trivial,λz I=>by cases I⟩
 |some x=>exact h x (a_ e)
theorem P8.set {s:List (Int×List Int)} (h:P8 s) (o a:Int) {r:List Int} (hr:Q8 r):P8 (cq s o (a,r)):=λx I=>by
 rcases BW I with I|rfl
 .exact h x I
 .exact hr
theorem BE (p:Int->Bool):∀ {l:List Int},GR l->GR (l.filter p)
 |[],_=>trivial
 |x::r,h=>by
  rw[List.filter_cons];split
  .exact⟨λy I=>h.1 y ((ES.1 I).1),BE p h.2⟩
  .exact BE p h.2
theorem P8.ite {c:Prop} [Decidable c] {a b:SY×Int} (I:P8 a.1.1) (hb:P8 b.1.1):P8 (if c then a else b).1.1:=by by_cases h:c<;>simp[h,I,hb]
theorem P8.ap {w:WT} {s:SY} (h:P8 s.1) {t:Int} (k o v:Int) (t0:0<=t) (J:t<4):P8 (qK w s t k o v).1.1:=by
 have ow:∀ a b,P8 (owP s.1 a b):=λa b=>h.set a b (h.get a)
 have un:P8 (rdP s.1 o (wM (aJ (T:=zR) s.1 o).2 [t])):=h.set _ _ ⟨OY _ _,λz I=>by
  rcases Hs.1 I with I|I
  .exact (h.get o).2 z I
  .rw[aL] at I;subst I;exact⟨t0,J⟩⟩
 have wt:P8 (rdP s.1 o (wo (aJ (T:=zR) s.1 o).2 t)):=h.set _ _ ⟨BE _ (h.get o).1,λz I=>(h.get o).2 z (ES.1 I).1⟩;unfold qK;exact P8.ite h (P8.ite h (P8.ite (ow _ _) (P8.ite (ow _ _) (P8.ite un (P8.ite wt (P8.ite h (P8.ite h (P8.ite h (P8.ite h (P8.ite (ow _ _) (P8.ite (ow _ _) (P8.ite (P8.ite h h) (P8.ite h (P8.ite h (P8.ite h h)))))))))))))))
def iu (w:WT) (l:List ET):SN:=l.foldl (nxP w) (sn8 w)
theorem LJ (w:WT) {l:List ET} {i:Nat} (h:i<l.length):iu w (l.take (i+1))=nxP w (iu w (l.take i)) (eN l i):=by
 rw[nR (T:=tE) h];unfold iu;rw[fG];rfl
structure K8 (w:WT) (l:List ET) (i:Nat) (s:SN):Prop where
 a:(s.1,s.2.1,s.2.2.1)=MB w (l.take i)
 r:P8 s.1.1
 c:s.2.1.length=w.1.length
 f:s.2.2.1.length=w.2.2.2.1.length
 k:s.2.2.2.length=w.2.2.2.2.1.length
 n:CN (l.take i) s.2.2.2
theorem U9 {w:WT} {l:List ET} (tr:TR (w,l)):∀ i:Nat,i<=l.length->K8 w l i (iu w (l.take i))
 |0,_=>⟨rfl,λx J=>by rw[pi J];exact⟨trivial,λz I=>by cases I⟩,by simp[iu,ZZ],by simp[iu,fu0],by simp[iu],λt t0 t1=>by
   have:(aG w.2.2.2.2.1.length (0:Int)).getD t.toNat 0=0:=by rw[ay,k_];split<;>rfl
   exact this⟩
 |i+1,h=>by
  obtain⟨a,r,c,f,k,n⟩:=U9 tr i (by omega);have sc:=tr.sc (i:=i) (by omega);have hl:=tr.len;have ht:=tr.wb.t;dsimp only at hl ht;have en:=sc.en;have e1:=en.t1;have htk:=pJ i l;rw[LJ w (by omega)];refine ⟨?_,r.ap _ _ _ en.t0 (by omega),?_,?_,?_,?_⟩
  .rw[RJ w (by omega),<-a];rfl
  .unfold nxP XI;dsimp only;split
   .rw[bR];exact c
   .exact c
  .unfold nxP Ys;dsimp only;split
   .rw[bR];exact f
   .exact f
  .unfold nxP;rw[bR];exact k
  .have:=n.next (eN l i) en.t0 (by rw[k];exact e1) (by omega);rw[nR (T:=tE) (show i<l.length by omega)];exact this
theorem M0 {w:WT} {l:List ET} (tr:TR (w,l)) {i:Nat} (hi:i<l.length):fJ (w,iu w (l.take i),eN l i)=af (iu w (l.take (i+1)),ai):=by
 obtain⟨a,r,c,f,k,n⟩:=U9 tr i (by omega);have sc:=tr.sc hi;have I:=tr.wx;have ht:=tr.wb.t;have hls:=tr.ls _ (Bw hi);dsimp only at I ht hls;rw[LJ w hi];rw[<- a] at sc;generalize iu w (l.take i)=s at*
 generalize eN l i=e at*
 have en:=sc.en;have e1:=en.t1;have l3:w.2.1.length=3:=by rw[I.l];rfl
 have J:=n e.1 en.t0 (by rw[k];exact e1);have b1:=tr.wb.c;have Z:=tr.wb.f;have b3:=tr.wb.d;dsimp only at b1 Z b3;have Y:=en.e1;have U:=en.e2;have q3:=en.e3;dsimp only at Y U q3;refine aki (n:=4) w s e ⟨⟨by omega,by omega,λx M=>?_,by omega,by omega⟩,by omega,by omega,by omega⟩ (by omega) (by omega) ⟨c,f,k⟩ en ⟨sc.rd,sc.s1,sc.s2,sc.de,sc.fr,by rw[J];exact sc.nd,by rw[J];exact sc.nf,sc.va⟩ hls.1 hls.2 (λh=>?_) (by omega) r (by omega)
 .have:=Ov x.2 0 4 (r x M).1 (r x M).2;omega
 .have o1:=en.nm.lk (by omega);have o2:=en.nm.rw (by omega);generalize e.2.2.1=o at o1 o2;rw[I.l] at o1 o2;have:o=0\/o=1\/o=2:=by have:F5.length=3:=rfl;omega
  rcases this with rfl|rfl|rfl
  .cases o2
  .cases o2
  .rfl
abbrev fN (l:List ET) (i:Nat) (t:Int):List Bool:=fl (l.take i) t
theorem NP {l:List ET} {i:Nat} (h:i<l.length) {t:Int} (e:(eN l i).1=t):fN l (i+1) t=fN l i t++[sP (eN l i)]:=by
 unfold fN;rw[nR (T:=tE) h,ud,yO e]
theorem NQ {l:List ET} {i:Nat} (h:i<l.length) {t:Int} (e:¬(eN l i).1=t):fN l (i+1) t=fN l i t:=by
 unfold fN;rw[nR (T:=tE) h,ud,v7 e,lG]
theorem G5 {w:WT} {l:List ET} (tr:TR (w,l)) {i:Nat} (hi:i<l.length) {t:Int} (e:(eN l i).1=t):cf (fN l i t,eN l i)=af ai:=by
 have sc:=tr.sc hi;have hls:=tr.ls _ (Bw hi);subst e;exact XM _ _ sc.rd1 sc.rd2 hls.1 hls.2
theorem NR (l:List ET) (i:Nat) (t:Int):(fN l i t).length<=l.length:=dc (VP _ _) (List.length_take_le' ..)
theorem aau {w:WT} {l:List ET} (tr:TR (w,l)) (hn:w.2.2.2.2.1.length=4):dX (w,l)=af (0,0):=by
 have hl:=tr.len;dsimp only at hl;refine cJ ?_;unfold dX jD aV bg bp cw dN jd bL eP mg nh be bx bE bK aX cK aE cB;refine fD (fZ.2 (by dsimp only[au];omega)) (aU (VW8 tr.wx tr.vl) (fE (aU (BF tr.wx) (bd (by show (cV 0 (aO w.2.2.2.2.1.length)&&cV (aO w.2.2.2.2.1.length) (aO w.2.2.2.2.1.length)&&bc (aS (aO w.2.2.2.2.1.length)) 24&&decide ((aO w.2.2.2.2.1.length:Int)=4))=ai;rw[hn];rfl) ?_))));refine je l.length (by omega) (λi x=>x=((i:Int),(w,l),iu w (l.take i),fN l i 0,fN l i 1,fN l i 2,fN l i 3)) ?_ ?_ rfl
 .rintro i x hi rfl;have e1:=(tr.sc hi).en.t1;have e0:=(tr.sc hi).en.t0;have st:=M0 tr hi;have fa:=λt=>NR l i t
  have rd:=λt=>G5 tr hi (t:=t)
  have own:=λt=>NP hi (t:=t)
  have oth:=λt=>NQ hi (t:=t)
  refine dC ?_;refine cD (aT ?_);have ht:(eN l i).1=0\/(eN l i).1=1\/(eN l i).1=2\/(eN l i).1=3:=by omega
  have hg:aJ (T:=tE) l (i:Int)=eN l i:=rfl;dsimp only;rw[hg];generalize eN l i=e at*
  refine aU st ?_;obtain⟨(t:Int),e⟩:=e;dsimp only at ht;rcases ht with rfl|rfl|rfl|rfl
  .refine aY (λx=>x=(aj,(w,l),iu w (l.take i),(0,e),iu w (l.take (i+1)),fN l i 0,fN l i 1,fN l i 2,fN l i 3)) ?_ ?_
   .simp only[aZ,bm,sG];exact aU (rd 0 rfl) (ar rfl)
   rintro x rfl;refine fE (aY (λx=>x=((w,l),iu w (l.take i),iu w (l.take (i+1)),fN l (i+1) 0,fN l (i+1) 1,fN l (i+1) 2,fN l (i+1) 3)) ?_ ?_)
   .simp only[aZ,bm,sG];rw[own 0 rfl,oth 1 (by show ¬(0:Int)=1;decide),oth 2 (by show ¬(0:Int)=2;decide),oth 3 (by show ¬(0:Int)=3;decide)];have:=fa 0;refine aK (λh=>bk (by simp;omega) (by omega) (ar ?_)) λh=>bk (by simp;omega) (by omega) (ar ?_)
    .have:sP (0,e)=ai:=by unfold sP;rw[aQ h];rfl
     rw[this]
    .have:sP (0,e)=decide (e.1=23):=by unfold sP;rw[bF h];rfl
     rw[this]
   rintro x rfl;exact ar (by rw[gW (by omega)])
  .refine aY (λx=>x=(aj,(w,l),iu w (l.take i),(1,e),iu w (l.take (i+1)),fN l i 0,fN l i 1,fN l i 2,fN l i 3)) ?_ ?_
   .simp only[aZ,bm,sG];exact aU (rd 1 rfl) (ar rfl)
   rintro x rfl;refine fE (aY (λx=>x=((w,l),iu w (l.take i),iu w (l.take (i+1)),fN l (i+1) 0,fN l (i+1) 1,fN l (i+1) 2,fN l (i+1) 3)) ?_ ?_)
   .simp only[aZ,bm,sG];rw[own 1 rfl,oth 0 (by show ¬(1:Int)=0;decide),oth 2 (by show ¬(1:Int)=2;decide),oth 3 (by show ¬(1:Int)=3;decide)];have:=fa 1;refine aK (λh=>bk (by simp;omega) (by omega) (ar ?_)) λh=>bk (by simp;omega) (by omega) (ar ?_)
    .have:sP (1,e)=ai:=by unfold sP;rw[aQ h];rfl
     rw[this]
    .have:sP (1,e)=decide (e.1=23):=by unfold sP;rw[bF h];rfl
     rw[this]
   rintro x rfl;exact ar (by rw[gW (by omega)])
  .refine aY (λx=>x=(aj,(w,l),iu w (l.take i),(2,e),iu w (l.take (i+1)),fN l i 0,fN l i 1,fN l i 2,fN l i 3)) ?_ ?_
   .simp only[aZ,bm,sG];exact aU (rd 2 rfl) (ar rfl)
   rintro x rfl;refine fE (aY (λx=>x=((w,l),iu w (l.take i),iu w (l.take (i+1)),fN l (i+1) 0,fN l (i+1) 1,fN l (i+1) 2,fN l (i+1) 3)) ?_ ?_)
   .simp only[aZ,bm,sG];rw[own 2 rfl,oth 0 (by show ¬(2:Int)=0;decide),oth 1 (by show ¬(2:Int)=1;decide),oth 3 (by show ¬(2:Int)=3;decide)];have:=fa 2;refine aK (λh=>bk (by simp;omega) (by omega) (ar ?_)) λh=>bk (by simp;omega) (by omega) (ar ?_)
    .have:sP (2,e)=ai:=by unfold sP;rw[aQ h];rfl
     rw[this]
    .have:sP (2,e)=decide (e.1=23):=by unfold sP;rw[bF h];rfl
     rw[this]
   rintro x rfl;exact ar (by rw[gW (by omega)])
  .refine aY (λx=>x=(aj,(w,l),iu w (l.take i),(3,e),iu w (l.take (i+1)),fN l i 0,fN l i 1,fN l i 2,fN l i 3)) ?_ ?_
   .simp only[aZ,bm,sG];exact aU (rd 3 rfl) (ar rfl)
   rintro x rfl;refine fE (aY (λx=>x=((w,l),iu w (l.take i),iu w (l.take (i+1)),fN l (i+1) 0,fN l (i+1) 1,fN l (i+1) 2,fN l (i+1) 3)) ?_ ?_)
   .simp only[aZ,bm,sG];rw[own 3 rfl,oth 0 (by show ¬(3:Int)=0;decide),oth 1 (by show ¬(3:Int)=1;decide),oth 2 (by show ¬(3:Int)=2;decide)];have:=fa 3;refine aK (λh=>bk (by simp;omega) (by omega) (ar ?_)) λh=>bk (by simp;omega) (by omega) (ar ?_)
    .have:sP (3,e)=ai:=by unfold sP;rw[aQ h];rfl
     rw[this]
    .have:sP (3,e)=decide (e.1=23):=by unfold sP;rw[bF h];rfl
     rw[this]
   rintro x rfl;exact ar (by rw[gW (by omega)])
 .rintro x rfl;exact dx (ar rfl)
theorem EP {w:WT} {l:List ET} (tr:TR (w,l)) (hn:¬w.2.2.2.2.1.length=4):dX (w,l)=ah:=by
 have hl:=tr.len;dsimp only at hl;unfold dX jD aV bg bp cw dN jd bL eP mg nh be bx bE bK aX cK aE cB;rw[show fP 400 (aO (al (w,l).2))=aj from fZ.2 (by dsimp only[au];omega)];simp only[aZ,bm,sG];rw[VW8 tr.wx tr.vl];simp only[aZ,bm,sG];rw[BF tr.wx];simp only[aZ,bm,sG];rw[show decide ((aO w.2.2.2.2.1.length:Int)=4)=aj from bF (by dsimp only[au];omega),Bool.and_false];rfl
theorem aav {w:WT} {l:List ET} (tr:TR (w,l)) (hn:w.2.2.2.2.1.length=3):dE (w,l)=af (0,0):=by
 have hl:=tr.len;dsimp only at hl;refine cJ ?_;unfold dE jE aV bg bp cw dN bL cO eP mg be bx bE bK aX cK aE cB;refine fD (fZ.2 (by dsimp only[au];omega)) (aU (VW8 tr.wx tr.vl) (fE (aU (BF tr.wx) (bd (by show (cV 0 (aO w.2.2.2.2.1.length)&&cV (aO w.2.2.2.2.1.length) (aO w.2.2.2.2.1.length)&&bc (aS (aO w.2.2.2.2.1.length)) 24&&decide ((aO w.2.2.2.2.1.length:Int)=3))=ai;rw[hn];rfl) ?_))));refine je l.length (by omega) (λi x=>x=((i:Int),(w,l),iu w (l.take i),fN l i 0,fN l i 1,fN l i 2)) ?_ ?_ rfl
 .rintro i x hi rfl;have e1:=(tr.sc hi).en.t1;have e0:=(tr.sc hi).en.t0;have st:=M0 tr hi;have fa:=λt=>NR l i t
  have rd:=λt=>G5 tr hi (t:=t)
  have own:=λt=>NP hi (t:=t)
  have oth:=λt=>NQ hi (t:=t)
  refine dC ?_;refine cD (aT ?_);have ht:(eN l i).1=0\/(eN l i).1=1\/(eN l i).1=2:=by omega
  have hg:aJ (T:=tE) l (i:Int)=eN l i:=rfl;dsimp only;rw[hg];generalize eN l i=e at*
  refine aU st ?_;obtain⟨(t:Int),e⟩:=e;dsimp only at ht;rcases ht with rfl|rfl|rfl
  .refine aY (λx=>x=(aj,(w,l),iu w (l.take i),(0,e),iu w (l.take (i+1)),fN l i 0,fN l i 1,fN l i 2)) ?_ ?_
   .simp only[aZ,bm,sG];exact aU (rd 0 rfl) (ar rfl)
   rintro x rfl;refine fE (aY (λx=>x=((w,l),iu w (l.take i),iu w (l.take (i+1)),fN l (i+1) 0,fN l (i+1) 1,fN l (i+1) 2)) ?_ ?_)
   .simp only[aZ,bm,sG];rw[own 0 rfl,oth 1 (by show ¬(0:Int)=1;decide),oth 2 (by show ¬(0:Int)=2;decide)];have:=fa 0;refine aK (λh=>bk (by simp;omega) (by omega) (ar ?_)) λh=>bk (by simp;omega) (by omega) (ar ?_)
    .have:sP (0,e)=ai:=by unfold sP;rw[aQ h];rfl
     rw[this]
    .have:sP (0,e)=decide (e.1=23):=by unfold sP;rw[bF h];rfl
     rw[this]
   rintro x rfl;exact ar (by rw[gW (by omega)])
  .refine aY (λx=>x=(aj,(w,l),iu w (l.take i),(1,e),iu w (l.take (i+1)),fN l i 0,fN l i 1,fN l i 2)) ?_ ?_
   .simp only[aZ,bm,sG];exact aU (rd 1 rfl) (ar rfl)
   rintro x rfl;refine fE (aY (λx=>x=((w,l),iu w (l.take i),iu w (l.take (i+1)),fN l (i+1) 0,fN l (i+1) 1,fN l (i+1) 2)) ?_ ?_)
   .simp only[aZ,bm,sG];rw[own 1 rfl,oth 0 (by show ¬(1:Int)=0;decide),oth 2 (by show ¬(1:Int)=2;decide)];have:=fa 1;refine aK (λh=>bk (by simp;omega) (by omega) (ar ?_)) λh=>bk (by simp;omega) (by omega) (ar ?_)
    .have:sP (1,e)=ai:=by unfold sP;rw[aQ h];rfl
     rw[this]
    .have:sP (1,e)=decide (e.1=23):=by unfold sP;rw[bF h];rfl
     rw[this]
   rintro x rfl;exact ar (by rw[gW (by omega)])
  .refine aY (λx=>x=(aj,(w,l),iu w (l.take i),(2,e),iu w (l.take (i+1)),fN l i 0,fN l i 1,fN l i 2)) ?_ ?_
   .simp only[aZ,bm,sG];exact aU (rd 2 rfl) (ar rfl)
   rintro x rfl;refine fE (aY (λx=>x=((w,l),iu w (l.take i),iu w (l.take (i+1)),fN l (i+1) 0,fN l (i+1) 1,fN l (i+1) 2)) ?_ ?_)
   .simp only[aZ,bm,sG];rw[own 2 rfl,oth 0 (by show ¬(2:Int)=0;decide),oth 1 (by show ¬(2:Int)=1;decide)];have:=fa 2;refine aK (λh=>bk (by simp;omega) (by omega) (ar ?_)) λh=>bk (by simp;omega) (by omega) (ar ?_)
    .have:sP (2,e)=ai:=by unfold sP;rw[aQ h];rfl
     rw[this]
    .have:sP (2,e)=decide (e.1=23):=by unfold sP;rw[bF h];rfl
     rw[this]
   rintro x rfl;exact ar (by rw[gW (by omega)])
 .rintro x rfl;exact dx (ar rfl)
theorem MJ {w:WT} {l:List ET} (tr:TR (w,l)) (hn:¬w.2.2.2.2.1.length=3):dE (w,l)=ah:=by
 have hl:=tr.len;dsimp only at hl;unfold dE jE aV bg bp cw dN bL cO eP mg be bx bE bK aX cK aE cB;rw[show fP 400 (aO (al (w,l).2))=aj from fZ.2 (by dsimp only[au];omega)];simp only[aZ,bm,sG];rw[VW8 tr.wx tr.vl];simp only[aZ,bm,sG];rw[BF tr.wx];simp only[aZ,bm,sG];rw[show decide ((aO w.2.2.2.2.1.length:Int)=3)=aj from bF (by dsimp only[au];omega),Bool.and_false];rfl
theorem aaw {w:WT} {l:List ET} (tr:TR (w,l)) (hn:w.2.2.2.2.1.length=2):c9 (w,l)=af (0,0):=by
 have hl:=tr.len;dsimp only at hl;refine cJ ?_;unfold c9 jF aV bg bp cw bL db eP be bx bE bK aX cK aE cB;refine fD (fZ.2 (by dsimp only[au];omega)) (aU (VW8 tr.wx tr.vl) (fE (aU (BF tr.wx) (bd (by show (cV 0 (aO w.2.2.2.2.1.length)&&cV (aO w.2.2.2.2.1.length) (aO w.2.2.2.2.1.length)&&bc (aS (aO w.2.2.2.2.1.length)) 24&&decide ((aO w.2.2.2.2.1.length:Int)=2))=ai;rw[hn];rfl) ?_))));refine je l.length (by omega) (λi x=>x=((i:Int),(w,l),iu w (l.take i),fN l i 0,fN l i 1)) ?_ ?_ rfl
 .rintro i x hi rfl;have e1:=(tr.sc hi).en.t1;have e0:=(tr.sc hi).en.t0;have st:=M0 tr hi;have fa:=λt=>NR l i t
  have rd:=λt=>G5 tr hi (t:=t)
  have own:=λt=>NP hi (t:=t)
  have oth:=λt=>NQ hi (t:=t)
  refine dC ?_;refine cD (aT ?_);have ht:(eN l i).1=0\/(eN l i).1=1:=by omega
  have hg:aJ (T:=tE) l (i:Int)=eN l i:=rfl;dsimp only;rw[hg];generalize eN l i=e at*
  refine aU st ?_;obtain⟨(t:Int),e⟩:=e;dsimp only at ht;rcases ht with rfl|rfl
  .refine aY (λx=>x=(aj,(w,l),iu w (l.take i),(0,e),iu w (l.take (i+1)),fN l i 0,fN l i 1)) ?_ ?_
   .simp only[aZ,bm,sG];exact aU (rd 0 rfl) (ar rfl)
   rintro x rfl;refine fE (aY (λx=>x=((w,l),iu w (l.take i),iu w (l.take (i+1)),fN l (i+1) 0,fN l (i+1) 1)) ?_ ?_)
   .simp only[aZ,bm,sG];rw[own 0 rfl,oth 1 (by show ¬(0:Int)=1;decide)];have:=fa 0;refine aK (λh=>bk (by simp;omega) (by omega) (ar ?_)) λh=>bk (by simp;omega) (by omega) (ar ?_)
    .have:sP (0,e)=ai:=by unfold sP;rw[aQ h];rfl
     rw[this]
    .have:sP (0,e)=decide (e.1=23):=by unfold sP;rw[bF h];rfl
     rw[this]
   rintro x rfl;exact ar (by rw[gW (by omega)])
  .refine aY (λx=>x=(aj,(w,l),iu w (l.take i),(1,e),iu w (l.take (i+1)),fN l i 0,fN l i 1)) ?_ ?_
   .simp only[aZ,bm,sG];exact aU (rd 1 rfl) (ar rfl)
   rintro x rfl;refine fE (aY (λx=>x=((w,l),iu w (l.take i),iu w (l.take (i+1)),fN l (i+1) 0,fN l (i+1) 1)) ?_ ?_)
   .simp only[aZ,bm,sG];rw[own 1 rfl,oth 0 (by show ¬(1:Int)=0;decide)];have:=fa 1;refine aK (λh=>bk (by simp;omega) (by omega) (ar ?_)) λh=>bk (by simp;omega) (by omega) (ar ?_)
    .have:sP (1,e)=ai:=by unfold sP;rw[aQ h];rfl
     rw[this]
    .have:sP (1,e)=decide (e.1=23):=by unfold sP;rw[bF h];rfl
     rw[this]
   rintro x rfl;exact ar (by rw[gW (by omega)])
 .rintro x rfl;exact dx (ar rfl)
theorem Yp {w:WT} {l:List ET} (tr:TR (w,l)) (hn:¬w.2.2.2.2.1.length=2):c9 (w,l)=ah:=by
 have hl:=tr.len;dsimp only at hl;unfold c9 jF aV bg bp cw bL db eP be bx bE bK aX cK aE cB;rw[show fP 400 (aO (al (w,l).2))=aj from fZ.2 (by dsimp only[au];omega)];simp only[aZ,bm,sG];rw[VW8 tr.wx tr.vl];simp only[aZ,bm,sG];rw[BF tr.wx];simp only[aZ,bm,sG];rw[show decide ((aO w.2.2.2.2.1.length:Int)=2)=aj from bF (by dsimp only[au];omega),Bool.and_false];rfl
theorem aax {w:WT} {l:List ET} (tr:TR (w,l)) (hn:w.2.2.2.2.1.length=1):dY (w,l)=af (0,0):=by
 have hl:=tr.len;dsimp only at hl;refine cJ ?_;unfold dY ly aV bg bp bL cO be bx bE bK aX cK aE cB;refine fD (fZ.2 (by dsimp only[au];omega)) (aU (VW8 tr.wx tr.vl) (fE (aU (BF tr.wx) (bd (by show (cV 0 (aO w.2.2.2.2.1.length)&&cV (aO w.2.2.2.2.1.length) (aO w.2.2.2.2.1.length)&&bc (aS (aO w.2.2.2.2.1.length)) 24&&decide ((aO w.2.2.2.2.1.length:Int)=1))=ai;rw[hn];rfl) ?_))));refine je l.length (by omega) (λi x=>x=((i:Int),(w,l),iu w (l.take i),fN l i 0)) ?_ ?_ rfl
 .rintro i x hi rfl;have e1:=(tr.sc hi).en.t1;have e0:=(tr.sc hi).en.t0;have st:=M0 tr hi;have fa:=λt=>NR l i t
  have rd:=λt=>G5 tr hi (t:=t)
  have own:=λt=>NP hi (t:=t)
  have oth:=λt=>NQ hi (t:=t)
  refine dC ?_;refine cD (aT ?_);have ht:(eN l i).1=0:=by omega
  have hg:aJ (T:=tE) l (i:Int)=eN l i:=rfl;dsimp only;rw[hg];generalize eN l i=e at*
  refine aU st ?_;obtain⟨(t:Int),e⟩:=e;dsimp only at ht;subst ht
  .refine aY (λx=>x=(aj,(w,l),iu w (l.take i),(0,e),iu w (l.take (i+1)),fN l i 0)) ?_ ?_
   .simp only[aZ,bm,sG];exact aU (rd 0 rfl) (ar rfl)
   rintro x rfl;refine fE (aY (λx=>x=((w,l),iu w (l.take i),iu w (l.take (i+1)),fN l (i+1) 0)) ?_ ?_)
   .simp only[aZ,bm,sG];rw[own 0 rfl];have:=fa 0;refine aK (λh=>bk (by simp;omega) (by omega) (ar ?_)) λh=>bk (by simp;omega) (by omega) (ar ?_)
    .have:sP (0,e)=ai:=by unfold sP;rw[aQ h];rfl
     rw[this]
    .have:sP (0,e)=decide (e.1=23):=by unfold sP;rw[bF h];rfl
     rw[this]
   rintro x rfl;exact ar (by rw[gW (by omega)])
 .rintro x rfl;exact dx (ar rfl)
theorem aig {w:WT} {l:List ET} (tr:TR (w,l)):mh (w,l)=af (0,0):=by
 have h1:=tr.vl.t0;have I:=tr.vl.t;dsimp only at h1 I;unfold mh;have:w.2.2.2.2.1.length=4\/w.2.2.2.2.1.length=3\/w.2.2.2.2.1.length=2\/w.2.2.2.2.1.length=1:=by omega
 rcases this with h|h|h|h
 .rw[aau tr h];rfl
 .rw[EP tr (by omega),aav tr h];rfl
 .rw[EP tr (by omega),MJ tr (by omega),aaw tr h];rfl
 .rw[EP tr (by omega),MJ tr (by omega),Yp tr (by omega),aax tr h];rfl
theorem O1 {w:WT} {l:List ET} (tr:TR (w,l)):nG w=af (HS.zero w).t:=by
 have wb:=tr.wb;dsimp only at wb;exact aaa w (by have:=wb.c;unfold wI;omega) (by have:=wb.l;unfold wI;omega) (by have:=wb.f;unfold wI;omega) (by have:=wb.t;unfold wI;omega)
theorem abg {w:WT} {l:List ET} (tr:TR (w,l)) {i:Nat} (hi:i<l.length):rV (w,(PI w (l.take i)).t,eN l i)=af ((PI w (l.take (i+1))).t,OQ w l i):=by
 have hl:=tr.len;dsimp only at hl;have:=adn (Ti tr i (by omega)).1 (by omega) (ZK tr hi) (Qs tr hi);rw[Ii w hi];exact this
def tA {α:Type} (n:Nat) (f:Nat->α) (z:α) (i:Nat):List α:=(eS n).map λk=>if k<i then f k else z
theorem MW {α:Type} (n:Nat) (f:Nat->α) (z:α) (i:Nat):(tA n f z i).length=n:=by simp[tA]
theorem MV {α:Type} {n:Nat} {f:Nat->α} {z:α} {i:Nat} (h:i<n):(tA n f z i).set i (f i)=tA n f z (i+1):=by
 unfold tA;apply dw
 .simp
 intro k h1 h2;simp only[sd,bY,jI] at h1;rw[uB];simp only[qB,m7];by_cases e:i=k
 .subst e;rw[aF rfl,aF (by omega)]
 .rw[aC e];by_cases g:k<i
  .rw[aF g,aF (by omega)]
  .rw[aC g,aC (by omega)]
theorem MU {α:Type} (n:Nat) (f:Nat->α) (z:α):tA n f z 0=aG n z:=by unfold tA;simp[List.map_const']
theorem Sv {α:Type} (n:Nat) (f:Nat->α) (z:α):tA n f z n=(eS n).map f:=pI λk hk=>by rw[aF (m6.1 hk)]
abbrev csN (w:WT) (l:List ET):List (List Int):=(eS l.length).map (OQ w l)
theorem Yo {w:WT} {l:List ET} (tr:TR (w,l)):pe (w,l)=af (csN w l,0):=by
 have hl:=tr.len;dsimp only at hl;refine cJ ?_;unfold pe xa aV bL ck bx iI bE bK aX cK aE cB;refine aU (aig tr) (fE (aU (O1 tr) (c6 (c6 (dZ (by dsimp only[au];omega) (dZ (by omega) (bk (by simp;omega) (by omega) ?_)))))));refine je l.length (by omega) (λi x=>x=((i:Int),(w,l),(PI w (l.take i)).t,tA l.length (OQ w l) [] i)) ?_ ?_ ?_
 .rintro i x hi rfl;refine dC ?_;refine cD (aT ?_);refine aU (abg tr hi) ?_;refine aR (by dsimp only;omega) (by dsimp only;rw[MW];omega) (aR (by dsimp only;omega) (by dsimp only;rw[MW];omega) (ar ?_));dsimp only;rw[gW (by omega),eM,MV hi]
 .rintro x rfl;refine dx (ar ?_);dsimp only;rw[Sv]
 .show _=_;rw[MU];rfl
theorem LV (k j v:Int):∀ m:List (Int×Int),sH (K:=.int .i64) (V:=.int .i64) j (HZ (K:=.int .i64) (V:=.int .i64) k v m)=if j=k then af v else sH (K:=.int .i64) (V:=.int .i64) j m
 |[]=>by
  show (if decide (j=k)=ai then af v else ah)=_;by_cases h:j=k<;>simp[h,sH]
 |(a,b)::r=>by
  have I:=LV k j v r;show sH (K:=.int .i64) (V:=.int .i64) j (if decide (k=a)=ai then (k,v)::r else (a,b)::HZ (K:=.int .i64) (V:=.int .i64) k v r)=if j=k then af v else if decide (j=a)=ai then af b else sH (K:=.int .i64) (V:=.int .i64) j r
  by_cases h:k=a
  .subst h;rw[aF (aQ rfl)];show (if decide (j=k)=ai then af v else sH (K:=.int .i64) (V:=.int .i64) j r)=_;by_cases g:j=k<;>simp[g]
  .rw[aC (by simpa using h)];show (if decide (j=a)=ai then af b else sH (K:=.int .i64) (V:=.int .i64) j (HZ (K:=.int .i64) (V:=.int .i64) k v r))=_;rw[I];by_cases g:j=a
   .subst g;rw[aF (aQ rfl),aC λq=>h q.symm,aF (aQ rfl)]
   .simp only[g,c7,ct,dV]
abbrev Kf0:Ty:=(.st (.pr aM (.pr aM (.pr aM aM))))
abbrev Kf1:Ty:=(.st (.pr Dn (.pr Dn Dn)))
abbrev Yf0:=((List (List Int))×(List (List Int))×(List (List Int))×(List (List Int))×(List (List Int))×(List Int)×(List (List Int))×List Int)
abbrev Yf1:=(Int×Int×Int×Int)
abbrev Yf2:=((List (List Int))×(List (List Int))×Int)
def zK (it:ye) (x:dG×Wm×Int×Int×Int×Int×Int×(List Int)×List Int):Option (Yf0×(List Int)×List (List Int)):=
 (obind (q_ (x.2.1.1,x.2.1.2.1,x.2.1.p2,x.2.1.p3,x.2.1.p4,x.2.1.p5,x.2.1.p6,x.2.1.p7,x.2.1.q8)) λU=>(ck (fe x.p2 (al U.2.1)) (obind (rc ((x.p2,x.p3,x.p4,x.p5,x.p6,x.p7,x.q8),U.1,(x.1.1,x.1.2.1,x.1.p2,x.1.p3,x.1.p4,x.1.q5),U.2.1,U.p2,U.p3,U.p4,U.p5,U.p6,U.p7,U.q8)) λJ=>(bE (aB (al U.q8) (al J.q11)&&(aB (al U.p7) (al J.p10)&&(aB (al U.p6) (al J.p9)&&(aB (al U.p5) (al J.p8)&&(aB (al U.p4) (al J.p7)&&(aB (al U.p3) (al J.p6)&&(aB (al U.p2) (al J.p5)&&(aB (al U.2.1) (al J.p4)&&ai)))))))) (it (Int×dG×gF×(List Int)×(List Int)×(List (List Int))×(List (List Int))×(List (List Int))×(List (List Int))×(List (List Int))×(List (List Int))×(List (List Int))×List Int) _ (λI=>(bx I.1 (aX J.1) (ve I.1 J.1 (obind (jm (I.p4,(aJ (T:=(.sl aM)) J.1 I.1))) λZ=>(cK ((cB I.1),(I.2.1.1,I.2.1.2.1,I.2.1.p2,I.2.1.p3,I.2.1.p4,I.2.1.q5),(I.p2.1,I.p2.2.1,I.p2.p2,I.p2.p3,I.p2.p4,I.p2.p5,I.p2.q6),I.p3,Z,I.p5,I.p6,I.p7,I.p8,I.p9,I.p10,I.p11,I.q12)))) (obind (obind (pw (I.p4,I.p2.1)) λY=>(obind (pt (((I.2.1.1,I.2.1.2.1,I.2.1.p2,I.2.1.p3,I.2.1.p4,I.2.1.q5),I.p2.1,I.p2.2.1,I.p2.p2,I.p2.p3,I.p2.p4,I.p2.p5,I.p2.q6),I.p3,I.p5,I.p6,I.p7,I.p8,I.p9,I.p10,I.p11,I.q12,Y)) λM=>(bE (aB (al Y) (al M.q9)&&(aB (al I.q12) (al M.p8)&&(aB (al I.p11) (al M.p7)&&(aB (al I.p10) (al M.p6)&&(aB (al I.p9) (al M.p5)&&(aB (al I.p8) (al M.p4)&&(aB (al I.p7) (al M.p3)&&(aB (al I.p6) (al M.p2)&&(aB (al I.p5) (al M.2.1)&&ai))))))))) (af ((M.p2,M.p3,M.p4,M.p5,M.p6,M.1,M.p7,M.p8),M.q9,M.2.1))))) λr=>af (bU r)))) (0,(J.p3.1,J.p3.2.1,J.p3.p2,J.p3.p3,J.p3.p4,J.p3.q5),(J.2.1.1,J.2.1.2.1,J.2.1.p2,J.2.1.p3,J.2.1.p4,J.2.1.p5,J.2.1.q6),J.p2,(aJ (T:=(.sl aM)) U.2.1 x.p2),J.p4,J.p5,J.p6,J.p7,J.p8,J.p9,J.p10,J.q11))))))
def DK (x:dG×Wm×Int×Int×Int×Int×Int×(List Int)×List Int):Option (Yf0×(List Int)×List (List Int)):=zK @iter x
def pu (x:dG×Wm×Int×Int×Int×Int×Int×(List Int)×List Int):Option (Yf0×(List Int)×List (List Int)):=zK @fX x
def nl (x:dG×Int×Int×Int×Int×Int×(List Int)×List Int):Option (Bool):=
 (jn (α:=Bool) (be x.p2 3 (bK kw x.1.1 x.p3 λJ=>(aE (!J.2.2.2.1))) (be x.p2 4 (bK kw x.1.1 x.p3 λI=>(aE (!I.2.2.2.1))) (aE aj))) λM=>(af M))
def uO (it:ye) (x:dG×List gF):Option Yf2:=
 (obind (pe x) λy1=>(iI y1.2 0 (af (([]:List (List Int)),([]:List (List Int)),y1.2)) (obind (nG x.1) λy2=>(ck (cV 0 (aX x.2)&&cV (aX x.2) (aX x.2)&&bc (aS (aX x.2)) 24) (it (Int×(dG×List gF)×(List (List Int))×(List (List Int))×Wm×List (Int×Int)) _ (λI=>(bx I.1 (aX x.2) (bK jM x.2 I.1 λM=>(obind (pu (I.2.1.1,I.p4,M)) λJ=>(ck (fe I.1 (al I.p2)) (kA (.sl aM) (cq I.p2 I.1 J.2.1) I.1 λz6=>(obind (wX z6) λU=>(ck (fe I.1 (al I.p3)) (jn (α:=(dG×List gF)×(List (List Int))×(List (List Int))×Yf0×OR×List (List Int)) (be M.2.1 3 (bcase (Nf (K:=aM) (V:=aM) M.p2 I.q5) (kA (.sl aM) (cq I.p2 I.1 J.2.1) I.1 λz9=>(kA (.sl aM) (cq I.p3 I.1 U) (E8 (K:=aM) (V:=aM) M.p2 I.q5 0) λz10=>(obind (jm (z9,z10)) λZ=>(ck (fe I.1 (al (cq I.p3 I.1 U))) (kA (.sl aM) (cq (cq I.p3 I.1 U) I.1 Z) I.1 λz12=>(obind (wX z12) λy13=>(ck (fe M.1 (al J.2.2)) (aE (I.2.1,(cq I.p2 I.1 J.2.1),(cq (cq I.p3 I.1 U) I.1 Z),J.1,I.q5,(cq J.2.2 M.1 y13)))))))))) (aE (I.2.1,(cq I.p2 I.1 J.2.1),(cq I.p3 I.1 U),J.1,I.q5,J.2.2))) (be M.2.1 4 (aE (I.2.1,(cq I.p2 I.1 J.2.1),(cq I.p3 I.1 U),J.1,(HZ (K:=aM) (V:=aM) M.p2 I.1 I.q5),J.2.2)) (aE (I.2.1,(cq I.p2 I.1 J.2.1),(cq I.p3 I.1 U),J.1,I.q5,J.2.2)))) λY=>(cK ((cB I.1),Y.1,Y.2.1,Y.p2,(Y.q5,Y.p3),Y.p4))))))))) (aE (I.p2,I.p3,0)))) (0,x,(aG (aS (aX x.2)) ([]:List Int)),(aG (aS (aX x.2)) ([]:List Int)),y2,([]:List (Int×Int))))))))
def yr (x:dG×List gF):Option Yf2:=uO @iter x
def kX (x:dG×List gF):Option Yf2:=uO @fX x
def Bt (it:ye) (x:dG×List gF):Option (OR×Int):=
 (obind (kX x) λy1=>(iI y1.2.2 0 (af (([]:List (Int×Int)),y1.2.2)) (bE (cV 0 (aX x.2)&&cV (aX x.2) (aX x.2)&&bc (aS (aX x.2)) 16) (it (Int×(dG×List gF)×Yf1×OR×List (Int×Int)) _ (λI=>(bx I.1 (aX x.2) (jn (α:=(dG×List gF)×Yf1×OR×List (Int×Int)) (bK jM x.2 I.1 λz4=>(jn (α:=(dG×List gF)×Yf1×OR×OR×Int×Int×Int×Int×Int×(List Int)×List Int) (be z4.1 0 (aE (I.2.1,((cB I.p2.1),I.p2.2),I.p3,I.q4,0,z4.2)) (be z4.1 1 (aE (I.2.1,(I.p2.1,(cB I.p2.2.1),I.p2.2.2),I.p3,I.q4,1,z4.2)) (be z4.1 2 (aE (I.2.1,(I.p2.1,I.p2.2.1,(cB I.p2.p2),I.p2.q3),I.p3,I.q4,2,z4.2)) (be z4.1 3 (aE (I.2.1,(I.p2.1,I.p2.2.1,I.p2.p2,(cB I.p2.q3)),I.p3,I.q4,3,z4.2)) ah)))) λJ=>(jn (α:=(dG×List gF)×Yf1×OR×OR×Int×Int×Int×Int×Int×(List Int)×List Int) (be J.p4 0 (ck (fe I.1 (al J.p2)) (aE (J.1,J.2.1,(cq J.p2 I.1 (J.2.1.1,0)),J.p3,0,J.q5))) (be J.p4 1 (ck (fe I.1 (al J.p2)) (aE (J.1,J.2.1,(cq J.p2 I.1 (J.2.1.2.1,1)),J.p3,1,J.q5))) (be J.p4 2 (ck (fe I.1 (al J.p2)) (aE (J.1,J.2.1,(cq J.p2 I.1 (J.2.1.p2,2)),J.p3,2,J.q5))) (be J.p4 3 (ck (fe I.1 (al J.p2)) (aE (J.1,J.2.1,(cq J.p2 I.1 (J.2.1.q3,3)),J.p3,3,J.q5))) ah)))) λY=>(obind (nl (Y.1.1,Y.q4)) λy7=>(bcase (!y7) (aE (Y.1,Y.2.1,Y.p2,Y.p3)) (bE (cV 0 I.1&&cV I.1 (al Y.1.2)) (it (Int×(dG×List gF)×Yf1×OR×OR×Int×Int×Int×Int×Int×(List Int)×List Int) _ (λM=>(bx M.1 (aO (al (du (aS I.1) Y.1.2))) (jn (α:=(dG×List gF)×Yf1×OR×OR×Int×Int×Int×Int×Int×(List Int)×List Int) (bK jM (du (aS I.1) Y.1.2) M.1 λZ=>(jn (α:=Bool×(dG×List gF)×Yf1×OR×OR×Int×Int×Int×Int×Int×(List Int)×List Int) (obind (nl (M.2.1.1,Z)) λy12=>(bcase y12 (be Z.p2 M.p7 (iI Z.1 M.p5 (be Z.2.1 4 (aE (ai,M.2)) (aE ((decide ((M.p6:Int)=4)),M.2))) (aE (aj,M.2))) (aE (aj,M.2))) (aE (aj,M.2)))) λx11=>(jn (α:=Bool×(dG×List gF)×Yf1×OR×OR×Int×Int×Int×Int×Int×(List Int)×List Int) (bcase x11.1 (bK (.sl aM) y1.1 I.1 λz14=>(kA iE x11.p3 M.1 λz15=>(obind (vm (z14,z15)) λy16=>(aE ((!y16),x11.2))))) (aE (aj,x11.2))) λU=>(bcase U.1 (bE (bc (al U.p4+al ([(M.1,I.1)])) 16) (aE (U.2.1,U.p2,U.p3,(U.p4++([(M.1,I.1)])),U.q5))) (aE U.2))))) λx9=>(cK ((cB M.1),x9))) (aE (bU (M.2.1,M.p2,M.p3,M.p4))))) (0,Y)))))))) λx3=>(cK ((cB I.1),x3))) (aE (I.q4,0)))) (0,x,(0,0,0,0),(aG (aS (aX x.2)) ((0,0):Int×Int)),([]:List (Int×Int)))))))
def Bc (x:dG×List gF):Option (OR×Int):=Bt @iter x
def tH (x:dG×List gF):Option (OR×Int):=Bt @fX x
def sS (x:Unit):Option (Bool):=
 (obind (Cd ()) λM=>(obind (tH (M,[(0,1,(-1),0,(-1),([]:List Int),([]:List Int)),(0,20,1,0,0,([]:List Int),([]:List Int)),(1,1,(-1),0,(-1),([]:List Int),([]:List Int)),(0,4,0,5,0,([]:List Int),([]:List Int)),(0,4,1,6,0,([]:List Int),([]:List Int)),(1,3,1,6,6,([]:List Int),([]:List Int)),(1,3,0,5,6,([]:List Int),([]:List Int))])) λI=>(jn (α:=Bool) (be I.2 0 (be (aX I.1) 1 (bK iE I.1 0 λJ=>(aE (OO (.pr aM (.pr aM .un)) (J.1,J.2,()) (4,5,()) !=aj))) (aE aj)) (aE aj)) λU=>(af U))))
def lM (x:(List Int)×(List Int)×List Int):Option (Bool):=
 (obind (kO (x,40)) λY=>(obind (kX Y) λU=>(jn (α:=Bool×dG×List gF) (iI U.2.2 0 (aE (ai,Y)) (aE ((!decide (((aX U.2.1):Int)=(aX Y.2))),Y))) λZ=>(bcase Z.1 (af aj) (iter (σ:=Int×dG×List gF) (λM=>(bx M.1 (aX Z.2.2) (bK jM Z.2.2 M.1 λz5=>(jn (α:=dG×List gF) (iter (σ:=Int×(dG×List gF)×Int×Int×Int×Int×Int×(List Int)×List Int) (λI=>(jn (α:=Bool×(dG×List gF)×Int×Int×Int×Int×Int×(List Int)×List Int) (jN 0 I.1 (aE ((decide ((I.p3:Int)=3)),I.2)) (aE (aj,I.2))) λJ=>(bcase J.1 (jn (α:=Bool×(dG×List gF)×Int×Int×Int×Int×Int×(List Int)×List Int) (bK jM J.2.1.2 I.1 λz10=>(iI z10.2.1 4 (aE (ai,J.2)) (bK jM J.2.1.2 I.1 λz11=>(aE ((!decide ((z11.2.2.1:Int)=J.p4)),J.2))))) λx9=>(bcase x9.1 (cK ((bl .i64 (I.1-1)),x9.2)) (bK (.sl aM) U.2.1 I.1 λz12=>(bK (.sl aM) U.2.1 M.1 λz13=>(obind (tI (z12,z13)) λy14=>(bcase (!y14) (aE (oE (bU aj))) (aE (bU x9.2.1)))))))) (aE (bU J.2.1))))) ((bl .i64 (M.1-1)),M.2,z5)) λx6=>(cK ((cB M.1),x6)))) (obind (obind (sS ()) λy15=>(af y15)) λr=>af (bU r)))) (0,Z.2))))))
def HS.tS (h:HS):List (List Int)×List (List Int)×List (List Int)×List (List Int)×List (List Int)×List Int×List (List Int)×List Int:=(h.S,h.L,h.R,h.C,h.F,h.X,h.N,h.W)
theorem aa9 {n:Int} {w:vw} {h:HS} (o:OJ n h) (hn:n+1<=1000000) {e:EV} (ok:EOK w h e) {x:ETp} (hx:EvT e x):pu (w,h.t,x)=af ((EW w h e).1.tS,(EW w h e).2,(EW w h e).1.T):=by
 have s2:=RQ o ok hx;have hce:En (n+1) (xt w h e):=JN o ok.th4;have en:=Qz o hn ok hx hce;have cp:=Mw h.t o.GH;have sE:=M1 (w:=w) o e;have sl:=EX w h e;have hlen:=uR w h e (xt w h e);obtain⟨x1,x2,x3,x4,x5,x6,x7⟩:=x;obtain⟨Z,Y,U,M,J,I⟩:=w;have t1:=hx.th;simp only at t1;subst t1;unfold HS.t at cp;simp only[] at cp;have fT:fe (e.th:Int) h.T.length=ai:=cY ok.th;unfold pu zK HS.t wH Dr aV bg bp cw dN jd uy wJ Kk Prod.q12 cO eP nh MM ck bx ve bE aX cK cB;simp only[];rw[cp,cW];simp only[];rw[cA fT,cA fT,s2,cW];simp only[];rw[cA (by simp only[UL rfl,iH])];refine DU (yi (Z,Y,U,M,J,I) h e).length (by omega) (λi=>((i:Int),(Z,Y,U,M,J,I),((e.th:Int),x2,x3,x4,x5,x6,x7),h.X,((yi (Z,Y,U,M,J,I) h e).take i).foldl jl (h.T.getD e.th []),h.T,h.S,h.L,h.R,h.C,h.F,h.N,h.W)) ?_ ?_ ?_
 .simp only[mf,List.take_zero,List.foldl_nil];rfl
 .intro i hi;simp only[];rw[tV (by simp;omega),dl,cA (cY hi),mf,(xi _ _ (o.T e.th) (λy hy=>sE y (gP hy))).join (sE _ (CA hi)),cW,nk hi (by omega),IJ _ _ _ hi]
 .simp only[];rw[uK (by simp),dH,eV (bV _)];have hl:=ZV (w:=(Z,Y,U,M,J,I)) o e e.th;rw[Wn _ e.th (xi _ _ (o.T e.th) sE).lb ok.th4 hl.1 hl.2,cW];unfold HS.e at en;unfold xt at en hlen;rw[en,cW];simp only[];rw[cA (by rw[hlen.1,hlen.2.1,hlen.2.2.1,hlen.2.2.2.1,hlen.2.2.2.2.1,hlen.2.2.2.2.2.1,hlen.2.2.2.2.2.2.1,hlen.2.2.2.2.2.2.2];simp only[UL rfl,iH])];rfl
theorem YH {w:WT} {l:List ET} {cl:Nat->List Int} (tr:TR (w,l)) (C:CL w l cl) {i:Nat} (hi:i<l.length):pu (w,(Kr w l cl i).t,eN l i)=af ((h_ w (Kr w l cl i) (eZ l i) (chC w l cl i)).tS,chC w l cl i,(h_ w (Kr w l cl i) (eZ l i) (chC w l cl i)).T):=by
 have hl:=tr.len;dsimp only at hl;exact aa9 (Zp tr C hi) (by omega) (TX tr C hi) (Qs tr hi)
theorem QD (w:vw) (h:HS) {e:EV} (k:e.k=3) (c:List Int):h_ w h e c={h with T:=h.T.set e.th c}:=by
 unfold h_;simp only[];repeat' split
 all_goals first|rfl|omega
theorem MX {n:Nat} {f:Nat->List Int} {i k:Nat} (h:k<i) (g:k<n):aJ (T:=.sl (.int .i64)) (tA n f [] i) (k:Int)=f k:=by
 rw[mf];unfold tA;rw[ay,ba,F7 g];simp[h]
abbrev mgI (u:Int) (m:List (Int×Int)):Option Int:=sH (K:=.int .i64) (V:=.int .i64) u m
theorem Vw {u v:Int} {m:List (Int×Int)} (h:mgI u m=af v):Nf (K:=.int .i64) (V:=.int .i64) u m=ai/\E8 (K:=.int .i64) (V:=.int .i64) u m 0=v:=by
 have h:sH (K:=.int .i64) (V:=.int .i64) u m=af v:=h;unfold Nf E8;rw[h];exact⟨rfl,rfl⟩
theorem ac2 {u:Int} {m:List (Int×Int)} (h:mgI u m=ah):Nf (K:=.int .i64) (V:=.int .i64) u m=aj:=by
 have h:sH (K:=.int .i64) (V:=.int .i64) u m=ah:=h;unfold Nf;rw[h]
theorem O9 {w:WT} {l:List ET} (tr:TR (w,l)):kX (w,l)=af ((eS l.length).map (Hz w l),(eS l.length).map (vE w l),0):=by
 have hl:=tr.len;dsimp only at hl;have C:=aly w l;refine cJ ?_;unfold kX uO aV bg bp cO ck be bx iI bK kA aX cK aE cB;refine aU (Yo tr) (fE (aU (O1 tr) ?_));refine c6 (c6 (dZ (by dsimp only[au];omega) (dZ (by omega) (bk (by simp;omega) (by omega) ?_))));refine c6 (c6 (dZ (by dsimp only[au];omega) (dZ (by omega) (bk (by simp;omega) (by omega) ?_))));refine je l.length (by omega) (λi x=>x.1=(i:Int)/\x.2.1=(w,l)/\x.2.2.1=tA l.length (Hz w l) [] i/\x.2.2.2.1=tA l.length (vE w l) [] i/\x.2.2.2.2.1=(Kr w l (vE w l) i).t/\∀ u:Nat,mgI (u:Int) x.2.2.2.2.2=if 0<=Gb l u i then af (Gb l u i) else ah) ?_ ?_ ?_
 .rintro i ⟨x,y,a,b,h,m⟩ hi ⟨e1,e2,e3,Y,U,hm⟩;dsimp only at e1 e2 e3 Y U hm;subst e1;subst e2;subst e3;subst Y;subst U;have k1:∀ {R α:Type} {f:Nat->α} {z:α} {j:Nat} {k:Option R} {Q:R->Prop},Ok k Q->Ok (chk (fe (i:Int) (tA l.length f z j).length) λ_=>k) Q:=λh=>aR (by omega) (by rw[MW];omega) h
  have s1:cq (tA l.length (Hz w l) [] i) (i:Int) (Hz w l i)=tA l.length (Hz w l) [] (i+1):=by rw[eM,MV hi]
  have kb:=(agd tr C hi).lb;have kc:=(Oj tr C hi).lb;have et:=Qs tr hi;have hz:(eN l i).2.1=((eZ l i).k:Int):=et.k;refine dC (cD (aT (aU (YH tr C hi) ?_)));dsimp only;rw[s1];refine k1 (k1 (k1 (k1 (aT ?_))));rw[MX (qA i) hi];refine aU (Dp _ kb) (k1 (k1 ?_));refine aY (λx=>x.1=(w,l)/\x.2.1=tA l.length (Hz w l) [] (i+1)/\x.2.2.1=tA l.length (vE w l) [] (i+1)/\(x.2.2.2.2.2,x.2.2.2.1)=((Kr w l (vE w l) (i+1)).T,(Kr w l (vE w l) (i+1)).tS)/\∀ u:Nat,mgI (u:Int) x.2.2.2.2.1=if 0<=Gb l u (i+1) then af (Gb l u (i+1)) else ah) ?_ ?_
  .have sK:vE w l i=Hz w l i->cq (tA l.length (vE w l) [] i) (i:Int) (Hz w l i)=tA l.length (vE w l) [] (i+1):=λe=>by rw[<- e,eM,MV hi]
   have Z:vE w l i=Hz w l i->((h_ w (Kr w l (vE w l) i) (eZ l i) (Hz w l i)).T,(h_ w (Kr w l (vE w l) i) (eZ l i) (Hz w l i)).tS)=((Kr w l (vE w l) (i+1)).T,(Kr w l (vE w l) (i+1)).tS):=λe=>by rw[Kr,e]
   have hls:¬(eZ l i).k=4->∀ u,Gb l u (i+1)=Gb l u i:=λk u=>by rw[Gb,aC λq=>k q.1]
   refine aK (λI=>?_) λI=>aK (λM=>ar ?_) λM=>ar ?_
   .have I:(eN l i).2.1=3:=I;have I:(eZ l i).k=3:=by omega
    have ob:(eN l i).2.2.1=((eZ l i).ob:Int):=et.ob (by rw[I];decide);change Ok (bcase (Nf (K:=.int .i64) (V:=.int .i64) (eN l i).2.2.1 m) _ _) _;have hmo:=hm (eZ l i).ob;by_cases q:0<=Gb l (eZ l i).ob i
    .have rd:WH l i:=⟨I,q⟩
     have hs:=M7 rd;have hsl:SK l i<l.length:=by omega
     have er:Gb l (eZ l i).ob i=(SK l i:Int):=by unfold SK;omega
     rw[aF q,er] at hmo;rw[<- ob] at hmo;refine fx (Vw hmo).1 ?_;have U:aJ (T:=.sl (.int .i64)) (cq (tA l.length (vE w l) [] i) (i:Int) (Hz w l i)) (SK l i:Int)=vE w l (SK l i):=by
      rw[eM,mf,qh,aC λq=>by omega];have:=MX (f:=vE w l) hs hsl;rw[mf] at this;exact this
     have J:vE w l i=jl (Hz w l i) (vE w l (SK l i)):=by rw[HA,aF rd]
     have e7:cq (cq (tA l.length (vE w l) [] i) (i:Int) (Hz w l i)) (i:Int) (jl (Hz w l i) (vE w l (SK l i)))=tA l.length (vE w l) [] (i+1):=by rw[<- J,eM,eM,List.set_set,MV hi]
     have ln:(cq (tA l.length (vE w l) [] i) (i:Int) (Hz w l i)).length=l.length:=by rw[bR,MW]
     have kd:=(Oj tr C hsl).lb;refine k1 (k1 (aT ?_));rw[(Vw hmo).2];refine aR (by omega) (by rw[ln];omega) (aR (by omega) (by rw[ln];omega) (aT ?_));rw[U];refine aU (Wt _ _ kb kd) (aR (by omega) (by rw[ln];omega) (aR (by omega) (by rw[ln];omega) ?_));rw[e7];refine k1 (k1 (aT ?_));rw[MX (qA i) hi];have et1:(eN l i).1=((eZ l i).th:Int):=et.th;have hth:(eZ l i).th<(h_ w (Kr w l (vE w l) i) (eZ l i) (chC w l (vE w l) i)).T.length:=by rw[(uR ..).1];exact (TX tr C hi).th
     refine aU (Dp _ kc) (aR (j:=(eN l i).1) (by omega) (by omega) (aR (j:=(eN l i).1) (by omega) (by omega) (ar ⟨rfl,rfl,rfl,?_,λu=>?_⟩)))
     .dsimp only;rw[show (aJ (T:=tE) l (i:Int)).1=((eZ l i).th:Int) from et1,eM,Kr,QD _ _ I,QD _ _ I];simp only[List.set_set];rfl
     .rw[hls (by omega)];exact hm u
    .rw[aC q,<-ob] at hmo;have nr:¬WH l i:=λr=>q r.2
     have J:vE w l i=Hz w l i:=by rw[HA,aC nr]
     refine fD (ac2 hmo) (ar ⟨rfl,rfl,sK J,Z J,λu=>?_⟩);rw[hls (by omega)];exact hm u
   .have M:(eN l i).2.1=4:=M;have M:(eZ l i).k=4:=by omega
    have J:vE w l i=Hz w l i:=aei (by omega);have ob:(aJ (T:=tE) l (i:Int)).2.2.1=((eZ l i).ob:Int):=et.ob (by rw[M];decide);refine ⟨rfl,rfl,sK J,Z J,λu=>?_⟩;dsimp only;rw[ob];unfold mgI;rw[LV];by_cases q:(eZ l i).ob=u
    .have e:Gb l u (i+1)=i:=by rw[Gb,aF ⟨M,q⟩]
     rw[e,aF (by omega),aF (by omega)]
    .have e:Gb l u (i+1)=Gb l u i:=by rw[Gb,aC λr=>q r.2]
     rw[e,aC (by omega)];exact hm u
   .have M:¬(eN l i).2.1=4:=M;have I:¬(eN l i).2.1=3:=I;have J:vE w l i=Hz w l i:=aei (by omega);exact⟨rfl,rfl,sK J,Z J,λu=>by rw[hls (by omega)];exact hm u⟩
  rintro⟨x1,x2,x3,x4,x5,x6⟩ ⟨f1,f2,f3,f4,f5⟩;dsimp only at f1 f2 f3 f4 f5;subst f1;subst f2;subst f3;obtain⟨rfl,rfl⟩:=aD .. ▸f4;exact ar ⟨gW (by omega),rfl,rfl,rfl,rfl,f5⟩
 .rintro⟨x,y,a,b,h,m⟩ ⟨e1,e2,e3,Y,U,hm⟩;dsimp only at e1 e2 e3 Y U hm;subst e1;subst e2;subst e3;subst Y;refine dx (ar ?_);dsimp only;rw[Sv,Sv]
 .refine ⟨rfl,rfl,?_,?_,rfl,λu=>rfl⟩
  .dsimp only;rw[MU];rfl
  .dsimp only;rw[MU];rfl
theorem adc:sS ()=af ai:=by kernel_rfl
theorem fo {φ:PM} {O:Nat->Prop} {w:World} {v u:Value} (h:cI φ O w (.f (.raw v)) u):u=v:=by
 cases h with
 |f h=>cases h;rfl
theorem tB (h:HF) (nw:HF):eL h [] nw=h:=by funext t;simp[eL]
theorem F0:∀ {l:List Value},JQ l=ai->∀ v∈l,v.oneCell'=ai
 |[],_,v,hv=>by cases hv
 |x::r,h,v,hv=>by
  simp only[JQ,av] at h;rcases bi.1 hv with rfl|hv
  .exact h.1
  .exact F0 h.2 v hv
theorem Ut {φ:PM} {O:Nat->Prop} {w:World} (v:Value):cI φ O w (Ev v) v:=by
 unfold Ev;split
 .rename_i vs;split
  .rename_i h1;refine cI.agg (vs:=vs.toList) (by simp) (λx I=>?_) (λj x v I hv=>?_)
   .obtain⟨u,hu,rfl⟩:=dh.1 I;exact F0 h1 u hu
   .rw[ba,hv] at I;simp only[b_,ak] at I;subst I;exact .f (.raw _)
  .exact .f (.raw _)
 .exact .f (.raw _)
theorem sZ {φ:PM} {E:Nat->Prop} {h':HF} {w:World} {e:zo} {a:Act} {xs:Array Operand} (hrep:qL φ E h' w) (h:∀ t,.tmp t∈xs->∀ y,e.get t=af y->cI φ (tot E φ h') w y (a.tmps.getD t undef)) {x:Operand} {y:AV} (J:x∈xs) (I:mw e x=af y):cI φ (tot E φ h') w y (a.eval x):=by
 cases x with
 |tmp t=>exact h t J y I
 |const v=>simp only[mw,ak] at I;subst I;exact Ut v
 |func g=>
  simp only[mw,ak] at I;subst I;exact cI.clo (vs:=[]) (g:=g) (cells:=[]) rfl (by intro j x v J;simp at J)
 |global g=>
  simp only[mw] at I;cases hg:G g with
  |none=>rw[hg] at I;cases I
  |some cells=>rw[hg] at I;simp only[ak] at I;subst I;exact .f (hrep.gl g cells hg)
abbrev UV (φ:PM) (E:Nat->Prop) (h':HF) (w:World) (a:Act) (e:zo) (o:Oper):Prop:=∀ x y,x∈o.op.operands->mw e x=af y->cI φ (tot E φ h') w y (a.eval x)
theorem gG.reads {P:Program} {o:Oper} {e:zo} {h:HF} {val:AV} {rd:List Nat} {nw:HF}
 (hv:∀ (φ:PM) (E:Nat->Prop) (h':HF) (w:World) (a:Act),(∀ i∈rd,h' i=h i)->UV φ E h' w a e o->qL φ E h' w->
   ∃ v,(execOp a.eval o).run P w= .ok (.value v) w/\cI φ (tot E φ h') w val v):gG P o e.get h ⟨val,rd,[],nw,[]⟩:=by
 intro φ E h' w a h1 h2 U I Y;obtain⟨v,r,rel⟩:=hv φ E h' w a h1 (λx y M J=>sZ I U M J) I;unfold GW;rw[r];refine ⟨v,φ,rfl,?_,λ_ _ h=>.inl h,?_,?_⟩<;>rw[tB]
 .exact iV.refl _ _ _
 .exact I
 .exact rel
theorem dk {x:AV} {R:BG} (h:rv x=af R):R=⟨x,[],[],[],[]⟩:=by simp only[rv,ak] at h;exact h.symm
section pure
variable {P:Program} {o:Oper} {e:zo} {h:nQ} {nx:Nat} {R:BG}
theorem ak4 {x:Operand} (I:o.op= .move x\/o.op= .assign x) (J:eH (.mv x) e h nx=af R):gG P o e.get h.get R.eff:=by
 simp only[eH] at J;split at J
 .rename_i v hv;rw[dk J];exact gG.reads λφ E h' w a _ hop _=>⟨a.eval x,by unfold execOp;rcases I with I|I<;>rw[I]<;>rfl,hop x v (by rcases I with I|I<;>rw[I]<;>simp[Op.operands]) hv⟩
 .cases J
theorem agr {c x y:Operand} (J:o.op= .pick c x y) (I:eH (.pick c x y) e h nx=af R):gG P o e.get h.get R.eff:=by
 simp only[eH] at I;split at I
 .rename_i t hc;split at I
  .rename_i v hv;rw[dk I];refine gG.reads λφ E h' w a _ hop _=>?_
   have hcv:=fo (hop c _ (by rw[J];simp[Op.operands]) hc);refine ⟨a.eval (if t then x else y),?_,hop _ v (by rw[J];cases t<;>simp[Op.operands]) hv⟩;unfold execOp;rw[J];simp only[hcv];cases t<;>rfl
  .cases I
 .cases I
theorem ags {x:Operand} (I:o.op= .nilCheck x) (J:eH (.nilc x) e h nx=af R):gG P o e.get h.get R.eff:=by
 simp only[eH] at J;split at J
 .rename_i id off U;rw[dk J];refine gG.reads λφ E h' w a _ hop _=>?_
  have h1:=hop x _ (by rw[I];simp[Op.operands]) U;generalize M:a.eval x=z at h1;cases h1 with
  |ptr hφ=>exact⟨_,by unfold execOp;rw[I];simp only[M];rfl,.ptr hφ⟩
 .rename_i cells off U;rw[dk J];refine gG.reads λφ E h' w a _ hop _=>?_
  have h1:=hop x _ (by rw[I];simp[Op.operands]) U;generalize M:a.eval x=z at h1;cases h1 with
  |f h1=>
   have h2:=h1;cases h2 with
   |ptr _ _ b base us hO hb hcl hu hr=>exact⟨_,by unfold execOp;rw[I];simp only[M];rfl,.f h1⟩
 .rename_i g cap U;rw[dk J];refine gG.reads λφ E h' w a _ hop _=>?_
  have h1:=hop x _ (by rw[I];simp[Op.operands]) U;generalize M:a.eval x=z at h1;cases h1 with
  |clo hl hr=>exact⟨_,by unfold execOp;rw[I];simp only[M];rfl,.clo hl hr⟩
 .cases J
theorem ak2 {x:Operand} {t:TypeId} (J:o.op= .unOp .not t x) (I:eH (.not x) e h nx=af R):gG P o e.get h.get R.eff:=by
 simp only[eH] at I;split at I
 .rename_i b M;rw[dk I];refine gG.reads λφ E h' w a _ hop _=>?_
  have h1:=fo (hop x _ (by rw[J];simp[Op.operands]) M);exact⟨_,by unfold execOp;rw[J];simp only[h1];rfl,.f (.raw _)⟩
 .cases I
theorem yg (k:IntKind) (n:Int):bl k n=k.wrap n:=by
 rw[G0];unfold LC;split
 .split
  .rename_i h;simp only[cV,av,bP] at h;have:oI .i64 n=if n%18446744073709551616≥9223372036854775808 then n%18446744073709551616-18446744073709551616 else n%18446744073709551616:=by
    simp[oI,IntKind.bits,IntKind.signed]
   rw[this];split<;>omega
  .rfl
 .split
  .rename_i h;simp only[cV,av,bP] at h;have:oI .u8 n=n%256:=by
    simp[oI,IntKind.bits,IntKind.signed]
   rw[this];omega
  .rfl
 .rfl
theorem ah0 {x:Operand} {s d:TypeId} {k k':IntKind} (J:o.op= .convert s d x) (hs:P.underlying s=af (.int k')) (hd:P.underlying d=af (.int k)) (I:eH (.conv k x) e h nx=af R):gG P o e.get h.get R.eff:=by
 simp only[eH] at I;split at I
 .rename_i U n M;rw[dk I];refine gG.reads λφ E h' w a _ hop _=>?_
  have h1:=fo (hop x _ (by rw[J];simp[Op.operands]) M);refine ⟨_,?_,.f (.raw _)⟩;unfold execOp;rw[J];simp[h1,convert,run_underlying hs,run_underlying hd,Conv.intToInt,yg]
 .cases I
theorem Ot (a:ByteArray):a.toList=a.data.toList:=by
 first|exact ByteArray.toList_eq a|simp[ByteArray.toList]|rfl
theorem YN {op:BinOp} {t:TypeId} {u v r:Value} (hr:uu op u v=af r) (x y:Operand) (w:World):
 (do eqGuard op t x y u v;binOp op t u v:Sem Value).run P w= .ok r w:=by
 unfold uu at hr;split at hr
 .rename_i k a k' b;split at hr
  .rename_i hk;have I:k=k':=by simpa using hk
   subst I;split at hr<;>first|(simp only[ak] at hr;subst hr;simp[eqGuard,binOp,Op.intCmp,Op.intArith,yg,cV,fP];done)|(split at hr<;>first|(cases hr;done)|(rename_i hb;simp only[ak] at hr;subst hr;simp[eqGuard,binOp,Op.intDiv,yg,show b≠0 from by simpa using hb];done))|(cases hr;done)
  .cases hr
 .rename_i a b;split at hr<;>first|(simp only[ak] at hr;subst hr;simp[eqGuard,binOp,Op.stringOp,rL,Ot];done)|(cases hr;done)
 .cases hr
theorem aej {s:Sem Value} {r:Value} {w w':World} (hs:s.run P w= .ok r w'):(do let x<-s;pure (Next.value x):Sem Next).run P w= .ok (.value r) w':=by
 simp[hs]
theorem af8 {op:BinOp} {x y:Operand} {t t':TypeId} (J:o.op= .binOp op t x y t') (I:eH (.bin op x y) e h nx=af R):gG P o e.get h.get R.eff:=by
 simp only[eH] at I;split at I
 .rename_i u v U M;split at I
  .rename_i r hr;rw[dk I];refine gG.reads λφ E h' w a _ hop _=>?_
   have h1:=fo (hop x _ (by rw[J];simp[Op.operands]) U);have h2:=fo (hop y _ (by rw[J];simp[Op.operands]) M);refine ⟨r,?_,.f (.raw _)⟩;unfold execOp;rw[J];simp only[h1,h2];exact aej (YN (P:=P) (t:=t) hr x y w)
  .cases I
 .cases I
theorem TY {t:TypeId} (hu:P.underlying t=af .bool) (u v:Bool) (w:World):(Op.equal t (.bool u) (.bool v)).run P w= .ok (u==v) w:=by
 have key:∀ d,(Op.equalIn (d+1) t (.bool u) (.bool v)).run P w= .ok (u==v) w:=λd=>by simp[Op.equalIn,run_underlying hu]
 exact key 9999
theorem Qw {t el:TypeId} (hu:P.underlying t=af (.slice el)) (A:Option Addr) (n c:Nat) (w:World):(Op.equal t (.slice A n c) (.slice ah 0 0)).run P w= .ok A.isNone w:=by
 have key:∀ d,(Op.equalIn (d+1) t (.slice A n c) (.slice ah 0 0)).run P w= .ok A.isNone w:=λd=>by cases A<;>simp[Op.equalIn,run_underlying hu]
 exact key 9999
theorem af7 {neg:Bool} {op:BinOp} {x y:Operand} {t t':TypeId} (J:o.op= .binOp op t x y t') (hop:op=if neg then .neq else .eql) (hu:P.underlying t=af .bool) (I:eH (.eqb neg x y) e h nx=af R):gG P o e.get h.get R.eff:=by
 simp only[eH] at I;split at I
 .rename_i u v U M;rw[dk I];refine gG.reads λφ E h' w a _ hp _=>?_
  have h1:=fo (hp x _ (by rw[J];simp[Op.operands]) U);have h2:=fo (hp y _ (by rw[J];simp[Op.operands]) M);refine ⟨_,?_,.f (.raw _)⟩;unfold execOp;rw[J];simp only[h1,h2];subst hop;cases neg<;>simp[eqGuard,binOp,TY hu]
 .cases I
theorem Wo {neg:Bool} {op:BinOp} {x y:Operand} {t t' el:TypeId} (U:o.op= .binOp op t x y t') (hop:op=if neg then .neq else .eql) (Y:y= .const (.slice ah 0 0)) (hu:P.underlying t=af (.slice el)) (J:eH (.isnil neg x) e h nx=af R):gG P o e.get h.get R.eff:=by
 have key:∀ (v:Value) (w:World) (ρ:Operand->Value) (A:Option Addr) (n c:Nat),ρ x= .slice A n c->ρ y= .slice ah 0 0->(execOp ρ o).run P w= .ok (.value (.bool (A.isNone !=neg))) w:=by
  intro v w ρ A n c h1 h2;unfold execOp;rw[U];simp only[h1,h2];subst hop;cases neg<;>simp[eqGuard,binOp,Qw hu]
 have hyv:∀ a:Act,a.eval y= .slice ah 0 0:=λa=>by rw[Y];rfl
 simp only[eH] at J;split at J
 .rename_i id sz n I;rw[dk J];refine gG.reads λφ E h' w a _ hp _=>?_
  have h1:=hp x _ (by rw[U];simp[Op.operands]) I;generalize M:a.eval x=z at h1;cases h1 with
  |row hφ hn hc hs=>exact⟨_,key (.bool ai) w a.eval _ _ _ M (hyv a),by simpa[raw] using cI.f (.raw _)⟩
 .rename_i id off n I;rw[dk J];refine gG.reads λφ E h' w a _ hp _=>?_
  have h1:=hp x _ (by rw[U];simp[Op.operands]) I;generalize M:a.eval x=z at h1;cases h1 with
  |sl hφ hn hc=>exact⟨_,key (.bool ai) w a.eval _ _ _ M (hyv a),by simpa[raw] using cI.f (.raw _)⟩
 .rename_i cells n I;rw[dk J];refine gG.reads λφ E h' w a _ hp _=>?_
  have h1:=hp x _ (by rw[U];simp[Op.operands]) I;generalize M:a.eval x=z at h1;cases h1 with
  |f h1=>
   cases h1 with
   |sl=>exact⟨_,key (.bool ai) w a.eval _ _ _ M (hyv a),by simpa[raw] using cI.f (.raw _)⟩
 .rename_i cells I;rw[dk J];refine gG.reads λφ E h' w a _ hp _=>?_
  have h1:=hp x _ (by rw[U];simp[Op.operands]) I;generalize M:a.eval x=z at h1;cases h1 with
  |f h1=>
   cases h1 with
   |nil=>exact⟨_,key (.bool ai) w a.eval _ _ _ M (hyv a),.anyb⟩
   |sl=>exact⟨_,key (.bool ai) w a.eval _ _ _ M (hyv a),.anyb⟩
 .rename_i I;rw[dk J];refine gG.reads λφ E h' w a _ hp _=>?_
  have h1:=hp x _ (by rw[U];simp[Op.operands]) I;generalize M:a.eval x=z at h1;cases h1 with
  |emp=>exact⟨_,key (.bool ai) w a.eval _ _ _ M (hyv a),.anyb⟩
 .rename_i v I;split at J
  .rename_i hv;rw[dk J];refine gG.reads λφ E h' w a _ hp _=>?_
   have h1:=fo (hp x _ (by rw[U];simp[Op.operands]) I);unfold zI at hv;split at hv
   .exact⟨_,key (.bool ai) w a.eval _ _ _ h1 (hyv a),by simpa[raw] using cI.f (.raw _)⟩
   .cases hv
  .cases J
 .cases J
theorem gp {t:TypeId} {sz:Nat} (hs:fh P t=af sz) (w:World):(sizeOf t).run P w= .ok sz w:=by
 unfold fh at hs;cases hi:P.info? t with
 |none=>rw[hi] at hs;cases hs
 |some i=>rw[hi] at hs;simp at hs;simp[sizeOf,typeInfo,program,hi,ng,hs]
theorem Pc {t:TypeId} {ag:Bool} (hs:Dk P t=af ag) (w:World):(isAgg t).run P w= .ok ag w:=by
 unfold Dk at hs;cases hi:P.underlying t with
 |none=>rw[hi] at hs;cases hs
 |some d=>
  rw[hi] at hs;simp only[b_,ak] at hs;rw[<- hs];simp only[isAgg,eA,run_underlying hi,cG];cases d<;>rfl
theorem kS (b off i:Nat):(⟨b,off,ah⟩:Addr).add i=⟨b,off+i,ah⟩:=by
 unfold Addr.add;split<;>simp_all
theorem Pb {s:TypeId} {fs:Array Field} {k:Nat} {f:Field} {sz:Nat} (hu:P.underlying s=af (.struct fs)) (hf:fs[k]? =af f) (hs:fh P f.type=af sz) (h0:sz≠0) (w:World) (b i:Nat):
 (Instr.fieldAt s (.pointer (af ⟨b,i,ah⟩)) k).run P w= .ok (.pointer (af ⟨b,i+f.offset,ah⟩)) w:=by
 have h1:=gp hs w;simp[Instr.fieldAt,run_underlying hu,hf,Instr.sureAddr,fieldPlace,h1,h0,kS]
theorem akc {s:TypeId} {fs:Array Field} {k:Nat} {f:Field} {sz:Nat} {x:Operand} (U:o.op= .fieldAddr s x k) (hu:P.underlying s=af (.struct fs)) (hf:fs[k]? =af f) (hs:fh P f.type=af sz) (h0:sz≠0) (I:eH (.fad f.offset x) e h nx=af R):gG P o e.get h.get R.eff:=by
 have key:∀ (w:World) (ρ:Operand->Value) (b i:Nat),ρ x= .pointer (af ⟨b,i,ah⟩)->(execOp ρ o).run P w= .ok (.value (.pointer (af ⟨b,i+f.offset,ah⟩))) w:=by
  intro w ρ b i h1;unfold execOp;rw[U];simp only[h1];exact aej (Pb hu hf hs h0 w b i)
 simp only[eH] at I;split at I
 .rename_i id off M;rw[dk I];refine gG.reads λφ E h' w a _ hp _=>?_
  have h1:=hp x _ (by rw[U];simp[Op.operands]) M;generalize J:a.eval x=z at h1;cases h1 with
  |ptr hφ=>exact⟨_,key w a.eval _ _ J,.ptr hφ⟩
 .rename_i cells off M;rw[dk I];refine gG.reads λφ E h' w a _ hp _=>?_
  have h1:=hp x _ (by rw[U];simp[Op.operands]) M;generalize J:a.eval x=z at h1;cases h1 with
  |f h1=>
   cases h1 with
   |ptr _ _ b base us hO hb hcl hu hr=>
    refine ⟨_,key w a.eval _ _ J,.f ?_⟩;rw[sg];exact .ptr cells _ b base us hO hb hcl hu hr
 .cases I
theorem IU {t el:TypeId} {x y:Operand} {sz b off n c:Nat} {k:IntKind} {i:Int} {ρ:Operand->Value} {w:World} (M:o.op= .indexAddr t x y) (hu:P.underlying t=af (.slice el)) (hs:fh P el=af sz) (J:ρ x= .slice (af ⟨b,off,ah⟩) n c) (I:ρ y= .int k i) (h0:0<=i) (h1:i<n):
 (execOp ρ o).run P w= .ok (.value (.pointer (af ⟨b,off+i.toNat*sz,ah⟩))) w:=by
 have h2:=gp hs w;unfold execOp;rw[M];simp[J,I,Instr.indexAt,asIntOf,run_underlying hu,h2,h0,h1,kS]
theorem aka {t el:TypeId} {x y:Operand} {sz:Nat} (J:o.op= .indexAddr t x y) (hu:P.underlying t=af (.slice el)) (hs:fh P el=af sz) (I:eH (.iad sz x y) e h nx=af R):gG P o e.get h.get R.eff:=by
 simp only[eH] at I;split at I
 .rename_i v k j Y hy;have hyv:∀ {φ:PM} {E:Nat->Prop} {h':HF} {w:World} {a:Act},UV φ E h' w a e o->a.eval y= .int k j:=λhp=>fo (hp y _ (by rw[J];simp[Op.operands]) hy)
  split at I
  .split at I
   .rename_i id sz' n hc;simp only[cV,fP,av,bP,cR] at hc;obtain⟨⟨rfl,h0⟩,h1⟩:=hc;rw[dk I];refine gG.reads λφ E h' w a _ hp _=>?_
    have hr:=hp x _ (by rw[J];simp[Op.operands]) Y;generalize M:a.eval x=z at hr;cases hr with
    |row hφ hn U hsh=>
     refine ⟨_,IU J hu hs M (hyv hp) h0 h1,?_⟩;rw[bN];exact .ptr hφ
   .cases I
  .split at I
   .rename_i id off n hc;simp only[cV,fP,av,bP] at hc;obtain⟨h0,h1⟩:=hc;rw[dk I];refine gG.reads λφ E h' w a _ hp _=>?_
    have hr:=hp x _ (by rw[J];simp[Op.operands]) Y;generalize M:a.eval x=z at hr;cases hr with
    |sl hφ hn U=>exact⟨_,IU J hu hs M (hyv hp) h0 h1,.ptr hφ⟩
   .cases I
  .split at I
   .rename_i cells n hc;simp only[cV,fP,av,bP] at hc;obtain⟨h0,h1⟩:=hc;rw[dk I];refine gG.reads λφ E h' w a _ hp _=>?_
    have hr:=hp x _ (by rw[J];simp[Op.operands]) Y;generalize M:a.eval x=z at hr;cases hr with
    |f hr=>
     cases hr with
     |nil=>omega
     |sl _ _ c b base us hn U hO hb hcl Z hr'=>exact⟨_,IU J hu hs M (hyv hp) h0 h1,.f (.ptr cells _ b base us hO hb hcl Z hr')⟩
   .cases I
  .cases I
 .cases I
theorem agy {t el:TypeId} {x y:Operand} {n sz:Nat} (J:o.op= .indexAddr t x y) (hu:P.underlying t=af (.array n el)) (hs:fh P el=af sz) (I:eH (.iada n sz x y) e h nx=af R):gG P o e.get h.get R.eff:=by
 have key:∀ (w:World) (ρ:Operand->Value) (b off:Nat) (k:IntKind) (i:Int),ρ x= .pointer (af ⟨b,off,ah⟩)->ρ y= .int k i->0<=i->i<n->(execOp ρ o).run P w= .ok (.value (.pointer (af ⟨b,off+i.toNat*sz,ah⟩))) w:=by
  intro w ρ b off k i h1 h2 h3 h4;have h5:=gp hs w;unfold execOp;rw[J];simp[h1,h2,Instr.indexAt,asIntOf,run_underlying hu,h5,h3,h4,kS,Instr.sureAddr]
 simp only[eH] at I;split at I
 .rename_i v k j hx Z;split at I
  .rename_i hc;simp only[cV,fP,av,bP] at hc;obtain⟨h0,h1⟩:=hc;split at I
   .rw[dk I];refine gG.reads λφ E h' w a _ hp _=>?_
    have hr:=hp x _ (by rw[J];simp[Op.operands]) hx;have hyv:=fo (hp y _ (by rw[J];simp[Op.operands]) Z);generalize M:a.eval x=z at hr;cases hr with
    |ptr hφ=>exact⟨_,key w a.eval _ _ k j M hyv h0 h1,.ptr hφ⟩
   .rw[dk I];refine gG.reads λφ E h' w a _ hp _=>?_
    have hr:=hp x _ (by rw[J];simp[Op.operands]) hx;have hyv:=fo (hp y _ (by rw[J];simp[Op.operands]) Z);generalize M:a.eval x=z at hr;cases hr with
    |f hr=>
     cases hr with
     |ptr _ _ b base us hO hb hcl U Y=>
      refine ⟨_,key w a.eval _ _ k j M hyv h0 h1,.f ?_⟩;rw[sg];exact .ptr _ _ b base us hO hb hcl U Y
   .cases I
  .cases I
 .cases I
theorem akd {x:Operand} {i:Nat} (J:o.op= .extract x i) (I:eH (.ext x i) e h nx=af R):gG P o e.get h.get R.eff:=by
 simp only[eH] at I;split at I
 .rename_i l U;split at I
  .rename_i v hv;rw[dk I];refine gG.reads λφ E h' w a _ hp _=>?_
   have hr:=hp x _ (by rw[J];simp[Op.operands]) U;generalize M:a.eval x=z at hr;cases hr with
   |@tup _ vs hl hrr=>
    have hlt:i<vs.length:=by
     rw[hl];exact (bh.1 hv).1
    refine ⟨vs[i],?_,hrr i v _ hv (aA hlt)⟩;unfold execOp;rw[J];simp[M,Instr.extract,hlt]
  .cases I
 .cases I
theorem ak8 {x y:Operand} {M:Array TypeId} (J:o.op= .call {callee:=.builtin .max,args:=#[x,y],argTypes:=M}) (I:eH (.max x y) e h nx=af R):gG P o e.get h.get R.eff:=by
 simp only[eH] at I;split at I
 .rename_i k a b k' Y U;rw[dk I];refine gG.reads λφ E h' w a _ hp _=>?_
  have h1:=fo (hp x _ (by rw[J];simp[Op.operands,eK]) Y);have h2:=fo (hp y _ (by rw[J];simp[Op.operands,eK]) U);refine ⟨_,?_,.f (.raw _)⟩;unfold execOp;rw[J];simp[resolve,invoke,builtin,Builtin.max_,Builtin.max2,h1,h2,fP]
 .cases I
theorem ak7 {x y:Operand} {M:Array TypeId} (J:o.op= .call {callee:=.builtin .min,args:=#[x,y],argTypes:=M}) (I:eH (.min x y) e h nx=af R):gG P o e.get h.get R.eff:=by
 simp only[eH] at I;split at I
 .rename_i k a b k' Y U;rw[dk I];refine gG.reads λφ E h' w a _ hp _=>?_
  have h1:=fo (hp x _ (by rw[J];simp[Op.operands,eK]) Y);have h2:=fo (hp y _ (by rw[J];simp[Op.operands,eK]) U);refine ⟨_,?_,.f (.raw _)⟩;unfold execOp;rw[J];simp[resolve,invoke,builtin,Builtin.min_,Builtin.min2,h1,h2,fP]
 .cases I
theorem ak3 {x:Operand} {t:TypeId} {k:IntKind} (J:o.op= .unOp .neg t x) (I:eH (.bin .sub (.const (.int k 0)) x) e h nx=af R):gG P o e.get h.get R.eff:=by
 simp only[eH,mw,Ev] at I;split at I
 .rename_i u v hu M;cases hu;split at I
  .rename_i r hb;rw[dk I];refine gG.reads λφ E h' w a _ hop _=>?_
   have h1:=fo (hop x _ (by rw[J];simp[Op.operands]) M);refine ⟨r,?_,.f (.raw _)⟩;unfold execOp;rw[J];cases v<;>simp only[uu] at hb<;>try (cases hb;done)
   split at hb
   .rename_i hk;have hk:=eq_of_beq hk;subst hk;simp only[ak] at hb;subst hb;simp[h1,Op.unary,Op.intArith,yg]
   .cases hb
  .cases I
 .cases I
theorem agq {x i:Operand} {t:TypeId} (J:o.op= .index t x i) (hu:P.underlying t=af .string) (I:eH (.sidx x i) e h nx=af R):gG P o e.get h.get R.eff:=by
 simp only[eH] at I;split at I
 .rename_i s k j M hi;split at I
  .rename_i h0;simp only[cV,bP] at h0;split at I
   .rename_i b hb;rw[dk I];refine gG.reads λφ E h' w a _ hop _=>?_
    have h1:=fo (hop x _ (by rw[J];simp[Op.operands]) M);have h2:=fo (hop i _ (by rw[J];simp[Op.operands]) hi);refine ⟨_,?_,.f (.raw _)⟩;have hs:s[j.toNat]? =af b:=by
     rw[cF] at hb;obtain⟨hl,he⟩:=cC.1 hb;exact getElem?_pos s j.toNat hl▸gE af he
    unfold execOp;rw[J];simp[Instr.index,run_underlying hu,h1,h2,asIntOf,h0,hs]
   .cases I
  .cases I
 .cases I
theorem ak6 {f:FuncId} {caps:Array Operand} (Y:o.op= .makeFunc (.func f) #[] caps) (M:eH (.mkf f caps.toList) e h nx=af R):gG P o e.get h.get R.eff:=by
 simp only[eH] at M;split at M
 .rename_i l hl;rw[dk M];refine gG.reads λφ E h' w a _ hp _=>?_
  refine ⟨_,by unfold execOp;rw[Y];rfl,?_⟩;have key:∀ (xs:List Operand) (I:List AV),(∀ x∈xs,x∈o.op.operands)->VV e xs=af I->I.length=xs.length/\∀ (j:Nat) x v,I[j]? =af x->(xs.map a.eval)[j]? =af v->cI φ (tot E φ h') w x v:=by
   intro xs;induction xs with
   |nil=>intro I _ h;simp only[VV,ak] at h;subst h;exact⟨rfl,λj x v J=>by simp at J⟩
   |cons x xs Z=>
    intro I hm h;simp only[VV] at h;split at h
    .rename_i y hy;split at h
     .rename_i ys' hys;simp only[ak] at h;subst h;obtain⟨h1,h2⟩:=Z ys' (λx J=>hm x (cL _ J)) hys;refine ⟨by simp[h1],λj z v U hv=>?_⟩;cases j with
      |zero=>simp at U hv;subst U;subst hv;exact hp x _ (hm x (dv ..)) hy
      |succ j=>exact h2 j z v (by simpa using U) (by simpa using hv)
     .cases h
    .cases h
  obtain⟨h1,h2⟩:=key caps.toList l (λx J=>by rw[Y];simpa[Op.operands] using J) hl;have h3:(caps.map a.eval)=(caps.toList.map a.eval).toArray:=by
   apply Kn;simp
  have h4:(#[]:Array Operand).map a.eval=#[]:=by simp
  rw[h4,h3];exact .clo (by simp[h1]) h2
 .cases M
end pure
section
variable {P:Program} {o:Oper} {e:zo} {h:nQ} {nx:Nat} {R:BG}
theorem U7 {α:Type} {l cs:List α} {off sz:Nat} (h:off+sz<=l.length) (he:(l.drop off).take sz=cs):cs.length=sz/\∀ (j:Nat) x,cs[j]? =af x->l[off+j]? =af x:=by
 subst he;constructor
 .simp;omega
 .intro j x I;rw[cM] at I;split at I
  .rw[gQ] at I;exact I
  .cases I
theorem xd (f:Nat->Value) (n j:Nat) (v:Value) (h:((eS n).map f)[j]? =af v):v=f j/\j<n:=by
 rw[ba] at h;rcases b7 j n with hj|hj
 .rw[F7 hj] at h;simp at h;exact⟨h.symm,hj⟩
 .rw[bO (by simpa using hj)] at h;cases h
def xx (φ:PM) (O:Nat->Prop) (w:World) (c:BC) (f:Nat->Option Value):Prop:=∀ j x,c.get j=af x->x.isCell=ai/\∃ v,f j=af v/\cI φ O w x v
theorem U6 {φ:PM} {O:Nat->Prop} {w:World} {c:BC} {off sz:Nat} {ag:Bool} {val:AV} (hs:c.sub? off sz ag=af val) {f:Nat->Option Value} (hc:xx φ O w c f):
 ∃ cs:List Value,cs.length=sz/\(∀ (j:Nat) v,cs[j]? =af v->f (off+j)=af v)/\(ag=aj->sz=1)/\cI φ O w val (if ag then .agg cs.toArray else cs.getD 0 undef):=by
 cases ag with
 |false=>
  simp only[BC.sub?] at hs;split at hs
  .obtain⟨h0,v,h1,h2⟩:=hc off val hs;exact⟨[v],rfl,λj u hu=>by cases j with|zero=>simp at hu;subst hu;exact h1|succ j=>simp at hu,λ_=>rfl,by simpa using h2⟩
  .cases hs
 |true=>
  have fin:∀ (g:Nat->Option AV),(∀ j,j<sz->∃ x,g j=af x/\c.get (off+j)=af x)->
   ∃ cs:List Value,cs.length=sz/\(∀ (j:Nat) v,cs[j]? =af v->f (off+j)=af v)/\∀ (j:Nat) x v,g j=af x->cs[j]? =af v->cI φ O w x v:=by
   intro g hg;refine ⟨(eS sz).map λj=>(f (off+j)).getD undef,by simp,λj v hv=>?_,λj x v I hv=>?_⟩
   .obtain⟨rfl,hj⟩:=xd _ _ _ _ hv;obtain⟨x,_,h2⟩:=hg j hj;obtain⟨_,v,J,_⟩:=hc _ _ h2;rw[J];rfl
   .obtain⟨rfl,hj⟩:=xd _ _ _ _ hv;obtain⟨U,h1,h2⟩:=hg j hj;rw[I] at h1;cases h1;obtain⟨_,v,J,M⟩:=hc _ _ h2;rw[J];exact M
  simp only[BC.sub?] at hs;split at hs
  .rename_i l;split at hs
   .rename_i hle;simp only[ak] at hs;subst hs;obtain⟨hl,hg⟩:=U7 (a8 hle) (rfl:(l.drop off).take sz=_);obtain⟨cs,h1,h2,J⟩:=fin (λj=>(((l.drop off).take sz)[j]?).map AV.f) (λj hj=>by
     have hlt:j<((l.drop off).take sz).length:=by rw[hl];exact hj
     refine ⟨.f ((l.drop off).take sz)[j],by simp only[aA hlt,b_],?_⟩;simp only[BC.get,hg j _ (aA hlt),b_])
    refine ⟨cs,h1,h2,(λh=>by cases h),.f (.agg _ _ (by rw[h1,hl]) ?_ ?_)⟩
    .intro x I;obtain⟨j,hj⟩:=eX I;exact (hc (off+j) (.f x) (by simp only[BC.get,hg j x hj,b_])).1
    .intro j x v I hv;have:=J j (.f x) v (by simp only[I,b_]) hv;cases this with
     |f h=>exact h
   .cases hs
  .rename_i l;split at hs
   .rename_i hle;simp only[ak] at hs;subst hs;obtain⟨hl,hg⟩:=U7 (a8 hle) (rfl:(l.drop off).take sz=_);obtain⟨cs,h1,h2,J⟩:=fin (λj=>(((l.drop off).take sz)[j]?)) (λj hj=>by
     have hlt:j<((l.drop off).take sz).length:=by rw[hl];exact hj
     exact⟨_,aA hlt,hg j _ (aA hlt)⟩)
    refine ⟨cs,h1,h2,(λh=>by cases h),.agg (by rw[h1,hl]) ?_ ?_⟩
    .intro x I;obtain⟨j,hj⟩:=eX I;exact (hc (off+j) x (hg j x hj)).1
    .intro j x v I hv;exact J j x v I hv
   .cases hs
  .cases hs
theorem M6 {t:TypeId} {sz:Nat} {ag:Bool} (hs:fh P t=af sz) (I:Dk P t=af ag) (w:World) (b off:Nat) (cs:List Value) (hl:cs.length=sz) (hc:∀ (j:Nat) v,cs[j]? =af v->w.cell? ⟨b,off+j,ah⟩=af v) (h1:ag=aj->sz=1):
 (loadVar t ⟨b,off,ah⟩).run P w= .ok (if ag then .agg cs.toArray else cs.getD 0 undef) w:=by
 unfold loadVar;simp only[eA,Pc I w,cG];cases ag with
 |true=>
  simp only[bC,eA,gp hs w,cG];rw[<- hl,run_loadCells_list (P:=P) w ⟨b,off,ah⟩ cs (λj v hv=>by rw[kS];exact hc j v hv)];rfl
 |false=>
  have h1:=h1 rfl;cases cs with
  |nil=>simp at hl;omega
  |cons v r=>
   have:=hc 0 v rfl;simp only[dg] at this;simp[load,ng,this]
theorem H9 {φ:PM} {O:Nat->Prop} {w:World} {t:TypeId} {sz:Nat} {ag:Bool} (hs:fh P t=af sz) (I:Dk P t=af ag) {c:BC} {b base off:Nat} {val:AV} (hv:c.sub? off sz ag=af val)
 (hc:xx φ O w c λj=>w.cell? ⟨b,base+j,ah⟩):∃ v,(loadVar t ⟨b,base+off,ah⟩).run P w= .ok v w/\cI φ O w val v:=by
 obtain⟨cs,h1,h2,M,J⟩:=U6 hv hc;exact⟨_,M6 hs I w b (base+off) cs h1 (λj v hj=>by rw[sg];exact h2 j v hj) M,J⟩
theorem Ry {φ:PM} {E:Nat->Prop} {h':HF} {w:World} (hrep:qL φ E h' w) {id k:Nat} {b:wG} (hb:h' id=af b) (hk:φ id=af k) (hc:b.c.isCells=ai):xx φ (tot E φ h') w b.c λj=>w.cell? ⟨k,0+j,ah⟩:=by
 obtain⟨k',h1,_,h2⟩:=hrep.at_ id b hb;rw[hk] at h1;cases h1;obtain⟨arr,M,h4,J⟩:=h2.cells hc;intro j x I;obtain⟨Z,v,Y,U⟩:=J j x I;exact⟨Z,v,by simp[ML,M,Y],U⟩
theorem UD {φ:PM} {O:Nat->Prop} {w:World} {cells:List FV} {b base:Nat} {us:Nat->Value} (hcl:∀ x∈cells,x.isCell=ai) (hu:∀ j,j<cells.length->w.cell? ⟨b,base+j,ah⟩=af (us j)) (hr:∀ (j:Nat) x,cells[j]? =af x->mZ O w x (us j)):
 xx φ O w (.fz cells) λj=>w.cell? ⟨b,base+j,ah⟩:=by
 intro j y I;simp only[BC.get] at I;cases hc:cells[j]? with
 |none=>rw[hc] at I;cases I
 |some q=>
  rw[hc] at I;simp at I;subst I;have hj:j<cells.length:=(bh.1 hc).1;exact⟨hcl q (a_ hc),us j,hu j hj,.f (hr j q hc)⟩
theorem O0 {c:BC} {off sz:Nat} {ag:Bool} {v:AV} (h:c.sub? off sz ag=af v):c.isCells=ai:=by
 cases c with
 |fz=>rfl
 |mx=>rfl
 |mp es=>cases ag<;>simp only[BC.sub?,BC.get] at h<;>(try split at h)<;>cases h
 |it s p=>cases ag<;>simp only[BC.sub?,BC.get] at h<;>(try split at h)<;>cases h
theorem RH {t:TypeId} {sz:Nat} {ag:Bool} (hs:fh P t=af sz) (hag:Dk P t=af ag) {p:AV} (I:Dj h sz ag p=af R):
 R.wr=[]/\R.nw=[]/\R.N=[]/\∀ (φ:PM) (E:Nat->Prop) (h':HF) (w:World) (pv:Value),(∀ i∈R.rd,h' i=h.get i)->qL φ E h' w->cI φ (tot E φ h') w p pv->
  ∃ J v,pv= .pointer (af J)/\(loadVar t J).run P w= .ok v w/\cI φ (tot E φ h') w R.val v:=by
 unfold Dj at I;split at I
 .rename_i id off;split at I
  .rename_i b hb;split at I
   .rename_i v hv;simp only[ak] at I;subst I;refine ⟨rfl,rfl,rfl,λφ E h' w pv hrd hrep hr=>?_⟩;have hh:h' id=af b:=by rw[hrd id (by simp)];exact hb
    cases hr with
    |@ptr _ _ k hφ=>
     obtain⟨u,h1,h2⟩:=H9 hs hag (w:=w) (b:=k) (base:=0) hv (Ry hrep hh hφ (O0 hv));rw[bN] at h1;exact⟨_,u,rfl,h1,h2⟩
   .cases I
  .cases I
 .rename_i cells off;split at I
  .rename_i v hv;rw[dk I];refine ⟨rfl,rfl,rfl,λφ E h' w pv hrd hrep hr=>?_⟩;cases hr with
   |f hr=>
    cases hr with
    |ptr _ _ b base us hO hb hcl hu hr=>
     obtain⟨u,h1,h2⟩:=H9 (φ:=φ) (O:=tot E φ h') hs hag (w:=w) (b:=b) (base:=base) hv (UD hcl hu hr);exact⟨_,u,rfl,h1,h2⟩
  .cases I
 .cases I
theorem agu {t:TypeId} {x:Operand} {sz:Nat} {ag:Bool} (J:o.op= .load t x) (hs:fh P t=af sz) (hag:Dk P t=af ag) (I:eH (.load sz ag x) e h nx=af R):gG P o e.get h.get R.eff:=by
 simp only[eH] at I;split at I
 .rename_i p Y;obtain⟨h1,h2,U,M⟩:=RH hs hag I;obtain⟨val,rd,wr,nw,N⟩:=R;simp only at h1 h2 U M;subst h1;subst h2;subst U;refine gG.reads λφ E h' w a hrd hp hrep=>?_
  obtain⟨ad,v,h5,h6,Z⟩:=M φ E h' w _ hrd hrep (hp x _ (by rw[J];simp[Op.operands]) Y);refine ⟨v,?_,Z⟩;unfold execOp;rw[J];simp[Instr.loadAt,h5,Instr.sureAddr,h6]
 .cases I
theorem Vj {φ:PM} {O:Nat->Prop} {w:World} {t:TypeId} {sz:Nat} {ag:Bool} (hs:fh P t=af sz) (hag:Dk P t=af ag) {c:BC} {off:Nat} {val:AV} (hv:c.sub? off sz ag=af val) {vs:List Value}
 (hc:xx φ O w c λj=>vs[j]?):∃ v,(part t vs.toArray off).run P w= .ok v w/\cI φ O w val v:=by
 obtain⟨cs,h1,h2,J,I⟩:=U6 hv hc;refine ⟨_,?_,I⟩;unfold part;simp only[eA,Pc hag w,cG];cases ag with
 |true=>
  simp only[bC,eA,gp hs w,cG];have:vs.toArray.extract off (off+sz)=cs.toArray:=by
   apply Kn;simp only[Array.toList_extract,List.extract_eq_take_drop];apply List.ext_getElem?;intro j;rw[show off+sz-off=sz from by omega,cM,gQ];rcases b7 j sz with hj|hj
   .rw[aF hj];have:=h2 j _ (aA (by omega:j<cs.length));rw[this,aA (by omega:j<cs.length)]
   .rw[aC (by omega),bO (by omega)]
  rw[this];rfl
 |false=>
  have M:=J rfl;cases cs with
  |nil=>simp at h1;omega
  |cons v r=>
   have:=h2 0 v rfl;simp only[dg] at this;simp[this]
theorem Rz {φ:PM} {O:Nat->Prop} {w:World} {l:List AV} {vs:List Value} (hl:vs.length=l.length) (hcl:∀ x∈l,x.isCell=ai) (hr:∀ (j:Nat) x v,l[j]? =af x->vs[j]? =af v->cI φ O w x v):xx φ O w (.mx l) λj=>vs[j]? :=by
 intro j x I;simp only[BC.get] at I;have hj:j<vs.length:=by rw[hl];exact (bh.1 I).1
 exact⟨hcl x (a_ I),vs[j],aA hj,hr j x _ I (aA hj)⟩
theorem On {φ:PM} {O:Nat->Prop} {w:World} {l:List FV} {vs:List Value} (hl:vs.length=l.length) (hcl:∀ x∈l,x.isCell=ai) (hr:∀ (j:Nat) x v,l[j]? =af x->vs[j]? =af v->mZ O w x v):xx φ O w (.fz l) λj=>vs[j]? :=by
 intro j x I;simp only[BC.get] at I;cases hc:l[j]? with
 |none=>rw[hc] at I;cases I
 |some q=>
  rw[hc] at I;simp at I;subst I;have hj:j<vs.length:=by rw[hl];exact (bh.1 hc).1
  exact⟨hcl q (a_ hc),vs[j],aA hj,.f (hr j q _ hc (aA hj))⟩
theorem J2 {φ:PM} {O:Nat->Prop} {w:World} {t:TypeId} {sz:Nat} {ag:Bool} (hs:fh P t=af sz) (hag:Dk P t=af ag) {x:AV} {z:Value} (hr:cI φ O w x z) {off:Nat} {val:AV}
 (hv:(∃ l,x= .agg l/\(BC.mx l).sub? off sz ag=af val)\/(∃ l,x= .f (.agg l)/\(BC.fz l).sub? off sz ag=af val)):∃ cs v,z= .agg cs/\(part t cs off).run P w= .ok v w/\cI φ O w val v:=by
 rcases hv with ⟨l,rfl,hv⟩|⟨l,rfl,hv⟩
 .cases hr with
  |agg hl hcl hr=>
   obtain⟨v,h1,h2⟩:=Vj hs hag hv (Rz hl hcl hr);exact⟨_,v,rfl,h1,h2⟩
 .cases hr with
  |f hr=>
   cases hr with
   |agg _ vs hl hcl hr=>
    obtain⟨v,h1,h2⟩:=Vj (φ:=φ) hs hag hv (On hl hcl hr);exact⟨_,v,rfl,h1,h2⟩
theorem akb {s:TypeId} {fs:Array Field} {k:Nat} {f:Field} {sz:Nat} {ag:Bool} {x:Operand} (M:o.op= .field s x k) (hu:P.underlying s=af (.struct fs)) (hf:fs[k]? =af f) (hs:fh P f.type=af sz) (hag:Dk P f.type=af ag) (I:eH (.fld f.offset sz ag x) e h nx=af R):gG P o e.get h.get R.eff:=by
 have fin:∀ (y:AV) (val:AV),mw e x=af y->((∃ l,y= .agg l/\(BC.mx l).sub? f.offset sz ag=af val)\/(∃ l,y= .f (.agg l)/\(BC.fz l).sub? f.offset sz ag=af val))->rv val=af R->gG P o e.get h.get R.eff:=by
  intro y val J hv U;rw[dk U];refine gG.reads λφ E h' w a _ hp _=>?_
  obtain⟨cs,v,h1,h2,Y⟩:=J2 hs hag (hp x _ (by rw[M];simp[Op.operands]) J) hv;refine ⟨v,?_,Y⟩;unfold execOp;rw[M];simp[Instr.field,run_underlying hu,hf,h1,asAgg,h2]
 simp only[eH] at I;split at I
 .rename_i l J;split at I
  .rename_i v hv;exact fin _ v J (.inl ⟨l,rfl,hv⟩) I
  .cases I
 .rename_i l J;split at I
  .rename_i v hv;exact fin _ v J (.inr ⟨l,rfl,hv⟩) I
  .cases I
 .cases I
theorem ak9 {t el:TypeId} {n sz:Nat} {ag:Bool} {x y:Operand} (J:o.op= .index t x y) (hu:P.underlying t=af (.array n el)) (hs:fh P el=af sz) (hag:Dk P el=af ag) (I:eH (.idx n sz ag x y) e h nx=af R):gG P o e.get h.get R.eff:=by
 simp only[eH] at I;split at I
 .rename_i v0 k j U M;split at I
  .rename_i hc;simp only[cV,fP,av,bP] at hc;obtain⟨h0,h1⟩:=hc;have fin:∀ (val:AV),((∃ l,v0= .agg l/\(BC.mx l).sub? (j.toNat*sz) sz ag=af val)\/(∃ l,v0= .f (.agg l)/\(BC.fz l).sub? (j.toNat*sz) sz ag=af val))->rv val=af R->gG P o e.get h.get R.eff:=by
    intro val hv Y;rw[dk Y];refine gG.reads λφ E h' w a _ hp _=>?_
    have hyv:=fo (hp y _ (by rw[J];simp[Op.operands]) M);obtain⟨cs,v,h3,h4,h5⟩:=J2 hs hag (hp x _ (by rw[J];simp[Op.operands]) U) hv;refine ⟨v,?_,h5⟩;have Z:=gp hs w;unfold execOp;rw[J];simp[Instr.index,run_underlying hu,hyv,asIntOf,h3,h0,h1,Z,h4]
   split at I
   .rename_i l;split at I
    .rename_i v hv;exact fin v (.inl ⟨l,rfl,hv⟩) I
    .cases I
   .rename_i l;split at I
    .rename_i v hv;exact fin v (.inr ⟨l,rfl,hv⟩) I
    .cases I
   .cases I
  .cases I
 .cases I
theorem agx {t el:TypeId} {x:Operand} (M:o.op= .call {callee:=.builtin .len,args:=#[x],argTypes:=#[t]}) (hu:P.underlying t=af (.slice el)) (I:eH (.len x) e h nx=af R):gG P o e.get h.get R.eff:=by
 simp only[eH] at I;split at I
 .rename_i y U;split at I
  .rename_i n hn;rw[dk I];refine gG.reads λφ E h' w a _ hp _=>?_
   have hr:=hp x _ (by rw[M];simp[Op.operands,eK]) U;refine ⟨_,?_,.f (.raw _)⟩;have J:∃ A c,a.eval x= .slice A n c:=by
    generalize a.eval x=z at hr;unfold AV.slen at hn;split at hn<;>try (simp only[ak] at hn;subst hn)
    .cases hr with
     |f hr=>cases hr with
      |nil=>exact⟨_,_,rfl⟩
      |sl=>exact⟨_,_,rfl⟩
    .cases fo hr;exact⟨_,_,rfl⟩
    .cases hr;exact⟨_,_,rfl⟩
    .cases hr;exact⟨_,_,rfl⟩
    .cases hr;exact⟨_,_,rfl⟩
    .cases hn
   obtain⟨A,c,J⟩:=J;unfold execOp;rw[M];simp[resolve,invoke,builtin,Builtin.len_,run_underlying hu,J,goInt]
  .cases I
 .cases I
theorem agw {t:TypeId} {x:Operand} (J:o.op= .call {callee:=.builtin .len,args:=#[x],argTypes:=#[t]}) (hu:P.underlying t=af .string) (I:eH (.lens x) e h nx=af R):gG P o e.get h.get R.eff:=by
 simp only[eH] at I;split at I
 .rename_i s M;rw[dk I];refine gG.reads λφ E h' w a _ hp _=>?_
  have hr:=fo (hp x _ (by rw[J];simp[Op.operands,eK]) M);refine ⟨_,?_,.f (.raw _)⟩;unfold execOp;rw[J];simp[resolve,invoke,builtin,Builtin.len_,run_underlying hu,hr,goInt]
 .cases I
theorem agv {t k v:TypeId} {x:Operand} (J:o.op= .call {callee:=.builtin .len,args:=#[x],argTypes:=#[t]}) (hu:P.underlying t=af (.map k v)) (I:eH (.lenm x) e h nx=af R):gG P o e.get h.get R.eff:=by
 simp only[eH] at I;split at I
 .rename_i id U;split at I
  .rename_i ty es hid;simp only[ak] at I;subst I;refine gG.reads λφ E h' w a hrd hp hrep=>?_
   have hr:=hp x _ (by rw[J];simp[Op.operands,eK]) U;have hh:h' id=af ⟨ty,.mp es⟩:=by rw[hrd id (by simp)];exact hid
   generalize M:a.eval x=z at hr;cases hr with
   |@mp _ b hφ=>
    obtain⟨b',h1,_,ob,h2,h3⟩:=hrep.at_ id _ hh;rw[hφ] at h1;cases h1;obtain⟨ents,clock,rfl,Z,_⟩:=h3;have Y:ents.size=es.length:=by have:=gE al Z;simpa using this
    refine ⟨_,?_,.f (.raw _)⟩;unfold execOp;rw[J];simp[resolve,invoke,builtin,Builtin.len_,run_underlying hu,M,goInt,getObj,ng,h2,Y]
  .cases I
 .cases I
end
structure EH (w w':World) (k:Nat) (ob:Obj):Prop where
 os:w'.os=w.os
 tape:w'.tape=w.tape
 output:w'.output=w.output
 size:w'.heap.size=w.heap.size
 at_:w'.heap[k]? =af ob
 other:∀ j,j≠k->w'.heap[j]? =w.heap[j]?
 shp:∀ j,w'.shape? j=w.shape? j
structure RN (w w':World) (ob:Obj):Prop where
 os:w'.os=w.os
 tape:w'.tape=w.tape
 output:w'.output=w.output
 size:w'.heap.size=w.heap.size+1
 at_:w'.heap[w.heap.size]? =af ob
 other:∀ j,j<w.heap.size->w'.heap[j]? =w.heap[j]?
theorem qL.wset {φ:PM} {E:Nat->Prop} {h:HF} {w w':World} (r:qL φ E h w) {id k:Nat} {b b':wG} {ob:Obj} (hb:h id=af b) (hk:φ id=af k) (I:EH w w' k ob) (hob:jq φ (tot E φ h) w b' ob) (nw:HF) (hnw:nw id=af b'):
 iV φ φ h (eL h [id] nw) w w'/\qL φ E (eL h [id] nw) w':=by
 have hdom:∀ i,(∃ x,eL h [id] nw i=af x)↔∃ x,h i=af x:=λi=>by
  unfold eL;by_cases hi:i=id
  .subst hi;simp[hnw,hb]
  .simp[hi]
 have hown:∀ j,own φ (eL h [id] nw) j↔own φ h j:=λj=>by
  constructor
  .rintro⟨i,x,h1,h2⟩;obtain⟨y,M⟩:=(hdom i).1 ⟨x,h1⟩;exact⟨i,y,M,h2⟩
  .rintro⟨i,x,h1,h2⟩;obtain⟨y,M⟩:=(hdom i).2 ⟨x,h1⟩;exact⟨i,y,M,h2⟩
 have m:iV φ φ h (eL h [id] nw) w w':=by
  refine ⟨λ_ _ h=>h,⟨I.os,I.tape,I.output,by rw[I.size];exact bV _,λj hj ho=>?_,λj _=>I.shp j⟩,λj _ h=>(hown j).1 h⟩;exact I.other j (λe=>ho (e▸⟨id,b,hb,hk⟩))
 refine ⟨m,⟨λi j x y kk hi hj h1 h2=>?_,λi x hi=>?_,λk hk=>dt (r.el k hk) m.ext.size,λg cells hg=>m.keepF (r.gl g cells hg)⟩⟩
 .obtain⟨x',U⟩:=(hdom i).1 ⟨x,hi⟩;obtain⟨Z,J⟩:=(hdom j).1 ⟨y,hj⟩;exact r.inj i j x' Z kk U J h1 h2
 .by_cases hid:i=id
  .subst hid;have:x=b':=by unfold eL at hi;simp[hnw] at hi;exact hi.symm
   subst this;obtain⟨k',h1,h2,_⟩:=r.at_ i b hb;rw[hk] at h1;cases h1;exact⟨k,hk,h2,ob,I.at_,hob.mono λ_ _ h=>m.keep h⟩
  .have Y:h i=af x:=by unfold eL at hi;simpa[hid] using hi
   obtain⟨k',h1,h2,ob',h3,h4⟩:=r.at_ i x Y;have hne:k'≠k:=λe=>hid (r.inj i id x b k Y hb (e▸h1) hk)
   exact⟨k',h1,h2,ob',by rw[I.other k' hne];exact h3,h4.mono λ_ _ h=>m.keep h⟩
theorem qL.wnew {φ:PM} {E:Nat->Prop} {h:HF} {w w':World} (r:qL φ E h w) {id:Nat} (hid:φ id=ah) {b:wG} {ob:Obj} (M:RN w w' ob) (hob:jq φ (tot E φ h) w b ob) (del:List Nat) (nw:HF) (hnw:nw id=af b) (hdel:∀ i∈del,i≠id->nw i=ah):
 ∃ φ',φ' id=af w.heap.size/\iV φ φ' h (eL h (id::del) nw) w w'/\(∀ i k,φ' i=af k->φ i=af k\/i∈[id])/\qL φ' E (eL h (id::del) nw) w':=by
 have hsub:∀ i x,eL h (id::del) nw i=af x->i≠id->h i=af x/\i∉del:=λi x U hi=>by
  unfold eL at U;by_cases hd:i∈del
  .rw[aF (by simp[hd]),hdel i hd hi] at U;cases U
  .rw[aC (by simp[hi,hd])] at U;exact⟨U,hd⟩
 have hlt:∀ i x k,h i=af x->φ i=af k->k<w.heap.size:=λi x k hi hk=>by
  obtain⟨k',h1,_,ob',Y,_⟩:=r.at_ i x hi;rw[hk] at h1;cases h1;exact (cC.1 Y).1
 have hφ:∀ i,i≠id->(if i=id then af w.heap.size else φ i)=φ i:=λi hi=>by simp[hi]
 have m:iV φ (λi=>if i=id then af w.heap.size else φ i) h (eL h (id::del) nw) w w':=by
  refine ⟨λi k hk=>?_,⟨M.os,M.tape,M.output,by rw[M.size];omega,λj hj _=>M.other j hj,λj hj=>?_⟩,?_⟩
  .have:i≠id:=λe=>by rw[e,hid] at hk;cases hk
   rw[hφ i this];exact hk
  .unfold rz;rw[M.other j hj]
  .rintro j hj ⟨i,x,h1,h2⟩;by_cases hi:i=id
   .simp[hi] at h2;omega
   .have Y:φ i=af j:=by simpa[hi] using h2
    exact⟨i,x,(hsub i x h1 hi).1,Y⟩
 refine ⟨_,by simp,m,λi k hk=>?_,⟨λi j x y k hi hj h1 h2=>?_,λi x hi=>?_,λk hk=>dt (r.el k hk) m.ext.size,λg cells hg=>m.keepF (r.gl g cells hg)⟩⟩
 .by_cases hi:i=id
  .right;simp[hi]
  .left;rw[hφ i hi] at hk;exact hk
 .by_cases I:i=id
  .by_cases J:j=id
   .rw[I,J]
   .exfalso;rw[hφ j J] at h2;have:=hlt j y k (hsub j y hj J).1 h2;simp[I] at h1;omega
  .rw[hφ i I] at h1;have hix:=(hsub i x hi I).1;by_cases J:j=id
   .exfalso;have:=hlt i x k hix h1;simp[J] at h2;omega
   .rw[hφ j J] at h2;exact r.inj i j x y k hix (hsub j y hj J).1 h1 h2
 .by_cases I:i=id
  .subst I;have:x=b:=by unfold eL at hi;simp[hnw] at hi;exact hi.symm
   subst this;refine ⟨w.heap.size,by simp,λhe=>?_,ob,M.at_,hob.mono λ_ _ h=>m.keep h⟩;have:=r.el _ he;omega
  .obtain⟨k,h1,h2,ob',Y,Z⟩:=r.at_ i x (hsub i x hi I).1;refine ⟨k,by rw[hφ i I];exact h1,h2,ob',?_,Z.mono λ_ _ h=>m.keep h⟩;rw[M.other k (hlt i x k (hsub i x hi I).1 h1)];exact Y
theorem qM (w:World) (ob:Obj):RN w {w with heap:=w.heap.push ob} ob:=by
 refine ⟨rfl,rfl,rfl,by simp,by simp,λj hj=>?_⟩;rw[Array.getElem?_push,aC (by omega)]
theorem RN.drawn {w w':World} {ob:Obj} (d:Nat) (h:RN {w with drawn:=d} w' ob):RN w w' ob:=⟨h.os,h.tape,h.output,h.size,h.at_,h.other⟩
theorem gG.makes {P:Program} {o:Oper} {e:zo} {h:HF} {rd:List Nat} {nx:Nat} {b:wG} {val:AV}
 (hv:∀ (φ:PM) (E:Nat->Prop) (h':HF) (w:World) (a:Act),(∀ i∈rd,h' i=h i)->UV φ E h' w a e o->qL φ E h' w->
   ∃ v w' ob,(execOp a.eval o).run P w= .ok (.value v) w'/\RN w w' ob/\jq φ (tot E φ h') w b ob/\∀ φ' O,φ' nx=af w.heap.size->cI φ' O w' val v):
 gG P o e.get h ⟨val,rd,[nx],iZ [(nx,b)],[nx]⟩:=by
 intro φ E h' w a h1 h2 Z I Y;obtain⟨v,w',ob,hrun,U,hob,hval⟩:=hv φ E h' w a h1 (λx y M J=>sZ I Z M J) I;obtain⟨φ',g1,g2,g3,g4⟩:=I.wnew (id:=nx) (Y nx (by simp)) U hob [] (iZ [(nx,b)]) (by simp[iZ]) (by simp);unfold GW;rw[hrun];exact⟨v,φ',rfl,g2,g3,g4,hval φ' _ g1⟩
theorem gG.writes {P:Program} {o:Oper} {e:zo} {h:HF} {rd:List Nat} {id:Nat} {b b':wG} {val:AV} (hb:h id=af b)
 (hv:∀ (φ:PM) (E:Nat->Prop) (h':HF) (w:World) (a:Act),(∀ i∈rd,h' i=h i)->h' id=af b->UV φ E h' w a e o->qL φ E h' w->
   ∃ r w' k ob,(execOp a.eval o).run P w= .ok r w'/\φ id=af k/\EH w w' k ob/\jq φ (tot E φ h') w b' ob/\(∃ v,(r= .value v\/r= .skip/\v=undef)/\cI φ (tot E φ (eL h' [id] (iZ [(id,b')]))) w' val v)):
 gG P o e.get h ⟨val,rd,[id],iZ [(id,b')],[]⟩:=by
 intro φ E h' w a h1 h2 h3 I h5;obtain⟨r,w',k,ob,hrun,hk,Z,hob,v,hr,hval⟩:=hv φ E h' w a h1 (by rw[h2 id (by simp)];exact hb) (λx y Y U=>sZ I h3 Y U) I;obtain⟨M,J⟩:=I.wset (id:=id) (by rw[h2 id (by simp)];exact hb) hk Z hob (iZ [(id,b')]) (by simp[iZ]);unfold GW;rw[hrun];rcases hr with rfl|⟨rfl,rfl⟩
 .exact⟨v,φ,rfl,M,λ_ _ h=>.inl h,J,hval⟩
 .exact⟨undef,φ,rfl,M,λ_ _ h=>.inl h,J,hval⟩
theorem lA {l:List AV} (h:gB l=ai):∀ x∈l,x.isCell=ai:=by
 induction l with
 |nil=>intro x I;cases I
 |cons y l J=>
  simp only[gB,av] at h;intro x I;rcases bi.1 I with rfl|I
  .exact h.1
  .exact J h.2 x I
theorem pA:∀ {l:List AV} {fs:List FV},xv l=af fs->l=fs.map .f
 |[],fs,h=>by simp only[xv,ak] at h;subst h;rfl
 |.f x::r,fs,h=>by
  simp only[xv] at h;split at h
  .rename_i l hl;simp only[ak] at h;subst h;rw[pA hl];rfl
  .cases h
 |.ptr _ _::_,_,h=>by simp[xv] at h
 |.sl _ _ _::_,_,h=>by simp[xv] at h
 |.row _ _ _::_,_,h=>by simp[xv] at h
 |.mp _::_,_,h=>by simp[xv] at h
 |.emp::_,_,h=>by simp[xv] at h
 |.agg _::_,_,h=>by simp[xv] at h
 |.tup _::_,_,h=>by simp[xv] at h
 |.clo _ _::_,_,h=>by simp[xv] at h
def Cs (φ:PM) (O:Nat->Prop) (w:World) (l:List AV) (vs:List Value):Prop:=vs.length=l.length/\(∀ x∈l,x.isCell=ai)/\∀ (j:Nat) x v,l[j]? =af x->vs[j]? =af v->cI φ O w x v
theorem BC.get_toMx {c:BC} (hc:c.isCells=ai) (j:Nat):c.get j=c.toMx[j]? :=by
 cases c with
 |fz l=>simp[BC.get,BC.toMx]
 |mx l=>rfl
 |mp _=>cases hc
 |it _ _=>cases hc
theorem BC.len_toMx {c:BC} (hc:c.isCells=ai):c.len=c.toMx.length:=by
 cases c with
 |fz l=>simp[BC.len,BC.toMx]
 |mx l=>rfl
 |mp _=>cases hc
 |it _ _=>cases hc
theorem nF (l:List AV):(pd l).toMx=l/\(pd l).isCells=ai:=by
 unfold pd;cases h:xv l with
 |none=>exact⟨rfl,rfl⟩
 |some fs=>exact⟨(pA h).symm,rfl⟩
theorem pO {φ:PM} {O:Nat->Prop} {w:World} {ty:TypeId} {c:BC} (hc:c.isCells=ai) {arr:Array Value} (hl:c.toMx.length<=arr.size)
 (h:∀ (j:Nat) x,c.toMx[j]? =af x->x.isCell=ai/\∃ v,arr[j]? =af v/\cI φ O w x v):jq φ O w ⟨ty,c⟩ (.cells arr ty (0,0)):=by
 have h2:uZ φ O w c arr:=⟨by rw[BC.len_toMx hc];exact hl,λj x I=>h j x (by rw[<- BC.get_toMx hc];exact I)⟩
 unfold jq;cases hb:c with
 |fz l=>rw[hb] at h2;exact⟨arr,rfl,h2⟩
 |mx l=>rw[hb] at h2;exact⟨arr,rfl,h2⟩
 |mp _=>rw[hb] at hc;cases hc
 |it _ _=>rw[hb] at hc;cases hc
theorem HR {φ:PM} {O:Nat->Prop} {w:World} {ty:TypeId} {l:List AV} {vs:List Value} (h:Cs φ O w l vs):jq φ O w ⟨ty,pd l⟩ (.cells vs.toArray ty (0,0)):=by
 obtain⟨h1,h2⟩:=nF l;refine pO h2 (by rw[h1];simp[h.1]) λj x I=>?_
 rw[h1] at I;have hj:j<vs.length:=by rw[h.1];exact (bh.1 I).1
 exact⟨h.2.1 x (a_ I),vs[j],by simp[hj],h.2.2 j x _ I (aA hj)⟩
theorem T4 {φ:PM} {O:Nat->Prop} {w:World} {x:AV} {v:Value} (h:cI φ O w x v) (hc:gB x.cs=ai):Cs φ O w x.cs v.cells.toList:=by
 have one:x.cs=[x]->v.cells=#[v]->Cs φ O w x.cs v.cells.toList:=λh1 h2=>by
  rw[h1] at hc ⊢;rw[h2];exact⟨rfl,lA hc,λj y u I hu=>by cases j with|zero=>simp at I hu;subst I;subst hu;exact h|succ j=>simp at I⟩
 cases h with
 |ptr h=>exact one rfl rfl
 |sl h _ _=>exact one rfl rfl
 |row h _ _ _=>exact one rfl rfl
 |emp=>exact one rfl rfl
 |anyb=>exact one rfl rfl
 |mp h=>exact one rfl rfl
 |clo _ _=>exact one rfl rfl
 |tup _ _=>exact cU hc (by simp[AV.cs,gB,AV.isCell])
 |@agg l vs hl hcl hr=>exact⟨hl,hcl,hr⟩
 |@f y u hf=>
  cases hf with
  |raw v=>
   have hv:v.oneCell'=ai:=by
    have:(AV.f (.raw v)).cs=[.f (.raw v)]:=rfl;rw[this] at hc;simpa[gB,AV.isCell,FV.isCell] using hc
   refine one rfl ?_;cases v<;>first|rfl|simp[Value.oneCell'] at hv
  |nil=>exact one rfl rfl
  |sl=>exact one rfl rfl
  |ptr=>exact one rfl rfl
  |agg l vs hl hcl hr=>
   refine ⟨by simp[AV.cs,Value.cells,hl],lA hc,λj y u I hu=>?_⟩;simp only[AV.cs,ba] at I;cases hq:l[j]? with
   |none=>rw[hq] at I;cases I
   |some q=>rw[hq] at I;simp at I;subst I;exact .f (hr j q u hq (by simpa[Value.cells] using hu))
end
end Go.Proofs.YtgijlolllojpaaaGreatDoor.AI
