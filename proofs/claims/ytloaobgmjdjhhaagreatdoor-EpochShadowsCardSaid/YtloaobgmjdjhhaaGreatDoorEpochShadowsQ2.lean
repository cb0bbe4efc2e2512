/-
  Texts of the proof, part 3 of 6: what is used to prove the statement. No condition.
-/
import Derived.Test.YtloaobgmjdjhhaaGreatDoorEpochShadowsQ1
import Derived.WalkSpells
import Derived.Laws.CopyRow
namespace Go.Proofs.YtloaobgmjdjhhaaGreatDoor.AI
open Go.RowKit
set_option maxRecDepth 100000
set_option maxHeartbeats 4000000
set_option linter.unusedVariables false
set_option linter.unusedSimpArgs false
open _root_.Bool renaming true→J,false→af,and_false→L4
open Call renaming operands→e_
open _root_.Classical renaming propDecidable→l9
open _root_.Int renaming ofNat_eq_natCast→ak,ofNat→aM,toNat→aQ,reduceEq→aU,reduceNeg→bp,toNat_natCast→bY
open IntKind renaming wrap→pu
open _root_.List renaming length→ai,replicate→aA,range→bS,length_cons→cf,length_singleton→dc,take→dR,length_nil→fO,cons_append→gE,nil_append→km,foldl_cons→xO
open _root_.Nat renaming beq→aB,add_zero→dl
open Oper renaming wp→Is
open _root_.Option renaming some→M,none→D,map_some→ct,getD_some→vM
open _root_.Prod renaming p2→aY,p3→bi,p4→bu,q3→bO,p5→cF,q5→cY,q4→dG,p6→dZ,q6→fH,q7→ky,p7→kY,q8→qJ,p8→AG
open Result renaming andThen_ok→cU
open Sem renaming run_bind→eR,run→kx
open _root_.Sum renaming inr→bQ
open World renaming cell?→O1
noncomputable section
def NE (op:Int):Prop:=op=1\/op=2\/op=3\/op=14
def ZE (e:Xp):Prop:=GE 4 e\/e= .mk 0 0 [] []
structure NO (nT:Nat) (s:Sx):Prop where
 o0:1<=s.op
 o1:s.op<=15
 vr:s.op=1->s.index=[]->s.name∈NV
 lk:s.op=4->s.name=[109]\/s.name=[110]
 rw:s.op=5\/s.op=6->s.name=[114]
 cn:s.op=9\/s.op=10\/s.op=11->s.name=[99]
 sp:s.op=12\/s.op=13->s.name∈wR.take nT
 se:s.op=14->s.name=[102]
 ge:s.op=15->s.name=[97]/\s.arg=[102]
 el:¬s.op=2->s.els=[]
 bo:s.op=1\/9<=s.op->s.body=[]
variable {nT:Nat}
def GS (nT:Nat):Nat->Sx->Prop
 |0,_=>False
 |d+1,s=>(s.index≠[]->s.name=[113])/\s.index.length<=1/\(∀e∈s.index,GE 4 e)/\(NE s.op->GE 4 s.expr)/\ZE s.expr/\s.body.length<=8/\s.els.length<=8/\(∀x∈s.body,GS nT d x)/\(∀x∈s.els,GS nT d x)/\NO nT s
theorem GS.mono:∀{d:Nat} {s:Sx},GS nT d s->GS nT (d+1) s
 |0,_,h=>h.elim
 |_+1,_,⟨a,b,c,e,f,g,i,j,k,l⟩=>⟨a,b,c,e,f,g,i,λx z=>(j x z).mono,λx z=>(k x z).mono,l⟩
theorem GS.le {d k:Nat} {s:Sx} (h:GS nT d s) (hk:d<=k):GS nT k s:=by
 induction hk with
 |refl=>exact h
 |step _ a=>exact a.mono
theorem NO.asg {s a:ζ} {e:Xp} {i:Y Xp} (hs:i=[]->s∈NV):NO nT (.mk 1 0 s a i e [] []):=by
 constructor<;>simp[Sx.op,Sx.name,Sx.index,Sx.els,Sx.body];exact λh=>by simpa using hs h
theorem GS.asg {d:Nat} {s:ζ} (hs:s∈NV) {e:Xp} (h:GE 4 e):GS nT (d+1) (.mk 1 0 s [] [] e [] []):=
 ⟨λh=>(h rfl).elim,by simp[Sx.index],λe he=>(by cases he),λ_=>h,.inl h,by simp[Sx.body],by simp[Sx.els],λx a=>(by cases a),λx a=>(by cases a),NO.asg λ_=>hs⟩
theorem GS.aix {d:Nat} {i e:Xp} (hi:GE 4 i) (h:GE 4 e):GS nT (d+1) (.mk 1 0 [113] [] [i] e [] []):=
 ⟨λ_=>rfl,by simp[Sx.index],λe he=>(by simp only[Sx.index,aJ]at he;rw[he];exact hi),λ_=>h,.inl h,by simp[Sx.body],by simp[Sx.els],λx a=>(by cases a),λx a=>(by cases a),NO.asg λh=>(by cases h)⟩
theorem GS.we {d:Nat} {op:Int} {s a:ζ} {e:Xp} {b l:Y Sx} (h:GE 4 e) (hb:b.length<=8) (hl:l.length<=8) (z:∀x∈b,GS nT d x) (gl:∀x∈l,GS nT d x) (hn:NO nT (.mk op 0 s a [] e b l)):GS nT (d+1) (.mk op 0 s a [] e b l):=
 ⟨λh=>(h rfl).elim,by simp[Sx.index],λe he=>(by cases he),λ_=>h,.inl h,hb,hl,z,gl,hn⟩
theorem GS.wo {d:Nat} {op ln:Int} {s a:ζ} {b:Y Sx} (L:4<=op/\op≠14) (hb:b.length<=8) (A:∀x∈b,GS nT d x) (hn:NO nT (.mk op ln s a [] (.mk 0 0 [] []) b [])):GS nT (d+1) (.mk op ln s a [] (.mk 0 0 [] []) b []):=
 ⟨λh=>(h rfl).elim,by simp[Sx.index],λe he=>(by cases he),λh=>(by have h:op=1\/op=2\/op=3\/op=14:=h;omega),.inr rfl,hb,by simp[Sx.els],A,λx z=>(by cases z),hn⟩
def QS (nT:Nat) (d:Nat) (n:Int) (t:QZ) (h:HD) (y:MK×QZ×HD×Y Sx):Prop:=(y.2.2.2.length:Int)<=max 0 n/\(∀s∈y.2.2.2,GS nT (d+1) s)/\vI t y.2.1/\y.2.2.1.2=h.2
def QT (nT:Nat) (d:Nat) (t:QZ) (h:HD) (y:Sx×MK×QZ×HD):Prop:=GS nT (d+1) y.1/\vI t y.2.2.1/\y.2.2.2.2=h.2
def QB (nT:Nat) (d:Nat) (t:QZ) (h:HD) (y:Y Sx×MK×QZ×HD):Prop:=y.1.length<=2/\(∀s∈y.1,GS nT (d+1) s)/\vI t y.2.2.1/\y.2.2.2.2=h.2
abbrev RS:Type:=(ν×MK×QZ×HD)->I (MK×QZ×HD×Y Sx)
abbrev RT:Type:=(Int×MK×QZ×HD)->I (Sx×MK×QZ×HD)
abbrev RBk:Type:=((ζ×Int)×MK×QZ×HD)->I (Y Sx×MK×QZ×HD)
def SpS (nT:Nat) (rs:RS) (d:Nat):Prop:=∀(n:Int) (m:MK) (t:QZ) (h:HD),n<=3->TP t->h.2.length+d<=100->Ok (rs (((d:Int),n),m,t,h)) (QS nT d n t h)
def SpT (nT:Nat) (a:RT) (d:Nat):Prop:=∀(m:MK) (t:QZ) (h:HD),TP t->h.2.length+d<=100->Ok (a ((d:Int),m,t,h)) (QT nT d t h)
def SpB (nT:Nat) (a:RBk) (d:Nat):Prop:=∀(s:ζ) (m:MK) (t:QZ) (h:HD),TP t->h.2.length+1+d<=100->Ok (a ((s,(d:Int)),m,t,h)) (QB nT d t h)
theorem ZN (rs:RS) (A:RT) (rb:RBk) (d:Nat) (ht:SpT nT A d):SpS nT (mX rs A rb) d:=by
 intro n m t h hn hp hh;unfold mX aY bi bu bO dG cY be bx bC cR aD cL eE;refine qM (λx=>(n-x.1).toNat) (λx=>0<=x.1/\(x.1<=n\/x.1=0)/\vI t x.2.2.1/\(x.2.2.2.1.length:Int)<=x.1/\(∀s∈x.2.2.2.1,GS nT (d+1) s)/\x.2.2.2.2.2=h.2) ?_ ⟨dk _,.inr rfl,vI.refl hp,by simp,λs hs=>(by cases hs),rfl⟩;rintro⟨(i:Int),m',t',l,h'⟩ ⟨i0,i1,e1,e2,e3,z⟩;dsimp only at i0 i1 e1 e2 e3 z;refine aV (λx=>x.2=(m',t',l,h')/\(x.1=J->i<n)) ?_ ?_
 .refine bL (λg=>aK (λ_=>aj ⟨rfl,λ_=>g⟩) λ_=>aj ⟨rfl,λ_=>g⟩) λ_=>aj ⟨rfl,λh=>(by cases h)⟩
 rintro⟨b,x⟩ ⟨Z,U⟩;dsimp only at Z U;subst Z;refine aO (λhb=>?_) λ_=>aj ⟨by dsimp only;omega,e3,e1,z⟩
 have g:=U hb;refine aw (ht m' t' h' e1.p (by rw[z];exact hh)) λy hy=>?_
 obtain⟨s,m2,t2,h2⟩:=y;obtain⟨k1,k2,L⟩:=hy;dsimp only at k1 k2 L;refine bh (by simp) (bd (by simp;omega) (by omega) (aj ?_));dsimp only;rw[fG,zF,iz (n:=i+1) (by omega) (by omega)];refine ⟨⟨by omega,by omega,e1.trans k2,by simp;omega,λx a=>?_,L.trans z⟩,by omega⟩;rcases bP.1 a with a|a
 .exact e3 x a
 .rw[aJ]at a;subst a;exact k1
theorem ZQ (rs:RS) (rt:RT) (rb:RBk) (d:Nat) (hs:SpS nT rs d):SpB nT (mY rs rt rb) d:=by
 intro s m t h hp hh;unfold mY aY bi bO dG bC aX;refine bd (by simp;omega) (by omega) ?_;refine aw (gD 2 t hp) λy A=>?_
 obtain⟨k,t1⟩:=y;obtain⟨z,Z,a,_⟩:=A;have a:=a (by decide);dsimp only at z Z a;have ew:bm .i64 (1+k)=1+k:=iz (by omega) (by omega);dsimp only;rw[ew];refine aw (hs (1+k) m t1 (h.1,h.2++[s]) (by omega) z.p (by simp;omega)) λy A=>?_
 obtain⟨m2,t2,h2,l⟩:=y;obtain⟨k1,k2,U,L⟩:=A;dsimp only at k1 k2 U L;refine bh (by simp) ?_;dsimp only;rw[L];have el:bm .i64 ((aM (h.2++[s]).length)-1)=(h.2.length:Int):=by
  rw[bg,dc,iz (by simp<;>omega) (by simp<;>omega)];simp<;>omega
 rw[el];refine db (dI (by omega) (AO (by simp;omega) (aj ?_)));refine ⟨by dsimp only;omega,k2,z.trans U,?_⟩;show dR (aQ (h.2.length:Int)) (h.2++[s])=h.2;simp
theorem DI (s:ζ) (m:MK) (t:QZ) (h:HD) (hh:h.2.length<=100):Ok (eT (s,m,t,h)) λy=>y.2=(m,t,h):=by
 unfold eT dG;exact aw (zj h.2 s (by omega)) λy _=>aj rfl
theorem ae1 (rs:RS) (rt:RT) (rb:RBk) (d:Nat) (hd:d<=5) (h0:1<=d->SpS nT rs 0) (hS:1<=d->SpS nT rs (d-1)) (hB:1<=d->SpB nT rb (d-1)):SpT nT (oD rs rt rb) d:=by
 intro m t h hp hh;unfold oD aY bi bu bO dG cY be bx bC kO aD eE;refine aw (gD 18 t hp) λy A=>?_
 obtain⟨k,t1⟩:=y;obtain⟨s1,k0,k1,_⟩:=A;have k1:=k1 (by decide);dsimp only at s1 k0 k1;have hE:∀(j:Nat) (m':MK) (t':QZ) (h':HD),j<=1->TP t'->Ok (fy ((j:Int),m',t',h')) λy=>GE 4 y.1/\y.2.1=m'/\vI t' y.2.2.1/\y.2.2.2=h':=λj m' t' h' hj ht'=>(ad7 j (by omega) m' t' h' ht').mono λy A=>⟨A.1.le (by omega),A.2⟩
 have ed:bm .i64 ((d:Int)-1)=(d:Int)-1:=iz (by omega) (by omega);have ed1:1<=d->(d:Int)-1=((d-1:Nat):Int):=λ_=>by omega
 refine aV (λx=>x.2=((m.1,bm .i64 (m.2.1-1),m.2.2),t1,(0,0,[],[],0,0,[]),h)/\(x.1=J->1<=d)) ?_ ?_
 .refine bL (λg=>aT (bL (λ_=>aj ⟨rfl,λ_=>?_⟩) λ_=>aj ⟨rfl,λh=>(by cases h)⟩)) λ_=>aj ⟨rfl,λh=>(by cases h)⟩
  dsimp only at g;omega
 generalize ((m.1,bm .i64 (m.2.1-1),m.2.2):MK)=m0;rintro⟨nest,x⟩ ⟨e,hn⟩;dsimp only at e hn;subst e;refine bL (λ_=>?_) λg4=>?_
 .refine aP k0 (by dsimp only[ai];omega) (aP k0 (by dsimp only[ai];omega) (aT ?_));refine aw (hE 1 m0 t1 h (by omega) s1.p) λy A=>?_
  obtain⟨e,m2,t2,h2⟩:=y;obtain⟨v1,v2,v3,v4⟩:=A;dsimp only at v1 v2 v3 v4;subst v2;subst v4;refine bh (by simp) (aR (uE _ _) (aj ?_));dsimp only;rw[fG,zF];have hnv:∀z∈([[120],[121],[120],[118]]:Y ζ),z∈NV:=by decide
  exact⟨GS.asg (hnv _ (bN (T:=.str) k0 (by dsimp only[ai];omega))) v1,s1.trans v3,rfl⟩
 dsimp only at g4;refine aK (λ_=>?_) λg5=>?_
 .refine aw (gD 2 t1 s1.p) λy A=>?_
  obtain⟨u1,u2,u3,_⟩:=A;have u3:=u3 (by decide);refine aP u2 u3 (aP u2 u3 (aT ?_));refine aw (hE 1 m0 y.2 h (by omega) u1.p) λz U=>?_
  obtain⟨e,m2,t2,h2⟩:=z;obtain⟨v1,v2,v3,v4⟩:=U;dsimp only at v1 v2 v3 v4;subst v2;subst v4;refine bh (by simp) (aR (uE _ _) (aj ?_));dsimp only;rw[fG,zF];have hnv:∀z∈([[97],[98]]:Y ζ),z∈NV:=by decide
  exact⟨GS.asg (hnv _ (bN (T:=.str) u2 u3)) v1,s1.trans (u1.trans v3),rfl⟩
 dsimp only at g5;refine aK (λ_=>?_) λg6=>?_
 .refine aw (hE 0 m0 t1 h (by omega) s1.p) λz U=>?_
  obtain⟨e,m2,t2,h2⟩:=z;obtain⟨v1,v2,v3,v4⟩:=U;dsimp only at v1 v2 v3 v4;subst v2;subst v4;refine bh (by simp) ?_;refine aw (hE 1 m2 t2 h2 (by omega) v3.p) λz U=>?_
  obtain⟨e',m3,t3,h3⟩:=z;obtain⟨w1,w2,w3,w4⟩:=U;dsimp only at w1 w2 w3 w4;subst w2;subst w4;refine bh (by simp) (aj ?_);dsimp only;rw[fG,fG];exact⟨GS.aix v1 w1,s1.trans (v3.trans w3),rfl⟩
 dsimp only at g6;have U:∀(c:Prop),c->c:=λ_ h=>h
 have dd:1<=d->d-1+1=d:=λ_=>by omega
 have w8:8<=k->bm .i64 (k-8)=k-8:=λ_=>iz (by omega) (by omega)
 refine aV (λx=>x.2=(m0,t1,(0,0,[],[],0,0,[]),h)/\(x.1=J->1<=d)) ?_ ?_
 .refine aK (λ_=>aj ⟨rfl,λg=>?_⟩) λ_=>aj ⟨rfl,λh=>(by cases h)⟩
  dsimp only at g;rw[sO]at g;omega
 rintro⟨b,x⟩ ⟨e,hb⟩;dsimp only at e hb;subst e;refine aO (λa=>?_) λ_=>?_
 .have L:=hb a;refine aw (hE 1 m0 t1 h (by omega) s1.p) λz U=>?_
  obtain⟨e,m2,t2,h2⟩:=z;obtain⟨v1,v2,v3,v4⟩:=U;dsimp only at v1 v2 v3 v4;subst v2;subst v4;refine bh (by simp) ?_;dsimp only;rw[ed,ed1 L];refine aw (hS L 1 m2 t2 h2 (by omega) v3.p (by omega)) λz U=>?_
  obtain⟨m3,t3,h3,l⟩:=z;obtain⟨w1,w2,w3,w4⟩:=U;dsimp only at w1 w2 w3 w4;rw[dd L]at w2;refine bh (by simp) ?_;refine aV (λx=>x.2.2.2.1=(2,0,[],[],e.op,e.n,e.name,e.l)/\vI t1 x.2.1/\x.2.2.2.2.1.2=h2.2/\x.2.2.2.2.2.1=l/\x.2.2.2.2.2.2.length<=8/\∀s∈x.2.2.2.2.2.2,GS nT d s) ?_ ?_
  .refine aw (gD 2 t3 w3.p) λy A=>?_
   refine aK (λ_=>?_) λ_=>aj ⟨rfl,v3.trans (w3.trans A.1),w4,rfl,by simp,λs hs=>(by cases hs)⟩
   dsimp only;refine aw (hS L 1 m3 y.2 h3 (by omega) A.1.p (by rw[w4];omega)) λz U=>?_
   obtain⟨m4,t4,h4,l2⟩:=z;obtain⟨x1,x2,x3,x4⟩:=U;dsimp only at x1 x2 x3 x4;rw[dd L]at x2;exact bh (by simp) (aj ⟨rfl,v3.trans (w3.trans (A.1.trans x3)),x4.trans w4,rfl,by dsimp only;omega,x2⟩)
  rintro⟨m5,t5,z5,e5,h5,l5,l6⟩ ⟨x1,x2,x3,x4,x5,x6⟩;dsimp only at x1 x2 x3 x4 x5 x6;subst x1;subst x4;refine aj ?_;dsimp only;rw[fG];exact⟨GS.we v1 (by first|omega|(dsimp only;omega)) x5 w2 x6 (by constructor<;>simp[Sx.op,Sx.name,Sx.index,Sx.arg,Sx.els,Sx.body]),s1.trans x2,x3⟩
 refine aV (λx=>x.2=(m0,t1,(0,0,[],[],0,0,[]),h)/\(x.1=J->1<=d)) ?_ ?_
 .refine aK (λ_=>aj ⟨rfl,λg=>?_⟩) λ_=>aj ⟨rfl,λh=>(by cases h)⟩
  dsimp only at g;rw[sO]at g;omega
 rintro⟨b,x⟩ ⟨e,hb⟩;dsimp only at e hb;subst e;refine aO (λa=>?_) λ_=>?_
 .have L:=hb a;refine aR (ID _) (aR (Ps _) (aR (F9 _ _ _) ?_));dsimp only;rw[ed,ed1 L];refine aw (hS L 1 _ t1 h (by omega) s1.p (by omega)) λz U=>?_
  obtain⟨m3,t3,h3,l⟩:=z;obtain⟨w1,w2,w3,w4⟩:=U;dsimp only at w1 w2 w3 w4;rw[dd L]at w2;refine bh (by simp) ?_;refine aR (ID _) (aR (Ps _) (aR (F9 _ _ _) (aR (uE _ _) ?_)));refine bd (by simp;omega) (by omega) (aj ?_);dsimp only;rw[fG,fG,zF];refine ⟨GS.we (GE.bin (by omega) (GE.nm (by decide) 2) (GE.num _ 2)) (by simp;omega) (by simp) (λx Z=>?_) (λx Z=>(by cases Z)) (by constructor<;>simp[Sx.op,Sx.name,Sx.index,Sx.arg,Sx.els,Sx.body]),s1.trans w3,w4⟩;rcases bP.1 Z with Z|Z
  .exact w2 x Z
  .rw[aJ]at Z;subst Z;rw[<- dd L];exact GS.asg (by decide) (GE.bin (by omega) (GE.nm (by decide) 2) (GE.num _ 2))
 refine aV (λx=>x.2=(m0,t1,(0,0,[],[],0,0,[]),h)/\(x.1=J->nest=J/\(k=8\/k=9))) ?_ ?_
 .refine aK (λg=>aO (λgn=>?_) λ_=>aj ⟨rfl,λh=>(by cases h)⟩) λ_=>aK (λg=>aO (λgn=>?_) λ_=>aj ⟨rfl,λh=>(by cases h)⟩) λ_=>aj ⟨rfl,λh=>(by cases h)⟩
  all_goals
   dsimp only at g ⊢;rw[w8 (by omega)];refine aP (by omega) (by simp;omega) (aP (by omega) (by simp;omega) (aT ?_));refine aw (DI _ m0 t1 h (by omega)) λy A=>?_
   obtain⟨yb,y2⟩:=y;dsimp only at A;subst A;exact bh (by simp) (aj ⟨rfl,λ_=>⟨gn,by omega⟩⟩)
 rintro⟨b,x⟩ ⟨e,hb⟩;dsimp only at e hb;subst e;refine aO (λa=>?_) λ_=>?_
 .obtain⟨q1,q2⟩:=hb a;have L:=hn q1;have hnm:aI (T:=.str) [[109],[110]] (k-8)=[109]\/aI (T:=.str) [[109],[110]] (k-8)=[110]:=by rcases q2 with rfl|rfl<;>simp[aI]
  dsimp only;rw[w8 (by omega),ed,ed1 L];refine aP (by omega) (by simp;omega) (aP (by omega) (by simp;omega) (aT ?_));refine aw (hB L _ m0 t1 h s1.p (by omega)) λz U=>?_
  obtain⟨l,m3,t3,h3⟩:=z;obtain⟨w1,w2,w3,w4⟩:=U;dsimp only at w1 w2 w3 w4;rw[dd L]at w2;exact bh (by simp) (aj ⟨GS.wo (by omega) (by first|omega|(dsimp only;omega)) w2 (by constructor<;>simp[Sx.op,Sx.name,Sx.index,Sx.arg,Sx.els,Sx.body];exact hnm),s1.trans w3,w4⟩)
 refine aV (λx=>x.2=(m0,t1,(0,0,[],[],0,0,[]),h)/\(x.1=J->nest=J/\(k=10\/k=11))) ?_ ?_
 .refine aK (λg=>aO (λgn=>?_) λ_=>aj ⟨rfl,λh=>(by cases h)⟩) λ_=>aK (λg=>aO (λgn=>?_) λ_=>aj ⟨rfl,λh=>(by cases h)⟩) λ_=>aj ⟨rfl,λh=>(by cases h)⟩
  all_goals
   dsimp only at g ⊢;refine aw (DI _ m0 t1 h (by omega)) λy A=>?_
   obtain⟨yb,y2⟩:=y;dsimp only at A;subst A;exact bh (by simp) (aj ⟨rfl,λ_=>⟨gn,by omega⟩⟩)
 rintro⟨b,x⟩ ⟨e,hb⟩;dsimp only at e hb;subst e;refine aO (λa=>?_) λ_=>?_
 .obtain⟨q1,q2⟩:=hb a;have L:=hn q1;dsimp only;rw[ed,ed1 L,iz (n:=k-10) (by omega) (by omega),iz (n:=k-10+5) (by omega) (by omega)];refine aw (hB L _ m0 t1 h s1.p (by omega)) λz U=>?_
  obtain⟨l,m3,t3,h3⟩:=z;obtain⟨w1,w2,w3,w4⟩:=U;dsimp only at w1 w2 w3 w4;rw[dd L]at w2;exact bh (by simp) (aj ⟨GS.wo (by omega) (by first|omega|(dsimp only;omega)) w2 (by constructor<;>simp[Sx.op,Sx.name,Sx.index,Sx.arg,Sx.els,Sx.body]<;>omega),s1.trans w3,w4⟩)
 refine aV (λx=>x.2=(m0,t1,(0,0,[],[],0,0,[]),h)/\(x.1=J->nest=J)) ?_ ?_
 .exact aK (λ_=>aj ⟨rfl,λg=>g⟩) λ_=>aj ⟨rfl,λh=>(by cases h)⟩
 rintro⟨b,x⟩ ⟨e,hb⟩;dsimp only at e hb;subst e;refine aO (λa=>?_) λ_=>?_
 .have L:=hn (hb a);refine aw (gD 2 t1 s1.p) λy A=>?_
  obtain⟨u1,u2,u3,_⟩:=A;have u3:=u3 (by decide);dsimp only;rw[iz (n:=1+y.1) (by omega) (by omega)];refine aw (h0 L (1+y.1) _ y.2 h (by omega) u1.p (by omega)) λz U=>?_
  obtain⟨m3,t3,h3,l⟩:=z;obtain⟨w1,w2,w3,w4⟩:=U;dsimp only at w1 w2 w3 w4;exact bh (by simp) (aj ⟨GS.wo (by omega) (by first|omega|(dsimp only;omega)) (λx Z=>(w2 x Z).le (by omega)) (by constructor<;>simp[Sx.op,Sx.name,Sx.index,Sx.arg,Sx.els,Sx.body]),s1.trans (u1.trans w3),w4⟩)
 refine aV (λx=>x.2=(m0,t1,(0,0,[],[],0,0,[]),h)/\(x.1=J->nest=J)) ?_ ?_
 .exact aK (λ_=>aO (λgn=>aj ⟨rfl,λ_=>gn⟩) λ_=>aj ⟨rfl,λh=>(by cases h)⟩) λ_=>aj ⟨rfl,λh=>(by cases h)⟩
 rintro⟨b,x⟩ ⟨e,hb⟩;dsimp only at e hb;subst e;refine aO (λa=>?_) λ_=>?_
 .have L:=hn (hb a);dsimp only;rw[ed,ed1 L];refine aw (hS L 2 _ t1 h (by omega) s1.p (by omega)) λz U=>?_
  obtain⟨m3,t3,h3,l⟩:=z;obtain⟨w1,w2,w3,w4⟩:=U;dsimp only at w1 w2 w3 w4;rw[dd L]at w2;exact bh (by simp) (aj ⟨GS.wo (by omega) (by first|omega|(dsimp only;omega)) w2 (by constructor<;>simp[Sx.op,Sx.name,Sx.index,Sx.arg,Sx.els,Sx.body]),s1.trans w3,w4⟩)
 refine aV (λx=>x.2=(m0,t1,(0,0,[],[],0,0,[]),h)/\(x.1=J->nest=J)) ?_ ?_
 .refine aK (λ_=>aO (λgn=>aO (λ_=>?_) λ_=>aj ⟨rfl,λh=>(by cases h)⟩) λ_=>aj ⟨rfl,λh=>(by cases h)⟩) λ_=>aj ⟨rfl,λh=>(by cases h)⟩
  refine aw (DI _ m0 t1 h (by omega)) λy A=>?_
  obtain⟨yb,y2⟩:=y;dsimp only at A;subst A;exact bh (by simp) (aj ⟨rfl,λ_=>gn⟩)
 rintro⟨b,x⟩ ⟨e,hb⟩;dsimp only at e hb;subst e;refine aO (λa=>?_) λ_=>?_
 .have L:=hn (hb a);refine aR (ID _) (aR (uE _ _) (aj ?_));dsimp only;rw[fG,zF];refine ⟨GS.wo (by omega) (by simp) (λx Z=>?_) (by constructor<;>simp[Sx.op,Sx.name,Sx.index,Sx.arg,Sx.els,Sx.body]),s1,rfl⟩;simp only[bl,cG,gq]at Z;rw[<- dd L];rcases Z with rfl|rfl
  .exact GS.wo (by omega) (by simp) (λx Z=>(by cases Z)) (by constructor<;>simp[Sx.op,Sx.name,Sx.index,Sx.arg,Sx.els,Sx.body])
  .exact GS.asg (by decide) (GE.nm (by decide) 3)
 refine aV (λx=>x.2=(m0,t1,(0,0,[],[],0,0,[]),h)/\(x.1=J->nest=J)) ?_ ?_
 .refine aK (λ_=>aO (λgn=>?_) λ_=>aj ⟨rfl,λh=>(by cases h)⟩) λ_=>aj ⟨rfl,λh=>(by cases h)⟩
  refine aw (DI _ m0 t1 h (by omega)) λy A=>?_
  obtain⟨yb,y2⟩:=y;dsimp only at A;subst A;exact bh (by simp) (aj ⟨rfl,λ_=>gn⟩)
 rintro⟨b,x⟩ ⟨e,hb⟩;dsimp only at e hb;subst e;refine aO (λa=>?_) λ_=>?_
 .have L:=hn (hb a);refine aw (gD 2 t1 s1.p) λy A=>aj ?_
  obtain⟨u1,u2,u3,_⟩:=A;have u3:=u3 (by decide);dsimp only;rw[iz (n:=10+y.1) (by omega) (by omega)];refine ⟨GS.wo (by omega) (by simp) (λx Z=>?_) (by constructor<;>simp[Sx.op,Sx.name,Sx.index,Sx.arg,Sx.els,Sx.body]),s1.trans u1,rfl⟩;simp only[bl,cG,gq]at Z;rw[Z,<-dd L];exact GS.wo (by omega) (by simp) (λx Z=>(by cases Z)) (by constructor<;>simp[Sx.op,Sx.name,Sx.index,Sx.arg,Sx.els,Sx.body]<;>omega)
 refine aV (λx=>x.2=(m0,t1,(0,0,[],[],0,0,[]),h)) ?_ ?_
 .exact aK (λ_=>aO (λ_=>aO (λ_=>aj rfl) λ_=>aj rfl) λ_=>aj rfl) λ_=>aj rfl
 rintro⟨b,x⟩ e;dsimp only at e;subst e;refine aO (λa=>?_) λ_=>?_
 .refine aw (hE 1 _ t1 h (by omega) s1.p) λz U=>?_
  obtain⟨e,m2,t2,h2⟩:=z;obtain⟨v1,v2,v3,v4⟩:=U;dsimp only at v1 v2 v3 v4;subst v2;subst v4;refine bh (by simp) (aj ?_);dsimp only;rw[fG];exact⟨GS.we v1 (by simp) (by simp) (λx Z=>(by cases Z)) (λx Z=>(by cases Z)) (by constructor<;>simp[Sx.op,Sx.name,Sx.index,Sx.arg,Sx.els,Sx.body]),s1.trans v3,rfl⟩
 refine aV (λx=>x.2.1=m0/\vI t1 x.2.2.1/\x.2.2.2.2=h) ?_ ?_
 .refine aK (λ_=>aO (λ_=>?_) λ_=>aj ⟨rfl,vI.refl s1.p,rfl⟩) λ_=>aj ⟨rfl,vI.refl s1.p,rfl⟩
  exact aw (gD 2 t1 s1.p) λy A=>aj ⟨rfl,A.1,rfl⟩
 rintro⟨b,m9,t9,z9,h9⟩ ⟨e1,e2,e3⟩;dsimp only at e1 e2 e3;subst e1;subst e3;refine aO (λa=>?_) λ_=>?_
 .exact aj ⟨GS.wo (by omega) (by simp) (λx Z=>(by cases Z)) (by constructor<;>simp[Sx.op,Sx.name,Sx.index,Sx.arg,Sx.els,Sx.body]),s1.trans e2,rfl⟩
 refine aw (hE 1 _ t9 h9 (by omega) e2.p) λz U=>?_
 obtain⟨e,m2,t2,h2⟩:=z;obtain⟨v1,v2,v3,v4⟩:=U;dsimp only at v1 v2 v3 v4;subst v2;subst v4;refine bh (by simp) (aR (uE _ _) (aj ?_));dsimp only;rw[fG,zF];exact⟨GS.asg (by decide) v1,s1.trans (e2.trans v3),rfl⟩
theorem N9:∀(n:Nat),(∀d:Nat,d<=5->3*d+1<=n->SpT nT (eP n) d)/\(∀d:Nat,d<=5->3*d+2<=n->SpS nT (dQ n) d)/\(∀d:Nat,d<=5->3*d+3<=n->SpB nT (ey n) d)
 |0=>⟨λd _ h=>by omega,λd _ h=>by omega,λd _ h=>by omega⟩
 |n+1=>by
  obtain⟨s,a,z⟩:=N9 n;refine ⟨λd h1 h2=>?_,λd h1 h2=>?_,λd h1 h2=>?_⟩
  .exact ae1 (dQ n) (eP n) (ey n) d h1 (λh=>a 0 (by omega) (by omega)) (λh=>a (d-1) (by omega) (by omega)) (λh=>z (d-1) (by omega) (by omega))
  .exact ZN (dQ n) (eP n) (ey n) d (s d h1 (by omega))
  .exact ZQ (dQ n) (eP n) (ey n) d (a d h1 (by omega))
theorem Zm (d:Nat) (hd:d<=5):SpS nT qY d:=(N9 fuel).2.1 d hd (by rw[kf];omega)
def GX:Nat->Xp->Prop
 |0,_=>False
 |d+1,e=>e.l.length<=2/\∀x∈e.l,GX d x
theorem GE.x:∀{d:Nat} {e:Xp},GE d e->GX d e
 |0,_,h=>h.elim
 |_+1,_,h=>⟨h.2.2.1,λx a=>(h.2.2.2.1 x a).x⟩
theorem ZE.x {e:Xp} (h:ZE e):GX 4 e:=by
 rcases h with h|rfl
 .exact h.x
 .exact⟨by simp[Xp.l],λx a=>(by cases a)⟩
def GT:Nat->Sx->Prop
 |0,_=>False
 |d+1,s=>s.index.length<=1/\(∀e∈s.index,GX 4 e)/\GX 4 s.expr/\s.body.length<=8/\s.els.length<=8/\(∀x∈s.body,GT d x)/\(∀x∈s.els,GT d x)
theorem GS.t {nT:Nat}:∀{d:Nat} {s:Sx},GS nT d s->GT d s
 |0,_,h=>h.elim
 |_+1,_,⟨_,b,c,_,f,g,i,j,k,_⟩=>⟨b,λe he=>(c e he).x,f.x,g,i,λx a=>(j x a).t,λx a=>(k x a).t⟩
theorem yL (s:Sx):oy (Sx.op s,Sx.line s,Sx.name s,Sx.arg s,Sx.index s,eD (Xp.op (Sx.expr s),Xp.n (Sx.expr s),Xp.name (Sx.expr s),Xp.l (Sx.expr s)),Sx.body s,Sx.els s)=s:=by
 rw[fG,zF]
theorem UC (k:Int):Ok (mL k) λ_=>True:=by
 unfold mL be iR aD;with_reducible repeat' first|(refine OS.ok ?_;constructor)|refine IM.mk λ_=>?_
 all_goals trivial
theorem rA (e:Xp):Ok (pW e) λ_=>True:=by
 unfold pW be aD;with_reducible repeat' first|(refine OS.ok ?_;constructor)|refine IM.mk λ_=>?_
 all_goals trivial
theorem Ah:∀(n d:Nat) (e:Xp),d<n->GX d e->Ok (io n e) λ_=>True
 |0,_,_,h,_=>by omega
 |n+1,0,_,_,h=>h.elim
 |n+1,d+1,e,hn,h=>by
  obtain⟨h1,h2⟩:=h;rw[tj];unfold mC be bx jw bD cR aD cL;refine aV (λx=>x.2=e) (aK (λ_=>aj (fG e)) λ_=>aj (fG e)) ?_;rintro⟨b,x⟩ A;dsimp only at A;subst A;refine aV (λy=>y.2=x) ?_ ?_
  .refine aw (UC _) λ_ _=>?_
   with_reducible repeat' first|refine cq (λ_=>?_) λ_=>?_|refine bL (λ_=>?_) λ_=>?_|refine dS (λ_=>?_) λ_=>?_|refine aO (λ_=>?_) λ_=>?_|exact aj (fG x)|refine aw (iH _) λ_ _=>?_
  rintro⟨L,y⟩ s;dsimp only at s;subst s;refine aO (λ_=>aj trivial) λ_=>?_
  refine b7 y.l.length (λi x=>x.1=(i:Int)/\x.2=y) ?_ ?_ ⟨rfl,fG y⟩
  .rintro i ⟨a,z⟩ hi ⟨e1,e2⟩;dsimp only at e1 e2;subst e1;subst e2;refine du ?_;refine cg (aT ?_);refine aw (Ah n d _ (by omega) (h2 _ (bN (T:=.ex) (xs:=z.l) (j:=(i:Int)) (by omega) (by omega)))) λ_ _=>?_
   refine dS (λ_=>aj trivial) λ_=>aj ?_
   dsimp only;exact⟨gH (by omega),fG z⟩
  .rintro⟨a,z⟩ ⟨e1,e2⟩;dsimp only at e1 e2;subst e1;subst e2;exact dv (aj trivial)
theorem gB (e:Xp) (h:GX 4 e):Ok (jq e) λ_=>True:=Ah fuel 4 e (by rw[kf];omega) h
theorem Md (d:Int×Int×ζ×Int×Int×ζ):Ok (kr d) λ_=>True:=by
 unfold kr aY bi cF fH be bx jw aD;refine aV (λ_=>True) ?_ λx _=>aO (λ_=>aj trivial) λ_=>?_
 .with_reducible repeat' first|refine cq (λ_=>?_) λ_=>?_|refine bL (λ_=>?_) λ_=>?_|refine dS (λ_=>?_) λ_=>?_|exact aj trivial|refine aw (iH _) λ_ _=>?_
 refine aV (λ_=>True) ?_ λx _=>aO (λ_=>aj trivial) λ_=>?_
 .with_reducible repeat' first|refine cq (λ_=>?_) λ_=>?_|refine aK (λ_=>?_) λ_=>?_|refine dS (λ_=>?_) λ_=>?_|exact aj trivial|refine aw (iH _) λ_ _=>?_
 with_reducible repeat' first|(refine OS.ok ?_;constructor)|refine IM.mk λ_=>?_
 all_goals trivial
theorem H4 (a:Sx->I Bool) (rs:Y Sx->I Bool) (l:Y Sx) (hl:l.length<=1000) (h:∀s∈l,Ok (a s) λ_=>True):Ok (jK a rs l) λ_=>True:=by
 unfold jK bx wQ aX cR aD cL;refine b7 l.length (λi x=>x=(i:Int)) ?_ ?_ rfl
 .rintro i x hi rfl;refine du ?_;refine cg ?_;refine aw (h _ (bN (T:=.sm) (xs:=l) (j:=(i:Int)) (by omega) (by omega))) λ_ _=>?_
  exact dS (λ_=>aj trivial) λ_=>aj (gH (by omega))
 .rintro x rfl;exact dv (aj trivial)
theorem Kg (z:Sx->I Bool) (rs:Y Sx->I Bool) (s:Sx) (h1:∀e∈s.index,GX 4 e) (h2:GX 4 s.expr) (hb:Ok (rs s.body) λ_=>True) (he:Ok (rs s.els) λ_=>True):Ok (kw z rs s) λ_=>True:=by
 unfold kw be bx iR jw bD aD eE;refine aV (λx=>x.2=s) ?_ ?_
 .with_reducible repeat' first|refine cq (λ_=>?_) λ_=>?_|refine aK (λ_=>?_) λ_=>?_|refine bL (λ_=>?_) λ_=>?_|refine eO (λ_=>?_) λ_=>?_|refine dS (λ_=>?_) λ_=>?_|refine aO (λ_=>?_) λ_=>?_|exact aj (yL _)|refine aw (iH _) λ_ _=>?_|refine aw (rA _) λ_ _=>?_|refine aw (gB _ h2x) λ_ _=>?_
 rintro⟨b,x⟩ a;dsimp only at a;have a:=a.symm;subst a;refine aO (λ_=>aj trivial) λ_=>?_
 refine aV (λx=>x.2=s) ?_ ?_
 .with_reducible repeat' first|refine cq (λ_=>?_) λ_=>?_|refine aK (λ_=>?_) λ_=>?_|refine bL (λ_=>?_) λ_=>?_|refine eO (λ_=>?_) λ_=>?_|refine dS (λ_=>?_) λ_=>?_|refine aO (λ_=>?_) λ_=>?_|exact aj (yL _)|refine aw (iH _) λ_ _=>?_|refine aw (rA _) λ_ _=>?_|refine aw (gB _ h2x) λ_ _=>?_
 rintro⟨b,x⟩ a;dsimp only at a;have a:=a.symm;subst a;refine aV (λx=>x.2=s) ?_ ?_
 .with_reducible repeat' first|refine cq (λ_=>?_) λ_=>?_|refine aK (λ_=>?_) λ_=>?_|refine bL (λ_=>?_) λ_=>?_|refine eO (λ_=>?_) λ_=>?_|refine dS (λ_=>?_) λ_=>?_|refine aO (λ_=>?_) λ_=>?_|exact aj (yL _)|refine aw (iH _) λ_ _=>?_|refine aw (rA _) λ_ _=>?_|refine aw (gB _ h2x) λ_ _=>?_
 rintro⟨b,x⟩ a;dsimp only at a;have a:=a.symm;subst a;refine aO (λ_=>aj trivial) λ_=>?_
 refine aV (λx=>x.2=s) ?_ ?_
 .with_reducible repeat' first|refine cq (λ_=>?_) λ_=>?_|refine aK (λ_=>?_) λ_=>?_|refine bL (λ_=>?_) λ_=>?_|refine eO (λ_=>?_) λ_=>?_|refine dS (λ_=>?_) λ_=>?_|refine aO (λ_=>?_) λ_=>?_|exact aj (yL _)|refine aw (iH _) λ_ _=>?_|refine aw (rA _) λ_ _=>?_|refine aw (gB _ h2x) λ_ _=>?_
 rintro⟨b,x⟩ a;dsimp only at a;have a:=a.symm;subst a;refine aO (λ_=>aj trivial) λ_=>?_
 refine aV (λx=>x.2=s) ?_ ?_
 .with_reducible repeat' first|refine cq (λ_=>?_) λ_=>?_|refine aK (λ_=>?_) λ_=>?_|refine bL (λ_=>?_) λ_=>?_|refine eO (λ_=>?_) λ_=>?_|refine dS (λ_=>?_) λ_=>?_|refine aO (λ_=>?_) λ_=>?_|exact aj (yL _)|refine aw (iH _) λ_ _=>?_|refine aw (rA _) λ_ _=>?_|refine aw (gB _ h2x) λ_ _=>?_
  all_goals
   rename_i g;dsimp only[ak]at g;refine cg (aT ?_);refine aw (gB _ (h1 _ (bN (T:=.ex) (xs:=Sx.index _) (j:=0) (by omega) (by omega)))) λ_ _=>aj (yL _)
 rintro⟨b,x⟩ a;dsimp only at a;have a:=a.symm;subst a;refine aO (λ_=>aj trivial) λ_=>?_
 refine aV (λx=>x.2=s) ?_ ?_
 .with_reducible repeat' first|refine cq (λ_=>?_) λ_=>?_|refine aK (λ_=>?_) λ_=>?_|refine bL (λ_=>?_) λ_=>?_|refine eO (λ_=>?_) λ_=>?_|refine dS (λ_=>?_) λ_=>?_|refine aO (λ_=>?_) λ_=>?_|exact aj (yL _)|refine aw (iH _) λ_ _=>?_|refine aw (rA _) λ_ _=>?_|refine aw (gB _ h2x) λ_ _=>?_
 rintro⟨b,x⟩ a;dsimp only at a;have a:=a.symm;subst a;refine aV (λx=>x.2=s) ?_ ?_
 .have h2x:GX 4 (eD (Xp.op (Sx.expr s),Xp.n (Sx.expr s),Xp.name (Sx.expr s),Xp.l (Sx.expr s))):=by rw[fG];exact h2
  with_reducible repeat' first|refine cq (λ_=>?_) λ_=>?_|refine aK (λ_=>?_) λ_=>?_|refine bL (λ_=>?_) λ_=>?_|refine eO (λ_=>?_) λ_=>?_|refine dS (λ_=>?_) λ_=>?_|refine aO (λ_=>?_) λ_=>?_|exact aj (yL _)|refine aw (iH _) λ_ _=>?_|refine aw (rA _) λ_ _=>?_|refine aw (gB _ h2x) λ_ _=>?_
 rintro⟨b,x⟩ a;dsimp only at a;have a:=a.symm;subst a;refine aO (λ_=>aj trivial) λ_=>?_
 refine aV (λx=>x.2=s) ?_ ?_
 .with_reducible repeat' first|refine cq (λ_=>?_) λ_=>?_|refine aK (λ_=>?_) λ_=>?_|refine bL (λ_=>?_) λ_=>?_|refine eO (λ_=>?_) λ_=>?_|refine dS (λ_=>?_) λ_=>?_|refine aO (λ_=>?_) λ_=>?_|exact aj (yL _)|refine aw (iH _) λ_ _=>?_|refine aw (rA _) λ_ _=>?_|refine aw (gB _ h2x) λ_ _=>?_
 rintro⟨b,x⟩ a;dsimp only at a;have a:=a.symm;subst a;refine aV (λx=>x.2=s) ?_ ?_
 .with_reducible repeat' first|refine cq (λ_=>?_) λ_=>?_|refine aK (λ_=>?_) λ_=>?_|refine bL (λ_=>?_) λ_=>?_|refine eO (λ_=>?_) λ_=>?_|refine dS (λ_=>?_) λ_=>?_|refine aO (λ_=>?_) λ_=>?_|exact aj (yL _)|refine aw (iH _) λ_ _=>?_|refine aw (rA _) λ_ _=>?_|refine aw (gB _ h2x) λ_ _=>?_
 rintro⟨b,x⟩ a;dsimp only at a;have a:=a.symm;subst a;refine aO (λ_=>aj trivial) λ_=>?_
 refine aV (λ_=>True) ?_ λ_ _=>aj trivial
 refine aw hb λ_ _=>aO (λ_=>aw he λ_ _=>aj trivial) λ_=>aj trivial
theorem Km:∀(n:Nat),(∀(d:Nat) (s:Sx),2*d<n->GT d s->Ok (eL n s) λ_=>True)/\(∀(d:Nat) (l:Y Sx),2*d+1<n->l.length<=1000->(∀s∈l,GT d s)->Ok (dO n l) λ_=>True)
 |0=>⟨λd _ h=>by omega,λd _ h=>by omega⟩
 |n+1=>by
  obtain⟨z,a⟩:=Km n;refine ⟨λd s hd h=>?_,λd l hd hl h=>?_⟩
  .cases d with
   |zero=>exact h.elim
   |succ d=>
    obtain⟨_,Z,U,g4,g5,L,A⟩:=h;exact Kg (eL n) (dO n) s Z U (a d _ (by omega) (by omega) L) (a d _ (by omega) (by omega) A)
  .exact H4 (eL n) (dO n) l hl λs hs=>z d s (by omega) (h s hs)
theorem LP (d:Nat) (hd:d<=100) (l:Y Sx) (hl:l.length<=1000) (h:∀s∈l,GT d s):Ok (ov l) λ_=>True:=(Km fuel).2 d l (by rw[kf];omega) hl h
abbrev DT:Type:=Int×Int×ζ×Int×Int×ζ
abbrev HT:Type:=ζ×Int×Y ζ×Y Sx
abbrev PG:Type:=Y DT×Y HT
structure PX (p:PG):Prop where
 d:p.1.length<=100
 t:p.2.length<=8
 l:∀t∈p.2,t.2.2.1.length<=100
 b:∀t∈p.2,t.2.2.2.length<=100
 s:∀t∈p.2,∀s∈t.2.2.2,GT 5 s
theorem aav (p:PG) (h:PX p):Ok (qu p) λ_=>True:=by
 obtain⟨hd,ht,hl,hb,hs⟩:=h;unfold qu aY bu cY bx bD aX cR aD cL;refine b7 p.1.length (λi x=>x.1=(i:Int)/\x.2=p) ?_ ?_ ⟨rfl,rfl⟩
 .rintro i ⟨a,x⟩ hi ⟨e1,e2⟩;dsimp only at e1 e2;subst e1;subst e2;refine du ?_;refine cg (aT ?_);refine aw (Md _) λ_ _=>?_
  exact dS (λ_=>aj trivial) λ_=>aj ⟨gH (by omega),rfl⟩
 rintro⟨a,x⟩ ⟨e1,e2⟩;dsimp only at e1 e2;subst e1;subst e2;refine dv ?_;refine aw (P:=λ_=>True) ?_ λ_ _=>aj trivial
 refine b7 x.2.length (λi y=>y.1=(i:Int)/\y.2=x) ?_ ?_ ⟨rfl,rfl⟩
 .rintro i ⟨a,x⟩ hi ⟨e1,e2⟩;dsimp only at e1 e2;subst e1;have e2:=e2.symm;subst e2;refine du ?_;refine cg (aT ?_);have hm:=bN (T:=zC) (xs:=x.2) (j:=(i:Int)) (by omega) (by omega);have h1:=hl _ hm;have h2:=hb _ hm;have L:=hs _ hm;revert h1 h2 L;generalize (aI (T:=zC) x.2 (i:Int))=t;intro h1 h2 L;refine b7 t.2.2.1.length (λk y=>y.1=(k:Int)/\y.2=(x,t)) ?_ ?_ ⟨rfl,rfl⟩
  .rintro k ⟨a,z⟩ hk ⟨A,s⟩;dsimp only at A s;subst A;subst s;refine du ?_;refine cg (aT ?_);refine aw (iH _) λ_ _=>?_
   exact dS (λ_=>aj trivial) λ_=>aj ⟨gH (by omega),rfl⟩
  .rintro⟨a,z⟩ ⟨A,s⟩;dsimp only at A s;subst A;subst s;refine dv ?_;refine aw (P:=λr=>match r with|.inl y=>y.1=((i+1:Nat):Int)/\y.2=x|.inr _=>True) ?_ ?_
   .refine aV (λy=>y.2=x) ?_ ?_
    .refine aw (iH _) λ_ _=>dS (λ_=>aj rfl) λ_=>?_
     exact aw (LP 5 (by omega) _ (by dsimp only;omega) L) λ_ _=>aj rfl
    rintro⟨b,y⟩ e;dsimp only at e;subst e;exact aO (λ_=>aj trivial) λ_=>aj ⟨gH (by omega),rfl⟩
   .rintro (y|y) U
    .exact aj U
    .exact aj trivial
 .rintro⟨a,y⟩ ⟨e1,e2⟩;dsimp only at e1 e2;subst e1;subst e2;exact dv (aj trivial)
theorem xK (l:Y DT) (s:ζ) (hl:l.length<=1000):Ok (im (l,s)) λr=> -1<=r/\r<(l.length:Int):=by
 unfold im bx bD aX cR aD cL;refine b7 l.length (λi x=>x=(i:Int)) ?_ ?_ rfl
 .rintro i x hi rfl;refine du ?_;refine cg (aT ?_);exact aK (λ_=>aj ⟨by omega,by omega⟩) λ_=>aj (gH (by omega))
 .rintro x rfl;exact dv (aj ⟨by omega,by omega⟩)
theorem tB (l:Y HT) (s:ζ) (hl:l.length<=1000):Ok (hX (l,s)) λr=> -1<=r/\r<(l.length:Int):=by
 unfold hX bx bD aX cR aD cL;refine b7 l.length (λi x=>x=(i:Int)) ?_ ?_ rfl
 .rintro i x hi rfl;refine du ?_;refine cg (aT ?_);exact aK (λ_=>aj ⟨by omega,by omega⟩) λ_=>aj (gH (by omega))
 .rintro x rfl;exact dv (aj ⟨by omega,by omega⟩)
def DD (p:PG) (s:ζ):Prop:=∃v,im (p.1,s)=M v/\0<=v/\v<(p.1.length:Int)
theorem ab8 (p:PG) (h:PX p) (t:Int) (s:ζ):Ok (qr (p,t,s)) λk=>k≠0->k≠7->k≠8->DD p s:=by
 have hd:=h.d;have ht:=h.t;unfold qr be bx iR jw wQ bD aX aD;refine aV (λx=>x.2=p) ?_ ?_
 .refine eO (λL=>bL (λA=>?_) λ_=>aj rfl) λ_=>aj rfl
  dsimp only[ak]at L A;refine aP L A (aT ?_);have hm:=h.l _ (bN (T:=zC) (xs:=p.2) (j:=t) L A);exact aw (zj _ s (dz hm (by omega))) λ_ _=>aj rfl
 rintro⟨b,x⟩ e;dsimp only at e;have e:=e.symm;subst e;refine aO (λ_=>aj λ_ _ h=>(h rfl).elim) λ_=>?_
 obtain⟨v,hv,v0,z⟩:=xK p.1 s (by omega);refine aR hv ?_;refine bL (λ_=>?_) λg=>?_
 .exact aw (tB p.2 s (by omega)) λ_ _=>eO (λ_=>aj λ_ h=>(h rfl).elim) λ_=>aj λh=>(h rfl).elim
 have a:DD p s:=⟨v,hv,g,z⟩
 refine aP g z (aT ?_);refine aK (λ_=>?_) λ_=>?_
 .exact aP g z (aT (cq (λ_=>aj λ_ _ _=>a) λ_=>aj λ_ _ _=>a))
 refine aK (λ_=>aj λ_ _ _=>a) λ_=>?_
 refine aV (λx=>x.2=p) (aK (λ_=>aj rfl) λ_=>aK (λ_=>aj rfl) λ_=>aK (λ_=>aj rfl) λ_=>aj rfl) ?_;rintro⟨b,x⟩ e;dsimp only at e;have e:=e.symm;subst e;exact aO (λ_=>aP g z (aT (aj λ_ _ _=>a))) λ_=>aj λ_ _ _=>a
theorem px (p:PG) (h:PX p) (t:Int) (s:ζ) (a b:Int):Ok (gP (p,t,s,a,b)) λr=>r=0->(a≠7/\a≠8)->(b≠7/\b≠8)->DD p s:=by
 unfold gP aY bi dG be jw aD;refine aw (ab8 p h t s) λk hk=>?_
 refine aK (λ_=>aj λh=>(by cases h)) λg=>?_
 refine aV (λx=>x=af->k=a\/k=b) ?_ ?_
 .refine cq (λ_=>aj λh=>?_) λh=>aj λ_=>.inl h
  simp at h;exact .inr h
 rintro x z;refine aO (λ_=>aj λh=>(by cases h)) λh=>aj λ_ h1 h2=>hk g ?_ ?_
 .rcases z h with h|h<;>omega
 .rcases z h with h|h<;>omega
theorem N_:∀(n d:Nat) (e:Xp),d<n->GX d e->Ok (nZ n e) λ_=>True
 |0,_,_,h,_=>by omega
 |n+1,0,_,_,h=>h.elim
 |n+1,d+1,e,hn,h=>by
  obtain⟨h1,h2⟩:=h;rw[yS];unfold vj bx bD cR aD cL;refine b7 e.l.length (λi x=>x.1.2.2=(i:Int)/\x.2=e) ?_ ?_ ⟨rfl,fG e⟩
  .rintro i ⟨⟨a,b,c⟩,z⟩ hi ⟨e1,e2⟩;dsimp only at e1 e2;subst e1;subst e2;refine du ?_;refine cg (aT ?_);refine aw (N_ n d _ (by omega) (h2 _ (bN (T:=.ex) (xs:=z.l) (j:=(i:Int)) (by omega) (by omega)))) λ_ _=>aj ?_
   exact⟨gH (by omega),fG z⟩
  .rintro⟨⟨a,b,c⟩,z⟩ ⟨e1,e2⟩;dsimp only at e1 e2;subst e1;subst e2;exact dv (aj trivial)
theorem GU (p:PG) (hp:PX p) (t:Int):∀(n d:Nat) (e:Xp),d<n->GX d e->Ok (nY n (p,t,e)) λ_=>True
 |0,_,_,h,_=>by omega
 |n+1,0,_,_,h=>h.elim
 |n+1,d+1,e,hn,h=>by
  obtain⟨h1,h2⟩:=h;rw[yR];unfold vi be bx bD cR aD cL;refine aV (λx=>x.2.1=p/\x.2.2=e) ?_ ?_
  .refine aK (λ_=>aw (px p hp t _ _ _) λ_ _=>aj ⟨rfl,fG e⟩) λ_=>aK (λ_=>aw (px p hp t _ _ _) λ_ _=>aj ⟨rfl,fG e⟩) λ_=>aj ⟨rfl,fG e⟩
  rintro⟨r,A,e'⟩ ⟨z,s⟩;dsimp only at z s;have z:=z.symm;subst z;have s:=s.symm;subst s;refine qM (λx=>((e.l.length:Int)-x.1.2).toNat) (λx=>0<=x.1.2/\x.2.1=p/\x.2.2=e) ?_ ⟨dk _,rfl,fG e⟩;rintro⟨⟨a,(b:Int)⟩,A,e'⟩ ⟨b0,z,s⟩;dsimp only at b0 z s;have z:=z.symm;subst z;have s:=s.symm;subst s;refine aV (λx=>x.2.1=p/\x.2.2=e/\(x.1=J->b<(e.l.length:Int))) ?_ ?_
  .exact bL (λg=>aj ⟨rfl,fG e,λ_=>g⟩) λ_=>aj ⟨rfl,fG e,λh=>(by cases h)⟩
  rintro⟨c,A,e'⟩ ⟨z,s,L⟩;dsimp only at z s L;have z:=z.symm;subst z;have s:=s.symm;subst s;refine aO (λhc=>?_) λ_=>aj trivial
  have g:=L hc;refine aP b0 g (aT ?_);refine aw (GU p hp t n d _ (by omega) (h2 _ (bN (T:=.ex) (xs:=e.l) (j:=b) b0 g))) λ_ _=>aj ?_
  dsimp only;rw[iz (n:=b+1) (by omega) (by omega)];exact⟨⟨by omega,rfl,fG e⟩,by omega⟩
theorem xJ (p:PG) (hp:PX p) (t:Int) (e:Xp) (h:GX 4 e):Ok (mK (p,t,e)) λ_=>True:=by
 unfold mK bx aD;have z:GX 4 (eD (Xp.op e,Xp.n e,Xp.name e,Xp.l e)):=by rw[fG];exact h
 refine aw (gB _ z) λ_ _=>dS (λ_=>aj trivial) λ_=>?_
 refine aw (N_ fuel 4 _ (by rw[kf];omega) z) λ_ _=>?_
 refine aV (λx=>x.2.1=p/\x.2.2=e) (bL (λ_=>aj ⟨rfl,fG e⟩) λ_=>aj ⟨rfl,fG e⟩) ?_;rintro⟨r,A,e'⟩ ⟨s,a⟩;dsimp only at s a;have s:=s.symm;subst s;have a:=a.symm;subst a;exact aO (λ_=>aj trivial) λ_=>aw (GU p hp t fuel 4 _ (by rw[kf];omega) z) λ_ _=>aj trivial
theorem fQ (b:Bool):Ok (dh b) λ_=>True:=by
 unfold dh;exact aO (λ_=>aj trivial) λ_=>aj trivial
theorem uI (x:ν):Ok (jh x) λr=>r=0->x.1=0/\x.2=0:=by
 unfold jh jw;exact cq (λh=>aj λh2=>(h h2).elim) λh=>aj λh2=>⟨h,h2⟩
abbrev WK:Type:=(Y DT×Y HT×Int)×(Bool×Y Sx)×Y ζ×Y ζ
theorem Zq (a b:Int) (s:ζ) (w:WK) (h:w.2.1.2.length<=100):Ok (em ((a,b,s),w)) λy=>y.2=w:=by
 unfold em aY be bx kO aX cR aD cL;refine b7 w.2.1.2.length (λi x=>x.1=(i:Int)/\x.2=w) ?_ ?_ ⟨rfl,rfl⟩
 .rintro i ⟨c,x⟩ hi ⟨e1,e2⟩;dsimp only at e1 e2;subst e1;have e2:=e2.symm;subst e2;refine du ?_;refine cg (cg (aT ?_));refine aV (λx=>x.2=w) ?_ ?_
  .refine aK (λ_=>aK (λ_=>aj rfl) λ_=>aj rfl) λ_=>aK (λ_=>aK (λ_=>aj rfl) λ_=>aj rfl) λ_=>aj rfl
  rintro⟨c,x⟩ e;dsimp only at e;have e:=e.symm;subst e;exact aO (λ_=>aj rfl) λ_=>aj ⟨gH (by omega),rfl⟩
 .rintro⟨c,x⟩ ⟨e1,e2⟩;dsimp only at e1 e2;subst e1;have e2:=e2.symm;subst e2;exact dv (aj rfl)
def Re:Nat->Sx->Nat
 |0,_=>0
 |d+1,s=>1+(s.body.map (Re d)).sum+(s.els.map (Re d)).sum
def og (d:Nat) (l:Y Sx):Nat:=(l.map (Re d)).sum
def KS:Nat->Nat
 |0=>0
 |d+1=>1+16*KS d
theorem Pc {α:Type} {f:α->Nat} {k:Nat}:∀{l:Y α},(∀x∈l,f x<=k)->(l.map f).sum<=l.length*k
 |[],_=>by simp
 |x::r,h=>by
  have:=Pc (l:=r) λy a=>h y (cC _ a)
  have:=h x (c8 ..);rw[eY,List.sum_cons,cf,jb];omega
theorem W9:∀{d:Nat} {s:Sx},GT d s->Re d s<=KS d
 |0,_,h=>h.elim
 |d+1,s,⟨_,_,_,Z,U,L,A⟩=>by
  have a:=Pc (f:=Re d) (l:=s.body) λx z=>W9 (L x z)
  have b:=Pc (f:=Re d) (l:=s.els) λx z=>W9 (A x z)
  have c:=cQ (KS d) Z;have e:=cQ (KS d) U;show 1+_+_<=1+16*KS d;omega
theorem QD:∀{d:Nat} {s:Sx},GT d s->Re (d+1) s=Re d s
 |0,_,h=>h.elim
 |d+1,s,⟨_,_,_,_,_,A,z⟩=>by
  show 1+(s.body.map (Re (d+1))).sum+(s.els.map (Re (d+1))).sum=1+(s.body.map (Re d)).sum+(s.els.map (Re d)).sum;rw[iI λx a=>QD (A x a),iI λx a=>QD (z x a)]
theorem aej {d:Nat} {l:Y Sx} (h:∀s∈l,GT d s):og d l<=l.length*KS d:=Pc λx a=>W9 (h x a)
theorem xA {d:Nat} {l:Y Sx} {i:Nat} (hi:i<l.length):og d (l.take (i+1))=og d (l.take i)+Re d (aI (T:=.sm) l (i:Int)):=by
 unfold og;rw[nh (T:=.sm) hi,cM,Gj];simp
theorem QE {d:Nat} (l:Y Sx) (i:Nat):og d (l.take i)<=og d l:=by
 conv=>rhs;rw[<- Ca i l]
 unfold og;rw[cM,Gj];omega
theorem FK:∀(n d:Nat) (l:Y Sx),d<n->l.length<=1000->(∀s∈l,GT d s)->KS d<=100000->n_ n l=M ((og d l:Nat):Int)
 |0,_,_,h,_,_,_=>by omega
 |n+1,d,l,hn,hl,h,A=>by
  refine b_ ?_;rw[yT];unfold vk bx wQ aX cR aD cL;have hb:=aej h;have z:=Nat.mul_le_mul hl A;refine b7 l.length (λi x=>x.2=(i:Int)/\x.1=(l.length:Int)-i+(og d (l.take i):Nat)) ?_ ?_ ⟨rfl,by simp[og]⟩
  .rintro i ⟨a,b⟩ hi ⟨e1,e2⟩;dsimp only at e1 e2;subst e1;subst e2;have hp:=QE (d:=d) l (i+1);rw[xA hi]at hp;refine du ?_;refine cg (aT ?_);rw[xA hi];have hm:=h _ (bN (T:=.sm) (xs:=l) (j:=(i:Int)) (by omega) (by omega));revert hm hp;generalize (aI (T:=.sm) l (i:Int))=s;intro hp hm;cases d with
   |zero=>exact hm.elim
   |succ d=>
    obtain⟨_,_,_,g4,Z,U,L⟩:=hm;have hk:KS (d+1)=1+16*KS d:=rfl;have hc:Re (d+1) s=1+og d s.body+og d s.els:=rfl;rw[hc]at hp ⊢;refine aR (FK n d _ (by omega) (by omega) U (by omega)) ?_;refine cg (aT ?_);refine aR (FK n d _ (by omega) (by omega) L (by omega)) (aj ⟨gH (by omega),?_⟩);dsimp only;rw[iz (n:=(l.length:Int)-i+(og (d+1) (l.take i):Nat)+(og d s.body:Nat)) (by omega) (by omega),iz (by omega) (by omega)];omega
  .rintro⟨a,b⟩ ⟨e1,e2⟩;dsimp only at e1 e2;subst e1;subst e2;rw[cP];exact dv (aj (by dsimp only;omega))
theorem Wr (l:Y DT) (hl:l.length<=100):Ok (rY l) λ_=>True:=by
 unfold rY aY bi bu bO dG fH be bx iR jw bC bD aX cR aD cL;refine b7 l.length (λi x=>x.2.2.2.2=(i:Int)) ?_ ?_ rfl
 .rintro i ⟨a,b,c,d,e⟩ hi e1;dsimp only at e1;subst e1;refine du ?_;refine aV (λ_=>True) ?_ λx _=>aj (gH (by omega))
  refine cg (aT ?_);have htk:(dR (aQ (i:Int)) l).length<=100:=by rw[bM];omega
  refine db (dI (by dsimp only;omega) (dI (by dsimp only;omega) ?_));refine aw (xK _ _ (dz htk (by omega))) λv hv=>?_
  refine eO (λ_=>aj trivial) λ_=>bL (λ_=>aj trivial) λ_=>?_
  refine aV (λ_=>True) ?_ λx _=>?_
  .refine aV (λ_=>True) (aK (λ_=>aj trivial) λ_=>aj trivial) λx _=>aO (λ_=>aj trivial) λ_=>?_
   refine aV (λ_=>True) (aK (λ_=>aj trivial) λ_=>aj trivial) λx _=>aO (λ_=>aj trivial) λ_=>?_
   exact aK (λ_=>aj trivial) λ_=>aj trivial
  refine aV (λ_=>True) (bL (λ_=>aj trivial) λ_=>bL (λ_=>aj trivial) λ_=>bL (λ_=>aj trivial) λ_=>aj trivial) λx _=>aO (λ_=>aj trivial) λ_=>?_
  refine aK (λ_=>?_) λ_=>aj trivial
  refine db (dI (by dsimp only;omega) (dI (by dsimp only;omega) ?_));refine aw (xK _ _ (dz htk (by omega))) λv hv=>?_
  refine bL (λ_=>aj trivial) λg=>?_
  have h2:=hv.2;rw[bM]at h2;exact aP g (by dsimp only at h2 ⊢;omega) (aT (cq (λ_=>aj trivial) λ_=>aj trivial))
 .rintro⟨a,b,c,d,e⟩ e1;dsimp only at e1;subst e1;exact dv (aj trivial)
theorem O9 (p:PG) (h:PX p):Ok (ou p) λ_=>True:=by
 have hd:=h.d;have ht:=h.t;unfold ou aY bi bu bx iR bC bD aX cR aD cL;refine b7 p.2.length (λi x=>x.1=(i:Int)/\x.2=p) ?_ ?_ ⟨rfl,rfl⟩
 .rintro i ⟨a,x⟩ hi ⟨e1,e2⟩;dsimp only at e1 e2;subst e1;have e2:=e2.symm;subst e2;refine du ?_;refine cg (aT ?_);refine aV (λx=>x.2.1=p) ?_ ?_
  .refine aw (xK _ _ (by dsimp only;omega)) λv hv=>eO (λ_=>aj rfl) λ_=>?_
   refine db (dI (by dsimp only;omega) (dI (by dsimp only;omega) ?_));exact aw (tB _ _ (by rw[bM];dsimp only;omega)) λ_ _=>aj rfl
  rintro⟨b,x,z⟩ e;dsimp only at e;have e:=e.symm;subst e;exact aO (λ_=>aj trivial) λ_=>aj ⟨gH (by omega),rfl⟩
 rintro⟨a,x⟩ ⟨e1,e2⟩;dsimp only at e1 e2;subst e1;have e2:=e2.symm;subst e2;refine dv ?_;refine aw (P:=λ_=>True) ?_ λ_ _=>aj trivial
 refine b7 p.2.length (λi x=>x.1=(i:Int)/\x.2=p) ?_ ?_ ⟨rfl,rfl⟩
 .rintro i ⟨a,x⟩ hi ⟨e1,e2⟩;dsimp only at e1 e2;subst e1;have e2:=e2.symm;subst e2;refine du ?_;refine cg (aT ?_);have hm:=h.l _ (bN (T:=zC) (xs:=p.2) (j:=(i:Int)) (by omega) (by omega));revert hm;generalize (aI (T:=zC) p.2 (i:Int))=t;intro hm;refine bL (λ_=>aj trivial) λ_=>?_
  refine b7 t.2.2.1.length (λk y=>y.1=(k:Int)/\y.2=(p,t)) ?_ ?_ ⟨rfl,rfl⟩
  .rintro k ⟨a,z⟩ hk ⟨A,s⟩;dsimp only at A s;subst A;subst s;refine du ?_;refine cg (aT ?_);refine aV (λx=>x.2=(p,t)) ?_ ?_
   .refine aw (xK _ _ (by dsimp only;omega)) λv hv=>eO (λ_=>aj rfl) λ_=>?_
    refine aw (tB _ _ (by dsimp only;omega)) λv hv=>eO (λ_=>aj rfl) λ_=>?_
    refine db (dI (by dsimp only;omega) (dI (by dsimp only;omega) ?_));exact aw (zj _ _ (by rw[bM];dsimp only;omega)) λ_ _=>aj rfl
   rintro⟨b,x⟩ e;dsimp only at e;subst e;exact aO (λ_=>aj trivial) λ_=>aj ⟨gH (by omega),rfl⟩
  .rintro⟨a,z⟩ ⟨A,s⟩;dsimp only at A s;subst A;subst s;exact dv (aj ⟨gH (by omega),rfl⟩)
 .rintro⟨a,x⟩ ⟨e1,e2⟩;dsimp only at e1 e2;subst e1;have e2:=e2.symm;subst e2;exact dv (aj trivial)
structure WQ (w:WK) (y:Int×WK):Prop where
 p:y.2.1=w.1
 a:y.2.2.1=w.2.1
 s:y.2.2.2.1.length<=w.2.2.1.length+1
 t:y.2.2.2.2.length<=w.2.2.2.length+1
theorem WQ.same (w:WK) (e:Int):WQ w (e,w):=⟨rfl,rfl,Nat.le_succ _,Nat.le_succ _⟩
theorem aln (s:Sx) (z:Y DT) (T:Y HT) (t:Int) (A:Bool×Y Sx) (sp se:Y ζ) (hp:PX (z,T)) (hA:A.2.length<=100) (h1:sp.length<=100000000) (h2:se.length<=100000000) (U:∀e∈s.index,GX 4 e) (he:GX 4 s.expr):Ok (mJ (s,((z,T,t),A,sp,se))) (WQ ((z,T,t),A,sp,se)):=by
 have hex:GX 4 (eD (Xp.op s.expr,Xp.n s.expr,Xp.name s.expr,Xp.l s.expr)):=by rw[fG];exact he
 have hin:∀(a b:Int) (n:ζ),Ok (em ((a,b,n),((z,T,t),A,sp,se))) λy=>y.2=((z,T,t),A,sp,se):=λa b n=>Zq a b n _ hA
 have hth:T.length<=1000:=by have:=hp.t;dsimp only at this;omega
 have hdl:z.length<=1000:=by have:=hp.d;dsimp only at this;omega
 have sm:∀e,WQ ((z,T,t),A,sp,se) (e,((z,T,t),A,sp,se)):=WQ.same _;unfold mJ aY bi bu cF bO dG cY fH be iR jw bC bD aD eE;refine aw (hin _ _ _) λy L=>?_
 obtain⟨b1,Z⟩:=y;dsimp only at L;subst L;refine bh (by simp) ?_;refine aw (hin _ _ _) λy L=>?_
 obtain⟨b2,Z⟩:=y;dsimp only at L;subst L;refine bh (by simp) ?_;refine aw (hin _ _ _) λy L=>?_
 obtain⟨b3,Z⟩:=y;dsimp only at L;subst L;refine bh (by simp) ?_;refine aK (λ_=>?_) λ_=>?_
 .refine aK (λ_=>?_) λg=>?_
  .exact aw (px _ hp _ _ _ _) λ_ _=>aw (xJ _ hp _ _ hex) λ_ _=>aw (uI _) λ_ _=>aj (sm _)
  .refine aw (px _ hp _ _ _ _) λ_ _=>?_
   dsimp only[ak]at g;refine cg (aT ?_);refine aw (xJ _ hp _ _ (U _ (bN (T:=.ex) (xs:=s.index) (j:=0) (by omega) (by omega)))) λ_ _=>?_
   exact aw (xJ _ hp _ _ hex) λ_ _=>aw (uI _) λ_ _=>aw (uI _) λ_ _=>aj (sm _)
 refine aV (λx=>x.2=((z,T,t),A,s,(z,T),sp,se)) (aK (λ_=>aj (by dsimp only;rw[yL])) λ_=>aj (by dsimp only;rw[yL])) ?_;rintro⟨b,x⟩ e;dsimp only at e;subst e;refine aO (λ_=>aw (xJ _ hp _ _ hex) λ_ _=>aj (sm _)) λ_=>?_
 refine aK (λ_=>?_) λ_=>?_
 .refine aV (λx=>WQ ((z,T,t),A,sp,se) x) ?_ λx U=>aj U
  refine aw (px _ hp _ _ _ _) λ_ _=>aO (λ_=>?_) λ_=>?_
  .exact aw (fQ _) λ_ _=>aw (uI _) λ_ _=>aj (sm _)
  .refine aw (hin _ _ _) λy L=>?_
   obtain⟨b4,Z⟩:=y;dsimp only at L;subst L;exact bh (by simp) (aw (fQ _) λ_ _=>aw (uI _) λ_ _=>aj (sm _))
 refine aV (λx=>x.2=((z,T,t),A,s,(z,T),sp,se)) (aK (λ_=>aj (by dsimp only;rw[yL])) λ_=>aj (by dsimp only;rw[yL])) ?_;rintro⟨b,x⟩ e;dsimp only at e;subst e;refine aO (λ_=>?_) λ_=>?_
 .refine aV (λx=>WQ ((z,T,t),A,sp,se) x) ?_ λx U=>aj U
  refine aw (px _ hp _ _ _ _) λ_ _=>aO (λ_=>?_) λ_=>?_
  .exact aw (fQ _) λ_ _=>aw (uI _) λ_ _=>aj (sm _)
  .refine aw (hin _ _ _) λy L=>?_
   obtain⟨b4,Z⟩:=y;dsimp only at L;subst L;exact bh (by simp) (aw (fQ _) λ_ _=>aw (uI _) λ_ _=>aj (sm _))
 refine aK (λ_=>aw (fQ _) λ_ _=>aj (sm _)) λ_=>?_
 refine aK (λ_=>?_) λ_=>?_
 .refine aV (λx=>WQ ((z,T,t),A,sp,se) x) ?_ λx U=>aj U
  exact aO (λ_=>aw (fQ _) λ_ _=>aj (sm _)) λ_=>aw (fQ _) λ_ _=>aj (sm _)
 refine aV (λx=>x.2=((z,T,t),A,s,(z,T),sp,se)) (aK (λ_=>aj (by dsimp only;rw[yL])) λ_=>aK (λ_=>aj (by dsimp only;rw[yL])) λ_=>aj (by dsimp only;rw[yL])) ?_;rintro⟨b,x⟩ e;dsimp only at e;subst e;refine aO (λ_=>?_) λ_=>?_
 .refine aw (px _ hp _ _ _ _) λr hr=>cq (λ_=>aj (sm _)) λg=>?_
  obtain⟨v,hv,v0,v1⟩:=hr g (by omega) (by omega);refine aR hv (aP v0 v1 (aT ?_));refine aw (hin _ _ _) λy L=>?_
  obtain⟨b4,Z⟩:=y;dsimp only at L;subst L;refine bh (by simp) ?_;refine aV (λx=>WQ ((z,T,t),A,sp,se) x) ?_ λx U=>aj U
  refine aO (λ_=>aw (fQ _) λ_ _=>aj (sm _)) λ_=>dS (λ_=>aw (fQ _) λ_ _=>aj (sm _)) λ_=>?_
  exact aK (λ_=>aw (fQ _) λ_ _=>aj (sm _)) λ_=>aw (fQ _) λ_ _=>aj (sm _)
 refine aK (λ_=>?_) λ_=>?_
 .refine aw (px _ hp _ _ _ _) λr hr=>cq (λ_=>aj (sm _)) λg=>?_
  refine aw (tB T _ hth) λv hv=>?_
  refine aV (λx=>x.2=((z,T,t),A,s,sp,se)) ?_ ?_
  .refine aO (λ_=>aj (by dsimp only;rw[yL])) λ_=>aO (λ_=>aj (by dsimp only;rw[yL])) λ_=>aO (λ_=>aj (by dsimp only;rw[yL])) λ_=>aK (λ_=>aj (by dsimp only;rw[yL])) λ_=>aj (by dsimp only;rw[yL])
  rintro⟨b,x⟩ e;dsimp only at e;subst e;refine aO (λ_=>aj (sm _)) λ_=>?_
  refine aw (zj sp _ (by omega)) λ_ _=>eO (λ_=>aj (sm _)) λ_=>?_
  exact bd (by simp;omega) (by omega) (aj ⟨rfl,rfl,by simp,Nat.le_succ _⟩)
 refine aK (λ_=>?_) λ_=>?_
 .refine aV (λx=>WQ ((z,T,t),A,sp,se) x) ?_ λx U=>aj U
  refine aw (px _ hp _ _ _ _) λr hr=>?_
  refine aO (λ_=>aw (fQ _) λ_ _=>aw (uI _) λ_ _=>aj (sm _)) λ_=>?_
  refine aO (λ_=>aw (fQ _) λ_ _=>aw (uI _) λ_ _=>aj (sm _)) λ_=>?_
  exact aw (tB T _ hth) λv hv=>aw (fQ _) λ_ _=>aw (uI _) λ_ _=>aj (sm _)
 refine aK (λ_=>?_) λ_=>?_
 .refine aV (λx=>x.2=((z,T,t),A,s,(z,T),sp,se)) ?_ ?_
  .refine aw (px _ hp _ _ _ _) λr hr=>?_
   exact aO (λ_=>aw (fQ _) λ_ _=>aw (uI _) λ_ _=>aj (by dsimp only;rw[yL])) λ_=>aw (fQ _) λ_ _=>aw (uI _) λ_ _=>aj (by dsimp only;rw[yL])
  rintro⟨b,x⟩ e;dsimp only at e;subst e;refine aV (λx=>x.2=((z,T,t),A,s,(z,T),sp,se)) ?_ ?_
  .refine aV (λx=>x.2=((z,T,t),A,s,(z,T),sp,se)) ?_ ?_
   .exact aK (λ_=>aw (zj se _ (by omega)) λ_ _=>aj (by dsimp only;rw[yL])) λ_=>aj (by dsimp only;rw[yL])
   rintro⟨b,x⟩ e;dsimp only at e;subst e;exact aO (λ_=>aj (by dsimp only;rw[yL])) λ_=>aj (by dsimp only;rw[yL])
  rintro⟨b,x⟩ e;dsimp only at e;subst e;refine bd (by simp;omega) (by omega) ?_;exact aw (xJ _ hp _ _ hex) λ_ _=>aw (uI _) λ_ _=>aj ⟨rfl,rfl,Nat.le_succ _,by simp⟩
 exact aw (px _ hp _ _ _ _) λ_ _=>aw (px _ hp _ _ _ _) λ_ _=>aw (fQ _) λ_ _=>aw (uI _) λ_ _=>aw (uI _) λ_ _=>aj (sm _)
abbrev RA4:Type:=(Y Sx×WK)->I (ν×WK)
structure QA (l:List Sx) (d:Nat) (w:WK) (y:ν×WK):Prop where
 p:y.2.1=w.1
 a:y.2.2.1.2.length=w.2.1.2.length
 s:y.2.2.2.1.length<=w.2.2.1.length+l.length*KS d
 t:y.2.2.2.2.length<=w.2.2.2.length+l.length*KS d
def SpA (rr:RA4) (d:Nat):Prop:=∀(l:Y Sx) (w:WK),l.length<=100->(∀s∈l,GT d s)->PX (w.1.1,w.1.2.1)->w.2.1.2.length+d<=50->w.2.2.1.length+l.length*KS d<=100000000->w.2.2.2.length+l.length*KS d<=100000000->Ok (rr (l,w)) (QA l d w)
theorem ahr (rr:RA4) (d:Nat) (hr:∀d',d=d'+1->SpA rr d'):SpA (mN rr) d:=by
 rintro l ⟨⟨z,T,t⟩,A,sp,se⟩ hl hg hp hA h1 h2;dsimp only at hp hA h1 h2;have hK:∀i:Nat,i<=l.length->i*KS d<=l.length*KS d:=λi hi=>cQ _ hi
 unfold mN aY bi bu bO dG cY ck be bx jw bC bD aX cR aD cL eE;refine b7 l.length (λi x=>x.1=(i:Int)/\x.2.1=(z,T,t)/\x.2.2.1.2.length=A.2.length/\x.2.2.2.1.length<=sp.length+i*KS d/\x.2.2.2.2.length<=se.length+i*KS d) ?_ ?_ ⟨rfl,rfl,rfl,by simp,by simp⟩
 .rintro i ⟨a,P,A',sp',se'⟩ hi ⟨e1,e2,e3,e4,e5⟩;dsimp only at e1 e2 e3 e4 e5;subst e1;subst e2;have hKi:=hK (i+1) (by omega);have hKs:=jb i (KS d);rw[Nat.succ_eq_add_one]at hKs;refine du ?_;refine cg (aT ?_);have hm:=hg _ (bN (T:=.sm) (xs:=l) (j:=(i:Int)) (by omega) (by omega));revert hm;generalize (aI (T:=.sm) l (i:Int))=s;intro hm;cases d with
  |zero=>exact hm.elim
  |succ d=>
   have hR:=hr d rfl;obtain⟨_,g2,g3,g4,g5,g6,g7⟩:=hm;have hk:KS (d+1)=1+16*KS d:=rfl;have kb:s.body.length*KS d<=8*KS d:=cQ _ g4;have ke:s.els.length*KS d<=8*KS d:=cQ _ g5;dsimp only;rw[yL];refine aw (aln s z T t A' sp' se' hp (by omega) (by omega) (by omega) g2 g3) λy Z=>?_
   obtain⟨e,P2,A2,sp2,se2⟩:=y;obtain⟨U,L,q3,q4⟩:=Z;dsimp only at U L q3 q4;subst U;subst L;refine bh (by simp) ?_;refine aV (λx=>x.2=((z,T,t),s,A2,sp2,se2)) (bL (λ_=>aj rfl) λ_=>aj rfl) ?_;rintro⟨e,x⟩ ex;dsimp only at ex;subst ex;refine cq (λ_=>aj ⟨rfl,e3,by dsimp only;omega,by dsimp only;omega⟩) λ_=>?_
   refine bd (by simp;omega) (by omega) (aP (by simp) (by simp;omega) (aP (by simp) (by simp;omega) ?_));dsimp only;rw[yL];refine aw (hR s.body ((z,T,t),(A2.1,cK (A2.2++[_]) _ s),sp2,se2) (by omega) g6 hp ?_ ?_ ?_) λy Z=>?_
   .dsimp only;rw[bW];simp;omega
   .dsimp only;omega
   .dsimp only;omega
   obtain⟨e6,P6,A6,sp6,se6⟩:=y;obtain⟨U,L,q5,q6⟩:=Z;dsimp only at U L q5 q6;subst U;rw[bW,bg,dc]at L;refine bh (by simp) ?_;refine aV (λx=>x.2.1=(z,T,t)/\x.2.2.1.2.length=A2.2.length+1/\x.2.2.2.1.length<=sp2.length+16*KS d/\x.2.2.2.2.length<=se2.length+16*KS d) ?_ ?_
   .refine aK (λ_=>?_) λ_=>aj ⟨rfl,L,by dsimp only;omega,by dsimp only;omega⟩
    refine aw (hR s.els ((z,T,t),A6,sp6,se6) (by omega) g7 hp (by dsimp only;omega) (by dsimp only;omega) (by dsimp only;omega)) λy Z=>?_
    obtain⟨e7,P7,A7,sp7,se7⟩:=y;obtain⟨r1,r2,r5,r6⟩:=Z;dsimp only at r1 r2 r5 r6;subst r1;exact bh (by simp) (aj ⟨rfl,r2.trans L,by dsimp only;omega,by dsimp only;omega⟩)
   rintro⟨e8,P8,A8,sp8,se8⟩ ⟨r1,r2,r5,r6⟩;dsimp only at r1 r2 r5 r6;subst r1;have el:bm .i64 ((aM A8.2.length)-1)=(A2.2.length:Int):=by
    rw[r2,iz (by simp<;>omega) (by simp<;>omega)];simp<;>omega
   dsimp only;rw[el];have tk:(dR (aQ (A2.2.length:Int)) A8.2).length=A2.2.length:=by rw[bM];omega
   refine db (dI (by omega) (AO (by rw[r2];omega) ?_));refine cq (λ_=>aj ⟨rfl,by dsimp only;omega,by dsimp only;omega,by dsimp only;omega⟩) λ_=>aj ?_
   exact⟨gH (by omega),rfl,by dsimp only;omega,by dsimp only;omega,by dsimp only;omega⟩
 .rintro⟨a,P,A',sp',se'⟩ ⟨e1,e2,e3,e4,e5⟩;dsimp only at e1 e2 e3 e4 e5;subst e1;subst e2;exact dv (aj ⟨rfl,e3,e4,e5⟩)
theorem Yz:∀(n d:Nat),d<n->SpA (iO n) d
 |0,_,h=>by omega
 |n+1,d,h=>ahr (iO n) d λa hd=>Yz n a (by omega)
theorem EP (p:PG) (h:PX p):Ok (fI p) λr=>r.1=0->(p.2.map λt=>og 5 t.2.2.2).sum<=60:=by
 have hd:=h.d;have ht:=h.t;unfold fI aY bi bu bO cY bx jw bC bD aX cR aD cL;refine aw (aav p h) λ_ _=>dS (λ_=>aj λh=>(by cases h)) λ_=>?_
 refine aw (Wr p.1 hd) λ_ _=>cq (λhn=>aj λh=>(hn h).elim) λ_=>bL (λ_=>aj λh=>(by cases h)) λ_=>?_
 refine aw (O9 p h) λ_ _=>cq (λhn=>aj λh=>(hn h).elim) λ_=>?_
 have U:KS 5=69905:=rfl;refine b7 p.2.length (λi x=>x.1.2=(i:Int)/\x.2=p/\x.1.1=((((p.2.take i).map λt=>og 5 t.2.2.2).sum:Nat):Int)/\(x.1.1:Int)<=((i*6990500:Nat):Int)) ?_ ?_ ⟨rfl,rfl,by simp,by simp⟩
 .rintro i ⟨⟨(c:Int),a⟩,x⟩ hi ⟨e1,e2,e3,L⟩;dsimp only at e1 e2 e3 L;subst e1;have e2:=e2.symm;subst e2;refine du ?_;refine cg (aT ?_);have hm:=bN (T:=zC) (xs:=p.2) (j:=(i:Int)) (by omega) (by omega);have hb:=h.b _ hm;have hcb:=aej (h.s _ hm);have hcb2:=cQ (KS 5) hb;rw[U]at hcb hcb2;refine aR (FK fuel 5 _ (by rw[kf];omega) (dz hb (by omega)) (h.s _ hm) (by rw[U];omega)) (aj ⟨gH (by omega),rfl,?_,?_⟩)
  .dsimp only;rw[nh (T:=zC) hi,cM,Gj,iz (by omega) (by omega),e3];simp
  .dsimp only;rw[iz (by omega) (by omega)];omega
 rintro⟨⟨(c:Int),a⟩,x⟩ ⟨e1,e2,e3,L⟩;dsimp only at e1 e2 e3 L;subst e1;have e2:=e2.symm;subst e2;rw[cP]at e3;refine dv ?_;refine aw (P:=λr=>r.1=0->(p.2.map λt=>og 5 t.2.2.2).sum<=60) ?_ λ_ h=>aj h
 refine bL (λ_=>aj λh=>(by cases h)) λZ=>?_
 have Z:c<=60:=Z;refine b7 p.2.length (λi x=>x.1=(i:Int)/\x.2.1=p/\x.2.2.1.1=p.1/\x.2.2.1.2.1=p.2/\x.2.2.2.1.2.length=0/\x.2.2.2.2.1.length<=i*6990500/\x.2.2.2.2.2.length<=i*6990500) ?_ ?_ ⟨rfl,rfl,rfl,rfl,rfl,by simp,by simp⟩
 .rintro i ⟨a,x,⟨z,T,t⟩,A,sp,se⟩ hi ⟨e1,e2,e3,L,e5,e6,e7⟩;dsimp only at e1 e2 e3 L e5 e6 e7;subst e1;have e2:=e2.symm;subst e2;subst e3;subst L;refine du ?_;refine cg (aT ?_);have hm:=bN (T:=zC) (xs:=p.2) (j:=(i:Int)) (by omega) (by omega);have hb:=h.b _ hm;have hs:=h.s _ hm;revert hb hs;dsimp only;generalize (aI (T:=zC) p.2 (i:Int))=th;intro hb hs;have hk:KS 5=69905:=rfl;have hle:th.2.2.2.length*KS 5<=100*KS 5:=cQ _ hb;rw[hk]at hle;refine aw (Yz fuel 5 (by rw[kf];omega) th.2.2.2 ((p.1,p.2,(i:Int)),A,sp,se) hb hs h (by dsimp only;omega) (by dsimp only;rw[hk];omega) (by dsimp only;rw[hk];omega)) λy hy=>?_
  obtain⟨e,P2,A2,sp2,se2⟩:=y;obtain⟨q1,q2,q3,q4⟩:=hy;dsimp only at q1 q2 q3 q4;subst q1;rw[hk]at q3 q4;refine bh (by simp) (cq (λhn=>aj λh=>(hn h).elim) λ_=>aj ?_);exact⟨gH (by omega),rfl,rfl,rfl,by dsimp only;omega,by dsimp only;omega,by dsimp only;omega⟩
 .rintro⟨a,x,P,w⟩ ⟨e1,e2,_⟩;dsimp only at e1 e2;subst e1;have e2:=e2.symm;subst e2;exact dv (aj λ_=>by omega)
theorem di {R:Type} {o o':I R} {Q:R->Prop} (h:o=o') (hk:Ok o' Q):Ok o Q:=h▸hk
def D0:Y DT:=[(1,0,[120],0,0,[]),(1,0,[121],0,1,[]),(2,0,[118],0,0,[]),(1,0,[113],2,0,[]),(3,0,[109],0,0,[]),(3,0,[110],0,0,[]),(4,0,[114],0,0,[]),(5,0,[99],0,0,[109]),(6,0,[102],0,0,[])]
def L0:Y ζ:=[[97],[98]]
set_option maxHeartbeats 20000000 in
theorem apj:∃r,fI (D0,[([109,97,105,110],0,L0,[oy (1,0,[120],[],[],eD (1,1,[],[]),[],[])])])=M r/\r.1=0:=by
 suffices h:Ok (fI (D0,[([109,97,105,110],0,L0,[oy (1,0,[120],[],[],eD (1,1,[],[]),[],[])])])) λr=>r.1=0 by
  obtain⟨y,h1,h2⟩:=h;exact⟨y,h1,h2⟩
 unfold fI aY bi bu bO cY bx jw bC bD aX cR aD cL;with_reducible repeat' first|exact aj rfl|refine Yf ?_|refine Ye ?_|refine Yd ?_|refine Yb ?_|refine RL ?_|refine ah3 ?_|refine aT ?_|refine fK rfl ?_|refine gd rfl ?_|refine bh rfl ?_|refine Yc ?_|refine RM ?_|refine di (qu.eq_1 ..) ?_|refine di (kr.eq_1 ..) ?_|refine di (fA.eq_1 ..) ?_|refine di (jU.eq_1 ..) ?_|refine di (kQ.eq_1 ..) ?_|refine di (lV.eq_1 ..) ?_|refine di (pY.eq_1 ..) ?_|refine di (rZ.eq_1 ..) ?_|refine di (ov.eq_1 ..) ?_|refine di (jK.eq_1 ..) ?_|refine di (kw.eq_1 ..) ?_|refine di (mC.eq_1 ..) ?_|refine di (jq.eq_1 ..) ?_|refine di (mL.eq_1 ..) ?_|refine di (pW.eq_1 ..) ?_|refine di (rY.eq_1 ..) ?_|refine di (im.eq_1 ..) ?_|refine di (ou.eq_1 ..) ?_|refine di (hX.eq_1 ..) ?_|refine di (ji.eq_1 ..) ?_|refine di (Cy.eq_1 ..) ?_|refine di (vk.eq_1 ..) ?_|refine di (wz.eq_1 ..) ?_|refine di (mN.eq_1 ..) ?_|refine di (mJ.eq_1 ..) ?_|refine di (em.eq_1 ..) ?_|refine di (gP.eq_1 ..) ?_|refine di (qr.eq_1 ..) ?_|refine di (mK.eq_1 ..) ?_|refine di (Cx.eq_1 ..) ?_|refine di (vj.eq_1 ..) ?_|refine di (Cw.eq_1 ..) ?_|refine di (vi.eq_1 ..) ?_|refine di (jh.eq_1 ..) ?_|refine di (dh.eq_1 ..) ?_|refine di (ck.eq_1 ..) ?_|refine di (congrFun (gZ dO kf) _) ?_|refine di (zm _ _) ?_|refine di (congrFun (gZ eL kf) _) ?_|refine di (Ae _ _) ?_|refine di (congrFun (gZ io kf) _) ?_|refine di (tj _ _) ?_|refine di (congrFun (gZ n_ kf) _) ?_|refine di (yT _ _) ?_|refine di (congrFun (gZ iO kf) _) ?_|refine di (CJ _ _) ?_|refine di (congrFun (gZ nZ kf) _) ?_|refine di (yS _ _) ?_|refine di (congrFun (gZ nY kf) _) ?_|refine di (yR _ _) ?_
 all_goals trace_state
structure TM (nT:Nat) (t:HT):Prop where
 l:t.2.2.1=L0
 b:t.2.2.2.length<=8
 s:∀s∈t.2.2.2,GS nT 3 s
structure PJ (p:PG):Prop where
 d:p.1=D0
 t0:1<=p.2.length
 t:p.2.length<=4
 m:∀t∈p.2,TM p.2.length t
 n:p.2.map Prod.fst=wR.take p.2.length
theorem PJ.x {p:PG} (h:PJ p):PX p:=⟨by rw[h.d];decide,by have:=h.t;omega,λt ht=>by rw[(h.m t ht).l];decide,λt ht=>by have:=(h.m t ht).b;omega,λt ht s hs=>((h.m t ht).s s hs).le (by omega:3<=5) |>.t⟩
theorem Tl:s6 ()=M D0:=rfl
theorem afc:∀m:Nat,m<5->∀j:Nat,j<m->aI (T:=.str) wR (j:Int)∈wR.take m:=by decide
theorem Ru {nT:Nat} (op:Int) {n:ζ} (s:op=12\/op=13) (hn:n∈wR.take nT):GS nT 3 (oy (op,0,n,[],[],eD (0,0,[],[]),[],[])):=GS.wo (by omega) (by simp) (λx a=>(by cases a)) (by rcases s with rfl|rfl<;>(constructor<;>simp[Sx.op,Sx.name,Sx.index,Sx.arg,Sx.els,Sx.body]<;>exact hn))
theorem HO (x:η) (hl:x.length<=9223372036854775807) (hx:∀z∈x,0<=z/\z<=255):Ok (pf x) λp=>PJ p/\∃r,fI p=M r/\r.1=0:=by
 unfold pf aY bi bu cF dZ kY AG bO fH ky qJ Prod.q9 be bx jw bC kO cR aD cL eE;refine aR Tl ?_;refine aw (gD 3 (x,0) ⟨hl,hx,by dsimp only;omega,by dsimp only;omega⟩) λy U=>?_
 obtain⟨n,t0⟩:=y;obtain⟨s0,n0,n1,_⟩:=U;have n1:=n1 (by decide);dsimp only at s0 n0 n1;have ew:bm .i64 (2+n)=2+n:=iz (by omega) (by omega);obtain⟨nT,hnT⟩:∃m:Nat,2+n=(m:Int):=⟨(2+n).toNat,by omega⟩
 refine b7 nT (λi x=>x.1=(i:Int)/\x.2.2.1=D0/\x.2.2.2.1=wR/\TP x.2.2.2.2.1/\x.2.2.2.2.2.1.2=[]/\x.2.2.2.2.2.2.map Prod.fst=wR.take i/\∀t∈x.2.2.2.2.2.2,TM nT t) ?_ ?_ ⟨rfl,rfl,rfl,s0.p,rfl,rfl,λt ht=>(by cases ht)⟩
 .rintro i ⟨a,m,A,N,t,h,th⟩ hi ⟨e1,e2,e3,e4,e5,e6,e7⟩;dsimp only at e1 e2 e3 e4 e5 e6 e7;subst e1;subst e2;refine bL (λg=>?_) λg=>(by dsimp only at g;rw[ew]at g;omega)
  have l4:N.length=4:=by rw[e3];rfl
  refine cg (cg (aT ?_));have hthl:th.length=i:=by have:=gZ ai e6;rw[bw,bM]at this;have q4:wR.length=4:=rfl;omega
  refine aV (λx=>x.2.2.2.1.1=aI (T:=.str) N (i:Int)/\x.2.1=D0/\x.2.2.1=wR/\TP x.2.2.2.2.1/\x.2.2.2.2.2.1.2=[]/\x.2.2.2.2.2.2.1=th/\x.2.2.2.2.2.2.2.1=L0/\x.2.2.2.2.2.2.2.2.length<=3/\∀s∈x.2.2.2.2.2.2.2.2,GS nT 3 s) ?_ ?_
  .refine aK (λ_=>?_) λ_=>aj ⟨rfl,rfl,e3,e4,e5,rfl,rfl,by simp,λs hs=>(by cases hs)⟩
   refine b7 (1+n).toNat (λk x=>x.2.2.2.2.1.1=aI (T:=.str) N (i:Int)/\x.1=1+(k:Int)/\x.2.2.1=D0/\x.2.2.2.1=wR/\TP x.2.2.2.2.2.1/\x.2.2.2.2.2.2.1.2=[]/\x.2.2.2.2.2.2.2.1=th/\x.2.2.2.2.2.2.2.2.1=L0/\x.2.2.2.2.2.2.2.2.2.length<=k/\∀s∈x.2.2.2.2.2.2.2.2.2,GS nT 3 s) ?_ ?_ ⟨rfl,rfl,rfl,e3,e4,e5,rfl,rfl,by simp,λs hs=>(by cases hs)⟩
   .rintro k ⟨c,m1,D1,N1,z1,t1,h1,th1,l1,b1⟩ hk ⟨fz,f1,f2,L,f4,Z,f6,f7,f8,f9⟩;dsimp only at fz f1 f2 L f4 Z f6 f7 f8 f9;subst f1;refine bL (λ_=>?_) λg=>(by dsimp only at g;rw[ew]at g;omega)
    have l41:N1.length=4:=by rw[L];rfl
    refine cg (cg (aT ?_));refine bd (by simp;omega) (by omega) (aj ?_);dsimp only;rw[iz (n:=1+(k:Int)+1) (by omega) (by omega)];refine ⟨fz,by omega,f2,L,f4,Z,f6,f7,by simp;omega,λs hs=>?_⟩;rcases bP.1 hs with hs|hs
    .exact f9 s hs
    .rw[aJ]at hs;rw[hs];refine Ru 12 (.inl rfl) ?_;rw[L,show 1+(k:Int)=((1+k:Nat):Int) by omega];exact afc nT (by omega) (1+k) (by omega)
   .rintro⟨c,m1,D1,N1,z1,t1,h1,th1,l1,b1⟩ ⟨fz,f1,f2,L,f4,Z,f6,f7,f8,f9⟩;dsimp only at fz f1 f2 L f4 Z f6 f7 f8 f9;subst f1;refine bL (λg=>(by dsimp only at g;rw[ew]at g;omega)) λ_=>aj ?_
    exact⟨fz,f2,L,f4,Z,f6,f7,by dsimp only;omega,f9⟩
  rintro⟨m1,D1,N1,z1,t1,h1,th1,l1,b1⟩ ⟨fz,f2,L,f4,Z,f6,f7,f8,f9⟩;dsimp only at fz f2 L f4 Z f6 f7 f8 f9;subst f2;subst f6;subst f7;refine aw (gD 3 t1 f4) λy U=>?_
  obtain⟨k2,t2⟩:=y;obtain⟨u1,u2,u3,_⟩:=U;have u3:=u3 (by decide);dsimp only at u1 u2 u3;dsimp only;rw[iz (n:=1+k2) (by omega) (by omega)];refine aw (Zm (nT:=nT) 2 (by omega) (1+k2) m1 t2 h1 (by omega) u1.p (by rw[Z];simp)) λy U=>?_
  obtain⟨m3,t3,h3,l3⟩:=y;obtain⟨w1,w2,w3,w4⟩:=U;dsimp only at w1 w2 w3 w4;refine bh (by simp) (bd (by simp;omega) (by omega) ?_);have hbody:∀s∈b1++l3,GS nT 3 s:=λs hs=>by
   rcases bP.1 hs with hs|hs
   .exact f9 s hs
   .exact w2 s hs
  have hlen:(b1++l3).length<=6:=by rw[bg];omega
  refine aV (λx=>x.2.2.2.1.1=aI (T:=.str) N (i:Int)/\x.2.1=D0/\x.2.2.1=wR/\TP x.2.2.2.2.1/\x.2.2.2.2.2.1.2=[]/\x.2.2.2.2.2.2.1=th1/\x.2.2.2.2.2.2.2.1=L0/\x.2.2.2.2.2.2.2.2.length<=8/\∀s∈x.2.2.2.2.2.2.2.2,GS nT 3 s) ?_ ?_
  .refine aV (λx=>x.2.2.2.2.1.1=aI (T:=.str) N (i:Int)/\x.2.2.1=D0/\x.2.2.2.1=wR/\TP x.2.2.2.2.2.1/\x.2.2.2.2.2.2.1.2=[]/\x.2.2.2.2.2.2.2.1=th1/\x.2.2.2.2.2.2.2.2.1=L0/\x.2.2.2.2.2.2.2.2.2=b1++l3) ?_ ?_
   .refine aK (λ_=>?_) λ_=>aj ⟨fz,rfl,L,w3.p,w4.trans Z,rfl,rfl,rfl⟩
    exact aw (gD 3 t3 w3.p) λy U=>aj ⟨fz,rfl,L,U.1.p,w4.trans Z,rfl,rfl,rfl⟩
   rintro⟨b,m4,D4,N4,z4,t4,h4,th4,l4,b4⟩ ⟨pz,p2,p3,p4,p5,p6,p7,p8⟩;dsimp only at pz p2 p3 p4 p5 p6 p7 p8;subst p2;subst p6;subst p7;subst p8;have l44:N4.length=4:=by rw[p3];rfl
   refine aO (λ_=>?_) λ_=>aj ⟨pz,rfl,p3,p4,p5,rfl,rfl,by dsimp only;omega,hbody⟩
   refine cg (cg (aT ?_));refine bd (by simp at hlen ⊢;omega) (by omega) (aj ⟨pz,rfl,p3,p4,p5,rfl,rfl,by dsimp only;rw[bg,dc];omega,λs hs=>?_⟩);rcases bP.1 hs with hs|hs
   .exact hbody s hs
   .rw[aJ]at hs;rw[hs];refine Ru 13 (.inr rfl) ?_;rw[p3];exact afc nT (by omega) 1 (by omega)
  rintro⟨m4,D4,N4,z4,t4,h4,th4,l4,b4⟩ ⟨pz,p2,p3,p4,p5,p6,p7,p8,p9⟩;dsimp only at pz p2 p3 p4 p5 p6 p7 p8 p9;subst p2;subst p6;subst p7;refine bd (by simp;omega) (by omega) (aj ?_);dsimp only;refine ⟨gH (by omega),rfl,p3,p4,p5,by rw[nh (T:=.str) (xs:=wR) (i:=i) (by have q4:wR.length=4:=rfl;omega),cM,e6,<-e3];show _++[z4.1]=_;rw[pz],λt ht=>?_⟩;rcases bP.1 ht with ht|ht
  .exact e7 t ht
  .rw[aJ]at ht;rw[ht];exact⟨rfl,p8,p9⟩
 .rintro⟨a,m,A,N,t,h,th⟩ ⟨e1,e2,e3,e4,e5,e6,e7⟩;dsimp only at e1 e2 e3 e4 e5 e6 e7;subst e1;subst e2;refine bL (λg=>(by dsimp only at g;rw[ew]at g;omega)) λ_=>?_
  have hthl:th.length=nT:=by have:=gZ ai e6;rw[bw,bM]at this;have q4:wR.length=4:=rfl;omega
  have hpm:PJ (D0,th):=⟨rfl,by dsimp only;omega,by dsimp only;omega,by dsimp only;rw[hthl];exact e7,by dsimp only;rw[hthl];exact e6⟩
  refine aw (P:=λp=>PJ p/\∃r,fI p=M r/\r.1=0) ?_ λr hr=>aj hr
  obtain⟨y,U,_⟩:=EP (D0,th) hpm.x;refine aR U (cq (λ_=>?_) λh=>aj ⟨hpm,y,U,h⟩);refine aR Tl (aR (Ps _) (aR (uE _ _) (aj ?_)));refine ⟨⟨rfl,by simp,by simp,λt ht=>?_,rfl⟩,apj⟩;simp only[aJ]at ht;rw[ht];refine ⟨rfl,by simp,λs hs=>?_⟩;simp only[aJ]at hs;rw[hs,fG,zF];exact GS.asg (by decide) (GE.num _ 3)
abbrev iA (l:Y IT) (k:Nat):IT:=aI (T:=Cg) l (k:Int)
def JT (l:Y IT) (ρ:Nat->Nat) (a e k:Nat):Prop:=(iA l k).1=5->∃k':Nat,(iA l k).2.1=(k':Int)/\(k'=e\/a<=k'/\k'<e/\ρ k'<ρ k)
def rD (l:Y IT) (a e:Nat):Prop:=a<=e/\∃ρ:Nat->Nat,∀k,a<=k->k<e->1<=ρ k/\ρ k<=e-a/\JT l ρ a e k/\((iA l k).1<5->k+1=e\/ρ (k+1)<ρ k)
theorem rD.nil (l:Y IT) (a:Nat):rD l a a:=⟨bX _,λ_=>0,λk h1 h2=>by omega⟩
theorem rD.one {l:Y IT} {a:Nat} (h:¬(iA l a).1=5):rD l a (a+1):=⟨by omega,λ_=>1,λk h1 h2=>⟨bX 1,by show 1<=a+1-a;omega,λs=>by rw[show k=a by omega]at s;exact (h s).elim,λ_=>.inl (by omega)⟩⟩
theorem rD.congr {l s:Y IT} {a e:Nat} (h:rD l a e) (hc:∀k,a<=k->k<e->iA s k=iA l k):rD s a e:=by
 obtain⟨h1,ρ,h2⟩:=h;exact⟨h1,ρ,λk A z=>by unfold JT;rw[hc k A z];exact h2 k A z⟩
theorem rD.app {l:Y IT} {a b c:Nat} (h:rD l a b) (k:rD l b c):rD l a c:=by
 obtain⟨h1,ρ,h2⟩:=h;obtain⟨k1,σ,k2⟩:=k;refine ⟨by omega,λk=>if k<b then ρ k+(c-b) else σ k,λk U L=>?_⟩;by_cases hk:k<b
 .obtain⟨z,A,q3,q4⟩:=h2 k U hk;simp only[aC hk];refine ⟨by omega,by omega,?_,λs=>?_⟩
  .intro s;simp only[aC hk];obtain⟨k',e,r⟩:=q3 s;refine ⟨k',e,?_⟩;rcases r with r|⟨r1,r2,r3⟩
   .subst r;by_cases hc:k'=c
    .exact .inl hc
    .have:=(k2 k' (bX _) (by omega)).2.1;rw[ax (xL _)];exact .inr ⟨by omega,by omega,by omega⟩
   .rw[aC r2];exact .inr ⟨r1,by omega,by omega⟩
  .rcases q4 s with r|r
   .by_cases hc:k+1=c
    .exact .inl hc
    .have:=(k2 (k+1) (by omega) (by omega)).2.1;rw[ax (by omega)];exact .inr (by omega)
   .by_cases hb:k+1<b
    .rw[aC hb];exact .inr (by omega)
    .rw[ax hb];by_cases hc:k+1=c
     .exact .inl hc
     .have:=(k2 (k+1) (by omega) (by omega)).2.1;exact .inr (by omega)
 .obtain⟨z,A,q3,q4⟩:=k2 k (by omega) L;simp only[ax hk];refine ⟨z,by omega,?_,λs=>?_⟩
  .intro s;simp only[ax hk];obtain⟨k',e,r⟩:=q3 s;refine ⟨k',e,r.imp id λ⟨r1,r2,r3⟩=>⟨by omega,r2,?_⟩⟩;rw[ax (by omega)];exact r3
  .rw[ax (by omega)];exact q4 s
theorem rD.ite {l:Y IT} {a j e:Nat} (h:rD l a j) (hj:(iA l j).1=5) (L:(iA l j).2.1=(e:Int)) (k:rD l (j+1) e):rD l a e:=by
 obtain⟨h1,ρ,h2⟩:=h;obtain⟨k1,σ,k2⟩:=k;refine ⟨by omega,λk=>if k<j then ρ k+(e-j) else if k=j then e-j else σ k,λk Z U=>?_⟩;by_cases hk:k<j
 .obtain⟨z,A,q3,q4⟩:=h2 k Z hk;simp only[aC hk];refine ⟨by omega,by omega,?_,λs=>?_⟩
  .intro s;simp only[aC hk];obtain⟨k',e',r⟩:=q3 s;refine ⟨k',e',.inr ?_⟩;rcases r with r|⟨r1,r2,r3⟩
   .rw[r,ax (xL _),aC rfl];exact⟨by omega,by omega,by omega⟩
   .rw[aC r2];exact⟨r1,by omega,by omega⟩
  .refine .inr ?_;by_cases hb:k+1<j
   .rw[aC hb];rcases q4 s with r|r<;>omega
   .rw[ax hb,aC (by omega)];omega
 .by_cases hkj:k=j
  .subst hkj;simp only[ax hk,aC];exact⟨by omega,by omega,λ_=>⟨e,L,.inl rfl⟩,λs=>by rw[hj]at s;omega⟩
  .obtain⟨z,A,q3,q4⟩:=k2 k (by omega) U;simp only[ax hk,ax hkj];refine ⟨z,by omega,?_,λs=>?_⟩
   .intro s;simp only[ax hk,ax hkj];obtain⟨k',e',r⟩:=q3 s;refine ⟨k',e',r.imp id λ⟨r1,r2,r3⟩=>⟨by omega,r2,?_⟩⟩;rw[ax (by omega),ax (by omega)];exact r3
   .rw[ax (by omega),ax (by omega)];exact q4 s
theorem rD.whl {l:Y IT} {a c j:Nat} (h:rD l a c) (hc:(iA l c).1=10) (k:rD l (c+1) j) (hj:(iA l j).1=5) (U:(iA l j).2.1=(a:Int)):rD l a (j+1):=by
 obtain⟨h1,ρ,h2⟩:=h;obtain⟨k1,σ,k2⟩:=k;refine ⟨by omega,λk=>if k<c then ρ k+1 else if k=c then 1 else if k<j then σ k+(c-a)+2 else c-a+2,λk Z g2=>?_⟩;by_cases hk:k<c
 .obtain⟨L,A,q3,q4⟩:=h2 k Z hk;simp only[aC hk];refine ⟨by omega,by omega,?_,λs=>?_⟩
  .intro s;simp only[aC hk];obtain⟨k',e',r⟩:=q3 s;refine ⟨k',e',.inr ?_⟩;rcases r with r|⟨r1,r2,r3⟩
   .rw[r,ax (xL _),aC rfl];exact⟨by omega,by omega,by omega⟩
   .rw[aC r2];exact⟨r1,by omega,by omega⟩
  .refine .inr ?_;by_cases hb:k+1<c
   .rw[aC hb];rcases q4 s with r|r<;>omega
   .rw[ax hb,aC (by omega)];omega
 .by_cases hkc:k=c
  .subst hkc;simp only[ax hk,aC];exact⟨by omega,by omega,λs=>by rw[hc]at s;omega,λs=>by rw[hc]at s;omega⟩
  .simp only[ax hk,ax hkc];by_cases hkj:k<j
   .obtain⟨L,A,q3,q4⟩:=k2 k (by omega) hkj;simp only[aC hkj];refine ⟨by omega,by omega,?_,λs=>?_⟩
    .intro s;simp only[ax hk,ax hkc,aC hkj];obtain⟨k',e',r⟩:=q3 s;refine ⟨k',e',.inr ?_⟩;rcases r with r|⟨r1,r2,r3⟩
     .rw[r,ax (by omega),ax (by omega),ax (xL _)];exact⟨by omega,by omega,by omega⟩
     .rw[ax (by omega),ax (by omega),aC r2];exact⟨by omega,by omega,by omega⟩
    .refine .inr ?_;rw[ax (by omega),ax (by omega)];by_cases hb:k+1<j
     .rw[aC hb];rcases q4 s with r|r<;>omega
     .rw[ax hb];omega
   .have hkj:k=j:=by omega
    subst hkj;simp only[ax (xL _)];refine ⟨by omega,by omega,λ_=>⟨a,U,.inr ⟨bX _,by omega,?_⟩⟩,λs=>by rw[hj]at s;omega⟩;simp only[ax hk,ax hkc,ax (xL _)];by_cases z:a<c
    .rw[aC z];have:=(h2 a (bX _) z).2.1;omega
    .rw[ax z,aC (by omega)];omega
def OB (nT:Nat) (i:IT):Prop:=
 if i.1=6 then 0<=i.2.2.1/\i.2.2.1<=2 else if i.1=8 then 0<=i.2.1/\i.2.1<=2 else if i.1=7 then i.2.2.1=3/\i.2.2.2.2.1=2 else if i.1=9 then i.2.1=3/\i.2.2.2.2.1=2 else if i.1=11\/i.1=12 then i.2.1=0\/i.2.1=1 else if 13<=i.1/\i.1<=16 then i.2.1=2 else if 21<=i.1/\i.1<=23 then i.2.1=0 else if i.1=24\/i.1=25 then 0<=i.2.1/\i.2.1<(nT:Int) else if i.1=26 then i.2.1=0 else if i.1=27 then i.2.2.1=0 else if i.1=4 then 6<=i.2.2.2.2.1/\i.2.2.2.2.1<=18 else ¬i.1=3
structure GO (nT:Nat) (i:IT):Prop where
 o1:1<=i.1
 o2:i.1<=27
 r:∀j:Int,j∈iY i->0<=j/\j<32
 b:OB nT i
def SO (ss:Y π) (t s:Int):Prop:=0<=s/\s<ss.length/\(aI (T:=yJ) ss s).1=t
structure GI (nT:Nat) (ss:List π) (t:Int) (i:IT):Prop where
 o:GO nT i
 s:SO ss t i.2.2.2.2.2
theorem VG (l:Y IT) (hl:l.length<=1000000) (h1:1<=l.length) (hb:rD l 0 (l.length-1)) (he:(iA l (l.length-1)).1=28) (k:Nat) (hk:k<l.length):pV (l,(k:Int))=M J:=by
 obtain⟨_,ρ,hρ⟩:=hb;refine b_ ?_;unfold pV be bx iR bD aX cR aD cL;refine qM (λx=>((l.length:Int)+1-x.2).toNat) (λx=>0<=x.2/\∃q:Nat,x.1=(q:Int)/\q<l.length/\((if q<l.length-1 then ρ q else 0:Nat):Int)+x.2<=(l.length:Int)) ?_ ⟨by dsimp only;omega,k,rfl,hk,?_⟩
 .rintro⟨a,(n:Int)⟩ ⟨n0,q,e,hq,hr⟩;dsimp only at n0 e hr;subst e;refine eO (λ_=>?_) λg=>(by dsimp only[ak]at g;omega)
  refine gL ?_;refine gL (bL (λg=>by dsimp only at g;omega) λ_=>aj ?_);refine gd (by rw[mB];dsimp only[ak];omega) ?_;refine cg (aT ?_);refine aR (Gf _) ?_;refine dS (λ_=>aj rfl) λhs=>?_
  have hs:1<=(iA l q).1/\(iA l q).1<=5:=bf hs;have z:q<l.length-1:=wq λh=>by rw[show q=l.length-1 by omega]at hs;rw[he]at hs;omega
  obtain⟨r1,r2,r3,Z⟩:=hρ q (iK _) z;rw[aC z]at hr;refine cg (aT ?_);have fin:∀s:Nat,s=l.length-1\/s<l.length-1/\ρ s<ρ q->0<=n+1/\∃A:Nat,(s:Int)=(A:Int)/\A<l.length/\((if A<l.length-1 then ρ A else 0:Nat):Int)+(n+1)<=(l.length:Int):=λs h=>⟨by omega,s,rfl,by omega,by
   rcases h with h|⟨h,h'⟩
   .rw[ax (by omega)];omega
   .rw[aC h];omega⟩
  refine aK (λL=>?_) λL=>aj (aj ?_)
  .obtain⟨s,e,U⟩:=r3 L;refine aP (ec _) (by dsimp only;omega) (aT (aj (aj ?_)));dsimp only;rw[iz (n:=n+1) (by omega) (by omega)];have:=fin s (U.imp id λh=>⟨h.2.1,h.2.2⟩);rw[<- e]at this;exact⟨this,by omega⟩
  .dsimp only;have L:¬(iA l q).1=5:=L;rw[iz (n:=n+1) (by omega) (by omega),gH (by omega)];refine ⟨fin (q+1) ?_,by omega⟩;rcases Z (by omega) with h|h
   .exact .inl h
   .by_cases hb:q+1=l.length-1
    .exact .inl hb
    .exact .inr ⟨by omega,h⟩
 .dsimp only;split
  .rename_i h;have:=(hρ k (iK _) h).2.1;omega
  .omega
theorem LH (w:WT) (a:w.1=C0):nR (w,3,2)=M J:=by
 refine b_ ?_;have h0:(0:Int)<=3:=by decide
 have h1:(3:Int)<(w.1.length:Int):=by rw[a];decide
 have s:aI (T:=O_) w.1 3=([113],0,2,af,0):=by rw[a];rfl
 unfold nR be jw bD aX aD;refine gL (aR (sM _ _) (aK (λ_=>?_) λh=>(h ⟨h0,h1⟩).elim));dsimp only;rw[s];refine aP h0 h1 (aT (aK (λ_=>?_) λh=>(h rfl).elim));refine aP h0 h1 (aT (cq (λ_=>?_) λh=>ca h (by decide)));exact aP h0 h1 (aT (aj (aj rfl)))
theorem Pq {nT:Nat} (w:WT) (i:IT) (hw:WX w) (hT:w.2.2.2.2.1.length=nT) (hb:OB nT i):mf (w,i)=M J:=by
 obtain⟨hc,hl,hd,hf,_,_,_⟩:=hw;refine b_ ?_;unfold mf aY bi bu cF dZ be iR bD aX aD;unfold OB at hb;simp only[sM,Yh];refine aK (λh=>?_) λn6=>?_
 .rw[aC h]at hb;have s:(aI (T:=O_) w.1 i.2.2.1).2.2.1=(0:Int):=by
   rw[hc];rcases (by omega:i.2.2.1=0\/i.2.2.1=1\/i.2.2.1=2) with h|h|h<;>rw[h]<;>rfl
  have hi:0<=i.2.2.1/\i.2.2.1<(w.1.length:Int):=⟨hb.1,by rw[hc];have:=hb.2;show i.2.2.1<5;omega⟩
  exact gL (aK (λ_=>aP hi.1 hi.2 (aT (aj (aj (aS s))))) λh=>(h hi).elim)
 rw[ax n6]at hb;refine aK (λh=>?_) λU=>?_
 .rw[aC h]at hb;have s:(aI (T:=O_) w.1 i.2.1).2.2.1=(0:Int):=by
   rw[hc];rcases (by omega:i.2.1=0\/i.2.1=1\/i.2.1=2) with h|h|h<;>rw[h]<;>rfl
  have hi:0<=i.2.1/\i.2.1<(w.1.length:Int):=⟨hb.1,by rw[hc];have:=hb.2;show i.2.1<5;omega⟩
  exact gL (aK (λ_=>aP hi.1 hi.2 (aT (aj (aj (aS s))))) λh=>(h hi).elim)
 rw[ax U]at hb;refine aK (λh=>?_) λZ=>?_
 .rw[aC h]at hb;rw[hb.1,hb.2];exact aR (LH w hc) (aj rfl)
 rw[ax Z]at hb;refine aK (λh=>?_) λL=>?_
 .rw[aC h]at hb;rw[hb.1,hb.2];exact aR (LH w hc) (aj rfl)
 rw[ax L]at hb;refine aV (λx=>x.2=(w,i)/\(x.1=J↔i.1=11\/i.1=12)) (aK (λh=>aj ⟨rfl,λ_=>.inl h,λ_=>aS h⟩) λh=>aj ⟨rfl,λh2=>.inr (bf h2),λh2=>aS (h2.resolve_left h)⟩) ?_;rintro⟨b,x⟩ ⟨e,z⟩;dsimp only at e z;subst e;refine aO (λh=>?_) λh=>?_
 .rw[aC (z.1 h)]at hb;have s:(aI (T:=Vc) w.2.1 i.2.1).2=af:=by
   rw[hl];rcases hb with h|h<;>rw[h]<;>rfl
  have hi:0<=i.2.1/\i.2.1<(w.2.1.length:Int):=⟨by omega,by rw[hl];show i.2.1<3;omega⟩
  exact gL (aK (λ_=>aP hi.1 hi.2 (aT (aj (aj (by dsimp only;rw[s];rfl))))) λh=>(h hi).elim)
 rw[ax λh2=>by rw[z.2 h2]at h;cases h]at hb;have hj:∀{p:Prop} {b:Bool},(b=J->p)->(p->b=J)->b=af->¬p:=λ_ h2 A a=>by rw[h2 a]at A;cases A
 refine aV (λx=>x.2=(w,i)/\(x.1=J->13<=i.1/\i.1<=16)/\(13<=i.1/\i.1<=16->x.1=J)) (aK (λh=>aj ⟨rfl,λ_=>by first|omega|(dsimp only at h;omega),λ_=>aS h⟩) λ_=>aK (λh=>aj ⟨rfl,λ_=>by first|omega|(dsimp only at h;omega),λ_=>aS h⟩) λ_=>aK (λh=>aj ⟨rfl,λ_=>by first|omega|(dsimp only at h;omega),λ_=>aS h⟩) λ_=>aj ⟨rfl,λh=>by have:=bf h;first|omega|(dsimp only at this;omega),λh=>aS (by first|omega|(dsimp only at *;omega))⟩) ?_;rintro⟨b,x⟩ ⟨e,h1,h2⟩;dsimp only at e h1 h2;subst e;refine aO (λh=>?_) λh=>?_
 .rw[aC (h1 h)]at hb;have hi:0<=i.2.1/\i.2.1<(w.2.1.length:Int):=⟨by omega,by rw[hl];show i.2.1<3;omega⟩
  exact gL (aK (λ_=>aP hi.1 hi.2 (aT (aj (aj (by dsimp only;rw[hb,hl];rfl))))) λh=>(h hi).elim)
 rw[ax (hj h1 h2 h)]at hb;refine aV (λx=>x.2=(w,i)/\(x.1=J->21<=i.1/\i.1<=23)/\(21<=i.1/\i.1<=23->x.1=J)) (aK (λh=>aj ⟨rfl,λ_=>by first|omega|(dsimp only at h;omega),λ_=>aS h⟩) λ_=>aK (λh=>aj ⟨rfl,λ_=>by first|omega|(dsimp only at h;omega),λ_=>aS h⟩) λ_=>aj ⟨rfl,λh=>by have:=bf h;first|omega|(dsimp only at this;omega),λh=>aS (by first|omega|(dsimp only at *;omega))⟩) ?_;rintro⟨b,x⟩ ⟨e,h1,h2⟩;dsimp only at e h1 h2;subst e;refine aO (λh=>?_) λh=>?_
 .rw[aC (h1 h)]at hb;exact aj (aS ⟨by dsimp only;omega,by dsimp only;rw[hd];show i.2.1<1;omega⟩)
 rw[ax (hj h1 h2 h)]at hb;refine aV (λx=>x.2=(w,i)/\(x.1=J->i.1=24\/i.1=25)/\(i.1=24\/i.1=25->x.1=J)) (aK (λh=>aj ⟨rfl,λ_=>.inl h,λ_=>aS h⟩) λh=>aj ⟨rfl,λh2=>.inr (bf h2),λh2=>aS (h2.resolve_left h)⟩) ?_;rintro⟨b,x⟩ ⟨e,h1,h2⟩;dsimp only at e h1 h2;subst e;refine aO (λh=>?_) λh=>?_
 .rw[aC (h1 h)]at hb;exact aj (aS ⟨hb.1,by dsimp only;rw[hT];exact hb.2⟩)
 rw[ax (hj h1 h2 h)]at hb;refine aK (λh=>?_) λn=>?_
 .rw[aC h]at hb;exact aj (aS ⟨by dsimp only;omega,by dsimp only;rw[hf];show i.2.1<1;omega⟩)
 rw[ax n]at hb;refine aK (λh=>?_) λn=>?_
 .rw[aC h]at hb;exact aj (aS ⟨by dsimp only;omega,by dsimp only;rw[hf];show i.2.2.1<1;omega⟩)
 rw[ax n]at hb;by_cases a:i.1=4
 .rw[aC a]at hb;refine aK (λh=>by have h:i.1=3:=h;omega) λ_=>aK (λ_=>?_) λh=>(h a).elim
  refine gL (eO (λ_=>aj (aj (PH.2 hb.2))) λh=>by dsimp only at h;omega)
 .rw[ax a]at hb;exact aK (λh=>(hb h).elim) λ_=>aK (λh=>(a h).elim) λ_=>aj rfl
structure GC (nT:Nat) (ss:List π) (k:Int) (c:Int×List IT):Prop where
 r0:1<=c.1
 r1:c.1<=32
 n:1<=c.2.length
 u:c.2.length<=1000000
 e:(iA c.2 (c.2.length-1)).1=28/\(iA c.2 (c.2.length-1)).2.2.2.2.2= -1
 b:rD c.2 0 (c.2.length-1)
 i:∀q:Nat,q<c.2.length-1->GI nT ss k (iA c.2 q)
 r:∀q:Nat,q<c.2.length-1->(iA c.2 q).1=10->0<=(iA c.2 q).2.2.1/\(iA c.2 q).2.2.1<(c.2.length:Int)
 g:∀q:Nat,q<c.2.length-1->∀j:Int,j∈iY (iA c.2 q)->j<c.1
theorem E3 {nT:Nat} {w:WT} {k:Int} {c:Int×Y IT} (hw:WX w) (hT:w.2.2.2.2.1.length=nT) (hc:GC nT w.2.2.2.2.2 k c):iD (w,k,c)=M J:=by
 obtain⟨r0,r1,n1,hu,he,hb,hi,hr,hg⟩:=hc;refine b_ ?_;unfold iD aY bi bu cF bO cY qJ be bx jw bD aX cR aD cL;refine aV (λx=>x.2=(w,c)/\x.1=af) ?_ ?_
 .refine bL (λh=>by have h:c.1<0:=h;omega) λ_=>bL (λh=>by have h:32<c.1:=h;omega) λ_=>aj ⟨rfl,bB λh=>by have h:aM c.2.length=0:=h;dsimp only[ak]at h;omega⟩
 rintro⟨b,x⟩ ⟨e,hb'⟩;dsimp only at e hb';subst e;subst hb';refine dy ?_;refine b7 c.2.length (λi x=>x.1=(i:Int)/\x.2=(w,c)) ?_ ?_ ⟨rfl,rfl⟩
 .rintro i ⟨a,x⟩ hi2 ⟨e1,e2⟩;dsimp only at e1 e2;subst e1;subst e2;have hla:=VG c.2 hu n1 hb he.1 i hi2;have hz:∀z:IT,z=iA c.2 i->(i<c.2.length-1->GI nT w.2.2.2.2.2 k z/\(z.1=10->0<=z.2.2.1/\z.2.2.1<(c.2.length:Int))/\(z.1=5->0<=z.2.1/\z.2.1<(c.2.length:Int))/\∀j:Int,j∈iY z->j<c.1)/\(i=c.2.length-1->z.1=28/\z.2.2.2.2.2= -1):=λz hz=>by
   subst hz;refine ⟨λh=>⟨hi i h,hr i h,λh5=>?_,hg i h⟩,λh=>by rw[h];exact he⟩;obtain⟨_,ρ,hρ⟩:=hb;obtain⟨q',e,hq'⟩:=(hρ i (iK _) h).2.2.1 h5;rw[e];omega
  refine du ?_;refine cg (aT ?_);generalize hzz:(aI (T:=Cg) c.2 (i:Int))=z;obtain⟨A,L⟩:=hz z hzz.symm;have hcs:i<c.2.length-1\/i=c.2.length-1:=by omega
  have o1:1<=z.1:=by
   rcases hcs with h|h
   .exact (A h).1.o.o1
   .rw[(L h).1];decide
  have o2:z.1<=28:=by
   rcases hcs with h|h
   .exact Int.le_trans (A h).1.o.o2 (by decide)
   .rw[(L h).1];decide
  have U:z.1=28->i=c.2.length-1:=λh=>hcs.resolve_left λg=>by have:=(A g).1.o.o2;rw[h]at this;exact ca this (by decide)
  have hob:OB nT z:=by
   rcases hcs with h|h
   .exact (A h).1.o.b
   .unfold OB;rw[(L h).1];simp
  have hrg:∀j:Int,j∈iY z->0<=j/\j<c.1:=λj hj=>by
   rcases hcs with h|h
   .exact⟨((A h).1.o.r j hj).1,(A h).2.2.2 j hj⟩
   .unfold iY at hj;rw[(L h).1]at hj;simp at hj
  have hwr:bm .i64 (aM c.2.length-1)=((c.2.length-1:Nat):Int):=by rw[iz (by dsimp only[ak];omega) (by dsimp only[ak];omega)];dsimp only[ak];omega
  have hcd:((decide (z.1=28)==decide ((i:Int)=bm .i64 (aM c.2.length-1))) !=J)=af:=by
   rw[hwr];rcases hcs with h|h
   .rw[bB λh2=>by have:=U h2;omega,bB (by omega:¬(i:Int)=((c.2.length-1:Nat):Int))];rfl
   .rw[aS (L h).1,aS (by omega:(i:Int)=((c.2.length-1:Nat):Int))];rfl
  refine aV (λx=>x=(af,w,c,z)) ?_ ?_
  .refine bL (λh=>ca h (C3.2 o1)) λ_=>bL (λh=>ca h (C3.2 o2)) λ_=>gd hcd ?_
   refine aR (Pq w z hw hT hob) (gd rfl (aR hla (aj rfl)))
  rintro x rfl;refine dy (aV (λx=>x=(af,w,c,z)) ?_ ?_)
  .simp only[sM,Yh];refine aK (λh=>?_) λh=>?_
   .have h5:=(L (U h)).2;exact cq (λg=>(g h5).elim) λ_=>cq (λg=>(g h).elim) λ_=>aj rfl
   .have hsi:=(A (hcs.resolve_right λg=>h (L g).1)).1.s;refine cq (λ_=>cq (λg=>(g ⟨hsi.1,hsi.2.1⟩).elim) λg=>aP g.1 g.2 (aT (aj ?_))) λg=>(h g).elim
    rw[aS hsi.2.2];rfl
  rintro x rfl;refine dy (aV (λx=>x=(af,w,c,z)) ?_ ?_)
  .simp only[sM,Yh];have Z:z.1=5\/z.1=10->i<c.2.length-1:=λh=>hcs.resolve_right λg=>by rw[(L g).1]at h;exact ca h (by decide)
   refine aK (λh=>?_) λh=>?_
   .have h2:=(A (Z (.inl h))).2.2.1 h;refine cq (λg=>(g h2).elim) λ_=>aK (λg=>?_) λ_=>aj rfl
    rw[h]at g;exact ca g (by decide)
   .refine aK (λg=>aj ?_) λ_=>aj rfl
    have h2:=(A (Z (.inr g))).2.1 g;rw[aS (show 0<=z.2.2.1/\z.2.2.1<aM c.2.length from h2)];rfl
  rintro x rfl;refine dy (aR (uu z) ?_);have hrl:=Dl z;refine b7 (iY z).length (λj x=>x=((j:Int),w,c)) ?_ ?_ rfl
  .rintro j x hj rfl;refine du ?_;refine cg (aT ?_);refine aR (sM _ _) (cq (λg=>(g (hrg _ (bN (T:=.int .i64) (xs:=iY z) (j:=(j:Int)) (by omega) (by omega)))).elim) λ_=>aj ?_);dsimp only;rw[gH (by omega)]
  .rintro x rfl;exact dv (aj ⟨gH (by omega),rfl⟩)
 .rintro⟨a,x⟩ ⟨e1,e2⟩;dsimp only at e1 e2;subst e1;subst e2;exact dv (aj rfl)
abbrev GN:Type:=Y (ζ×Int×Int×Bool×Int)×Y (ζ×Bool)×Y (ζ×Int)×Y ζ×Y ζ×Y π×Y ζ×Int×Int
theorem NR (l:Y (ζ×Bool)) (s:ζ) (hl:l.length<=1000):Ok (kC (l,s)) λr=> -1<=r/\r<l.length/\(0<=r->(aI (T:=Vc) l r).1=s)/\(r<0->∀c∈l,c.1≠s):=by
 unfold kC bx bD aX cR aD cL;refine b7 l.length (λi x=>x=(i:Int)/\∀k:Nat,k<i->(aI (T:=Vc) l (k:Int)).1≠s) ?_ ?_ ⟨rfl,λk hk=>by omega⟩
 .rintro i x hi ⟨rfl,a⟩;refine du ?_;refine cg (aT ?_);refine aK (λh=>aj ⟨by omega,by omega,λ_=>h,λh=>by omega⟩) λh=>aj ⟨gH (by omega),λk hk=>?_⟩
  rcases ci k i with h1|h1
  .exact a k h1
  .rw[show k=i by omega];exact h
 .rintro x ⟨rfl,a⟩;exact dv (aj ⟨by omega,by omega,λh=>by omega,λ_=>iG (T:=Vc) (p:=λc=>c.1≠s) a⟩)
theorem ak8 {r:Int} {s:ζ} (h: -1<=r/\r<HJ.length/\(0<=r->(aI (T:=Vc) HJ r).1=s)/\(r<0->∀c∈HJ,c.1≠s)):(s=[109]->r=0)/\(s=[110]->r=1)/\(s=[114]->r=2):=by
 obtain⟨h0,h1,h2,a⟩:=h;have h1:r<3:=h1;rcases (by omega:r= -1\/r=0\/r=1\/r=2) with rfl|rfl|rfl|rfl
 .have a:=a (by decide);exact⟨λh=>(a ([109],af) (by decide) h.symm).elim,λh=>(a ([110],af) (by decide) h.symm).elim,λh=>(a ([114],J) (by decide) h.symm).elim⟩
 .have h2:[109]=s:=h2 (by decide);subst h2;exact⟨λ_=>rfl,λh=>(by cases h),λh=>(by cases h)⟩
 .have h2:[110]=s:=h2 (by decide);subst h2;exact⟨λh=>(by cases h),λ_=>rfl,λh=>(by cases h)⟩
 .have h2:[114]=s:=h2 (by decide);subst h2;exact⟨λh=>(by cases h),λh=>(by cases h),λ_=>rfl⟩
theorem Bc (w:WT) (s:ζ) (A:w.1=C0):Ok (lU (w,s)) λr=>(s∈NV->s∉L0->0<=r/\r<=2)/\(s=[113]->r=3):=by
 have hl:w.1.length=5:=by rw[A];rfl
 unfold lU bx bD aX cR aD cL;refine b7 w.1.length (λi x=>x.1=(i:Int)/\x.2=w/\∀k:Nat,k<i->(aI (T:=O_) w.1 (k:Int)).1≠s) ?_ ?_ ⟨rfl,rfl,λk hk=>by omega⟩
 .rintro i ⟨a,x⟩ hi ⟨e1,e2,e3⟩;dsimp only at e1 e2 e3;subst e1;have e2:=e2.symm;subst e2;refine du ?_;refine cg (aT ?_);refine aK (λh=>aj ?_) λg=>aj ?_
  .rw[A]at h e3;rw[hl]at hi;rcases (by omega:i=0\/i=1\/i=2\/i=3\/i=4) with rfl|rfl|rfl|rfl|rfl
   .have h:[120]=s:=h;subst h;exact⟨λ_ _=>⟨by dsimp only;omega,by dsimp only;omega⟩,λh=>(by cases h)⟩
   .have h:[121]=s:=h;subst h;exact⟨λ_ _=>⟨by dsimp only;omega,by dsimp only;omega⟩,λh=>(by cases h)⟩
   .have h:[118]=s:=h;subst h;exact⟨λ_ _=>⟨by dsimp only;omega,by dsimp only;omega⟩,λh=>(by cases h)⟩
   .have h:[113]=s:=h;subst h;exact⟨λh=>ca h (by decide),λ_=>rfl⟩
   .have h:[113]=s:=h;exact (e3 3 (by omega) h).elim
  .refine ⟨gH (by omega),rfl,λk hk=>?_⟩;rcases ci k i with h1|h1
   .exact e3 k h1
   .rw[show k=i by omega];exact g
 .rintro⟨a,x⟩ ⟨e1,e2,e3⟩;dsimp only at e1 e2 e3;subst e1;have e2:=e2.symm;subst e2;refine dv (aj ?_);have hn:=iG (T:=O_) (p:=λc=>c.1≠s) e3;rw[A]at hn;have a1:=hn ([120],0,0,af,0) (by decide);have a2:=hn ([121],0,0,af,1) (by decide);have a3:=hn ([118],0,0,J,0) (by decide);have L:=hn ([113],0,2,af,0) (by decide);refine ⟨λh z=>?_,λh=>(L h.symm).elim⟩;simp only[bl,cG,gq,L0]at h z;rcases h with rfl|rfl|rfl|rfl|rfl
  .exact (z (.inl rfl)).elim
  .exact (z (.inr rfl)).elim
  .exact (a1 rfl).elim
  .exact (a2 rfl).elim
  .exact (a3 rfl).elim
theorem Jh (i:IT) (g:GN) (out:Y IT) (h:out.length<=100000000):Ok (cN (i,g,out)) λy=>y.1=g/\y.2=out++[(i.1,i.2.1,i.2.2.1,i.2.2.2.1,i.2.2.2.2.1,g.2.2.2.2.2.2.2.1)]:=by
 unfold cN aY bi bu kY bC;exact bd (by simp;omega) (by omega) (aj ⟨rfl,rfl⟩)
def VE:Nat->Nat
 |0=>0
 |d+1=>1+2*VE d
theorem JN {l m:Y IT} {k:Nat} (h:k<l.length):iA (l++m) k=iA l k:=by
 unfold iA;rw[Ab,Ab,av,av,bR h]
theorem x_ (l:Y IT) (x:IT):iA (l++[x]) l.length=x:=by
 unfold iA;rw[Ab,av,cj (bX _)];simp
structure QC (nT:Nat) (ss:List π) (t:Int) (n:Nat) (out o:List IT):Prop where
 l:out.length<=o.length
 u:o.length<=out.length+n
 p:∀k:Nat,k<out.length->iA o k=iA out k
 b:rD o out.length o.length
 i:∀k:Nat,out.length<=k->k<o.length->GI nT ss t (iA o k)
 r:∀k:Nat,out.length<=k->k<o.length->(iA o k).1=10->0<=(iA o k).2.2.1/\(iA o k).2.2.1<=(o.length:Int)
variable {nT:Nat} {ss:Y π} {t:Int}
theorem QC.nil (n:Nat) (out:Y IT):QC nT ss t n out out:=⟨bX _,by omega,λ_ _=>rfl,rD.nil _ _,λk h1 h2=>by omega,λk h1 h2=>by omega⟩
theorem QC.trans {a b c:Nat} {x y z:Y IT} (h:QC nT ss t a x y) (k:QC nT ss t b y z) (hc:a+b<=c):QC nT ss t c x z:=by
 obtain⟨h1,h2,h3,h4,h5,h6⟩:=h;obtain⟨k1,k2,s,k4,k5,Z⟩:=k;refine ⟨by omega,by omega,λq hq=>(s q (by omega)).trans (h3 q hq),(h4.congr λq _ hq=>s q hq).app k4,λq U L=>?_,λq U L A=>?_⟩
 .by_cases hq:q<y.length
  .rw[s q hq];exact h5 q U hq
  .exact k5 q (by omega) L
 .by_cases hq:q<y.length
  .rw[s q hq]at A ⊢;have:=h6 q U hq A;omega
  .exact Z q (by omega) L A
theorem QC.one {out:Y IT} {i:IT} (h:GI nT ss t i) (a:¬i.1=5/\¬i.1=10):QC nT ss t 1 out (out++[i]):=by
 have hl:(out++[i]).length=out.length+1:=by rw[bg];rfl
 refine ⟨by omega,by omega,λk hk=>JN hk,?_,λk h1 h2=>?_,λk h1 h2 s=>?_⟩
 .rw[hl];exact rD.one (by rw[x_];exact a.1)
 .rw[show k=out.length by omega,x_];exact h
 .rw[show k=out.length by omega,x_]at s;exact (a.2 s).elim
structure GK (ss:List π) (t:Int) (g:GN):Prop where
 c:g.1=C0
 l:g.2.2.2.2.2.2.1=L0
 s:SO ss t g.2.2.2.2.2.2.2.1
theorem ZP {nT:Nat} {op A B C N Z:Int} (h1:1<=op) (h2:op<=27) (hr:∀j:Int,j∈iY (op,A,B,C,N,Z)->0<=j/\j<32) (hb:OB nT (op,A,B,C,N,Z)):GO nT (op,A,B,C,N,Z):=⟨h1,h2,hr,hb⟩
theorem E_ {op:Int} {r:υ} {g:GN} {out:Y IT} (h:out.length<=100000000) (hg:GK ss t g) (hi:GO nT (op,r)) (z:¬op=5/\¬op=10):Ok (cN ((op,r),g,out)) λy=>y.1=g/\QC nT ss t 1 out y.2:=(Jh (op,r) g out h).mono λy a=>⟨a.1,by rw[a.2];exact QC.one ⟨⟨hi.o1,hi.o2,hi.r,hi.b⟩,hg.s⟩ z⟩
theorem N6:∀(n d:Nat),d<n->∀(e:Xp) (k:Int) (g:GN) (out:Y IT),GE d e->GK ss t g->0<=k->k+d<=31->out.length+VE d<=100000000->Ok (iU n ((e,k),g,out)) λy=>y.1=g/\QC nT ss t (VE d) out y.2
 |0,_,h,_,_,_,_,_,_,_,_,_=>by omega
 |n+1,0,_,e,_,_,_,h,_,_,_,_=>h.elim
 |n+1,d+1,hn,e,k,g,out,h,hg,k0,k1,hb=>by
  obtain⟨h1,h2,h3,h4,h5,h6⟩:=h;obtain⟨Z,gl,gs⟩:=id hg;have hv:VE (d+1)=1+2*VE d:=rfl;rw[Bq];unfold ri aY bi bu cF dZ be iR bC bD aD cL;refine aV (λy=>y.1=g/\QC nT ss t (VE (d+1)) out y.2) ?_ λx hx=>aj hx
  have fin:∀{y:GN×Y IT},(y.1=g/\QC nT ss t 1 out y.2)->y.1=g/\QC nT ss t (VE (d+1)) out y.2:=λh=>⟨h.1,(QC.nil 0 out).trans h.2 (by omega)⟩
  refine aK (λ_=>?_) λn1=>?_
  .refine aw (E_ (nT:=nT) (by omega) hg (ZP (by decide) (by decide) (by simp[iY];omega) ((by decide:¬(1:Int)=3))) (by decide)) λy a=>bh (by simp) (aj (fin a))
  refine aK (λU=>?_) λU=>?_
  .refine aw (zj _ _ (by dsimp only;rw[gl];decide)) λv hv=>eO (λg0=>?_) λg0=>?_
   .have s:=hv.2.1;dsimp only at s g0;rw[gl]at s;have s:v<2:=s;refine aw (E_ (nT:=nT) (by omega) hg (ZP (by decide) (by decide) (by simp[iY];omega) ((by decide:¬(2:Int)=3))) (by decide)) λy a=>bh (by simp) (aj (fin a))
   .have s:=hv.2.2.2 g0;dsimp only at s;rw[gl]at s;refine aw (Bc _ _ Z) λv L=>?_
    have v2:=L.1 (h5 U) s;refine aw (E_ (nT:=nT) (by omega) hg (ZP (by decide) (by decide) (by simp[iY];omega) (v2)) (by decide)) λy a=>bh (by simp) (aj (fin a))
  have hl:=h2 n1 U;have hrec:∀(j:Nat),j<e.l.length->∀(k':Int) (o:Y IT),0<=k'->k'+d<=31->o.length+VE d<=100000000->Ok (iU n ((aI (T:=.ex) e.l (j:Int),k'),g,o)) λy=>y.1=g/\QC nT ss t (VE d) o y.2:=λj hj k' o q0 A ho=>N6 n d (by omega) _ k' g o (h4 _ (bN (T:=.ex) (xs:=e.l) (j:=(j:Int)) (by omega) (by omega))) hg q0 A ho
  refine aK (λn3=>?_) λn3=>?_
  .refine cg (aT ?_);refine aw (hrec 0 hl k out k0 (by omega) (by omega)) λy a=>?_
   obtain⟨g2,o2⟩:=y;obtain⟨A,z⟩:=a;dsimp only at A z;subst A;have q3:=z.u;refine bh (by simp) ?_;refine aw (Bc _ _ Z) λv L=>?_
   have v3:=L.2 (h1 n3);have v3:v=3:=v3;subst v3;refine aP (by decide) (by dsimp only;rw[Z];decide) (aT ?_);refine aw (E_ (nT:=nT) (by omega) hg (ZP (by decide) (by decide) (by simp[iY];omega) (⟨rfl,by dsimp only;rw[Z];rfl⟩)) (by decide)) λy a=>bh (by simp) (aj ⟨a.1,z.trans a.2 (by omega)⟩)
  obtain⟨h7,h8,h9⟩:=h6 n1 U n3;refine aK (λn4=>?_) λn4=>?_
  .dsimp only[ak]at n4;omega
  .have hl2:1<e.l.length:=by omega
   refine cg (aT ?_);refine aw (hrec 0 hl k out k0 (by omega) (by omega)) λy a=>?_
   obtain⟨g2,o2⟩:=y;obtain⟨A,z⟩:=a;dsimp only at A z;subst A;have q3:=z.u;refine bh (by simp) ?_;refine cg (aT ?_);dsimp only;rw[iz (n:=k+1) (by omega) (by omega)];refine aw (hrec 1 hl2 _ o2 (by omega) (by omega) (by omega)) λy a=>?_
   obtain⟨g3,o3⟩:=y;obtain⟨r1,r2⟩:=a;dsimp only at r1 r2;subst r1;have r3:=r2.u;refine bh (by simp) ?_;refine aw (E_ (nT:=nT) (by omega) hg (ZP (by decide) (by decide) (by simp[iY];omega) (⟨h8,h9⟩)) (by decide)) λy a=>bh (by simp) (aj ⟨a.1,(z.trans r2 (bX _)).trans a.2 (by omega)⟩)
theorem U' (e:Xp) (k:Int) (g:GN) (out:Y IT) (he:GE 4 e) (hg:GK ss t g) (a:0<=k) (k1:k<=27) (h:out.length<=99999900):Ok (iT ((e,k),g,out)) λy=>y.1=g/\QC nT ss t 15 out y.2:=N6 fuel 4 (by rw[kf];omega) e k g out he hg a (by omega) (by have:VE 4=15:=rfl;omega)
structure GB (nT:Nat) (g:GN):Prop where
 c:g.1=C0
 l:g.2.1=HJ
 d:g.2.2.1=Np
 f:g.2.2.2.1=UM
 t:g.2.2.2.2.1=wR.take nT
 h:g.2.2.2.2.2.2.1=L0
structure GQ (g y:GN):Prop where
 a:y.1=g.1
 b:y.2.1=g.2.1
 c:y.2.2.1=g.2.2.1
 d:y.2.2.2.1=g.2.2.2.1
 e:y.2.2.2.2.1=g.2.2.2.2.1
 h:y.2.2.2.2.2.2.1=g.2.2.2.2.2.2.1
theorem GQ.refl (g:GN):GQ g g:=⟨rfl,rfl,rfl,rfl,rfl,rfl⟩
theorem GQ.trans {a b c:GN} (h:GQ a b) (k:GQ b c):GQ a c:=⟨k.a.trans h.a,k.b.trans h.b,k.c.trans h.c,k.d.trans h.d,k.e.trans h.e,k.h.trans h.h⟩
variable {nT:Nat} {ss:Y π} {t:Int}
theorem GB.of {g y:GN} (h:GB nT g) (q:GQ g y):GB nT y:=⟨q.a.trans h.c,q.b.trans h.l,q.c.trans h.d,q.d.trans h.f,q.e.trans h.t,q.h.trans h.h⟩
theorem GQ.site (g:GN) (x:Y π) (a b:Int):GQ g (g.1,g.2.1,g.2.2.1,g.2.2.2.1,g.2.2.2.2.1,x,g.2.2.2.2.2.2.1,a,b):=⟨rfl,rfl,rfl,rfl,rfl,rfl⟩
abbrev gS (g:GN):Int:=g.2.2.2.2.2.2.2.1
abbrev gN (g:GN):Int:=g.2.2.2.2.2.2.2.2
structure QG (nT:Nat) (ss:List π) (t:Int) (n m:Nat) (g:GN) (out:List IT) (y:GN×List IT):Prop where
 q:GQ g y.1
 c:QC nT ss t n out y.2
 x:gN y.1=gN g+(m:Int)
theorem xU {op:Int} {r:υ} {g:GN} {out:Y IT} (h:out.length<=100000000) (hg:GB nT g) (hs:SO ss t (gS g)) (hi:GO nT (op,r)) (a:¬op=5/\¬op=10):Ok (cN ((op,r),g,out)) λy=>y.1=g/\QC nT ss t 1 out y.2:=E_ h ⟨hg.c,hg.h,hs⟩ hi a
theorem Da (e:Xp) (k:Int) (g:GN) (out:Y IT) (he:GE 4 e) (hg:GB nT g) (hs:SO ss t (gS g)) (a:0<=k) (k1:k<=27) (h:out.length<=99999000):Ok (iT ((e,k),g,out)) λy=>y.1=g/\QC nT ss t 15 out y.2:=U' e k g out he ⟨hg.c,hg.h,hs⟩ a k1 (by omega)
theorem GB.len {g:GN} (h:GB nT g):aM (ai g.2.2.2.2.2.2.1)=2:=by rw[h.h];rfl
theorem Xq (s:Sx) (g:GN) (out:Y IT) (h1:s.index≠[]->s.name=[113]) (h2:∀e∈s.index,GE 4 e) (h3:GE 4 s.expr) (h4:s.index=[]->s.name∈NV) (hg:GB nT g) (hs:SO ss t (gS g)) (h:out.length<=99990000):Ok (mw (s,g,out)) λy=>y.1=g/\QC nT ss t 40 out y.2:=by
 have hex:GE 4 (eD (Xp.op s.expr,Xp.n s.expr,Xp.name s.expr,Xp.l s.expr)):=by rw[fG];exact h3
 have e3:bm .i64 ((2:Int)+1)=3:=iz (by decide) (by decide);unfold mw aY bi bu cF dZ bx iR bC bD aX;refine bL (λz=>?_) λz=>?_
 .dsimp only[ak]at z;refine cg (aT ?_);refine aw (Da _ _ g out (h2 _ (bN (T:=.ex) (xs:=s.index) (j:=0) (by omega) (by omega))) hg hs (by rw[hg.len];decide) (by rw[hg.len];decide) (by omega)) λy a=>?_
  obtain⟨g2,o2⟩:=y;obtain⟨U,L⟩:=a;dsimp only at U L;subst U;have q3:=L.u;refine bh (by simp) ?_;dsimp only;rw[hg.len,e3];refine aw (Da _ _ g2 o2 hex hg hs (by decide) (by decide) (by omega)) λy a=>?_
  obtain⟨g3,o3⟩:=y;obtain⟨r1,r2⟩:=a;dsimp only at r1 r2;subst r1;have r3:=r2.u;refine bh (by simp) ?_;refine aw (Bc _ _ hg.c) λv hv=>?_
  have Z:=hv.2 (h1 (λh=>by rw[h]at z;simp at z));have Z:v=3:=Z;subst Z;refine aP (by decide) (by dsimp only;rw[hg.c];decide) (aT ?_);refine aw (xU (by omega) hg hs (ZP (by decide) (by decide) (by simp[iY,hg.h,L0]) (⟨rfl,by dsimp only;rw[hg.c];rfl⟩)) (by decide)) λy a=>bh (by simp) (aj ⟨a.1,(L.trans r2 (bX _)).trans a.2 (by omega)⟩)
 .have hi0:s.index=[]:=gY.1 (by dsimp only[ak]at z;omega);refine aw (Da _ _ g out hex hg hs (by rw[hg.len];decide) (by rw[hg.len];decide) (by omega)) λy a=>?_
  obtain⟨g2,o2⟩:=y;obtain⟨U,L⟩:=a;dsimp only at U L;subst U;have q3:=L.u;refine bh (by simp) ?_;refine aw (zj _ _ (by dsimp only;rw[hg.h];decide)) λv hv=>eO (λz=>?_) λz=>?_
  .have A:=hv.2.1;dsimp only at A z;rw[hg.h]at A;have A:v<2:=A;refine aw (xU (by omega) hg hs (ZP (by decide) (by decide) (by simp[iY,hg.h,L0];omega) ((by decide:¬(2:Int)=3))) (by decide)) λy a=>bh (by simp) (aj ⟨a.1,L.trans a.2 (by omega)⟩)
  .have A:=hv.2.2.2 z;dsimp only at A;rw[hg.h]at A;refine aw (Bc _ _ hg.c) λv hv2=>?_
   have v2:=hv2.1 (h4 hi0) A;refine aw (xU (by omega) hg hs (ZP (by decide) (by decide) (by simp[iY,hg.h,L0]) (v2)) (by decide)) λy a=>bh (by simp) (aj ⟨a.1,L.trans a.2 (by omega)⟩)
theorem aei (s:ζ) (g:GN) (out:Y IT) (hg:GB nT g):Ok (jI (s,g,out)) λy=>y.2=(g,out)/\(s=[99]->y.1=0):=by
 have hd:g.2.2.1.length=1:=by rw[hg.d];rfl
 unfold jI aY bx bD aX cR aD cL;refine b7 1 (λi x=>x.1=(i:Int)/\x.2=(g,out)/\(s=[99]->i=0)) ?_ ?_ ⟨rfl,rfl,λ_=>rfl⟩
 .rintro i ⟨a,x⟩ hi ⟨e1,e2,e3⟩;dsimp only at e1 e2 e3;subst e1;subst e2;refine du ?_;refine cg (aT ?_);refine aK (λ_=>aj ⟨rfl,λ_=>by dsimp only;omega⟩) λh=>aj ⟨gH (by omega),rfl,λh2=>?_⟩
  refine (h ?_).elim;dsimp only;rw[hg.d,show i=0 by omega,h2];rfl
 .rintro⟨a,x⟩ ⟨e1,e2,e3⟩;dsimp only at e1 e2 e3;subst e1;subst e2;exact dv (aj ⟨rfl,λh=>by have:=e3 h;omega⟩)
def ME:Nat->Nat
 |0=>0
 |d+1=>50+16*ME d
def SR (ss:Y π) (t a:Int) (m:Nat):Prop:=0<=a/\a+m<=1000/\∀i:Int,a<=i->i<a+m->SO ss t i
def SpG (nT:Nat) (ss:Y π) (t:Int) (a:Sx×GN×Y IT->I (GN×Y IT)) (d:Nat):Prop:=∀(s:Sx) (g:GN) (out:Y IT),GS nT d s->GB nT g->SR ss t (gN g) (Re d s)->out.length+ME d<=90000000->Ok (a (s,g,out)) (QG nT ss t (ME d) (Re d s) g out)
def afg (nT:Nat) (ss:Y π) (t:Int) (rs:Y Sx×GN×Y IT->I (GN×Y IT)) (d:Nat):Prop:=∀(l:Y Sx) (g:GN) (out:Y IT),l.length<=100->(∀s∈l,GS nT d s)->GB nT g->SR ss t (gN g) (og d l)->out.length+l.length*ME d<=90000000->Ok (rs (l,g,out)) (QG nT ss t (l.length*ME d) (og d l) g out)
abbrev FS6:Type:=Y Sx×GN×Y IT->I (GN×Y IT)
abbrev FT6:Type:=Sx×GN×Y IT->I (GN×Y IT)
abbrev FA6:Type:=(Sx×Int×Int×Int)×GN×Y IT->I (GN×Y IT)
variable {nT:Nat} {ss:Y π} {t:Int}
def amv (nT:Nat) (ss:Y π) (t:Int) (a:FT6) (d:Nat):Prop:=∀(s:Sx) (g:GN) (out:Y IT),s.op=2\/s.op=3->GE 4 s.expr->s.body.length<=8->s.els.length<=8->(∀x∈s.body,GS nT d x)->(∀x∈s.els,GS nT d x)->(¬s.op=2->s.els=[])->GB nT g->SO ss t (gS g)->SR ss t (gN g) (og d s.body+og d s.els)->out.length+ME (d+1)<=90000000->Ok (a (s,g,out)) (QG nT ss t (17+16*ME d) (og d s.body+og d s.els) g out)
def amw (nT:Nat) (ss:Y π) (t:Int) (ra:FA6) (d:Nat):Prop:=∀(s:Sx) (a b c:Int) (g:GN) (out:Y IT),s.body.length<=8->(∀x∈s.body,GS nT d x)->GO nT (a,c,0,0,0,0)->GO nT (b,c,0,0,0,0)->¬a=5/\¬a=10->¬b=5/\¬b=10->GB nT g->SO ss t (gS g)->SR ss t (gN g) (og d s.body)->out.length+ME (d+1)<=90000000->Ok (ra ((s,a,b,c),g,out)) (QG nT ss t (17+16*ME d) (og d s.body) g out)
theorem SR.sub {a b:Int} {m n:Nat} (h:SR ss t a m) (h1:a<=b) (h2:b+n<=a+m):SR ss t b n:=⟨by have:=h.1;omega,by have:=h.2.1;omega,λi z s=>h.2.2 i (by omega) (by omega)⟩
theorem Wn (rs:FS6) (L:FT6) (Z:FT6) (ra:FA6) (d:Nat) (ht:SpG nT ss t L d):afg nT ss t (rj rs L Z ra) d:=by
 intro l g out hl hs hg hso hb;unfold rj bx bC bD aX cR aD cL;refine b7 l.length (λi x=>x.1=(i:Int)/\QG nT ss t (i*ME d) (og d (l.take i)) g out x.2) ?_ ?_ ⟨rfl,GQ.refl g,QC.nil _ _,by simp[og]⟩
 .rintro i ⟨a,U,o2⟩ hi ⟨e1,z,s,q3⟩;dsimp only at e1 z s q3;subst e1;have hK:(i+1)*ME d<=l.length*ME d:=cQ _ (by omega);have hKs:=jb i (ME d);rw[Nat.succ_eq_add_one]at hKs;have hp:=QE (d:=d) l (i+1);rw[xA hi]at hp;have q4:=s.u;refine du ?_;refine cg (aT ?_);refine aw (ht _ U o2 (hs _ (bN (T:=.sm) (xs:=l) (j:=(i:Int)) (by omega) (by omega))) (hg.of z) (hso.sub (by rw[q3];omega) (by rw[q3];dsimp only;omega)) (by omega)) λy A=>bh (by simp) (aj ?_)
  rw[xA hi];exact⟨gH (by omega),z.trans A.q,s.trans A.c (by omega),by rw[A.x,q3];dsimp only;omega⟩
 .rintro⟨a,U,o2⟩ ⟨e1,q⟩;dsimp only at e1;subst e1;rw[cP]at q;exact dv (aj q)
theorem SE (rs:FS6) (rt:FT6) (rb:FT6) (ra:FA6) (d:Nat) (hS:afg nT ss t rs d):amw nT ss t (pB rs rt rb ra) d:=by
 intro s a b c g out h1 h2 ga gb na nb hg hs hso hb;have hm:ME (d+1)=50+16*ME d:=rfl;have kb:s.body.length*ME d<=8*ME d:=cQ _ h1;unfold pB aY bi bu cF dZ kY bO qJ bC;refine aw (xU (by omega) hg hs ga na) λy z=>?_
 obtain⟨g2,o2⟩:=y;obtain⟨Z,A⟩:=z;dsimp only at Z A;subst Z;have q3:=A.u;refine bh (by simp) ?_;refine aw (hS s.body g2 o2 (by omega) h2 hg hso (by omega)) λy z=>?_
 obtain⟨L,o3⟩:=y;obtain⟨r1,r2,r3⟩:=z;dsimp only at r1 r2 r3;have r4:=r2.u;refine bh (by simp) ?_;have U:=r1.trans (GQ.site L L.2.2.2.2.2.1 g2.2.2.2.2.2.2.2.1 L.2.2.2.2.2.2.2.2);refine aw (xU (by dsimp only;omega) (hg.of U) hs gb nb) λy z=>bh (by simp) (aj ⟨?_,?_,?_⟩)
 .rw[z.1];exact U
 .exact (A.trans r2 (bX _)).trans z.2 (by omega)
 .rw[z.1];exact r3
theorem zX {l:Y IT} {j k:Nat} {x:IT} (h:j<l.length):iA (cK l (j:Int) x) k=if k=j then x else iA l k:=J_ (T:=Cg) l j k x h
abbrev ptB (l:Y IT) (j:Nat) (b:Int):Y IT:=cK l (j:Int) ((iA l j).1,(iA l j).2.1,b,(iA l j).2.2.2.1,(iA l j).2.2.2.2.1,(iA l j).2.2.2.2.2)
abbrev ptA (l:Y IT) (j:Nat) (a:Int):Y IT:=cK l (j:Int) ((iA l j).1,a,(iA l j).2.2.1,(iA l j).2.2.2.1,(iA l j).2.2.2.2.1,(iA l j).2.2.2.2.2)
theorem GI.pb {i:IT} {b:Int} (h:GI nT ss t i) (h1:i.1=10):GI nT ss t (i.1,i.2.1,b,i.2.2.2.1,i.2.2.2.2.1,i.2.2.2.2.2):=by
 obtain⟨Z,U,L,A,z,a⟩:=i;dsimp only at h1;subst h1;exact⟨⟨h.o.o1,h.o.o2,h.o.r,(by decide:¬(10:Int)=3)⟩,h.s⟩
theorem QC.cbr {n m:Nat} {out o1 o2 a:Y IT} {br:IT} (h1:QC nT ss t n out o1) (h2:o2=o1++[br]) (hb:GI nT ss t br) (A:br.1=10) (z:QC nT ss t m o2 a) (F:Y IT) (hl:a.length<=F.length) (L:∀k:Nat,k<a.length->¬k=o1.length->iA F k=iA a k) (hFb:∃b:Int,(0<=b/\b<=(F.length:Int))/\iA F o1.length=(br.1,br.2.1,b,br.2.2.2.1,br.2.2.2.2.1,br.2.2.2.2.2)):(∀k:Nat,k<out.length->iA F k=iA out k)/\rD F out.length o1.length/\(iA F o1.length).1=10/\rD F (o1.length+1) a.length/\(∀k:Nat,out.length<=k->k<a.length->GI nT ss t (iA F k))/\∀k:Nat,out.length<=k->k<a.length->(iA F k).1=10->0<=(iA F k).2.2.1/\(iA F k).2.2.1<=(F.length:Int):=by
 have l2:o2.length=o1.length+1:=by rw[h2,bg];rfl
 have l1:=h1.l;have l3:=z.l;have e1:∀k:Nat,k<o1.length->iA F k=iA o1 k:=λk hk=>by rw[L k (by omega) (by omega),z.p k (by omega),h2,JN hk]
 obtain⟨b,hb0,eb⟩:=hFb;refine ⟨λk hk=>(e1 k (by omega)).trans (h1.p k hk),h1.b.congr λk _ hk=>e1 k hk,by rw[eb];exact A,?_,λk Z s=>?_,λk Z s U=>?_⟩
 .have:=z.b;rw[l2]at this;exact this.congr λk Z s=>L k s (by omega)
 .rcases O2 k o1.length with hk|hk|hk
  .rw[e1 k hk];exact h1.i k Z hk
  .rw[hk,eb];exact hb.pb A
  .rw[L k s (by omega)];exact z.i k (by omega) s
 .rcases O2 k o1.length with hk|hk|hk
  .rw[e1 k hk]at U ⊢;have:=h1.r k Z hk U;omega
  .rw[hk,eb];exact hb0
  .rw[L k s (by omega)]at U ⊢;have:=z.r k (by omega) s U;omega
theorem MM (rs:FS6) (rt:FT6) (rb:FT6) (ra:FA6) (d:Nat) (hS:afg nT ss t rs d):amv nT ss t (mV rs rt rb ra) d:=by
 intro s g out hop he h1 h2 h3 h4 hel hg hs hso hb;have hm:ME (d+1)=50+16*ME d:=rfl;have kb:s.body.length*ME d<=8*ME d:=cQ _ h1;have ke:s.els.length*ME d<=8*ME d:=cQ _ h2;have hex:GE 4 (eD (Xp.op s.expr,Xp.n s.expr,Xp.name s.expr,Xp.l s.expr)):=by rw[fG];exact he
 unfold mV aY bi bu cF dZ kY qJ ck be bC aX;refine aw (Da _ _ g out hex hg hs (by rw[hg.len];decide) (by rw[hg.len];decide) (by omega)) λy hy=>?_
 obtain⟨Z,o1⟩:=y;obtain⟨p1,p2⟩:=hy;dsimp only at p1 p2;subst p1;have p3:=p2.u;have p4:=p2.l;refine bh (by simp) ?_;refine aw (Jh _ Z o1 (by omega)) λy hy=>?_
 obtain⟨A,o2⟩:=y;obtain⟨q1,q2⟩:=hy;dsimp only at q1 q2;subst q1;rw[hg.len]at q2;have hbr:GI nT ss t ((10,2,0,0,0,A.2.2.2.2.2.2.2.1):IT):=⟨ZP (by decide) (by decide) (by simp[iY]) (by decide:¬(10:Int)=3),hs⟩
 have l2:o2.length=o1.length+1:=by rw[q2,bg];rfl
 refine bh (by simp) ?_;refine aw (hS s.body A o2 (by omega) h3 hg (hso.sub (dk _) (by omega)) (by omega)) λy hy=>?_
 obtain⟨U,a⟩:=y;obtain⟨r1,r2,r3⟩:=hy;dsimp only at r1 r2 r3;have r4:=r2.u;have r5:=r2.l;have ebr:iA a o1.length=(10,2,0,0,0,A.2.2.2.2.2.2.2.1):=by rw[r2.p _ (by omega),q2,x_]
 refine bh (by simp) ?_;have qs:=r1.trans (GQ.site U U.2.2.2.2.2.1 A.2.2.2.2.2.2.2.1 U.2.2.2.2.2.2.2.2);refine aK (λh3w=>?_) λh3w=>?_
 .have hels:og d s.els=0:=by rw[hel (by have h3w:s.op=3:=h3w;omega)];rfl
  rw[hels,dl];refine aw (Jh _ _ a (by omega)) λy hy=>?_
  obtain⟨g4,L⟩:=y;obtain⟨w1,w2⟩:=hy;dsimp only at w1 w2;have l4:L.length=a.length+1:=by rw[w2,bg];rfl
  refine bh (by simp) (aP (ec _) (by dsimp only[ak];omega) (aP (ec _) (by dsimp only[ak];omega) (aj ?_)));have hat:o1.length<L.length:=by omega
  have ej:iA L a.length=(5,(out.length:Int),0,0,0,A.2.2.2.2.2.2.2.1):=by rw[w2,x_];rfl
  have e43:∀k:Nat,k<a.length->iA L k=iA a k:=λk hk=>by rw[w2,JN hk]
  refine ⟨by dsimp only;rw[w1];exact qs,?_,by dsimp only;rw[w1];exact r3⟩;dsimp only;have eF:∀{z:IT} {k:Nat},¬k=o1.length->iA (cK L ((o1.length:Nat):Int) z) k=iA L k:=λh=>by rw[zX hat,ax h]
  obtain⟨f1,f2,f3,f4,f5,f6⟩:=p2.cbr q2 hbr rfl r2 (ptB L o1.length (aM L.length)) (by rw[bW];omega) (λk hk hn=>(eF hn).trans (e43 k hk)) ⟨_,⟨ec _,by rw[bW];exact dk _⟩,by rw[zX hat,aC rfl,e43 _ (by omega),ebr];rfl⟩;show QC nT ss t _ out (ptB L o1.length (aM L.length));have ejF:iA (ptB L o1.length (aM L.length)) a.length=(5,(out.length:Int),0,0,0,A.2.2.2.2.2.2.2.1):=(eF (by omega:¬a.length=o1.length)).trans ej;refine ⟨by rw[bW];omega,by rw[bW];omega,f1,?_,λk Z A=>?_,λk Z A U=>?_⟩
  .rw[(bW _ _ _).trans l4];exact f2.whl f3 f4 (by rw[ejF]) (by rw[ejF])
  .rw[bW,l4]at A;by_cases hk:k<a.length
   .exact f5 k Z hk
   .rw[show k=a.length by omega,ejF];exact⟨ZP (by decide) (by decide) (by simp[iY]) (by decide:¬(5:Int)=3),hs⟩
  .have g2':=A;rw[bW,l4]at g2';by_cases hk:k<a.length
   .exact f6 k Z hk U
   .rw[show k=a.length by omega,ejF]at U;cases U
 refine aK (λhz=>?_) λ_=>?_
 .have hels:og d s.els=0:=by rw[gY.1 (by dsimp only[ak]at hz;omega:s.els.length=0)];rfl
  rw[hels,dl];refine aP (ec _) (by dsimp only[ak];omega) (aP (ec _) (by dsimp only[ak];omega) (aj ⟨qs,?_,r3⟩));dsimp only;have hat:o1.length<a.length:=by omega
  obtain⟨f1,f2,f3,f4,f5,f6⟩:=p2.cbr q2 hbr rfl r2 (ptB a o1.length (aM a.length)) (by rw[bW];omega) (λk hk hn=>by rw[zX hat,ax hn]) ⟨_,⟨ec _,by rw[bW];exact dk _⟩,by rw[zX hat,aC rfl,ebr];rfl⟩;show QC nT ss t _ out (ptB a o1.length (aM a.length));refine ⟨by rw[bW];omega,by rw[bW];omega,f1,?_,λk Z A=>?_,λk Z A U=>?_⟩
  .rw[bW];exact (f2.app (rD.one (by rw[f3];decide))).app f4
  .rw[bW]at A;exact f5 k Z A
  .exact f6 k Z (by rw[bW]at A;exact A) U
 .refine aw (Jh _ _ a (by omega)) λy hy=>?_
  obtain⟨g4,L⟩:=y;obtain⟨w1,w2⟩:=hy;dsimp only at w1 w2;have l4:L.length=a.length+1:=by rw[w2,bg];rfl
  have qs4:GQ A g4:=by rw[w1];exact qs
  have x4:gN g4=gN A+(og d s.body:Nat):=by rw[w1];exact r3
  have hat:o1.length<L.length:=by omega
  have ej:iA L a.length=(5,0,0,0,0,A.2.2.2.2.2.2.2.1):=by rw[w2,x_]
  have e43:∀k:Nat,k<a.length->iA L k=iA a k:=λk hk=>by rw[w2,JN hk]
  refine bh (by simp) (aP (ec _) (by dsimp only[ak];omega) (aP (ec _) (by dsimp only[ak];omega) ?_));have eF:∀{z:IT} {k:Nat},¬k=o1.length->iA (cK L ((o1.length:Nat):Int) z) k=iA L k:=λh=>by rw[zX hat,ax h]
  refine aw (hS s.els g4 (ptB L o1.length (aM L.length)) (by omega) h4 (hg.of qs4) (hso.sub (by rw[x4];omega) (by rw[x4];omega)) (by rw[bW];omega)) λy hy=>?_
  obtain⟨g5,o5⟩:=y;obtain⟨z1,z2,z3⟩:=hy;dsimp only at z1 z2 z3;have z4:=z2.l;have z5:=z2.u;have zp:=z2.p;have zb:=z2.b;have zi:=z2.i;have zr:=z2.r;rw[bW]at z4 z5 zp zb zi zr;have hj5:a.length<o5.length:=by omega
  refine bh (by simp) (aP (ec _) (by dsimp only[ak];omega) (aP (ec _) (by dsimp only[ak];omega) (aj ⟨qs4.trans z1,?_,by dsimp only;rw[z3,x4];omega⟩)));dsimp only;show QC nT ss t _ out (ptA o5 a.length (aM o5.length));have eG:∀{z:IT} {k:Nat},¬k=a.length->iA (cK o5 ((a.length:Nat):Int) z) k=iA o5 k:=λh=>by rw[zX hj5,ax h]
  have ej5:iA o5 a.length=(5,0,0,0,0,A.2.2.2.2.2.2.2.1):=by rw[zp _ (by omega),eF (by omega),ej]
  obtain⟨f1,f2,f3,f4,f5,f6⟩:=p2.cbr q2 hbr rfl r2 (ptA o5 a.length (aM o5.length)) (by rw[bW];omega) (λk hk hn=>by rw[eG (by omega),zp k (by omega),eF hn,e43 k hk]) ⟨aM L.length,⟨ec _,by rw[bW];dsimp only[ak];omega⟩,by rw[eG (by omega),zp _ (by omega),zX hat,aC rfl,e43 _ (by omega),ebr]⟩;have ejF:iA (ptA o5 a.length (aM o5.length)) a.length=(5,aM o5.length,0,0,0,A.2.2.2.2.2.2.2.1):=by rw[zX hj5,aC rfl,ej5]
  refine ⟨by rw[bW];omega,by rw[bW];omega,f1,?_,λk Z A=>?_,λk Z A U=>?_⟩
  .rw[bW];refine ((f2.app (rD.one (by rw[f3];decide))).app f4).ite (by rw[ejF]) (by rw[ejF];rfl) ?_;rw[l4]at zb;exact zb.congr λk Z A=>eG (by omega)
  .rw[bW]at A;rcases O2 k a.length with hk|hk|hk
   .exact f5 k Z hk
   .rw[hk,ejF];exact⟨ZP (by decide) (by decide) (by simp[iY]) (by decide:¬(5:Int)=3),hs⟩
   .rw[eG (by omega)];exact zi k (by omega) A
  .have g2':=A;rw[bW]at g2';rcases O2 k a.length with hk|hk|hk
   .exact f6 k Z hk U
   .rw[hk,ejF]at U;cases U
   .rw[eG (by omega)]at U ⊢;rw[bW];exact zr k (by omega) g2' U
theorem ZO (rs:FS6) (rt:FT6) (rb:FT6) (ra:FA6) (d:Nat) (hB:amv nT ss t rb d) (hA:amw nT ss t ra d):SpG nT ss t (sP rs rt rb ra) (d+1):=by
 intro s g out hs hg hso hb;have hm:ME (d+1)=50+16*ME d:=rfl;obtain⟨i1,i2,i3,i4,i5,i6,i7,i8,i9,Z⟩:=hs;have hcn:Re (d+1) s=1+og d s.body+og d s.els:=rfl;rw[hcn]at hso ⊢;obtain⟨so0,so1,so2⟩:=id hso;have so0:0<=g.2.2.2.2.2.2.2.2:=so0;have so1:g.2.2.2.2.2.2.2.2+((1+og d s.body+og d s.els:Nat):Int)<=1000:=so1;have ew:bm .i64 (g.2.2.2.2.2.2.2.2+1)=g.2.2.2.2.2.2.2.2+1:=iz (by omega) (by omega);have gs:=GQ.site g g.2.2.2.2.2.1 g.2.2.2.2.2.2.2.2 (bm .i64 (g.2.2.2.2.2.2.2.2+1));unfold sP aY bi bu cF dZ bO qJ be bC aX aD cL eE;refine aV (λx=>QG nT ss t (ME (d+1)) (1+og d s.body+og d s.els) g out x) ?_ λx hx=>aj hx
 dsimp only;have hs1:SO ss t (gS ((g.1,g.2.1,g.2.2.1,g.2.2.2.1,g.2.2.2.2.1,g.2.2.2.2.2.1,g.2.2.2.2.2.2.1,g.2.2.2.2.2.2.2.2,bm .i64 (g.2.2.2.2.2.2.2.2+1)):GN)):=so2 _ (dk _) (by show g.2.2.2.2.2.2.2.2<g.2.2.2.2.2.2.2.2+((1+og d s.body+og d s.els:Nat):Int);omega);have hn1:gN ((g.1,g.2.1,g.2.2.1,g.2.2.2.1,g.2.2.2.2.1,g.2.2.2.2.2.1,g.2.2.2.2.2.2.1,g.2.2.2.2.2.2.2.2,bm .i64 (g.2.2.2.2.2.2.2.2+1)):GN)=gN g+1:=ew;revert gs hs1 hn1;generalize ((g.1,g.2.1,g.2.2.1,g.2.2.2.1,g.2.2.2.2.1,g.2.2.2.2.2.1,g.2.2.2.2.2.2.1,g.2.2.2.2.2.2.2.2,bm .i64 (g.2.2.2.2.2.2.2.2+1)):GN)=U;intro gs hs1 hn1;have L:=hg.of gs;have hso1:=hso.sub (b:=gN U) (n:=og d s.body+og d s.els) (by rw[hn1];omega) (by rw[hn1];omega);have fin:∀(n m:Nat) (y:GN×Y IT),QG nT ss t n m U out y->n<=ME (d+1)->m=og d s.body+og d s.els->QG nT ss t (ME (d+1)) (1+og d s.body+og d s.els) g out y:=λn m y A hn hm=>⟨gs.trans A.q,(QC.nil 0 out).trans A.c (by omega),by rw[A.x,hn1];omega⟩
 have fin0:s.op=1\/9<=s.op->∀(n:Nat) (y:GN×Y IT),y.1=U/\QC nT ss t n out y.2->n<=ME (d+1)->QG nT ss t (ME (d+1)) (1+og d s.body+og d s.els) g out y:=λz n y A hn=>fin n 0 y ⟨by rw[A.1];exact GQ.refl U,A.2,by rw[A.1];simp⟩ hn (by rw[Z.bo z,Z.el (by omega)];rfl)
 refine aK (λz=>?_) λ_=>?_
 .refine aw (Xq (oy _) U out ?_ ?_ ?_ ?_ L hs1 (by omega)) λy A=>bh (by simp) (aj (fin0 (.inl z) _ _ A (by omega)))
  .rw[yL];exact i1
  .rw[yL];exact i3
  .rw[yL];exact i4 (.inl z)
  .rw[yL];exact Z.vr z
 refine aV (λx=>x.2=(U,s,out)/\(x.1=J↔s.op=2\/s.op=3)) ?_ ?_
 .exact aK (λh=>aj ⟨by dsimp only;rw[yL],λ_=>.inl h,λ_=>aS h⟩) λh=>aj ⟨by dsimp only;rw[yL],λh2=>.inr (bf h2),λh2=>aS (h2.resolve_left h)⟩
 rintro⟨b,x⟩ ⟨e,hb2⟩;dsimp only at e hb2;subst e;refine aO (λhb3=>?_) λhbf=>?_
 .dsimp only;rw[yL];refine aw (hB s U out (hb2.1 hb3) (i4 (by rcases hb2.1 hb3 with h|h;exact .inr (.inl h);exact .inr (.inr (.inl h)))) i6 i7 i8 i9 Z.el L hs1 hso1 hb) λy A=>bh (by simp) (aj (fin _ _ _ A (by omega) rfl))
 have har:∀(a b c:Int),4<=s.op->GO nT (a,c,0,0,0,0)->GO nT (b,c,0,0,0,0)->¬a=5/\¬a=10->¬b=5/\¬b=10->Ok (ra ((s,a,b,c),U,out)) λy=>QG nT ss t (ME (d+1)) (1+og d s.body+og d s.els) g out y:=λa b c h4 ga gb na nb=>(hA s a b c U out i6 i8 ga gb na nb L hs1 (hso1.sub (dk _) (by omega)) hb).mono λy A=>fin _ _ _ A (by omega) (by rw[Z.el (by omega)];rfl)
 have hput:∀{op:Int} {r:υ},9<=s.op->GO nT (op,r)->¬op=5/\¬op=10->Ok (cN ((op,r),U,out)) (QG nT ss t (ME (d+1)) (1+og d s.body+og d s.els) g out):=λh9 hi h5=>(xU (by omega) L hs1 hi h5).mono λy A=>fin0 (.inr h9) _ _ A (by omega)
 have hlk:∀n:ζ,Ok (kC (U.2.1,n)) λr=>(n=[109]->r=0)/\(n=[110]->r=1)/\(n=[114]->r=2):=λn=>(NR U.2.1 n (by rw[L.l];decide)).mono λr h=>ak8 (by rw[L.l]at h;exact h)
 have hcond:∀(n:ζ),Ok (jI (n,U,out)) λy=>y.2=(U,out)/\(n=[99]->y.1=0):=λn=>aei n U out L
 have hth:Ok (ji (U.2.2.2.2.1,s.name)) λr=>s.op=12\/s.op=13->0<=r/\r<(nT:Int):=(zj U.2.2.2.2.1 s.name (by rw[L.t,bM];have q4:wR.length=4:=rfl;omega)).mono λr hr z=>by
  have hn:=Z.sp z;have hl:(wR.take nT).length<=nT:=qK ..;obtain⟨_,h2,_,h4⟩:=hr;rw[L.t]at h2 h4;exact⟨C3.1 λh=>h4 h hn,by omega⟩
 have hft:∀n:ζ,Ok (ji (U.2.2.2.1,n)) λr=>n=[102]->r=0:=λn=>(zj U.2.2.2.1 n (by rw[L.f];decide)).mono λr hr hn=>by
  obtain⟨h1,h2,_,h4⟩:=hr;rw[L.f]at h2 h4;have h2:r<1:=h2;have:¬r<0:=λh=>h4 h (by rw[hn];decide)
  omega
 dsimp only;rw[yL];have gor:∀{a c:Int},1<=a->a<=27->iY (a,c,0,0,0,0)=[]->OB nT (a,c,0,0,0,0)->GO nT (a,c,0,0,0,0):=λh1 h2 h3 h4=>⟨h1,h2,by rw[h3];exact λj hj=>(by cases hj),h4⟩
 refine aK (λz=>aw (hlk _) λv hv=>aw (har _ _ _ (by have z:s.op=4:=z;omega) (gor (by decide) (by decide) rfl ?_) (gor (by decide) (by decide) rfl ?_) (by decide) (by decide)) λy A=>bh (by simp) (aj A)) λ_=>?_
 .exact (Z.lk z).imp hv.1 hv.2.1
 .exact (Z.lk z).imp hv.1 hv.2.1
 refine aK (λz=>aw (hlk _) λv hv=>aw (har _ _ _ (by have z:s.op=5:=z;omega) (gor (by decide) (by decide) rfl ?_) (gor (by decide) (by decide) rfl ?_) (by decide) (by decide)) λy A=>bh (by simp) (aj A)) λ_=>?_
 .exact hv.2.2 (Z.rw (.inl z))
 .exact hv.2.2 (Z.rw (.inl z))
 refine aK (λz=>aw (hlk _) λv hv=>aw (har _ _ _ (by have z:s.op=6:=z;omega) (gor (by decide) (by decide) rfl ?_) (gor (by decide) (by decide) rfl ?_) (by decide) (by decide)) λy A=>bh (by simp) (aj A)) λ_=>?_
 .exact hv.2.2 (Z.rw (.inr z))
 .exact hv.2.2 (Z.rw (.inr z))
 refine aK (λz=>aw (har _ _ _ (by have z:s.op=7:=z;omega) (gor (by decide) (by decide) rfl (by decide:¬(17:Int)=3)) (gor (by decide) (by decide) rfl (by decide:¬(18:Int)=3)) (by decide) (by decide)) λy A=>bh (by simp) (aj A)) λ_=>?_
 refine aK (λz=>aw (har _ _ _ (by have z:s.op=8:=z;omega) (gor (by decide) (by decide) rfl (by decide:¬(19:Int)=3)) (gor (by decide) (by decide) rfl (by decide:¬(20:Int)=3)) (by decide) (by decide)) λy A=>bh (by simp) (aj A)) λ_=>?_
 refine aK (λz=>aw (hcond _) λy A=>?_) λ_=>?_
 .obtain⟨v,y2⟩:=y;obtain⟨y3,y4⟩:=A;dsimp only at y3;subst y3;exact bh (by simp) (aw (hput (by have z:s.op=9:=z;omega) (gor (by decide) (by decide) rfl (y4 (Z.cn (.inl z)))) (by decide)) λy A=>bh (by simp) (aj A))
 refine aK (λz=>aw (hcond _) λy A=>?_) λ_=>?_
 .obtain⟨v,y2⟩:=y;obtain⟨y3,y4⟩:=A;dsimp only at y3;subst y3;exact bh (by simp) (aw (hput (by have z:s.op=10:=z;omega) (gor (by decide) (by decide) rfl (y4 (Z.cn (.inr (.inl z))))) (by decide)) λy A=>bh (by simp) (aj A))
 refine aK (λz=>aw (hcond _) λy A=>?_) λ_=>?_
 .obtain⟨v,y2⟩:=y;obtain⟨y3,y4⟩:=A;dsimp only at y3;subst y3;exact bh (by simp) (aw (hput (by have z:s.op=11:=z;omega) (gor (by decide) (by decide) rfl (y4 (Z.cn (.inr (.inr z))))) (by decide)) λy A=>bh (by simp) (aj A))
 refine aK (λz=>aw hth λv hv=>aw (hput (by have z:s.op=12:=z;omega) (gor (by decide) (by decide) rfl (hv (.inl z))) (by decide)) λy A=>bh (by simp) (aj A)) λ_=>?_
 refine aK (λz=>aw hth λv hv=>aw (hput (by have z:s.op=13:=z;omega) (gor (by decide) (by decide) rfl (hv (.inr z))) (by decide)) λy A=>bh (by simp) (aj A)) λ_=>?_
 refine aK (λz=>?_) λn14=>?_
 .have hex:GE 4 (eD (Xp.op s.expr,Xp.n s.expr,Xp.name s.expr,Xp.l s.expr)):=by rw[fG];exact i4 (.inr (.inr (.inr z)))
  refine aw (Da _ _ U out hex L hs1 (by rw[hg.len];decide) (by rw[hg.len];decide) (by omega)) λy A=>?_
  obtain⟨g2,o2⟩:=y;obtain⟨q1,q2⟩:=A;dsimp only at q1 q2;subst q1;have q3:=q2.u;refine bh (by simp) (aw (hft _) λv hv=>?_);refine aw (xU (by omega) L hs1 (ZP (by decide) (by decide) (by simp[iY,hg.h,L0]) (hv (Z.se z))) (by decide)) λy A=>bh (by simp) (aj (fin0 (.inr (by have z:s.op=14:=z;omega)) 16 _ ⟨A.1,q2.trans A.2 (bX _)⟩ (by omega)))
 refine aK (λz=>?_) λn15=>?_
 .refine aw (zj _ _ (by rw[L.h];decide)) λv hv=>aw (hft _) λv2 hv2=>?_
  have hge:=Z.ge z;have hl:(0:Int)<=v/\v<2:=by
   obtain⟨_,h2,_,h4⟩:=hv;rw[L.h]at h2 h4;exact⟨C3.1 λh=>h4 h (by rw[hge.1];decide),h2⟩
  exact aw (hput (by have z:s.op=15:=z;omega) (ZP (by decide) (by decide) (by simp[iY];omega) (hv2 hge.2)) (by decide)) λy A=>bh (by simp) (aj A)
 .exfalso;have h1:=Z.o0;have h2:=Z.o1;have h3:¬(s.op=2\/s.op=3):=λh=>by have hbf:b=af:=hbf;rw[hb2.2 h]at hbf;cases hbf
  omega
variable {nT:Nat} {ss:Y π} {t:Int}
theorem Yy:∀(n:Nat),(∀d:Nat,3*d<n->SpG nT ss t (eV n) d)/\(∀d:Nat,3*d+1<n->afg nT ss t (dV n) d)/\(∀d:Nat,3*d+2<n->amv nT ss t (dw n) d)/\(∀d:Nat,3*d+2<n->amw nT ss t (dP n) d)
 |0=>⟨λd h=>by omega,λd h=>by omega,λd h=>by omega,λd h=>by omega⟩
 |n+1=>by
  obtain⟨z,a,A,hA⟩:=Yy n;refine ⟨λd h=>?_,λd h=>?_,λd h=>?_,λd h=>?_⟩
  .cases d with
   |zero=>exact λs g out hs=>hs.elim
   |succ d=>exact ZO (dV n) (eV n) (dw n) (dP n) d (A d (by omega)) (hA d (by omega))
  .exact Wn (dV n) (eV n) (dw n) (dP n) d (z d (by omega))
  .exact MM (dV n) (eV n) (dw n) (dP n) d (a d (by omega))
  .exact SE (dV n) (eV n) (dw n) (dP n) d (a d (by omega))
theorem Qa (d:Nat) (hd:d<=100):afg nT ss t uS d:=(Yy fuel).2.1 d (by rw[kf];omega)
structure SL (t k:Int) (m:Nat) (S:List π):Prop where
 l:S.length=m
 v:∀i:Nat,i<m->(aI (T:=yJ) S (i:Int)).1=t/\(aI (T:=yJ) S (i:Int)).2.1=k+i
theorem Kc {T:Ty} {l m:Y T.den} {k:Nat} (h:k<l.length):aI (l++m) (k:Int)=aI l (k:Int):=by
 rw[Ab,Ab,av,av,bR h]
theorem Kb {T:Ty} {l m:Y T.den} {k:Nat} (h:l.length<=k):aI (l++m) (k:Int)=aI m ((k-l.length:Nat):Int):=by
 rw[Ab,Ab,av,av,cj h]
theorem SL.nil (t k:Int):SL t k 0 []:=⟨rfl,λi h=>by omega⟩
theorem SL.one (t k z:Int):SL t k 1 [(t,k,z)]:=⟨rfl,λi h=>by rw[show i=0 by omega];exact⟨rfl,by show k=k+((0:Nat):Int);omega⟩⟩
theorem SL.app {k k':Int} {a b:Nat} {S S':Y π} (h:SL t k a S) (h':SL t k' b S') (hk:k'=k+a):SL t k (a+b) (S++S'):=by
 obtain⟨h1,h2⟩:=h;obtain⟨z,s⟩:=h';refine ⟨by rw[bg];omega,λi hi=>?_⟩;by_cases hl:i<S.length
 .rw[Kc (T:=yJ) hl];exact h2 i (by omega)
 .rw[Kb (T:=yJ) (by omega)];have:=s (i-S.length) (by omega);exact⟨this.1,this.2.trans (show k'+((i-S.length:Nat):Int)=k+(i:Int) by omega)⟩
theorem FG:∀(n d:Nat),d<n->∀(t k:Int) (l:Y Sx) (out:Y π),l.length<=100->(∀s∈l,GT d s)->0<=k->k+og d l<=100000000->out.length+og d l<=100000000->Ok (qc n ((t,k,l),out)) λy=>y.1=k+og d l/\∃S,y.2=out++S/\SL t k (og d l) S
 |0,_,h,_,_,_,_,_,_,_,_,_=>by omega
 |n+1,d,hn,t,k,l,out,hl,hs,k0,hkb,hb=>by
  rw[H5];unfold yd bx wQ bC aX cR aD cL;refine b7 l.length (λi x=>x.1.2=(i:Int)/\x.1.1=k+og d (l.take i)/\∃S,x.2=out++S/\SL t k (og d (l.take i)) S) ?_ ?_ ⟨rfl,by simp[og],[],by simp,by simp[og];exact SL.nil t k⟩
  .rintro i ⟨⟨a,b⟩,o⟩ hi ⟨e1,e2,S,e3,e4⟩;dsimp only at e1 e2 e3;subst e1;subst e2;subst e3;have hp:=QE (d:=d) l (i+1);rw[xA hi]at hp;rw[xA hi];refine du ?_;have hin:((i:Nat):Int)<(l.length:Int):=by omega
   have hm:=hs _ (bN (T:=.sm) (xs:=l) (j:=(i:Int)) (by omega) (by omega));have hSl:=e4.l;cases d with
   |zero=>exact hm.elim
   |succ d=>
    obtain⟨_,_,_,g4,g5,g6,g7⟩:=hm;have hc:Re (d+1) (aI (T:=.sm) l (i:Int))=1+og d (Sx.body (aI (T:=.sm) l (i:Int)))+og d (Sx.els (aI (T:=.sm) l (i:Int))):=rfl;rw[hc]at hp ⊢;dsimp only;refine aP (by omega) hin (aT (bd (by simp;omega) (by omega) (aP (by omega) hin (aT ?_))));rw[iz (n:=k+(og (d+1) (l.take i):Nat)+1) (by omega) (by omega)];refine aw (FG n d (by omega) _ _ _ _ (by omega) g6 (by omega) (by omega) (by simp;omega)) λy z=>bh (by simp) ?_
    obtain⟨a2,o2⟩:=y;obtain⟨y1,S2,Z,U⟩:=z;dsimp only at y1 Z;subst y1;subst Z;have hSl2:=U.l;refine aP (by omega) hin (aT ?_);refine aw (FG n d (by omega) _ _ _ _ (by omega) g7 (by omega) (by omega) (by simp;omega)) λy z=>bh (by simp) (aj ?_)
    obtain⟨a3,o3⟩:=y;obtain⟨L,S3,A,z3⟩:=z;dsimp only at L A;subst L;subst A;refine ⟨gH (by omega),by dsimp only;omega,S++([_]++(S2++S3)),by simp only[gR];rfl,?_⟩;refine e4.app ?_ rfl;rw[qf];exact (SL.one t _ _).app (U.app z3 rfl) (by simp)
  .rintro⟨⟨a,b⟩,o⟩ ⟨e1,e2,e3⟩;dsimp only at e1 e2 e3;subst e1;subst e2;rw[cP]at e3 ⊢;exact dv (aj ⟨rfl,e3⟩)
theorem XY {T k' A k:Int} {l S:Y π} {m:Nat} (h:L8 T l=M (k',A)) (L:SL t k m S) (hk:(k'=t/\A=k)\/(k'<t/\t<T/\k=0)):∀i:Nat,i<=m->L8 T (l++S.take i)=M (if i=0 then (k',A) else (t,k+i))
 |0,_=>by rw[List.take_zero,ii,aC rfl];exact h
 |i+1,hi=>by
  have Z:=XY h L hk i (by omega);rw[nh (T:=yJ) (xs:=S) (i:=i) (by rw[L.l];omega),<-gR,X0,Z];obtain⟨a,z⟩:=L.v i (by omega);rw[ax (Nat.succ_ne_zero i)];by_cases s:i=0
  .subst s;rw[aC rfl];unfold U5;dsimp only;rcases hk with ⟨h1,h2⟩|⟨h1,h2,U⟩
   .rw[aC ⟨by rw[a,h1],by rw[z,h2];simp⟩,h1,h2];simp
   .rw[ax (λh=>by rw[a]at h;omega),aC ⟨by rw[a];exact h1,by rw[a];exact h2,by rw[z,U];rfl⟩,a,U];simp
  .rw[ax s];unfold U5;dsimp only;rw[aC ⟨a,z⟩];congr 2;omega
abbrev CE6:Type:=ζ×Int×Int×Bool×Int
abbrev W4T:Type:=Y CE6×Y (ζ×Bool)×Y (ζ×Int)×Y ζ
def ceD (z:DT):Y CE6:=(bS (aQ (fM z.2.2.2.1 1))).map λ(k:Nat)=>(z.2.2.1,(k:Int),z.2.2.2.1,decide (z.1=2),z.2.2.2.2.1)
def adD (y:W4T) (z:DT):W4T:=
 if z.1=1\/z.1=2 then (y.1++ceD z,y.2) else if z.1=3\/z.1=4 then (y.1,y.2.1++[(z.2.2.1,decide (z.1=4))],y.2.2) else if z.1=5 then (y.1,y.2.1,y.2.2.1++[(z.2.2.1,0)],y.2.2.2) else (y.1,y.2.1,y.2.2.1,y.2.2.2++[z.2.2.1])
def W4 (i:Nat):W4T:=(D0.take i).foldl adD ([],[],[],[])
theorem W4_9:W4 9=(C0,HJ,Np,UM):=rfl
theorem W4_s {i:Nat} (hi:i<9):W4 (i+1)=adD (W4 i) (aI (T:=tDc) D0 (i:Int)):=by
 unfold W4;rw[nh (T:=tDc) (xs:=D0) hi,dA];rfl
theorem D0_c:∀i:Nat,i<9->(aI (T:=tDc) D0 (i:Int)).1=5->i=7:=by decide
theorem aq2:∀i:Nat,i<9->(W4 i).1.length<=5/\(W4 i).2.1.length<=3/\(W4 i).2.2.1.length<=1/\(W4 i).2.2.2.length<=1/\fM (aI (T:=tDc) D0 (i:Int)).2.2.2.1 1<=2/\1<=fM (aI (T:=tDc) D0 (i:Int)).2.2.2.1 1:=by decide
def bsN (p:PG) (i:Nat):Nat:=((p.2.take i).map λt=>og 5 t.2.2.2).sum
def boN (p:PG) (i:Nat):Nat:=og 5 (aI (T:=zC) p.2 (i:Int)).2.2.2
theorem aki {p:PG} {i:Nat} (hi:i<p.2.length):bsN p (i+1)=bsN p i+boN p i:=by
 unfold bsN boN;rw[nh (T:=zC) hi,cM,Gj];simp
theorem Xl {p:PG} (i:Nat) (h:(p.2.map λt=>og 5 t.2.2.2).sum<=60):bsN p i<=60:=by
 refine dz ?_ h
 conv=>rhs;rw[<- Ca i p.2]
 unfold bsN;rw[cM,Gj];omega
structure SW (p:PG) (i:Nat) (S:List π):Prop where
 l:S.length=bsN p i
 f:∃a b,L8 p.2.length S=M (a,b)/\(a<i\/a=0/\b=0)
 s:∀j:Nat,j<i->SR S (j:Int) (bsN p j:Nat) (boN p j)
structure WW (p:PG) (w:WT):Prop where
 x:WX w
 t:w.2.2.2.2.1=wR.take p.2.length
 s:∀j:Nat,j<p.2.length->SR w.2.2.2.2.2 (j:Int) (bsN p j:Nat) (boN p j)
theorem SO.app {S S':Y π} {t s:Int} (h:SO S t s):SO (S++S') t s:=by
 obtain⟨h0,h1,h2⟩:=h;obtain⟨s,rfl⟩:∃n:Nat,s=(n:Int):=⟨s.toNat,by omega⟩
 exact⟨h0,by rw[bg];omega,by rw[Kc (T:=yJ) (by omega)];exact h2⟩
theorem Xw (p:PG) (hp:PJ p) (r:ν) (hr:fI p=M r) (h0:r.1=0) (hc:(p.2.map λt=>og 5 t.2.2.2).sum<=60):Ok (uT p) (WW p):=by
 have hpt:=hp.t;unfold uT aY bi bu cF dZ bO dG cY fH ky be bx jw bC bD aX cR aD cL;refine aR hr (cq (λh=>(h h0).elim) λ_=>?_);have hD:p.1=D0:=hp.d;have hlen:p.1.length=9:=by rw[hD];rfl
 refine b7 9 (λi x=>x.1=(i:Int)/\x.2.1=p/\x.2.2=W4 i) ?_ ?_ ⟨rfl,rfl,rfl⟩
 .rintro i ⟨a,p',y⟩ hi ⟨e1,e2,e3⟩;dsimp only at e1 e2 e3;subst e1;have e2:=e2.symm;subst e2;obtain⟨b1,b2,b3,b4,b5,b6⟩:=aq2 i hi;rw[<- e3]at b1 b2 b3 b4;have hW:=W4_s hi;rw[<- e3]at hW;have hcd:=D0_c i hi;have hlk:i=7->y.2.1=HJ/\(aI (T:=tDc) D0 (i:Int)).2.2.2.2.2=[109]:=λh=>by subst h;rw[e3];exact⟨rfl,rfl⟩
  refine du ?_;refine cg (aT ?_);dsimp only;rw[hD];revert hW hcd hlk b5 b6;generalize (aI (T:=tDc) D0 (i:Int))=z;intro b5 b6 hW hcd hlk;refine aV (λx=>x=(p,W4 (i+1))) ?_ ?_
  .rw[hW];unfold adD;refine aV (λx=>x.2=(p,z,y)/\(x.1=J↔(z.1=1\/z.1=2))) ?_ ?_
   .exact aK (λh=>aj ⟨rfl,λ_=>.inl h,λ_=>aS h⟩) λh=>aj ⟨rfl,λh2=>.inr (bf h2),λh2=>aS (h2.resolve_left h)⟩
   rintro⟨b,x⟩ ⟨e,hb⟩;dsimp only at e hb;subst e;refine aO (λA=>?_) λA=>?_
   .rw[aC (hb.1 A)];unfold ceD;obtain⟨m,hm⟩:∃m:Nat,fM z.2.2.2.1 1=(m:Int):=⟨(fM z.2.2.2.1 1).toNat,by omega⟩
    rw[hm,bY];refine b7 m (λk x=>x=((k:Int),p,z,y.1++(bS k).map (λ(k:Nat)=>(z.2.2.1,(k:Int),z.2.2.2.1,decide (z.1=2),z.2.2.2.2.1)),y.2)) ?_ ?_ (by simp)
    .rintro k x hk rfl;refine bL (λ_=>?_) λg=>(by dsimp only at g;rw[hm]at g;omega)
     refine bd (by simp;omega) (by omega) (aj ?_);dsimp only;rw[gH (by omega),Gk,cM,<-gR];rfl
    .rintro x rfl;exact bL (λg=>(by dsimp only at g;rw[hm]at g;omega)) λ_=>aj rfl
   rw[ax λh=>by have A:b=af:=A;rw[hb.2 h]at A;cases A];refine aV (λx=>x.2=(p,z,y)/\(x.1=J↔(z.1=3\/z.1=4))) ?_ ?_
   .exact aK (λh=>aj ⟨rfl,λ_=>.inl h,λ_=>aS h⟩) λh=>aj ⟨rfl,λh2=>.inr (bf h2),λh2=>aS (h2.resolve_left h)⟩
   rintro⟨c,x⟩ ⟨e,Z⟩;dsimp only at e Z;subst e;refine aO (λh=>?_) λh=>?_
   .rw[aC (Z.1 h)];exact bd (by simp;omega) (by omega) (aj rfl)
   rw[ax λh2=>by have h:c=af:=h;rw[Z.2 h2]at h;cases h];refine aK (λh5=>?_) λh5=>?_
   .obtain⟨l1,l2⟩:=hlk (hcd h5);rw[aC h5];refine aw (NR _ _ (by dsimp only;rw[l1];decide)) λv hv=>?_
    have hv:=(ak8 (by dsimp only at hv;rw[l1]at hv;exact hv)).1 l2;subst hv;exact bd (by simp;omega) (by omega) (aj rfl)
   .rw[ax h5];exact bd (by simp;omega) (by omega) (aj rfl)
  rintro x rfl;exact aj ⟨gH (by omega),rfl,rfl⟩
 .rintro⟨a,p',y⟩ ⟨e1,e2,j⟩;dsimp only at e1 e2 j;subst e1;have e2:=e2.symm;subst e2;rw[W4_9]at j;subst j;refine dv ?_;refine aw (P:=WW p) ?_ λr hr=>aj hr
  refine b7 p.2.length (λi x=>x.1=(i:Int)/\x.2.1=p/\x.2.2.1=C0/\x.2.2.2.1=HJ/\x.2.2.2.2.1=Np/\x.2.2.2.2.2.1=UM/\x.2.2.2.2.2.2.1=wR.take i/\SW p i x.2.2.2.2.2.2.2) ?_ ?_ ⟨rfl,rfl,rfl,rfl,rfl,rfl,rfl,rfl,⟨0,0,rfl,.inr ⟨rfl,rfl⟩⟩,λj hj=>by omega⟩
  .rintro i ⟨a,p2,c2,l2,d2,f2,t2,s2⟩ hi ⟨e1,e2,e3,e4,e5,e6,e7,U,⟨fa,fb,f8,f9⟩,L⟩;dsimp only at e1 e2 e3 e4 e5 e6 e7 U f8 L;subst e1;have e2:=e2.symm;subst e2;have hb8:=Xl (i+1) hc;have hbs:=aki hi;refine du ?_;have hin:((i:Nat):Int)<(p.2.length:Int):=by omega
   have hm:=hp.m _ (bN (T:=zC) (xs:=p.2) (j:=(i:Int)) (by omega) hin);have hnm:(aI (T:=zC) p.2 (i:Int)).1=aI (T:=.str) wR (i:Int):=by
    have h1:=nh (T:=zC) hi;have h2:=gZ (List.map Prod.fst) h1;rw[cM,k_,k_,hp.n,List.take_take,List.take_take,tD (by omega),tD (by omega),nh (T:=.str) (xs:=wR) (i:=i) (by have q4:wR.length=4:=rfl;omega)]at h2;exact ((List.cons.inj (List.append_cancel_left h2)).1).symm
   have htl:t2.length=i:=by rw[e7,bM];have q4:wR.length=4:=rfl;omega
   dsimp only;refine aP (by omega) hin (aT (bd (by simp;omega) (by omega) (aP (by omega) hin (aT ?_))));refine aw (FG fuel 5 (by rw[kf];omega) _ _ _ s2 (by have:=hm.b;omega) (λs hs=>((hm.s s hs).le (by omega:3<=5)).t) (dk _) ?_ ?_) λy hy=>bh (by simp) (aj ?_)
   .show (0:Int)+(boN p i:Nat)<=_;omega
   .show s2.length+boN p i<=_;omega
   obtain⟨_,S,h2,h3⟩:=hy;have h3:SL (i:Int) 0 (boN p i) S:=h3;refine ⟨gH (by omega),rfl,e3,e4,e5,e6,?_,?_⟩
   .dsimp only;rw[e7,hnm,<-nh (T:=.str) (xs:=wR) (i:=i) (by have q4:wR.length=4:=rfl;omega)]
   .dsimp only;rw[h2];refine ⟨by rw[bg,h3.l,U,hbs],?_,λj hj=>?_⟩
    .have hr:=XY f8 h3 (by rcases f9 with h|⟨h,h'⟩;exact .inr ⟨h,by omega,rfl⟩;rcases L1 i with hi0|hi0;exact .inl ⟨by omega,h'⟩;exact .inr ⟨by omega,by omega,rfl⟩) (boN p i) (bX _);rw[<- h3.l,cP]at hr;rw[hr];split
     .exact⟨_,_,rfl,f9.imp (λh=>by omega) id⟩
     .exact⟨_,_,rfl,.inl (by omega)⟩
    .rcases ci j i with h1|h1
     .obtain⟨g1,g2,g3⟩:=L j h1;exact⟨g1,g2,λq q1 q2=>(g3 q q1 q2).app⟩
     .have hj:j=i:=by omega
      subst hj;refine ⟨by omega,by omega,λq q1 q2=>?_⟩;obtain⟨q,rfl⟩:∃n:Nat,q=(n:Int):=⟨q.toNat,by omega⟩
      refine ⟨by omega,by rw[bg,h3.l];omega,?_⟩;rw[Kb (T:=yJ) (by omega)];exact (h3.v _ (by omega)).1
  .rintro⟨a,p2,c2,l2,d2,f2,t2,s2⟩ ⟨e1,e2,e3,e4,e5,e6,e7,U,⟨fa,fb,f8,f9⟩,L⟩;dsimp only at e1 e2 e3 e4 e5 e6 e7 U f8 L;subst e1;have e2:=e2.symm;subst e2;subst e3;subst e4;subst e5;subst e6;subst e7;refine dv (aj ?_);have hb8:=Xl p.2.length hc;refine ⟨⟨rfl,rfl,rfl,rfl,⟨p.2.length,hp.t0,hp.t,rfl⟩,by dsimp only;omega,?_⟩,rfl,L⟩;unfold SV0;have hTl:(wR.take p.2.length).length=p.2.length:=by rw[bM];have q4:wR.length=4:=rfl;omega
   dsimp only;rw[hTl,f8];simp
def NM9:Y ζ:=[[120],[121],[118],[113],[109],[110],[114],[99],[102]]
set_option maxHeartbeats 20000000 in
theorem ad1 (t:Y ζ) (ht:t.length<=4) (s:Y π):pU (C0,HJ,Np,UM,t,s)=M (NM9++t,J):=by
 refine b_ ?_;unfold pU aY bi bu cF dG ky be bx jw bC bD aX cR aD cL;with_reducible repeat' first|exact aj rfl|refine Yf ?_|refine Ye ?_|refine Yd ?_|refine Yb ?_|refine ah3 ?_|refine aT ?_|refine fK rfl ?_|refine gd rfl ?_|refine bh rfl ?_|refine Yc ?_|refine RM ?_|refine RL ?_
 refine bd (by show 9+t.length<=1073741824;omega) (by decide) ?_;with_reducible repeat' first|exact aj rfl|refine Yf ?_|refine Ye ?_|refine Yd ?_|refine Yb ?_|refine ah3 ?_|refine aT ?_|refine fK rfl ?_|refine gd rfl ?_|refine bh rfl ?_|refine Yc ?_|refine RM ?_|refine RL ?_
theorem UK:∀x∈NM9++wR,Ok (fA x) λb=>b=J:=by
 intro x a;simp only[NM9,wR,gE,km,bl,cG,gq]at a;rcases a with rfl|rfl|rfl|rfl|rfl|rfl|rfl|rfl|rfl|rfl|rfl|rfl|rfl;all_goals with_reducible repeat' first|exact aj rfl|refine Yf ?_|refine Ye ?_|refine Yd ?_|refine Yb ?_|refine RL ?_|refine ah3 ?_|refine aT ?_|refine fK rfl ?_|refine gd rfl ?_|refine bh rfl ?_|refine Yc ?_|refine RM ?_|refine di (fA.eq_1 ..) ?_|refine di (jU.eq_1 ..) ?_|refine di (kQ.eq_1 ..) ?_|refine di (lV.eq_1 ..) ?_|refine di (pY.eq_1 ..) ?_|refine di (rZ.eq_1 ..) ?_
theorem GT.up:∀{d:Nat} {s:Sx},GT d s->GT (d+1) s
 |0,_,h=>h.elim
 |_+1,_,⟨a,b,c,e,f,g,i⟩=>⟨a,b,c,e,f,λx z=>GT.up (g x z),λx z=>GT.up (i x z)⟩
theorem am2 {l:Y Sx} (h:∀s∈l,GT 3 s):og 5 l=og 3 l:=by
 unfold og;rw[iI λx a=>(QD (GT.up (h x a))).trans (QD (h x a))]
theorem amz:∀i:Nat,i<13->∀r:Nat,r<i->aI (T:=.str) (NM9++wR) (r:Int)≠aI (T:=.str) (NM9++wR) (i:Int):=by decide
theorem Rv (T:Int):∀l:Y π,l.foldl (U5 T) D=D
 |[]=>rfl
 |_::r=>Rv T r
theorem XZ {T:Int} {l:Y π} (h:L8 T l≠D) (i:Nat):L8 T (l.take i)≠D:=λhn=>h (by
 unfold L8 at hn ⊢;rw[<- Ca i l,dA,hn,Rv])
theorem ace {T t n:Int} {z:π} (h:U5 T (M (t,n)) z≠D):U5 T (M (t,n)) z=M (z.1,z.2.1+1)/\(z.1=t/\z.2.1=n\/t<z.1/\z.1<T/\z.2.1=0):=by
 unfold U5 at h ⊢;dsimp only at h ⊢;by_cases h1:z.1=t/\z.2.1=n
 .rw[aC h1];exact⟨by rw[h1.1,h1.2],.inl h1⟩
 .rw[ax h1]at h ⊢;by_cases h2:t<z.1/\z.1<T/\z.2.1=0
  .rw[aC h2];exact⟨by rw[h2.2.2];rfl,.inr h2⟩
  .rw[ax h2]at h;exact (h rfl).elim
theorem Cp {R:Type} {a b:Int} {t f:I R} {Q:R->Prop} (h:b<=a) (hf:Ok f Q):Ok (aF (fR a b) t f) Q:=gd (gy.2 h) hf
theorem Ij {w:WT} (hx:WX w):il w=M J:=by
 obtain⟨w1,w2,w3,w4,a,s⟩:=w;obtain⟨hc,hl,hd,hf,⟨n,n1,n4,ht⟩,hs,hv⟩:=hx;dsimp only at hc hl hd hf ht hs;subst hc;subst hl;subst hd;subst hf;have hT:a.length=n:=by rw[ht,bM];have q4:wR.length=4:=rfl;omega
 have hv:L8 a.length s≠D:=hv;refine b_ ?_;unfold il aY bi bu cF cY fH be bx iR jw bC bD aX cR aD cL;refine aV (λx=>x=(af,C0,HJ,Np,UM,a,s)) ?_ ?_
 .refine Cp (show (5:Int)<=12 by decide) (Cp (show (3:Int)<=4 by decide) (Cp (show (1:Int)<=2 by decide) (Cp (show (1:Int)<=2 by decide) (Cp (show (1:Int)<=(a.length:Int) by omega) (Cp (show (a.length:Int)<=4 by omega) (aj ?_))))));dsimp only[ak];rw[gy.2 (show (s.length:Int)<=60 by omega)]
 rintro x rfl;refine dy (aR (ad1 a (by omega) s) (gd rfl ?_));have hN:NM9++a=(NM9++wR).take (9+n):=by rw[ht];rcases (by omega:n=1\/n=2\/n=3\/n=4) with rfl|rfl|rfl|rfl<;>rfl
 have hNl:(NM9++a).length=9+n:=by rw[bg,hT];rfl
 have hNg:∀i:Nat,i<9+n->aI (T:=.str) (NM9++a) (i:Int)=aI (T:=.str) (NM9++wR) (i:Int):=λi hi=>by
  rw[hN,Ab,Ab,av,av,List.getElem?_take_of_lt hi]
 refine b7 (9+n) (λi x=>x=((i:Int),C0,HJ,Np,UM,a,s)) ?_ ?_ rfl
 .rintro i x hi rfl;refine bL (λ_=>?_) λg=>(by dsimp only[ak]at g;rw[hNl]at g;omega)
  refine aV (λx=>x=(af,C0,HJ,Np,UM,a,s)) ?_ ?_
  .refine aP (by dsimp only;omega) (by dsimp only;rw[hNl];omega) (aT ?_);have hmem:aI (T:=.str) (NM9++a) (i:Int)∈NM9++wR:=by rw[hNg i hi];exact bN (T:=.str) (by omega) (by have:(NM9++wR).length=13:=rfl;omega)
   refine aw (UK _ hmem) λb hb=>?_
   refine gd (by rw[hb];rfl) (db (dI (by dsimp only;omega) (dI (by dsimp only;rw[hNl];omega) ?_)));refine aP (by dsimp only;omega) (by dsimp only;rw[hNl];omega) (aT ?_);refine aw (zj _ _ (by dsimp only;rw[bM,hNl];omega)) λr hr=>aj ?_
   obtain⟨_,h2,Z,_⟩:=hr;dsimp only at h2 Z;rw[bM,hNl]at h2;have hr0:¬0<=r:=λh0=>by
    have Z:=Z h0;obtain⟨r,rfl⟩:∃m:Nat,r=(m:Int):=⟨r.toNat,by omega⟩
    rw[Ab,av,List.getElem?_take_of_lt (by omega),<-av,<-Ab (T:=.str),hNg r (by omega),hNg i hi]at Z;exact amz i (by omega) r (by omega) Z
   rw[mB.2 (by omega)]
  .rintro x rfl;exact dy (aj (by dsimp only;rw[gH (by omega)]))
 rintro x rfl;refine bL (λg=>(by dsimp only[ak]at g;rw[hNl]at g;omega)) λ_=>?_
 refine aw (P:=λb=>b=J) ?_ λy hy=>aj hy
 refine b7 1 (λi x=>x=((i:Int),C0,HJ,Np,UM,a,s)) ?_ ?_ rfl
 .rintro i x hi rfl;have hi0:i=0:=by omega
  subst hi0;refine fK rfl (bh rfl (aT (aV (λx=>x=(af,C0,HJ,Np,UM,a,s)) ?_ ?_)))
  .exact gd rfl (gd rfl (bh rfl (aT (aj rfl))))
  .rintro x rfl;exact dy (aj (by dsimp only;rw[gH (by omega)]))
 rintro x rfl;refine bL (λg=>(by have g:(1:Int)<1:=g;omega)) λ_=>?_
 refine aw (P:=λb=>b=J) ?_ λy hy=>aj hy
 refine b7 s.length (λi x=>x=((i:Int),C0,HJ,Np,UM,a,s)/\∃t k:Int,L8 a.length (s.take i)=M (t,k)/\0<=t/\t<(a.length:Int)/\(i=0->t=0/\k=0)/\(¬i=0->(aI (T:=yJ) s ((i-1:Nat):Int)).1=t/\(aI (T:=yJ) s ((i-1:Nat):Int)).2.1+1=k/\0<k/\k<=i)) ?_ ?_ ⟨rfl,0,0,rfl,by omega,by omega,λ_=>⟨rfl,rfl⟩,λh=>(h rfl).elim⟩
 .rintro i x hi ⟨rfl,t,k,hF,t0,tT,hz,hp⟩;have hw:¬(i:Int)=0->bm .i64 ((i:Int)-1)=((i-1:Nat):Int):=λh=>by rw[iz (by omega) (by omega)];omega
  have hnx:=Jc (T:=a.length) hi;have hne:=XZ hv (i+1);rw[hnx,hF]at hne;obtain⟨hs1,A⟩:=ace hne;rw[hF,hs1]at hnx;refine du ?_;refine aV (λx=>x=(C0,HJ,Np,UM,a,s)) ?_ ?_
  .refine cg (aT ?_);revert A;generalize (aI (T:=yJ) s (i:Int))=z;obtain⟨(L:Int),(z2:Int),z3⟩:=z;intro A;dsimp only at A;refine aV (λx=>x=(af,(C0,HJ,Np,UM,a,s),L,z2,z3)) ?_ ?_
   .refine Cp (show (0:Int)<=L by omega) (aj ?_);dsimp only[ak];rw[mB.2 (show L<(a.length:Int) by omega)]
   rintro x rfl;refine dy (aV (λx=>x.2=((C0,HJ,Np,UM,a,s),L,z2,z3)/\(x.1=J->i=0\/¬t=L)/\(x.1=af->¬i=0/\t=L)) ?_ ?_)
   .refine aK (λh=>aj ⟨rfl,λ_=>.inl (by have h:((i:Nat):Int)=0:=h;omega),λh=>(by cases h)⟩) λh=>?_
    have h:¬((i:Nat):Int)=0:=h;dsimp only;rw[hw h];have hq:=(hp (by omega)).1;exact aP (by omega) (by first|omega|(dsimp only;omega)) (aT (aj ⟨rfl,λh2=>.inr (by rw[<- hq];simpa using h2),λh2=>⟨by omega,by rw[<- hq];simpa using h2⟩⟩))
   rintro⟨c,x⟩ ⟨e,U,hc⟩;dsimp only at e U hc;subst e;refine aO (λhct=>?_) λhcf=>?_
   .have hz2:z2=0:=by
     rcases U hct with h|h
     .have:=hz h;omega
     .omega
    refine aV (λx=>x=(af,C0,HJ,Np,UM,a,s)) ?_ ?_
    .refine cq (λh=>(h hz2).elim) λ_=>bL (λh=>?_) λ_=>aj rfl
     have h:(0:Int)<((i:Nat):Int):=h;dsimp only;rw[hw (by omega)];have hq:=(hp (by omega)).1;refine aP (by omega) (by first|omega|(dsimp only;omega)) (aT (aj ?_));dsimp only;rw[hq,gy.2 (show t<=L by omega)]
    rintro x rfl;exact dy (aj rfl)
   .obtain⟨h1,h2⟩:=hc hcf;obtain⟨_,p2,p3,p4⟩:=hp h1;dsimp only;rw[hw (by omega)];refine aP (by omega) (by first|omega|(dsimp only;omega)) (aT ?_);refine cq (λh=>(h ?_).elim) λ_=>aj rfl
    try dsimp only
    rw[p2,iz (by omega) (by omega)];omega
  .rintro x rfl;refine aj ⟨by dsimp only;rw[gH (by omega)],_,_,hnx,?_⟩;revert A;rw[show i+1-1=i by omega];generalize (aI (T:=yJ) s (i:Int))=z;obtain⟨(L:Int),(z2:Int),z3⟩:=z;intro A;dsimp only at A ⊢;refine ⟨by omega,by omega,λh=>by omega,λ_=>⟨rfl,rfl,?_,?_⟩⟩
   .by_cases h0:i=0
    .have:=hz h0;omega
    .have:=hp h0;omega
   .by_cases h0:i=0
    .have:=hz h0;omega
    .have:=hp h0;omega
 .rintro x ⟨rfl,_⟩;exact dv (aj rfl)
theorem Xy {c:CT} (a:WX c.1) (hl:c.2.length=c.1.2.2.2.2.1.length) (h:∀k:Nat,k<c.2.length->GC c.2.length c.1.2.2.2.2.2 (k:Int) (aI (T:=wP) c.2 (k:Int))):jS c=M J:=by
 obtain⟨w,l⟩:=c;dsimp only at a hl h;have z:l.length<=4:=by
  obtain⟨n,_,s,ht⟩:=a.t;rw[hl,ht,bM];omega
 refine b_ ?_;unfold jS bu bx bD aX cR aD cL;refine aV (λx=>x=(af,w,l)) ?_ ?_
 .refine aR (Ij a) (gd rfl (aj ?_));dsimp only;rw[hl];simp
 rintro x rfl;refine dy (b7 l.length (λi x=>x=((i:Int),w,l)) ?_ ?_ rfl)
 .rintro i x hi rfl;refine du ?_;refine cg (aT (aR (E3 a hl.symm (h i hi)) (gd rfl (aj ?_))));dsimp only;rw[gH (by omega)]
 .rintro x rfl;exact dv (aj rfl)
theorem Q2 (p:PG) (hp:PJ p) (hr4:∃r,fI p=M r/\r.1=0):Ok (qX p) λy=>CB y.1:=by
 have hpt:=hp.t;obtain⟨r,hr,h0⟩:=hr4;obtain⟨r',hr',h60⟩:=EP p hp.x;rw[hr]at hr';cases hr';have h60:=h60 h0;unfold qX aY bi bu cF dZ bO cY fH qJ bx jw bC bD kO aX cR aD cL;refine aR hr (cq (λh=>(h h0).elim) λ_=>?_);refine aw (Xw p hp r hr h0 h60) λw U=>?_
 have hwT:w.2.2.2.2.1.length=p.2.length:=by rw[U.t,bM];have q4:wR.length=4:=rfl;omega
 refine b7 p.2.length (λi x=>x.1.1=((bsN p i:Nat):Int)/\x.1.2=(i:Int)/\x.2.1=p/\x.2.2.1=w/\x.2.2.2.length=i/\∀j:Nat,j<i->GC p.2.length w.2.2.2.2.2 (j:Int) (aI (T:=wP) x.2.2.2 (j:Int))) ?_ ?_ ⟨rfl,rfl,rfl,rfl,rfl,λj hj=>by omega⟩
 .rintro i ⟨⟨a,b⟩,p2,w2,cs⟩ hi ⟨e0,e1,e2,e3,e4,e5⟩;dsimp only at e0 e1 e2 e3 e4 e5;subst e0;subst e1;have e2:=e2.symm;subst e2;have e3:=e3.symm;subst e3;have hin:((i:Nat):Int)<(p.2.length:Int):=by omega
  refine du ?_;have hm:=hp.m _ (bN (T:=zC) (xs:=p.2) (j:=(i:Int)) (by omega) hin);have hsr:=U.s i hi;have hbs:=aki hi;have hb1:=Xl (i+1) h60;have hbo:boN p i=og 3 (aI (T:=zC) p.2 (i:Int)).2.2.2:=am2 λs hs=>(hm.s s hs).t
  rw[hbo]at hsr hbs;dsimp only;refine aP (by omega) hin (aT (aP (by omega) hin (aT ?_)));revert hm hsr hbs;generalize (aI (T:=zC) p.2 (i:Int))=t;intro hm hsr hbs;have hk:ME 3=50+16*(50+16*50):=rfl;have hle:=cQ (ME 3) hm.b;rw[hk]at hle;have hll:t.2.2.1.length=2:=by rw[hm.l];rfl
  refine aw (Qa (nT:=p.2.length) (ss:=w.2.2.2.2.2) (t:=(i:Int)) 3 (by omega) _ _ [] (by have:=hm.b;omega) hm.s ⟨U.x.c,U.x.l,U.x.d,U.x.f,U.t,hm.l⟩ hsr (by rw[hk,fO];omega)) λy hy=>bh (by simp) ?_
  obtain⟨g2,o2⟩:=y;obtain⟨q1,q2,q3⟩:=hy;dsimp only at q1 q2 q3;have q4:=q2.u;rw[hk,fO]at q4;refine aw (Jh _ _ o2 (by omega)) λy hy=>bh (by simp) ?_
  obtain⟨g3,A⟩:=y;obtain⟨hg3,Z⟩:=hy;dsimp only at hg3 Z;have hL:aM (ai g3.2.2.2.2.2.2.1)=2:=by
   rw[hg3];show aM (ai g2.2.2.2.2.2.2.1)=2;rw[q1.h];show aM (ai t.2.2.1)=2;rw[hll];rfl
  have l3:A.length=o2.length+1:=by rw[Z,bg];rfl
  have L:A.length-1=o2.length:=by omega
  have iq:∀q:Nat,q<o2.length->iA A q=iA o2 q:=λq hq=>by rw[Z,JN hq]
  have iend:iA A o2.length=(28,0,0,0,0,-1):=by rw[Z,x_]
  have hreg:∀q:Nat,q<A.length->∀j:Int,j∈iY (iA A q)->0<=j/\j<32:=λq hq j hj=>by
   by_cases h:q<o2.length
   .rw[iq q h]at hj;exact (q2.i q (iK _) h).o.r j hj
   .rw[show q=o2.length by omega,iend]at hj;simp[iY]at hj
  dsimp only;rw[hL];refine b7 A.length (λk x=>∃rg:Int,x=((k:Int),p,w,g3,rg,cs,A)/\2<=rg/\rg<=32/\∀q:Nat,q<k->∀j:Int,j∈iY (iA A q)->j<rg) ?_ ?_ ⟨2,rfl,by omega,by omega,λq hq=>by omega⟩
  .rintro k x hk2 ⟨rg,rfl,r0,r1,r2⟩;refine du ?_;dsimp only;refine cg (cg (aT (aR (uu _) ?_)));have hrk:=hreg k hk2;have hrl:=Dl (iA A k);revert hrk hrl;generalize hins:(aI (T:=Cg) A (k:Int))=ins;rw[show iA A k=ins from hins];intro hrk hrl;refine b7 (iY ins).length (λj x=>∃rg':Int,x=((j:Int),p,w,g3,rg',cs,A)/\rg<=rg'/\rg'<=32/\∀q:Nat,q<j->rg'>aI (T:=.int .i64) (iY ins) (q:Int)) ?_ ?_ ⟨rg,rfl,dk _,r1,λq hq=>by omega⟩
   .rintro j x hj ⟨rg',rfl,s0,s1,s2⟩;refine du ?_;refine cg (aT (aj ?_));have hz:=hrk _ (bN (T:=.int .i64) (xs:=iY ins) (j:=(j:Int)) (by omega) (by omega));dsimp only;obtain⟨z,hzj⟩:∃z:Int,aI (T:=.int .i64) (iY ins) (j:Int)=z:=⟨_,rfl⟩
    rw[hzj]at hz ⊢;have hz0:(0:Int)<=z:=hz.1;have hz1:(32:Int)>z:=hz.2;rw[gH (by omega),iz (n:=z+1) (by omega) (by omega)];have him:rg'<=fM rg' (z+1)/\z+1<=fM rg' (z+1)/\fM rg' (z+1)<=32:=by
     unfold fM;split
     .rename_i h;have h:=sO.1 h;omega
     .rename_i h;have h:=gy.1 (O4.2 h);omega
    refine ⟨_,rfl,by omega,him.2.2,λq hq=>?_⟩;rcases ci q j with h1|h1
    .have:=s2 q h1;omega
    .rw[show q=j by omega,hzj];exact Int.lt_of_lt_of_le (show z<z+1 by omega) him.2.1
   .rintro x ⟨rg',rfl,s0,s1,s2⟩;refine dv (aj ?_);refine ⟨rg',by dsimp only;rw[gH (by omega)],by omega,s1,λq hq j hj=>?_⟩;rcases ci q k with h1|h1
    .have:=r2 q h1 j hj;omega
    .rw[show q=k by omega,show iA A k=ins from hins]at hj;exact iG (T:=.int .i64) (p:=λc=>rg'>c) s2 j hj
  .rintro x ⟨rg,rfl,r0,r1,r2⟩;refine dv (RM (bd (by simp;omega) (by omega) (RL (aj ?_))));dsimp only;have q3':(g2.2.2.2.2.2.2.2.2:Int)=(bsN p i:Nat)+(og 3 t.2.2.2:Nat):=q3;refine ⟨by rw[q3',hbs];omega,gH (by omega),rfl,rfl,by simp;omega,λj hj=>?_⟩;rcases ci j i with h1|h1
   .rw[Kc (T:=wP) (by rw[e4];exact h1)];exact e5 j h1
   .rw[show j=i by omega,Kb (T:=wP) (by rw[e4];omega),e4,It];refine ⟨show (1:Int)<=rg by omega,r1,show 1<=A.length by omega,show A.length<=1000000 by omega,?_,?_,?_,?_,?_⟩
    .show (iA A (A.length-1)).1=28/\(iA A (A.length-1)).2.2.2.2.2= -1;rw[L,iend];exact⟨rfl,rfl⟩
    .show rD A 0 (A.length-1);rw[L];exact q2.b.congr λq _ hq=>iq q hq
    .show ∀q:Nat,q<A.length-1->GI p.2.length w.2.2.2.2.2 (i:Int) (iA A q);rw[L];exact λq hq=>by rw[iq q hq];exact q2.i q (iK _) hq
    .show ∀q:Nat,q<A.length-1->(iA A q).1=10->0<=(iA A q).2.2.1/\(iA A q).2.2.1<(A.length:Int)
     rw[L];intro q hq h10;rw[iq q hq]at h10 ⊢;have:=q2.r q (iK _) hq h10;omega
    .exact λq hq j hj=>r2 q (show q<A.length by have hq:q<A.length-1:=hq;omega) j hj
 .rintro⟨⟨a,b⟩,p2,w2,cs⟩ ⟨e0,e1,e2,e3,e4,e5⟩;dsimp only at e0 e1 e2 e3 e4 e5;subst e1;subst e2;subst e3;refine dv (aj ?_);have hgc:∀t∈cs,∃k:Nat,GC p2.2.length w2.2.2.2.2.2 (k:Int) t:=iG (T:=wP) λk hk=>⟨k,e5 k (by omega)⟩
  refine ⟨by dsimp only;omega,λt ht=>?_,λt ht=>?_,U.x,Xy U.x ?_ ?_⟩
  .obtain⟨k,hk⟩:=hgc t ht;exact hk.u
  .obtain⟨k,hk⟩:=hgc t ht;exact hk.r0
  .dsimp only;rw[e4,hwT]
  .dsimp only;rw[e4];exact e5
theorem Ml (a b:η) (L:a.length<=9223372036854775807) (A:∀z∈a,0<=z/\z<=255) (hb:b.length<=1000000):Ok (s7 (a,b)) TR:=by
 unfold s7;refine aw (P:=CB) ?_ λc hc=>aw (XL b hb) λl hl=>?_
 .unfold xZ;exact aw (HO a L A) λp hp=>aw (Q2 p hp.1 hp.2) λy s=>aj s
 .exact aw (amx c l hc (by omega)) λy s=>aj s
theorem Q1 (a b c:η) (n:Int) (n0:0<=n) (n1:n<=1000000) (L:a.length<=9223372036854775807) (A:∀z∈a,0<=z/\z<=255) (hc:c.length<=9223372036854775807) (s:∀z∈c,0<=z/\z<=255):Ok (lz ((a,b,c),n)) TR:=by
 unfold lz bx bC aX;refine bL (λ_=>aw (Je c n hc s) λy h=>aj h) λ_=>?_
 have h0:0<=HU (aM b.length) n/\HU (aM b.length) n<=(b.length:Int)/\HU (aM b.length) n<=n:=by
  unfold HU;split
  .rename_i h;rw[sO]at h;dsimp only[ak]at h;exact⟨n0,by omega,dk _⟩
  .rename_i h;have h:=gy.1 (O4.2 h);dsimp only[ak]at h ⊢;exact⟨by omega,dk _,h⟩
 refine db (dI h0.1 (dI h0.2.1 ?_));have h1:(dR (aQ (HU (aM b.length) n)) b).length<=1000000:=by rw[bM];have:=h0.1;have:=h0.2.2;omega
 exact aw (Ml a _ L A h1) λy h=>aj h
def HS.zero (w:vH):HS:=⟨aA w.2.2.2.2.1.length [],aA w.2.2.2.2.1.length [],aA w.2.1.length [],aA w.2.1.length [],aA w.1.length [],aA w.2.2.2.1.length [],[],aA w.2.2.2.2.1.length [],aA w.2.2.2.2.1.length (-1)⟩
theorem HS.zero_ok {w:vH} (h1:w.1.length<=1000) (h2:w.2.1.length<=1000) (s:w.2.2.2.1.length<=1000) (a:w.2.2.2.2.1.length<=1000):U6 0 (HS.zero w):=by
 have z:(0:Int)<=0:=by omega
 exact⟨z,by omega,B_.repl z _,B_.repl z _,B_.repl z _,B_.repl z _,B_.repl z _,B_.repl z _,En.nil z,B_.repl z _,by simpa[HS.zero] using a,by simp[HS.zero],by simp[HS.zero],by simp[HS.zero],by simpa[HS.zero] using h2,by simp[HS.zero],by simpa[HS.zero] using h1,by simpa[HS.zero] using s⟩
structure Fit (w:vH) (h:HS):Prop where
 T:h.T.length=w.2.2.2.2.1.length
 L:h.L.length=w.2.1.length
 C:h.C.length=w.1.length
 F:h.F.length=w.2.2.2.1.length
theorem Fit.zero (w:vH):Fit w (HS.zero w):=⟨by simp[HS.zero],by simp[HS.zero],by simp[HS.zero],by simp[HS.zero]⟩
theorem Fit.ent {w:vH} {h:HS} (f:Fit w h) (e:EV) (x:η):Fit w (j8 w h e x):=by
 obtain⟨a,b,c,d,g,i,j,k⟩:=GV w h e x;exact⟨a.trans f.T,c.trans f.L,g.trans f.C,i.trans f.F⟩
theorem Fit.step {w:vH} {h:HS} (f:Fit w h) (e:EV):Fit w (Rn w h e).1:=f.ent e _
def evP (e:ET):EV:=⟨e.1.toNat,e.2.1.toNat,e.2.2.1.toNat,e.2.2.2.1⟩
theorem apm {w:WT} {e:ET} (f:EvF w e):EvT (evP e) e:=by
 obtain⟨⟨k1,k2,ce,lk,cd,th,fu⟩,t0,_,_⟩:=f;refine ⟨(eZ t0).symm,(eZ (by omega)).symm,λh=>(eZ ?_).symm,rfl⟩;unfold evP at h;simp only[bl,cG,gq]at h;by_cases h1:e.2.1=3\/e.2.1=4
 .exact (ce h1).1
 by_cases h2:6<=e.2.1/\e.2.1<=11
 .exact (lk h2).1
 by_cases z:16<=e.2.1/\e.2.1<=19
 .exact (cd z).1
 by_cases s:e.2.1=20\/e.2.1=21
 .exact (th s).1
 by_cases a:e.2.1=22\/e.2.1=23
 .exact (fu a).1
 omega
theorem ae7 {w:WT} {e:ET} (f:EvF w e) (wb:WB w) {h:HS} (a:Fit w h):EOK w h (evP e):=by
 obtain⟨⟨k1,k2,ce,lk,cd,th,fu⟩,t0,t1,s⟩:=f;have Z:=wb.t;have U:=a.T;have A:=a.L;have z:=a.C;have f4:=a.F;unfold evP;refine ⟨by dsimp only;omega,by dsimp only;omega,by dsimp only;omega,by dsimp only;omega,λq=>?_,λq=>?_,λq=>?_,λq=>?_,λq=>?_⟩<;>dsimp only at q ⊢
 .have:=th (by omega);omega
 .have:=lk (by omega);omega
 .have g:=cd (by omega);have hl:e.2.2.1.toNat<w.2.2.1.length:=by omega
  have hm:=s (w.2.2.1.getD e.2.2.1.toNat ([],0)) (by rw[av,ay hl];exact vO hl);refine ⟨hl,hm.1,?_⟩;unfold Pu;have:=hm.2;have:=hm.1;omega
 .have:=ce (by omega);omega
 .have:=fu (by omega);omega
theorem jD {σ R:Type} {f:σ->I (σ⊕R)} {Q:R->Prop} (n:Nat) (hn:n<=1000000) (z:Nat->σ->Prop) (h0:∀i x,i<n->z i x->Ok (f x) λr=>match r with|.inl y=>z (i+1) y|.inr r=>Q r) (h1:∀x,z n x->Ok (f x) λr=>match r with|.inl _=>False|.inr r=>Q r) {x:σ} (A:z 0 x):Ok (gx f x) Q:=by
 have key:∀m i x,i+m=n->z i x->∃r,iterN f (m+1) x=M r/\Q r:=by
  intro m;induction m with
  |zero=>
   intro i x hi A;have:i=n:=by omega
   subst this;obtain⟨r,s,a⟩:=h1 x A;cases r with
   |inl y=>exact a.elim
   |inr r=>exact⟨r,by rw[iterN,s],a⟩
  |succ m L=>
   intro i x hi A;obtain⟨r,s,a⟩:=h0 i x (by omega) A;cases r with
   |inl y=>
    obtain⟨r,Z,U⟩:=L (i+1) y (by omega) a;exact⟨r,by rw[iterN,s];exact Z,U⟩
   |inr r=>exact⟨r,zW (n:=1) (by rw[iterN,s]) (by omega),a⟩
 obtain⟨r,s,a⟩:=key n 0 x (by omega) A;exact⟨r,zW s (by omega),a⟩
theorem O6 (a b:Int):fm (a,b)=M (decide (0<=a/\a<b)):=by
 refine b_ ?_;unfold fm iR aD;with_reducible repeat' first|(refine OS.ok ?_;constructor)|refine IM.mk λ_=>?_
 .by_cases h:a<b<;>simp[*,fR]
 .simp;omega
theorem UY (l:η) (t:Int) (hl:l.length<=1000):kS (l,t)=M (l.contains t):=by
 refine b_ ?_;unfold kS r_ yl be bx bD aX cR aD cL;refine aw (P:=λy:Int=>0<=y↔t∈l) ?_ λy a=>aj ?_
 .refine jD l.length (by omega) (λi x=>x=(i:Int)/\∀j,j<i->¬l.getD j 0=t) ?_ ?_ ⟨rfl,λj hj=>by omega⟩
  .rintro i x hi ⟨rfl,hn⟩;refine du ?_;refine cg (aT (aK (λh=>aj ?_) λh=>aj ?_))
   .refine ⟨λ_=>?_,λ_=>by omega⟩;have h:t=aI (T:=.int .i64) l (i:Int):=h;rw[h];exact bN (T:=.int .i64) (xs:=l) (by omega) (by omega)
   .refine ⟨gH (by omega),λj hj=>?_⟩;have h:¬t=l.getD i 0:=h;by_cases e:j=i
    .subst e;exact λg=>h g.symm
    .exact hn j (by omega)
  .rintro x ⟨rfl,hn⟩;refine dv (aj ?_);refine ⟨λg=>(by omega),λg=>?_⟩;obtain⟨j,hj,e⟩:=List.getElem_of_mem g;exact (hn j hj (by rw[av,ay hj];exact e)).elim
 .by_cases h:t∈l
  .have:=a.2 h;simp[c9,h,this]
  .have:¬0<=y:=λg=>h (a.1 g)
   simp[c9,h,this]
theorem al5 (w:WT) (s:SY) (a:w.2.2.1.length<=1000) (cd:∀c∈w.2.2.1,0<=c.2/\c.2<w.2.1.length) (e1:s.1.length=w.2.1.length) (e2:s.2.2.1.length=w.2.2.2.1.length) (e3:s.2.2.2.length=w.2.2.2.2.1.length):kD (w,s)=M J:=by
 refine b_ ?_;unfold kD uo aY bi bu dG bx jw bD aX cR aD cL;refine aV (λx=>x=(af,w)) ?_ ?_
 .refine cq (λh=>(h (by dsimp only[ak];omega)).elim) λ_=>cq (λh=>(h (by dsimp only[ak];omega)).elim) λ_=>aj ?_
  dsimp only[ak];rw[e3];simp
 rintro x rfl;refine dy (jD w.2.2.1.length (by omega) (λi x=>x=((i:Int),w)) ?_ ?_ rfl)
 .rintro i x hi rfl;refine du ?_;refine cg (aT (aR (O6 _ _) (cq (λh=>(h ?_).elim) λ_=>aj ?_)))
  .exact cd _ (bN (T:=U4) (xs:=w.2.2.1) (j:=(i:Int)) (by omega) (by omega))
  .dsimp only;rw[gH (by omega)]
 .rintro x rfl;exact dv (aj rfl)
theorem af0 (w:WT) (k o:Int) (h:NM w k o):my (w,k,o)=M J:=by
 refine b_ ?_;obtain⟨k1,k2,ce,lk,cn,th,fu,no,mu,rw_⟩:=h;unfold my aY bi bu cF be bD aX aD;rcases @JJ k with rfl|rfl|rfl|rfl|rfl|rfl|rfl|rfl|rfl|rfl|rfl|rfl|rfl|rfl|rfl|rfl|rfl|rfl|rfl|rfl|rfl|rfl|rfl|⟨hk,a⟩
 case inr.inr.inr.inr.inr.inr.inr.inr.inr.inr.inr.inr.inr.inr.inr.inr.inr.inr.inr.inr.inr.inr.inr=>omega
 all_goals simp only[aU,bp,tW,O6]
 all_goals with_reducible repeat' first|(refine OS.ok ?_;constructor)|refine IM.mk λ_=>?_
 all_goals try simp only[ak,rG] at*
 all_goals first|omega|exact rw_ ⟨by decide,by decide⟩|(simp only[*,Bool.not_false,cW];done)
theorem alj {n:Nat} (w:WT) (s:SY) (hs:SB n s) (hn:n<=1000) (t k o:Int) (he:EN w s t k o) (hr:XE w s t k o):pd (w,s,t,k,o)=M J:=by
 refine b_ ?_;obtain⟨nm,t0,t1,cd,e1,e2,e3⟩:=id he;obtain⟨_,_,ce,lk,cn,th,fu,no,mu,rw_⟩:=nm;obtain⟨_,_,_,aq,wr,ra,rl,rr,xb,xe,ab,ae,nt,sp,jo,se,ge⟩:=hr;have hm:16<=k/\k<=19->0<=(aI (T:=U4) w.2.2.1 o).2/\(aI (T:=U4) w.2.2.1 o).2<w.2.1.length:=λh=>cd _ (bN (cn h).1 (cn h).2)
 have A:6<=k/\k<=11->kS ((aI (T:=Bd) s.1 o).2,t)=M ((aI (T:=Bd) s.1 o).2.contains t):=λh=>UY _ _ (by
  have:=hs.rd _ (bN (T:=Bd) (lk h).1 (by have:=(lk h).2;omega));omega)
 have lk1:6<=k/\k<=11->0<=o/\o<(s.1.length:Int):=λh=>by have:=lk h;omega
 have z:t<(s.2.2.2.length:Int):=by omega
 have fu1:k=22\/k=23->0<=o/\o<(s.2.2.1.length:Int):=λh=>by have:=fu h;omega
 have th1:k=20\/k=21->0<=o/\o<(s.2.2.2.length:Int):=λh=>by have:=th h;omega
 have a:∀{p:Prop} [Decidable p],p->decide p=J:=λh=>aS h
 unfold pd aY bi bu dG cY be jw bD aX aD;refine aK (λh=>?_) λn6=>?_
 .have h:k=6:=h;exact aP (lk1 (by omega)).1 (lk1 (by omega)).2 (aT (aj (a (aq (.inl h)))))
 refine aK (λh=>?_) λL=>?_
 .have h:k=10:=h;refine gL (aP (lk1 (by omega)).1 (lk1 (by omega)).2 (aT (aK (λ_=>?_) λg=>(g (aq (.inr (.inr h)))).elim)));refine aP (lk1 (by omega)).1 (lk1 (by omega)).2 (aT (aj (aj (a ?_))));have:=wr h;dsimp only[ak]at this ⊢;omega
 refine aK (λh=>?_) λZ=>?_
 .have h:k=8:=h;refine gL (aP (lk1 (by omega)).1 (lk1 (by omega)).2 (aT (aK (λ_=>?_) λg=>(g (aq (.inr (.inl h)))).elim)));refine aP (lk1 (by omega)).1 (lk1 (by omega)).2 (aT (aR (A (by omega)) (aj (aj ?_))));rw[ra h];rfl
 refine aV (λx=>x.2=(w,s)/\(x.1=J↔k=7\/k=11)) (aK (λh=>aj ⟨rfl,λ_=>.inl h,λ_=>a h⟩) λh=>aj ⟨rfl,λh2=>.inr (bf h2),λh2=>a (h2.resolve_left h)⟩) ?_;rintro⟨b,x⟩ ⟨e,hb⟩;dsimp only at e hb;subst e;refine aO (λh=>?_) λ_=>?_
 .have h:=hb.1 h;exact aP (lk1 (by omega)).1 (lk1 (by omega)).2 (aT (aj (a (rl h))))
 refine aK (λh=>?_) λU=>?_
 .have h:k=9:=h;refine aP (lk1 (by omega)).1 (lk1 (by omega)).2 (aT (aR (A (by omega)) (aj (rr h))))
 refine aK (λh=>aj (a (xb h))) λ_=>aK (λh=>aj (a (xe h))) λ_=>?_
 refine aK (λh=>aP t0 z (aT (aj (by have:=ab h;dsimp only at this ⊢;rw[this];rfl)))) λ_=>aK (λh=>aP t0 z (aT (aj (ae h)))) λ_=>?_
 refine aV (λx=>x.2=(w,s)/\(x.1=J->k=16\/k=18\/k=19)) (aK (λh=>aj ⟨rfl,λ_=>.inl h⟩) λ_=>aK (λh=>aj ⟨rfl,λ_=>.inr (.inl h)⟩) λ_=>aj ⟨rfl,λh=>.inr (.inr (bf h))⟩) ?_;rintro⟨c,x⟩ ⟨e,hc⟩;dsimp only at e hc;subst e;refine aO (λh=>?_) λ_=>?_
 .have h:=hc h;have hq:=hm (by omega);exact aP (cn (by omega)).1 (cn (by omega)).2 (aT (aP hq.1 (by rw[e1];exact hq.2) (aT (aj (a (nt h))))))
 refine aK (λh=>?_) λ_=>?_
 .have h:k=20:=h;exact gL (cq (λ_=>aP (th1 (.inl h)).1 (th1 (.inl h)).2 (aT (aj (aj (a (sp h).2))))) λg=>((sp h).1 g).elim)
 refine aK (λh=>?_) λ_=>?_
 .have h:k=21:=h;exact gL (cq (λ_=>aP (th1 (.inr h)).1 (th1 (.inr h)).2 (aT (aj (aj (a (jo h).2))))) λg=>((jo h).1 g).elim)
 refine aK (λh=>aP (fu1 (.inl h)).1 (fu1 (.inl h)).2 (aT (aj (by have:=se h;dsimp only at this ⊢;rw[this];rfl)))) λ_=>aK (λh=>aP (fu1 (.inr h)).1 (fu1 (.inr h)).2 (aT (aj (ge h)))) λ_=>aj rfl
theorem ES {n:Nat} (w:WT) (s:SY) (hs:SB n s) (hn:n<=1000) (L:w.2.2.1.length<=1000) (t k o:Int) (he:EN w s t k o) (hr:XE w s t k o):jr (w,s,t,k,o)=M J:=by
 refine b_ ?_;obtain⟨nm,t0,t1,cd,e1,e2,e3⟩:=id he;have hrd:=alj w s hs hn t k o he hr;have A:t<(s.2.2.2.length:Int):=by omega
 unfold jr aY bi bu bO dG cY be bD aX aD;refine aV (λx=>x=(af,w,s)) ?_ ?_
 .refine aR (al5 w s L cd e1 e2 e3) (gd rfl (aR (O6 _ _) ?_));refine cq (λh=>(h ⟨t0,t1⟩).elim) λ_=>aR (af0 w k o nm) (aj rfl)
 rintro x rfl;refine dy (aP t0 A (aT ?_));refine aK (λh=>aj (aS (hr.b h))) λn1=>?_
 refine aK (λh=>?_) λn17=>?_
 .have h:k=17:=h;obtain⟨a1,a2,a3⟩:=hr.wk h;obtain⟨z,a⟩:=nm.cd (by omega);have hq:=cd _ (bN (T:=U4) (xs:=w.2.2.1) (j:=o) z a);refine gL (aK (λ_=>aK (λ_=>?_) λg=>(g a2).elim) λg=>(g a1).elim);exact aP z a (aT (aP hq.1 (by rw[e1];exact hq.2) (aT (aj (aj (aS a3))))))
 refine gL (aK (λ_=>aR hrd (aj (aj rfl))) λg=>(g (hr.r n1 n17)).elim)
theorem ah1 (w:WT) (e:ET) (h1:e.2.1=1\/e.2.1=2->e.2.2.2.2.1= -1) (h2:¬(e.2.1=1\/e.2.1=2)->0<=e.2.2.2.2.1/\e.2.2.2.2.1<w.2.2.2.2.2.length/\(aI (T:=yJ) w.2.2.2.2.2 e.2.2.2.2.1).1=e.1):jQ (w,e)=M J:=by
 refine b_ ?_;unfold jQ aY dZ cY be bx iR bD aX aD;refine aV (λx=>x.2=(w,e)/\(x.1=J↔e.2.1=1\/e.2.1=2)) (aK (λh=>aj ⟨rfl,λ_=>.inl h,λ_=>rfl⟩) λh=>aj ⟨rfl,λh2=>.inr (bf h2),λh2=>aS (h2.resolve_left h)⟩) ?_;rintro⟨b,x⟩ ⟨e1,hb⟩;dsimp only at e1 hb;subst e1;refine aO (λh=>aj (aS (h1 (hb.1 h)))) λh=>?_
 obtain⟨a1,a2,a3⟩:=h2 λg=>by rw[hb.2 g]at h;cases h
 exact gL (eO (λ_=>du (aP a1 a2 (aT (aj (aj (aS a3)))))) λg=>(by dsimp only at g;omega))
theorem aey {l:η} (h:Ip l) (i:Nat) (hi:i<l.length):∀z∈l.drop (i+1),l.getD i 0<z:=by
 induction l generalizing i with
 |nil=>cases hi
 |cons a l s=>
  cases i with
  |zero=>exact λz A=>h.1 z (by simpa using A)
  |succ i=>exact s h.2 i (by simpa using hi)
theorem Tj (w:WT) (s:SN) (e:ET) (ce:e.2.1=3\/e.2.1=4->0<=e.2.2.1/\e.2.2.1<w.1.length) (de:0<e.2.2.2.2.2.1.length->e.2.1=5\/(e.2.1=3\/e.2.1=4)/\¬(aI (T:=O_) w.1 e.2.2.1).2.2.1=0) (fr:0<e.2.2.2.2.2.2.length->e.2.1=4\/e.2.1=22) (t0:0<=e.1) (t1:e.1<s.2.2.2.length) (nd:AN (aI (T:=.int .i64) s.2.2.2 e.1) e.2.2.2.2.2.1) (nf:AN (aI (T:=.int .i64) s.2.2.2 e.1) e.2.2.2.2.2.2) (ld:e.2.2.2.2.2.1.length<=1000000) (lf:e.2.2.2.2.2.2.length<=1000000):fe (w,s,e)=M J:=by
 refine b_ ?_;unfold fe jG aY bi bu cF bO dG fH be bx iR bC bD aX cR aD cL;refine aV (λx=>x.2=(s,e)/\((e.2.1=3\/e.2.1=4)/\¬(aI (T:=O_) w.1 e.2.2.1).2.2.1=0->x.1=J)) ?_ ?_
 .refine aK (λh=>?_) λn3=>aK (λh=>?_) λn4=>?_
  .exact aP (ce (.inl h)).1 (ce (.inl h)).2 (aT (aj ⟨rfl,λg=>by simpa using g.2⟩))
  .exact aP (ce (.inr h)).1 (ce (.inr h)).2 (aT (aj ⟨rfl,λg=>by simpa using g.2⟩))
  .exact aj ⟨rfl,λg=>(g.1.elim n3 n4).elim⟩
 rintro⟨b,x⟩ ⟨e1,hb⟩;dsimp only at e1 hb;subst e1;refine aV (λx=>x.1=s/\x.2.1=e/\(0<e.2.2.2.2.2.1.length->x.2.2.1=J)/\(0<e.2.2.2.2.2.2.length->x.2.2.2=J)) ?_ ?_
 .refine aK (λh5=>aK (λA=>aj ⟨rfl,rfl,λ_=>rfl,λ_=>rfl⟩) λA=>aj ⟨rfl,rfl,λ_=>rfl,λg=>?_⟩) λh5=>aK (λA=>aj ⟨rfl,rfl,λg=>?_,λ_=>rfl⟩) λA=>aj ⟨rfl,rfl,λg=>?_,λg=>?_⟩
  .exact aS ((fr g).resolve_left A)
  .exact hb ((de g).resolve_left h5)
  .exact hb ((de g).resolve_left h5)
  .exact aS ((fr g).resolve_left A)
 rintro⟨s',e',a,b'⟩ ⟨e1,e2,h1,h2⟩;dsimp only at e1 e2 h1 h2;subst e1;subst e2;have key:∀(r:η),r.length<=1000000->AN (aI (T:=.int .i64) s'.2.2.2 e'.1) r->∀j:Nat,j<r.length->∀z∈r.drop (j+1),aI (T:=.int .i64) r (j:Int)<z:=λr _ h j hj z Z=>aey h.a j hj z Z
 refine jD 2 (by omega) (λi x=>x=((i:Int),s',e',a,b')) ?_ ?_ rfl
 .rintro i x hi rfl;refine du ?_;refine db (dI (by dsimp only;omega) (AO (by dsimp only;omega) (aT ?_)));have hr:∃r:η,aI (T:=.sl (.int .i64)) [e'.2.2.2.2.2.1,e'.2.2.2.2.2.2] (i:Int)=r/\AN (aI (T:=.int .i64) s'.2.2.2 e'.1) r/\r.length<=1000000/\(0<r.length->aI (T:=.bool) [a,b'] (i:Int)=J):=by
   match i,hi with
   |0,_=>exact⟨_,rfl,nd,ld,h1⟩
   |1,_=>exact⟨_,rfl,nf,lf,h2⟩
  obtain⟨r,er,hA,hl,hb'⟩:=hr;have er':aI (T:=.sl aL) [e'.2.2.2.2.2.1,e'.2.2.2.2.2.2] (i:Int)=r:=er;dsimp only at er' ⊢;rw[er'];refine aV (λx=>x=(af,s',e',a,b')) ?_ ?_
  .refine bL (λg=>?_) λ_=>aj rfl
   have g':0<r.length:=by dsimp only[ak]at g;omega
   refine db (dI (by omega) (AO (by omega) (cg (aT (aj ?_)))));rw[hb' g'];rfl
  rintro x rfl;refine dy ?_;refine jD r.length (by omega) (λj x=>x.1.2=(j:Int)/\x.2=(s',e',a,b')/\∀z∈r.drop j,x.1.1<z) ?_ ?_ ⟨rfl,rfl,λz Z=>?_⟩
  .rintro j ⟨⟨la,ix⟩,x⟩ hj ⟨U,L,g3⟩;dsimp only at U L g3;subst U;subst L;have m:aI (T:=.int .i64) r (j:Int)∈r:=bN (T:=.int .i64) (xs:=r) (by omega) (by omega);have m2:aI (T:=.int .i64) r (j:Int)∈r.drop j:=by
    have:aI (T:=.int .i64) r (j:Int)=r[j]:=by
     show r.getD j 0=_;rw[av,ay hj];rfl
    rw[this,List.drop_eq_getElem_cons hj];exact c8
   refine du ?_;refine cg (aT (aV (λx=>x=(af,s',e',a,b')) ?_ ?_))
   .refine eO (λg=>?_) λ_=>aP t0 t1 (aT (aj ?_))
    .have q1:=g3 _ m2;exact ca q1 (by dsimp only at g;exact λq=>ca (Int.lt_of_lt_of_le q g) (Int.lt_irrefl _))
    .have:=(hA.m _ m).2;rw[mB.2 (show aI (T:=.int .i64) r (j:Int)<aI (T:=.int .i64) s'.2.2.2 e'.1 from this)]
   rintro x rfl;exact dy (aj ⟨gH (by omega),rfl,key r hl hA j hj⟩)
  .rintro⟨⟨la,ix⟩,x⟩ ⟨U,L,_⟩;dsimp only at U L;subst U;subst L;exact dv (aj (gZ (·,s',e',a,b') (gH (by omega))))
  .have:=(hA.m z (by simpa using Z)).1;dsimp only;omega
 .rintro x rfl;exact dv (aj rfl)
theorem api (w:WT) (s:SN) (a:w.2.2.1.length<=1000) (t k o:Int) (he:EN w s.1 t k o) (hf:F16 w s):lw (w,s)=M J:=by
 obtain⟨_,_,_,cd,e1,e2,e3⟩:=he;obtain⟨L,A,z⟩:=hf;refine b_ ?_;unfold lw aY bi bu dG be aX aD;refine gL (aR (al5 w s.1 a cd e1 e2 e3) (vS (aK (λ_=>aK (λ_=>aj (aj (aS ?_))) λg=>(g ?_).elim) λg=>(g ?_).elim)));all_goals dsimp only[ak];omega
theorem Ix (th:Y (Int×Int×Bool)) (c:Int) (i:Nat):wl th c (i+1)=if I4 c (aI (T:=jP) th (i:Int)) then wl th c i++[(i:Int)] else wl th c i:=rfl
theorem agj {n:Nat} (w:WT) (s:SN) (hs:SB n s.1) (e:ET) (hf:F16 w s) (he:EN w s.1 e.1 e.2.1 e.2.2.1) (va:VA w s.1 s.2.1 s.2.2.1 e.1 e.2.1 e.2.2.1 e.2.2.2.1):gI (s,e)=M J:=by
 refine b_ ?_;obtain⟨t,k,o,v,si,de,fr⟩:=e;obtain⟨s1,s2,s3,s4⟩:=s;obtain⟨nm,t0,t1,cd,e1,e2,e3⟩:=he;obtain⟨_,_,ce,lk,cn,th,fu,_,_,_⟩:=nm;obtain⟨f1,f2,f3⟩:=hf;have hth:=hs.th;obtain⟨v3,U,v5,vel⟩:=va;dsimp only at*
 unfold gI mi aY bi bu cF bO be bx bD aX cR aD cL;refine aK (λh=>?_) λn3=>?_
 .have h:k=3:=h;obtain⟨c0,c1⟩:=ce (.inl h);exact aP c0 (by rw[f1];exact c1) (aT (aj (aS (v3 h))))
 refine aK (λh=>?_) λZ=>?_
 .have h:k=23:=h;obtain⟨c0,c1⟩:=fu (.inr h);exact aP c0 (by rw[f2];exact c1) (aT (aj (aS (U h))))
 refine aK (λh=>?_) λn5=>?_
 .have h:k=5:=h;exact gL (aK (λ_=>aj (aj rfl)) λg=>aj (aj (aS ((v5 h).resolve_left g))))
 refine aV (λx=>x.2=((s1,s2,s3,s4),t,k,o,v,si,de,fr)/\(x.1=af->¬k=4/\¬k=22)) (aK (λh=>aj ⟨rfl,λh2=>(by rw[aS h]at h2;cases h2)⟩) λh=>aj ⟨rfl,λh2=>⟨h,Cd h2⟩⟩) ?_;rintro⟨b,x⟩ ⟨e,hb⟩;dsimp only at e hb;subst e;refine aO (λh=>aj rfl) λh=>?_
 obtain⟨n4,n22⟩:=hb h;have vel:=vel n3 Z n5 n4 n22;have hWl:=wu s1.2.2.2 o s1.2.2.2.length;refine aK (λh=>?_) λn18=>?_
 .have h:k=18:=h;subst h;rw[F']at vel;refine jD s1.2.2.2.length (by omega) (λi x=>x.1.2.2=(i:Int)/\x.2=(t,18,o,v,si,de,fr)/\x.1.1=((wl s1.2.2.2 o i).length:Int)/\(x.1.2.1=J↔v∈wl s1.2.2.2 o i)) ?_ ?_ ⟨rfl,rfl,rfl,by simp[wl]⟩
  .rintro i ⟨⟨c,hit,ix⟩,x⟩ hi ⟨z,a,A,L⟩;dsimp only at z a A L;subst z;subst a;subst A;have hl:=wu s1.2.2.2 o i;refine du ?_;refine aV (λx=>x.2=(t,18,o,v,si,de,fr)/\x.1.1=((wl s1.2.2.2 o (i+1)).length:Int)/\(x.1.2=J↔v∈wl s1.2.2.2 o (i+1))) ?_ ?_
   .refine cg (aT (aV (λx=>x=(I4 o (aI (T:=jP) s1.2.2.2 (i:Int)),t,18,o,v,si,de,fr)) ?_ ?_))
    .unfold I4;refine aK (λh=>aj ?_) λh=>aj ?_
     .dsimp only at h ⊢;rw[h];rfl
     .dsimp only at h ⊢;rw[bB h];rfl
    rintro x rfl;rw[Ix];dsimp only;cases hw:I4 o (aI (T:=jP) s1.2.2.2 (i:Int)) with
    |true=>
     refine vS (aO (λh=>aj ⟨rfl,?_,?_⟩) λh=>aj ⟨rfl,?_,?_⟩)
     .dsimp only;rw[gH (by omega)];simp
     .simp[L.1 h]
     .dsimp only;rw[gH (by omega)];simp
     .have:¬v∈wl s1.2.2.2 o i:=λg=>by rw[L.2 g]at h;cases h
      simp[this]
    |false=>exact dy (aj ⟨rfl,rfl,L⟩)
   rintro⟨⟨c,hit'⟩,x⟩ ⟨z,a,A⟩;dsimp only at z a A;subst z;subst a;exact aj ⟨gH (by omega),rfl,rfl,A⟩
  .rintro⟨⟨c,hit,ix⟩,x⟩ ⟨z,a,A,L⟩;dsimp only at z a A L;subst z;subst a;subst A;refine dv (aw (P:=λy=>y=J) (gL (aO (λ_=>aj (aj rfl)) λh=>?_)) λy hy=>aj hy);have hn:¬v∈wl s1.2.2.2 o s1.2.2.2.length:=λg=>by rw[L.2 g]at h;cases h
   by_cases h0:(wl s1.2.2.2 o s1.2.2.2.length).length=0
   .rw[aC h0]at vel;refine aK (λ_=>aj (aj (aS vel))) λg=>(g (by dsimp only;omega)).elim
   .rw[ax h0]at vel;have vel:v=B6 (wl s1.2.2.2 o s1.2.2.2.length) v:=vel;exact (hn (vel▸IW v h0)).elim
 refine aK (λh=>?_) λn19=>?_
 .have h:k=19:=h;subst h;rw[amc]at vel;refine jD s1.2.2.2.length (by omega) (λi x=>x.1.2=(i:Int)/\x.2=(t,19,o,v,si,de,fr)/\x.1.1=((wl s1.2.2.2 o i).length:Int)) ?_ ?_ ⟨rfl,rfl,rfl⟩
  .rintro i ⟨⟨c,ix⟩,x⟩ hi ⟨z,a,A⟩;dsimp only at z a A;subst z;subst a;subst A;have hl:=wu s1.2.2.2 o i;refine du ?_;refine aV (λx=>x.2=(t,19,o,v,si,de,fr)/\x.1=((wl s1.2.2.2 o (i+1)).length:Int)) ?_ ?_
   .refine cg (aT (aV (λx=>x=(I4 o (aI (T:=jP) s1.2.2.2 (i:Int)),t,19,o,v,si,de,fr)) ?_ ?_))
    .unfold I4;refine aK (λh=>aj ?_) λh=>aj ?_
     .dsimp only at h ⊢;rw[h];rfl
     .dsimp only at h ⊢;rw[bB h];rfl
    rintro x rfl;rw[Ix];dsimp only;cases hw:I4 o (aI (T:=jP) s1.2.2.2 (i:Int)) with
    |true=>
     refine vS (aj ⟨rfl,?_⟩);dsimp only;rw[gH (by omega)];simp
    |false=>exact dy (aj ⟨rfl,rfl⟩)
   rintro⟨c,x⟩ ⟨z,a⟩;dsimp only at z a;subst z;subst a;exact aj ⟨gH (by omega),rfl,rfl⟩
  .rintro⟨⟨c,ix⟩,x⟩ ⟨z,a,A⟩;dsimp only at z a A;subst z;subst a;subst A;exact dv (aj (aS vel))
 exact aj (aS (by rw[akm _ _ _ _ _ _ n18 n19]at vel;exact vel))
theorem ac0 (x:Int×Int×Bool) (c:Int):mM (x,c)=M (I4 c x):=by
 refine b_ ?_;unfold mM I4 be aD;refine gL (aK (λh=>aj (aj ?_)) λh=>aj (aj ?_))
 .have h:x.1=3:=h;rw[h];rfl
 .have h:¬x.1=3:=h;rw[bB h];rfl
theorem aek {n:Nat} (s:SY) (hs:SB n s):kR s=M (s.2.1,s.1,s.2.2.1,s.2.2.2):=by
 refine b_ ?_;obtain⟨s1,s2,z,a⟩:=s;have hn:=hs.n1;have hlk:=hs.lk;have hdn:=hs.dn;have hth:=hs.th;have hrd:=hs.rd;dsimp only at hlk hdn hth hrd;unfold kR sQ aY bO ck bx bC bD aX cR cL;dsimp only[ak];refine db (db (dI (by omega) (dI (by omega) (bd (by simp;omega) (by omega) ?_))));refine jD s1.length (by omega) (λi x=>∃c d,x=((i:Int),(s1,s2,z,a),c,d)/\d.length=s1.length/\∀j,j<i->d.getD j (0,[])=s1.getD j (0,[])) ?_ ?_ ⟨_,_,rfl,by simp,λj hj=>by omega⟩
 .rintro i x hi ⟨c,d,rfl,hd,he⟩;have hr:=hrd _ (bN (T:=Bd) (xs:=s1) (j:=(i:Int)) (by omega) (by omega));refine du ?_;refine cg (aT (aR (x:=(aI (T:=Bd) s1 (i:Int)).2) (b_ ?_) ?_))
  .exact bd (by dsimp only;omega) (by omega) (aj rfl)
  refine cg (cg (aj ⟨c,d.set i (aI (T:=Bd) s1 (i:Int)),?_,by simp[hd],λj hj=>?_⟩))
  .dsimp only;rw[gH (by omega)];rfl
  .by_cases e:i=j
   .subst e;rw[av,List.getElem?_set_self (by omega)];rfl
   .rw[av,List.getElem?_set_ne e,<-av];exact he j (by omega)
 .rintro x ⟨c,d,rfl,hd,he⟩;have:d=s1:=by
   refine dj hd λj U A=>?_
   have:=he j A;rw[av,av,ay U,ay A]at this;exact this
  subst this;refine dv (aw (P:=λy=>y=(s2,d,z,a)) ?_ λy L=>aj L);refine aR (x:=z) (b_ (bd (by dsimp only;omega) (by omega) (aj rfl))) (aR (x:=a) (b_ (bd (by dsimp only;omega) (by omega) (aj rfl))) (aj rfl))
theorem YK (l:η) (i u:Int):B6 (l++[i]) u=if l.length=0 then i else if i=u then i else B6 l u:=by
 unfold B6;cases l with
 |nil=>
  by_cases h:u=i
  .subst h;simp
  .simp[h];rfl
 |cons a r=>
  have e1:¬(a::r++[i]).length=0:=by simp
  have e2:¬(a::r).length=0:=by simp
  simp only[ax e1,ax e2];by_cases h:i=u
  .subst h;simp
  .have h':¬u=i:=λg=>h g.symm
   rw[ax h];have:(a::r++[i]).contains u=(a::r).contains u:=by simp[h']
   rw[this];rfl
theorem QL {th:Y (Int×Int×Bool)} {c u:Int} {i:Nat} (h:¬(wl th c i).length=0):0<=B6 (wl th c i) u/\B6 (wl th c i) u<i:=by
 have:=rM.1 (IW u h);exact⟨this.1,this.2.1⟩
theorem Lw {l:η} {u:Int} (h:l.length=0):B6 l u= -1:=by unfold B6;rw[aC h]
theorem ah6 (s:SY) (o u:Int) (hs:s.2.2.2.length<=1000):jV ((s.2.1,o,u),s.1,s.2.2.1,s.2.2.2)=M (B6 (wl s.2.2.2 o s.2.2.2.length) u,s.1,s.2.2.1,if (wl s.2.2.2 o s.2.2.2.length).length=0 then s.2.2.2 else yK s.2.2.2 (B6 (wl s.2.2.2 o s.2.2.2.length) u) 4):=by
 refine b_ ?_;obtain⟨s1,s2,z,a⟩:=s;dsimp only at hs ⊢;unfold jV rk aY bi bO ck bx iR kO aX cR aD cL;dsimp only[ak];refine jD a.length (by omega) (λi x=>x=((B6 (wl a o i) u,(i:Int)),s1,z,a,s2)) ?_ ?_ rfl
 .rintro i x hi rfl;refine du ?_;refine aV (λx=>x=(B6 (wl a o (i+1)) u,s1,z,a,s2)) ?_ ?_
  .refine cg (cg (aT ?_));refine aV (λx=>x=(decide (I4 o (aI (T:=jP) a (i:Int))=J/\((wl a o i).length=0\/(i:Int)=u)),s1,z,a,s2)) ?_ ?_
   .refine aR (ac0 _ _) (aO (λh=>?_) λh=>aj ?_)
    .have h:I4 o (aI (T:=jP) a (i:Int))=J:=h;refine bL (λg=>aj ?_) λg=>aj ?_
     .have:(wl a o i).length=0:=wq λq=>by have:=(QL (u:=u) q).1;dsimp only at g;omega
      simp[h,this]
     .have:¬(wl a o i).length=0:=λq=>by have:=Lw (u:=u) q;dsimp only at g;omega
      simp[h,this]
    .have h:I4 o (aI (T:=jP) a (i:Int))=af:=h;simp[h]
   rintro x rfl;rw[Ix];refine aK (λh=>aj ?_) λh=>aj ?_
   .rw[aC h.1,YK];rcases h.2 with g|g
    .rw[aC g]
    .rw[aC g];simp
   .by_cases g:I4 o (aI (T:=jP) a (i:Int))=J
    .rw[aC g,YK,ax λq=>h ⟨g,.inl q⟩,ax λq=>h ⟨g,.inr q⟩]
    .rw[ax g]
  rintro x rfl;exact aj (by dsimp only;rw[gH (by omega)])
 .rintro x rfl;refine dv (aw (P:=λy=>y=(B6 (wl a o a.length) u,s1,z,if (wl a o a.length).length=0 then a else yK a (B6 (wl a o a.length) u) 4)) ?_ λy A=>aj A);refine aV (λx=>x=(s1,z,if (wl a o a.length).length=0 then a else yK a (B6 (wl a o a.length) u) 4)) ?_ ?_
  .refine eO (λg=>?_) λg=>aj ?_
   .have h0:¬(wl a o a.length).length=0:=λq=>by have:=Lw (u:=u) q;dsimp only at g;omega
    have hp:=QL (u:=u) h0;refine aP hp.1 hp.2 (aP hp.1 hp.2 (aj ?_));rw[ax h0];rfl
   .have:(wl a o a.length).length=0:=wq λq=>by have:=(QL (u:=u) q).1;dsimp only at g;omega
    rw[aC this]
  rintro x rfl;exact aj rfl
theorem aha (th:Y (Int×Int×Bool)) (l:η) (i:Int):Ds th (l++[i])=yK (Ds th l) i 4:=by unfold Ds;rw[dA];rfl
theorem ah9 (l:η):∀(th:Y (Int×Int×Bool)) (j:Int),0<=j->(∀z∈l,0<=z/\z<th.length/\¬z=j)->aI (T:=jP) (Ds th l) j=aI (T:=jP) th j:=by
 induction l with
 |nil=>intro th j _ _;rfl
 |cons x r s=>
  intro th j hj h;have a:=h x (by simp);refine (s (yK th x 4) j hj λz A=>?_).trans ?_
  .have:=h z (by simp[A]);unfold yK;rw[bW];exact this
  .unfold yK;rw[sk (T:=jP) th x j _ a.1 a.2.1 hj,ax λq=>a.2.2 q.symm]
theorem Vy (s:SY) (o:Int) (hs:s.2.2.2.length<=1000):h_ ((s.2.1,o),s.1,s.2.2.1,s.2.2.2)=M (((wl s.2.2.2 o s.2.2.2.length).length:Int),s.1,s.2.2.1,Ds s.2.2.2 (wl s.2.2.2 o s.2.2.2.length)):=by
 refine b_ ?_;obtain⟨s1,s2,A,a⟩:=s;dsimp only at hs ⊢;unfold h_ mW aY bi bO dG ck bx kO aX cR aD cL;dsimp only[ak];refine jD a.length (by omega) (λi x=>x=((((wl a o i).length:Int),(i:Int)),s1,A,Ds a (wl a o i),s2)) ?_ ?_ rfl
 .rintro i x hi rfl;have hl:=wu a o i;have hg:aI (T:=jP) (Ds a (wl a o i)) (i:Int)=aI (T:=jP) a (i:Int):=ah9 _ _ _ (by omega) λz L=>by have:=rM.1 L;exact⟨this.1,by omega,by omega⟩
  have hq:=IE (wl a o i) a;refine du ?_;refine aV (λx=>x=(((wl a o (i+1)).length:Int),s1,A,Ds a (wl a o (i+1)),s2)) ?_ ?_
  .refine cg (cg (aT (aR (ac0 _ _) ?_)));rw[Ix];refine aO (λh=>?_) λh=>aj ?_
   .have h:I4 o (aI (T:=jP) a (i:Int))=J:=hg▸h;refine cg (cg (aj ?_));rw[aC h,aha];dsimp only;rw[gH (by omega)];simp only[bg,cf,fO];rfl
   .have h:I4 o (aI (T:=jP) a (i:Int))=af:=hg▸h;rw[h];rfl
  rintro x rfl;exact aj (by dsimp only;rw[gH (by omega)])
 .rintro x rfl;exact dv (aj rfl)
theorem ajn {n:Nat} (w:WT) (s:SY) (hs:SB n s) (hn:n<=1000) (L:w.2.2.1.length<=1000) (t k o u:Int) (he:EN w s t k o) (hr:XE w s t k o) (z:¬k=8) (a:¬k=9):ia (w,s,t,k,o,u)=M ((rJ w s t k o u).1,(rJ w s t k o u).2,J):=by
 refine b_ ?_;unfold ia aY bi bu cF dZ bO dG cY fH ky ck be bC bD kO aD;refine aR (ES w s hs hn L t k o he hr) (gd rfl (aR (aek s hs) ?_));suffices hmain:Ok _ _ from aV (λx=>((x.2.2.2.1,x.2.1,x.2.2.2.2),x.1)=rJ w s t k o u) hmain λx A=>aj (by rw[<- A])
 obtain⟨nm,t0,t1,cd,e1,e2,e3⟩:=id he;obtain⟨_,_,ce,lk,cn,th,fu⟩:=nm;have hm:16<=k/\k<=19->0<=(aI (T:=U4) w.2.2.1 o).2/\(aI (T:=U4) w.2.2.1 o).2<w.2.1.length:=λh=>cd _ (bN (cn h).1 (cn h).2)
 rcases @JJ k with rfl|rfl|rfl|rfl|rfl|rfl|rfl|rfl|rfl|rfl|rfl|rfl|rfl|rfl|rfl|rfl|rfl|rfl|rfl|rfl|rfl|rfl|rfl|⟨hk,U⟩
 case inr.inr.inr.inr.inr.inr.inr.inr.inr.inr.inr.inr.inr.inr.inr.inr.inr.inr.inr.inr.inr.inr.inr=>omega
 all_goals first|exact (z rfl).elim|exact (a rfl).elim|skip
 all_goals simp only[aU,bp,tW]
 all_goals with_reducible repeat' first|(refine OS.ok ?_;constructor)|refine IM.mk λ_=>?_
 all_goals try simp only[ak,rG] at*
 all_goals try rw[bW]
 all_goals first|omega|exact (hm ⟨by decide,by decide⟩).1|exact e1▸(hm ⟨by decide,by decide⟩).2|exact rfl|skip
 .refine aR (ah6 s o u hs.th) (bh ?_ (aj ?_))
  .have:ai (if (wl s.2.2.2 o s.2.2.2.length).length=0 then s.2.2.2 else yK s.2.2.2 (B6 (wl s.2.2.2 o s.2.2.2.length) u) 4)=s.2.2.2.length:=by
    split
    .rfl
    .exact bW ..
   dsimp only;rw[this];simp
  .rw[F'];by_cases h:(wl s.2.2.2 o s.2.2.2.length).length=0
   .rw[aC h,aC h,Lw h]
   .rw[ax h,ax h]
 .refine aR (Vy s o hs.th) (bh ?_ (aj rfl));dsimp only;rw[IE];simp
def Bx:Nat->Y η
 |0=>[[]]
 |m+1=>Bx m++(Bx m).map ((3-(m:Int))::·)
theorem Nv:∀m,[]∈Bx m
 |0=>by simp[Bx]
 |m+1=>by simp[Bx,Nv m]
theorem E5:∀(m:Nat) (l:η),Ip l->(∀z∈l,4-(m:Int)<=z/\z<4)->l∈Bx m
 |m,[],_,_=>Nv m
 |0,a::r,_,h=>by have:=h a (by simp);omega
 |m+1,a::r,hA,h=>by
  have A:=h a (by simp);rw[Bx,bP];by_cases e:a=3-(m:Int)
  .refine .inr (dt.2 ⟨r,E5 m r hA.2 λz s=>?_,by rw[e]⟩);have:=h z (by simp[s]);have:=hA.1 z s;omega
  .refine .inl (E5 m (a::r) hA λz s=>?_);have:=h z s;rcases bl.1 s with rfl|s
   .omega
   .have:=hA.1 z s;omega
theorem ajs {l:η} (h:Ip l) (h2:∀z∈l,0<=z/\z<4):l∈Bx 4:=E5 4 l h λz a=>by have:=h2 z a;omega
def in4:η:=[0,1,2,3]
theorem Yo {t:Int} (h0:0<=t) (h1:t<4):t∈in4:=by
 have:t=0\/t=1\/t=2\/t=3:=by omega
 rcases this with rfl|rfl|rfl|rfl<;>simp[in4]
def ap0 (l:η) (t:Int):Bool:=l.contains t||((xg (l++[t])==M (xQ l [t]))&&(mh (xQ l [t])==M (xQ l [t]))&&aB (xQ l [t]).length (l++[t]).length)
def apw (l:η) (t:Int):Bool:= !l.contains t||(js (l,t)==M (t,wo l t))
theorem agq:((Bx 4).all λl=>in4.all λt=>ap0 l t)=J:=by kernel_rfl
theorem ahz:((Bx 4).all λl=>in4.all λt=>apw l t)=J:=by kernel_rfl
theorem srt8 {l:η} {t:Int} (h:Ip l) (h2:∀z∈l,0<=z/\z<4) (h0:0<=t) (h1:t<4) (hn:¬t∈l):xg (l++[t])=M (xQ l [t])/\mh (xQ l [t])=M (xQ l [t])/\(xQ l [t]).length=(l++[t]).length:=by
 have:=gF.1 (gF.1 agq l (ajs h h2)) t (Yo h0 h1);unfold ap0 at this;have hc:l.contains t=af:=by simp[hn]
 rw[hc,Bool.false_or,al,al]at this;exact⟨eq_of_beq this.1.1,eq_of_beq this.1.2,ar this.2⟩
theorem del8 {l:η} {t:Int} (h:Ip l) (h2:∀z∈l,0<=z/\z<4) (h0:0<=t) (h1:t<4) (hn:l.contains t=J):js (l,t)=M (t,wo l t):=by
 have:=gF.1 (gF.1 ahz l (ajs h h2)) t (Yo h0 h1);unfold apw at this;rw[hn,Bool.not_true,Bool.false_or]at this;exact eq_of_beq this
theorem aib (a0 a1 a2:Int) (r0 r1 r2:η) (h:Int) (d:θ) (th:Y (Int×Int×Bool)) (h0:r0.length<=1000) (h1:r1.length<=1000) (h2:r2.length<=1000) (hd:d.length<=1000) (ht:th.length<=1000):nS ([(a0,r0),(a1,r1),(a2,r2)],h,d,th)=M ((h,d,th),(a0,a1,a2),r0,r1,r2):=by
 refine b_ ?_;have a:∀l:η,l.length<=1000->pA l=M l:=λl hl=>b_ (bd (by omega) (by omega) (aj rfl))
 unfold nS aY bO bx bC bD aX aD;refine bh rfl (aV (λx=>x=(([(a0,r0),(a1,r1),(a2,r2)],h,d,th),0,(a0,a1,a2),r0,r1,r2)) ?_ ?_)
 .exact fK rfl (bh rfl (aT (aR (a _ h0) (fK rfl (bh rfl (aT (aR (a _ h1) (fK rfl (bh rfl (aT (aR (a _ h2) (gd rfl (aj rfl)))))))))))))
 rintro x rfl;refine aR (x:=d) (b_ (bd (by dsimp only;omega) (by omega) (aj rfl))) (aR (x:=th) (b_ (bd (by dsimp only;omega) (by omega) (aj rfl))) (aj rfl))
theorem ajo {n:Nat} (w:WT) (s:SY) (hs:SB n s) (hn:n<=1000) (a:w.2.2.1.length<=1000) (t k o u:Int) (he:EN w s t k o) (hr:XE w s t k o) (hk:k=8\/k=9):ia (w,s,t,k,o,u)=D:=by
 have h1:=ES w s hs hn a t k o he hr;have h2:=aek s hs;rcases hk with rfl|rfl
 .unfold ia aY bi bu cF dZ bO dG cY fH ky ck be bC bD kO aD;simp only[h1,h2,aU,bp,tW];cases eX o (ai s.1)<;>rfl
 .unfold ia aY bi bu cF dZ bO dG cY fH ky ck be bC bD kO aD;simp only[h1,h2,aU,bp,tW];cases eX o (ai s.1)<;>rfl
theorem ajm {n:Nat} (w:WT) (s:SY) (hs:SB n s) (hn:n<=900) (Z:w.2.2.1.length<=1000) (t k u:Int) (he:EN w s t k 2) (hr:XE w s t k 2) (hk:k=8\/k=9) (h3:s.1.length=3) (hA:Ip (aI (T:=Bd) s.1 2).2) (a:∀z∈(aI (T:=Bd) s.1 2).2,0<=z/\z<4) (L:t<4):lA (w,s,t,k,2,u)=M ((rJ w s t k 2 u).1,(rJ w s t k 2 u).2,J):=by
 have h1:=ES w s hs (by omega) Z t k 2 he hr;have t0:=he.t0;have ra:=hr.ra;have rr:=hr.rr;have hrd:=hs.rd;have hdn:=hs.dn;have hth:=hs.th;obtain⟨s1,h,d,th⟩:=s
 match s1,h3 with
 |[(a0,r0),(a1,r1),(a2,r2)],_=>
  have g0:r0.length<=n:=hrd (a0,r0) (by simp);have g1:r1.length<=n:=hrd (a1,r1) (by simp);have g2:r2.length<=n:=hrd (a2,r2) (by simp);have hA:Ip r2:=hA;have a:∀z∈r2,0<=z/\z<4:=a;dsimp only at hdn hth;have hc:=aib a0 a1 a2 r0 r1 r2 h d th (by omega) (by omega) (by omega) hdn hth;refine b_ ?_;unfold lA aY bi bu cF dZ kY dG cY fH qJ be wQ bC aD;rcases hk with rfl|rfl
  .have ra:r2.contains t=af:=ra rfl;obtain⟨A,U,q3⟩:=srt8 hA a t0 L (by simpa using ra);simp only[h1,hc,aU,bp,tW];refine aV (λx=>x=(0,(h,d,th),0,(((a0,r0),(a1,r1),a2)),J,xQ r2 [t])) ?_ ?_
   .refine bd (by simp;omega) (by omega) (aR A (bh ?_ (aR U (bh ?_ (aj ?_)))))
    .rw[q3];simp
    .simp
    .rfl
   rintro x rfl;exact aj rfl
  .have rr:r2.contains t=J:=rr rfl;have A:=del8 hA a t0 L rr;simp only[h1,hc,aU,bp,tW];refine aV (λx=>x=(0,(h,d,th),0,(((a0,r0),(a1,r1),a2)),af,wo r2 t)) ?_ ?_
   .exact aR A (bh (by simp) (aj rfl))
   rintro x rfl;exact aj rfl
theorem aod {n:Nat} (w:WT) (s:SY) (hs:SB n s) (hn:n<=900) (a:w.2.2.1.length<=1000) (t k o u:Int) (he:EN w s t k o) (hr:XE w s t k o) (h2:k=8\/k=9->o=2) (L:s.1.length=3) (hA:∀l∈s.1,Ip l.2/\∀z∈l.2,0<=z/\z<4) (A:t<4):sJ (w,s,t,k,o,u)=M ((rJ w s t k o u).1,(rJ w s t k o u).2,J):=by
 unfold sJ;by_cases hk:k=8\/k=9
 .have:=h2 hk;subst this;have hg:=hA _ (bN (T:=Bd) (xs:=s.1) (j:=2) (by omega) (by omega));rw[ajo w s hs (by omega) a t k 2 u he hr hk,ajm w s hs hn a t k u he hr hk L hg.1 hg.2 A];rfl
 .rw[ajn w s hs (by omega) a t k o u he hr (λh=>hk (.inl h)) λh=>hk (.inr h)];rfl
theorem YJ (l:η) (h:l.length<=100000):zS l=M l:=b_ (bd (by omega) (by omega) (aj rfl))
theorem aic (l:η) (h:l.length<=100000):pA l=M l:=b_ (bd (by omega) (by omega) (aj rfl))
theorem aqn {n:Nat} (w:WT) (s:SN) (e:ET) (hs:NB n s) (hn:n<=900) (U:w.2.2.1.length<=1000) (Z:F16 w s) (A:EN w s.1 e.1 e.2.1 e.2.2.1) (hS:S16 w s e) (ld:e.2.2.2.2.2.1.length<=1000000) (lf:e.2.2.2.2.2.2.length<=1000000) (h2:e.2.1=8\/e.2.1=9->e.2.2.1=2) (h3:s.1.1.length=3) (hA:∀l∈s.1.1,Ip l.2/\∀z∈l.2,0<=z/\z<4) (t4:e.1<4):f_ (w,s,e)=M (nxP w s e,J):=by
 refine b_ ?_;obtain⟨rd,q1,q2,de,fr,nd,nf,va⟩:=id hS;obtain⟨nm,t0,t1,cd,e1,e2,e3⟩:=id A;obtain⟨k1,k2,ce,lk,cn,th,fu,_,_,_⟩:=nm;obtain⟨f1,f2,f3⟩:=id Z;have hsc:=hs.c;have hsf:=hs.f;have hsk:=hs.k;unfold f_ aY bi bu bO dG cY ck be bx iR kO aX aD cL;refine aV (λx=>x=(af,w,s,e,0)) ?_ ?_
 .refine aR (api w s U _ _ _ A Z) (gd rfl (dv (eO (λg=>(by dsimp only[ak]at g;omega)) λ_=>dv (aj ?_))));rw[gy.2 (show e.2.1<=23 by omega)]
 rintro x rfl;refine dy (aV (λx=>x=(af,w,s,e,0)) ?_ ?_)
 .exact aR (ES w s.1 hs.sb (by omega) U _ _ _ A rd) (gd rfl (aR (ah1 w e q1 q2) (gd rfl (aR (Tj w s e (λh=>ce h) de fr t0 (by rw[f3];exact t1) nd nf ld lf) (gd rfl (aR (agj w s hs.sb e Z A va) (aj rfl)))))))
 rintro x rfl;refine dy (aV (λx=>x.2=(w,s,e,0)/\rJ w s.1 e.1 e.2.1 e.2.2.1 x.1=rJ w s.1 e.1 e.2.1 e.2.2.1 e.2.2.2.1) ?_ ?_)
 .exact aK (λ_=>aj ⟨rfl,rfl⟩) λh=>aj ⟨rfl,YV _ _ _ _ _ _ _ h⟩
 rintro⟨u,x⟩ ⟨hx,hu⟩;dsimp only at hx hu;subst hx;refine aR (aod w s.1 hs.sb hn U _ _ _ u A rd h2 h3 hA t4) (gd rfl (aR (YJ _ (by dsimp only;omega)) (aR (YJ _ (by dsimp only;omega)) (aR (aic _ (by dsimp only;omega)) ?_))));rw[hu];refine aV (λx=>x.1=e/\x.2.2.1=(rJ w s.1 e.1 e.2.1 e.2.2.1 e.2.2.2.1).1/\x.2.2.2.1=ceP s.2.1 e/\x.2.2.2.2.1=fuP s.2.2.1 e/\x.2.2.2.2.2=s.2.2.2) ?_ ?_
 .unfold ceP fuP;refine aK (λh=>?_) λh=>aK (λh'=>?_) λh'=>aj ⟨rfl,rfl,(ax h).symm,(ax h').symm,rfl⟩
  .have h:e.2.1=4:=h;have a:=ce (.inr h);exact aP a.1 (by rw[f1];exact a.2) (aP a.1 (by rw[f1];exact a.2) (aj ⟨rfl,rfl,(aC h).symm,(ax (by omega)).symm,rfl⟩))
  .have h:e.2.1=22:=h';have a:=fu (.inl h);exact aP a.1 (by rw[f2];exact a.2) (aP a.1 (by rw[f2];exact a.2) (aj ⟨rfl,rfl,(ax (by omega)).symm,(aC h).symm,rfl⟩))
 rintro⟨x1,x2,x3,x4,x5,x6⟩ ⟨h1,h2,h4,h5,h6⟩;simp only at h1 h2 h4 h5 h6;subst h1;subst h2;subst h4;subst h5;subst h6;have L:x1.1<(s.2.2.2.length:Int):=by rw[f3];exact t1
 exact aP t0 L (aP t0 L (aT (aP t0 L (aP t0 L (aj rfl)))))
theorem aag (r:θ) (e:ET) (h1:∀y∈e.2.2.2.2.2.1,0<=y/\r.getD y.toNat af=J) (h2:∀y∈e.2.2.2.2.2.2,0<=y/\r.getD y.toNat af=J) (ld:e.2.2.2.2.2.1.length<=1000000) (a:e.2.2.2.2.2.2.length<=1000000):cu (r,e)=M J:=by
 refine b_ ?_;unfold cu kJ dZ ky bx iR bC bD aX cR aD cL;refine jD 2 (by omega) (λi x=>x=(i:Int)) ?_ ?_ rfl
 .rintro i x hi rfl;refine bL (λ_=>?_) λg=>(by omega)
  refine db (dI (by omega) (AO (by omega) (aT ?_)));have hr:∃l:η,aI (T:=.sl (.int .i64)) [e.2.2.2.2.2.1,e.2.2.2.2.2.2] (i:Int)=l/\(∀y∈l,0<=y/\r.getD y.toNat af=J)/\l.length<=1000000:=by
   match i,hi with
   |0,_=>exact⟨_,rfl,h1,ld⟩
   |1,_=>exact⟨_,rfl,h2,a⟩
  obtain⟨l,s,hA,hl⟩:=hr;have er':aI (T:=.sl aL) [e.2.2.2.2.2.1,e.2.2.2.2.2.2] (i:Int)=l:=s;dsimp only at er' ⊢;rw[er'];refine jD l.length (by omega) (λj x=>x=(j:Int)) ?_ ?_ rfl
  .rintro j x hj rfl;refine du ?_;have m:=hA _ (bN (T:=.int .i64) (xs:=l) (j:=(j:Int)) (by omega) (by omega));refine cg (aT (aV (λx=>x=af) ?_ ?_))
   .revert m;generalize aI (T:=.int .i64) l (j:Int)=z;intro m;have A:z.toNat<r.length:=by
     rcases ci z.toNat r.length with g|g
     .exact g
     .have:=m.2;rw[av,bG g]at this;cases this
    refine bL (λg=>(by have:=m.1;omega)) λ_=>eO (λg=>(by have:=m.1;dsimp only[ak]at g;omega)) λ_=>aP m.1 (by have:=m.1;omega) (aT (aj ?_))
    have:aI (T:=.bool) r z=J:=m.2;show (!aI (T:=.bool) r z)=af;rw[this];rfl
   rintro x rfl;exact dy (aj (gH (by omega)))
  .rintro x rfl;exact dv (aj (gH (by omega)))
 .rintro x rfl;exact bL (λg=>(by omega)) λ_=>aj rfl
abbrev W8 (n:Nat) (s:Y π):WT:=(C0,HJ,Np,UM,wR.take n,s)
theorem WX.w8 {w:WT} (L:WX w):∃n,(n=1\/n=2\/n=3\/n=4)/\w=W8 n w.2.2.2.2.2:=by
 obtain⟨h1,h2,A,z,⟨n,n1,U,a⟩,_,_⟩:=L;obtain⟨c,l,d,f,t,s⟩:=w;dsimp only at h1 h2 A z a;subst h1;subst h2;subst A;subst z;subst a;exact⟨n,by omega,rfl⟩
abbrev sn8 (w:WT):SN:=(Rc w,ce0 w,fu0 w,aA w.2.2.2.2.1.length 0)
theorem Jb (s:Y π):dD (W8 1 s)=M (sn8 (W8 1 s)):=by kernel_rfl
theorem st2 (s:Y π):dD (W8 2 s)=M (sn8 (W8 2 s)):=by kernel_rfl
theorem st3 (s:Y π):dD (W8 3 s)=M (sn8 (W8 3 s)):=by kernel_rfl
theorem st4 (s:Y π):dD (W8 4 s)=M (sn8 (W8 4 s)):=by kernel_rfl
theorem CW {w:WT} (a:WX w):dD w=M (sn8 w):=by
 obtain⟨n,hn,e⟩:=a.w8;rw[e];rcases hn with rfl|rfl|rfl|rfl
 .exact Jb _
 .exact st2 _
 .exact st3 _
 .exact st4 _
abbrev VN4:Y ζ:=[[120],[121],[118],[113]]
theorem vc8:ie C0=M (VN4,J):=by kernel_rfl
theorem vn1 (s:Y π):dW (W8 1 s,VN4)=M J:=by kernel_rfl
theorem vn2 (s:Y π):dW (W8 2 s,VN4)=M J:=by kernel_rfl
theorem vn3 (s:Y π):dW (W8 3 s,VN4)=M J:=by kernel_rfl
theorem vn4 (s:Y π):dW (W8 4 s,VN4)=M J:=by kernel_rfl
theorem vs8 {w:WT} (U:WX w) (hb:VL w):gi w=M J:=by
 have hv:=U.v;have hs:=U.s;have ht:=hb.t0;unfold SV0 at hv;refine b_ ?_;unfold gi li aY bi cF cY bx jw bD aX cR aD cL;refine jD w.2.2.2.2.2.length (by omega) (λi x=>∃t n:Int,x=((t,n,(i:Int)),w)/\L8 w.2.2.2.2.1.length (w.2.2.2.2.2.take i)=M (t,n)/\0<=t/\t<w.2.2.2.2.1.length/\0<=n/\n<=i) ?_ ?_ ⟨0,0,rfl,rfl,by omega,by omega,by omega,by omega⟩
 .rintro i x hi ⟨t,n,rfl,h1,t0,t1,n0,n1⟩;refine du ?_;refine cg (aT ?_);have h2:=XZ hv (i+1);have A:L8 w.2.2.2.2.1.length (w.2.2.2.2.2.take (i+1))=U5 w.2.2.2.2.1.length (M (t,n)) (aI (T:=yJ) w.2.2.2.2.2 (i:Int)):=by rw[Jc hi,h1]
  rw[A]at h2;dsimp only;revert h2 A;change _->_->Ok _ _;generalize aI (T:=yJ) w.2.2.2.2.2 (i:Int)=z;intro h2 A;obtain⟨(a:Int),(b:Int),(c:Int)⟩:=z;have h5:(a=t/\b=n)\/(t<a/\a<w.2.2.2.2.1.length/\b=0):=by
   simp only[U5]at h2;split at h2
   .rename_i h;exact .inl h
   .split at h2
    .rename_i h;exact .inr h
    .exact (h2 rfl).elim
  refine aV (λx=>x=(af,w,a,b,c)) ?_ ?_
  .refine dv (aj ?_);dsimp only;rw[mB.2 (by dsimp only[ak];omega)]
  rintro x rfl;refine dy ?_;rcases h5 with ⟨rfl,rfl⟩|⟨Z,L,rfl⟩
  .refine aV (λx=>x=((a,b),w,a,b,c)) (dv (aj rfl)) ?_;rintro x rfl;refine cq (λg=>(g rfl).elim) λ_=>aj ⟨a,b+1,?_,?_,t0,t1,by omega,by omega⟩
   .dsimp only;rw[iz (n:=b+1) (by omega) (by omega),gH (by omega)]
   .rw[A];simp[U5]
  .refine aV (λx=>x=((a,0),w,a,0,c)) (du (aj rfl)) ?_;rintro x rfl;refine cq (λg=>(g rfl).elim) λ_=>aj ⟨a,1,?_,?_,by omega,L,by omega,by omega⟩
   .dsimp only;rw[iz (n:=0+1) (by omega) (by omega),gH (by omega)];rfl
   .rw[A];show (if a=t/\(0:Int)=n then M (t,n+1) else if t<a/\a<_/\(0:Int)=0 then M (a,1) else D)=M (a,1);rw[ax (by omega),aC ⟨Z,L,rfl⟩]
 .rintro x ⟨t,n,rfl,_⟩;exact dv (aj rfl)
theorem VW8 {w:WT} (z:WX w) (hb:VL w):dX w=M J:=by
 have hs:=vs8 z hb;have hvn:dW (w,VN4)=M J:=by
  obtain⟨n,hn,e⟩:=z.w8;rw[e];rcases hn with rfl|rfl|rfl|rfl
  .exact vn1 _
  .exact vn2 _
  .exact vn3 _
  .exact vn4 _
 have hc:=z.c;have hd:=z.d;have hl:=z.l;obtain⟨w1,w2,w3,A,s,a⟩:=w;obtain⟨b1,b2,b3,Z,b0,U,L⟩:=hb;dsimp only at hc hd hl b1 b2 b3 Z U L b0;subst hc;subst hd;subst hl;refine b_ ?_;unfold dX lj aY bi cF cY bx bD aX cR aD cL;have f:∀n m:Nat,n<=m->fR (m:Int) (aM n)=af:=λn m h=>gy.2 (by dsimp only[ak];omega)
 refine aV (λx=>x=(af,C0,HJ,Np,A,s,a)) ?_ ?_
 .refine gd rfl (gd rfl (gd rfl (gd (f _ 2 Z) (aj ?_))));rw[show fR 60 (aM (ai a))=af from f _ 60 L]
 rintro x rfl;refine dy (aV (λx=>x=(af,C0,HJ,Np,A,s,a)) ?_ ?_)
 .refine gd (gy.2 (by dsimp only[ak];omega)) (aj ?_);rw[show fR 4 (aM (ai s))=af from f _ 4 U]
 rintro x rfl;refine dy (aR vc8 (aV (λx=>x=(af,C0,HJ,Np,A,s,a)) ?_ ?_))
 .exact dy (aR hvn (aj rfl))
 rintro x rfl;refine dy (jD 1 (by omega) (λi x=>x=((i:Int),C0,HJ,Np,A,s,a)) ?_ ?_ rfl)
 .rintro i x hi rfl;have:i=0:=by omega
  subst this;refine fK rfl (bh rfl (aT (aR (x:=J) ?_ (dy (aj rfl)))));rfl
 .rintro x rfl;exact gd rfl (aR (x:=J) (by rw[hs];rfl) (aj rfl))
abbrev eN (l:Y ET) (i:Nat):ET:=aI (T:=tE) l (i:Int)
theorem Ky {l:Y ET} {i:Nat} (h:i<l.length):eN l i∈l:=bN (T:=tE) (by omega) (by omega)
theorem alz {l:Y ET} {e:ET} {i:Nat} (h:i<l.length):eN (l++[e]) i=eN l i:=by
 unfold eN;rw[Ab,Ab,av,av,bR h]
theorem ahy (l:Y ET) (e:ET):eN (l++[e]) l.length=e:=by
 unfold eN;rw[Ab,av,cj (bX _),It];rfl
def OO (w:WT) (l:Y ET):SY×η×η:=l.foldl (λs e=>((rJ w s.1 e.1 e.2.1 e.2.2.1 e.2.2.2.1).1,ceP s.2.1 e,fuP s.2.2 e)) (Rc w,ce0 w,fu0 w)
theorem Uv (w:WT) {l:Y ET} {i:Nat} (h:i<l.length):OO w (l.take (i+1))=((rJ w (OO w (l.take i)).1 (eN l i).1 (eN l i).2.1 (eN l i).2.2.1 (eN l i).2.2.2.1).1,ceP (OO w (l.take i)).2.1 (eN l i),fuP (OO w (l.take i)).2.2 (eN l i)):=by
 rw[nh (T:=tE) h];unfold OO;rw[dA];rfl
theorem Acw.all {w:WT} {l:Y ET} {sy:SY} {ce fu:η} (h:Acw w l sy ce fu):OO w l=(sy,ce,fu)/\∀i,i<l.length->SCx w (l.take i) (OO w (l.take i)).1 (OO w (l.take i)).2.1 (OO w (l.take i)).2.2 (eN l i):=by
 induction h with
 |nil=>exact⟨rfl,λi hi=>ca hi (xM _)⟩
 |snoc h hs a=>
  rename_i l sy ce fu e;obtain⟨h1,h2⟩:=a;refine ⟨by unfold OO at h1 ⊢;rw[dA,h1];rfl,λi hi=>?_⟩;rw[bg,dc]at hi;rcases ci i l.length with g|g
  .rw[lJ (by omega),alz g];exact h2 i g
  .have:i=l.length:=by omega
   subst this;rw[lJ (bX _),cP,ahy,h1];exact hs
theorem TR.sc {w:WT} {l:Y ET} (a:TR (w,l)) {i:Nat} (h:i<l.length):SCx w (l.take i) (OO w (l.take i)).1 (OO w (l.take i)).2.1 (OO w (l.take i)).2.2 (eN l i):=by
 obtain⟨sy,ce,fu,ac⟩:=a.ac;exact ac.all.2 i h
def EZ (w:WT) (l:Y ET):HS:=l.foldl (λh e=>(Rn w h (evP e)).1) (HS.zero w)
def b8 (l:Y ET) (i:Nat):EV:=evP (eN l i)
def mR (w:WT) (l:Y ET) (i:Nat):η:=F4 w (EZ w (l.take i)) (b8 l i)
theorem zY (w:WT) {l:Y ET} {i:Nat} (h:i<l.length):EZ w (l.take (i+1))=j8 w (EZ w (l.take i)) (b8 l i) (mR w l i):=by
 rw[nh (T:=tE) h];unfold EZ;rw[dA];rfl
theorem zZ {w:WT} {l:Y ET} (a:TR (w,l)):∀i:Nat,i<=l.length->U6 (i:Int) (EZ w (l.take i))/\Fit w (EZ w (l.take i))
 |0,_=>by
  have wb:=a.wb;dsimp only at wb;exact⟨HS.zero_ok (by have:=wb.c;omega) (by have:=wb.l;omega) (by have:=wb.f;omega) (by have:=wb.t;omega),Fit.zero w⟩
 |i+1,h=>by
  obtain⟨o,s⟩:=zZ a i (by omega);have hl:=a.len;dsimp only at hl;have ok:=ae7 (a.ev _ (Ky (l:=l) (i:=i) (by omega))) a.wb s;rw[zY w (by omega)];exact⟨ac9 (w:=w) (e:=b8 l i) o (by omega) ok.th4,s.step (b8 l i)⟩
theorem sr {w:WT} {l:Y ET} (a:TR (w,l)) {i:Nat} (h:i<l.length):EOK w (EZ w (l.take i)) (b8 l i):=ae7 (a.ev _ (Ky h)) a.wb (zZ a i (by omega)).2
theorem lY {w:WT} {l:Y ET} (a:TR (w,l)) {i:Nat} (h:i<l.length):EvT (b8 l i) (eN l i):=apm (a.ev _ (Ky h))
theorem F5 {w:WT} {l:Y ET} (a:TR (w,l)) {i:Nat} (h:i<l.length):En ((i:Int)+1) (mR w l i):=QI (zZ a i (by omega)).1 (sr a h).th4
def LE (a b:η):Prop:=a.length<=b.length/\∀k,a.getD k 0<=b.getD k 0
theorem LE.refl (a:η):LE a a:=⟨bX _,λ_=>dk _⟩
theorem LE.trans {a b c:η} (h:LE a b) (g:LE b c):LE a c:=⟨dz h.1 g.1,λk=>Int.le_trans (h.2 k) (g.2 k)⟩
theorem LE.jl {a b:η} (h:LE a b):jl a b=b:=xj (by rw[qy];have:=h.1;omega) λi=>by rw[wB,rc];have:=h.2 i;omega
theorem ar8 (a b:η):LE a (jl a b):=⟨by rw[qy];omega,λk=>by rw[wB,rc];omega⟩
theorem LE_r (a b:η):LE b (jl a b):=⟨by rw[qy];omega,λk=>by rw[wB,rc];omega⟩
theorem al3 (a:η) (t:Nat):LE a (tk a t):=⟨by rw[Nu];omega,λk=>by rw[I9];split<;>(try subst k)<;>omega⟩
theorem Q6:∀(l:Y η) (c:η),LE c (l.foldl jl c)
 |[],c=>LE.refl c
 |x::r,c=>(ar8 c x).trans (Q6 r _)
theorem akd (w:vH) (h:HS) (e:EV):LE (h.T.getD e.th []) (F4 w h e):=(Q6 _ _).trans (al3 _ _)
theorem pj {α:Type} (l:Y α) (i j:Nat) (x d:α):(l.set i x).getD j d=if i=j/\i<l.length then x else l.getD j d:=by
 rw[av,ka];by_cases e:i=j
 .subst e;by_cases g:i<l.length
  .rw[aC rfl,aC g,aC ⟨rfl,g⟩];rfl
  .rw[aC rfl,ax g,ax λq=>g q.2,av,bG (by omega)]
 .rw[ax e,ax λq=>e q.1,av]
structure oL (P:η->Prop) (h:HS):Prop where
 T:∀u,P (h.T.getD u [])
 S:∀u,P (h.S.getD u [])
 L:∀u,P (h.L.getD u [])
 R:∀u,P (h.R.getD u [])
 C:∀u,P (h.C.getD u [])
 F:∀u,P (h.F.getD u [])
 X:P h.X
 N:∀u,P (h.N.getD u [])
theorem oL.mono {P Q:η->Prop} {h:HS} (a:oL P h) (g:∀x,P x->Q x):oL Q h:=⟨λu=>g _ (a.T u),λu=>g _ (a.S u),λu=>g _ (a.L u),λu=>g _ (a.R u),λu=>g _ (a.C u),λu=>g _ (a.F u),g _ a.X,λu=>g _ (a.N u)⟩
theorem oL.set {P:η->Prop} {l:Y η} {c:η} (h:∀u,P (l.getD u [])) (hc:P c) (i:Nat):∀u,P ((l.set i c).getD u []):=λu=>by
 rw[pj];split
 .exact hc
 .exact h u
theorem oL.repl {P:η->Prop} (h:P []) (n:Nat):∀u,P ((aA n []).getD u []):=λu=>by
 rw[av,jC];split<;>exact h
theorem oL.zero {P:η->Prop} (h:P []) (w:vH):oL P (HS.zero w):=⟨oL.repl h _,oL.repl h _,oL.repl h _,oL.repl h _,oL.repl h _,oL.repl h _,h,oL.repl h _⟩
theorem oL.step {P:η->Prop} (hj:∀a b,P a->P b->P (jl a b)) {w:vH} {h:HS} (a:oL P h) (e:EV) {c:η} (hc:P c):oL P (j8 w h e c):=by
 have b:oL P {h with T:=h.T.set e.th c}:={a with T:=oL.set a.T hc _}
 unfold j8;simp only[];repeat' split
 .exact {b with S:=oL.set a.S hc _}
 .exact {b with L:=oL.set a.L (hj _ _ (a.L _) hc) _}
 .exact {b with R:=oL.set a.R (hj _ _ (a.R _) hc) _}
 .exact {b with L:=oL.set a.L (hj _ _ (a.L _) hc) _}
 .exact {b with C:=oL.set a.C (hj _ _ (a.C _) hc) _}
 .exact b
 .exact {b with F:=oL.set a.F (hj _ _ (a.F _) hc) _}
 .exact {b with X:=hj _ _ a.X hc}
 .exact {b with N:=oL.set a.N hc _}
 .exact b
 .refine {b with N:=λu=>?_};have:=a.N u;simp only[C'];rw[av]at this ⊢;rw[EX];cases s:h.N[u]? with
  |none=>rw[s]at this;exact this
  |some x=>
   rw[s]at this;simp only[ct,vM];split
   .exact hc
   .exact this
 .exact b
theorem oL.src {P:η->Prop} {w:vH} {h:HS} (a:oL P h) (e:EV):∀x∈uc w h e,P x:=by
 intro c hc;unfold uc at hc;repeat' (split at hc)
 all_goals simp only[bl,cG,gq]at hc
 .subst hc;exact a.S _
 .subst hc;exact a.T _
 .rcases hc with rfl|rfl
  .exact a.L _
  .exact a.R _
 .subst hc;exact a.L _
 .rcases hc with rfl|rfl|rfl
  .exact a.L _
  .exact a.R _
  .exact a.N _
 .subst hc;exact a.C _
 .subst hc;exact a.F _
 .subst hc;exact a.X
theorem ae3 {P:η->Prop} (hj:∀a b,P a->P b->P (jl a b)):∀(l:Y η) (c:η),P c->(∀x∈l,P x)->P (l.foldl jl c)
 |[],_,hc,_=>hc
 |x::r,_,hc,h=>ae3 hj r _ (hj _ _ hc (h x (c8 ..))) λy s=>h y (cC _ s)
theorem aea (w:vH) (h:HS) (e:EV) (c:η):(j8 w h e c).T=h.T.set e.th c:=by
 unfold j8;simp only[];repeat' split
 all_goals rfl
def EC (l:Y ET) (u:Nat):Nat->Nat
 |0=>0
 |i+1=>if (b8 l i).th=u then EC l u i+1 else EC l u i
theorem Ug (l:Y ET) (u i:Nat):∀j,EC l u i<=EC l u (i+j)
 |0=>bX _
 |j+1=>by
  have:=Ug l u i j;show EC l u i<=EC l u (i+j+1);rw[EC];split<;>omega
theorem W7 (l:Y ET) (u:Nat) {i j:Nat} (h:i<=j):EC l u i<=EC l u j:=by
 obtain⟨k,rfl⟩:∃k,j=i+k:=⟨j-i,by omega⟩
 exact Ug l u i k
theorem IU (l:Y ET) (i:Nat):EC l (b8 l i).th (i+1)=EC l (b8 l i).th i+1:=by rw[EC,aC rfl]
structure Gd (w:WT) (l:List ET) (i:Nat) (x:η):Prop where
 le:∀u,x.getD u 0<=(EC l u i:Int)
 dn:∀k,k<i->(EC l (b8 l k).th k:Int)+1<=x.getD (b8 l k).th 0->LE (mR w l k) x
theorem Gd.nil (w:WT) (l:Y ET) (i:Nat):Gd w l i []:=⟨λu=>by simp,λk _ h=>by simp at h;omega⟩
theorem Gd.jl {w:WT} {l:Y ET} {i:Nat} (a b:η) (s:Gd w l i a) (hb:Gd w l i b):Gd w l i (jl a b):=by
 refine ⟨λu=>?_,λk hk h=>?_⟩
 .rw[wB,rc];have:=s.le u;have:=hb.le u;omega
 .rw[wB,rc]at h;by_cases g:(EC l (b8 l k).th k:Int)+1<=a.getD (b8 l k).th 0
  .exact (s.dn k hk g).trans (ar8 _ _)
  .exact (hb.dn k hk (by omega)).trans (LE_r _ _)
theorem Gd.succ {w:WT} {l:Y ET} {i:Nat} {x:η} (h:Gd w l i x):Gd w l (i+1) x:=by
 refine ⟨λu=>?_,λk hk g=>?_⟩
 .have:=h.le u;have:=W7 l u (show i<=i+1 by omega);omega
 .by_cases e:k=i
  .subst e;have:=h.le (b8 l k).th;omega
  .exact h.dn k (by omega) g
structure GS1 (w:WT) (l:List ET) (i:Nat) (h:HS):Prop where
 a:oL (Gd w l i) h
 t:∀u,(h.T.getD u []).getD u 0=(EC l u i:Int)
theorem QK {w:WT} {l:Y ET} {i:Nat} (g:GS1 w l i (EZ w (l.take i))):Gd w l (i+1) (mR w l i)/\(mR w l i).getD (b8 l i).th 0=(EC l (b8 l i).th i:Int)+1:=by
 have z:Gd w l i ((uc w (EZ w (l.take i)) (b8 l i)).foldl AI.jl ((EZ w (l.take i)).T.getD (b8 l i).th [])):=ae3 Gd.jl _ _ (g.a.T _) (g.a.src (w:=w) _);have A:=g.t (b8 l i).th;have hL:=Q6 (uc w (EZ w (l.take i)) (b8 l i)) ((EZ w (l.take i)).T.getD (b8 l i).th []);have L:=(g.a.T (b8 l i).th).dn;have s:=akd w (EZ w (l.take i)) (b8 l i);have e:(mR w l i).getD (b8 l i).th 0=(EC l (b8 l i).th i:Int)+1:=by
  unfold mR F4;rw[I9,aC rfl];have:=hL.2 (b8 l i).th;have:=z.le (b8 l i).th;omega
 refine ⟨⟨λu=>?_,λk hk h=>?_⟩,e⟩
 .by_cases hu:(b8 l i).th=u
  .subst hu;rw[e,IU];omega
  .have:=z.le u;unfold mR F4;rw[I9,ax λq=>hu q.symm,EC,ax hu];exact this
 .by_cases hki:k=i
  .subst hki;exact LE.refl _
  have hk:k<i:=by omega
  by_cases hu:(b8 l k).th=(b8 l i).th
  .refine (L k hk ?_).trans s;rw[hu,A];have:=W7 l (b8 l k).th (show k+1<=i from hk);rw[IU,hu]at this;omega
  .refine (z.dn k hk ?_).trans (al3 _ _);unfold mR F4 at h;rw[I9,ax hu]at h;exact h
theorem JP {w:WT} {l:Y ET} (s:TR (w,l)):∀i:Nat,i<=l.length->GS1 w l i (EZ w (l.take i))
 |0,_=>⟨oL.zero (Gd.nil w l 0) w,λu=>by have:=oL.repl (P:=λx=>x.getD u 0=0) (by simp) w.2.2.2.2.1.length u;exact this⟩
 |i+1,h=>by
  have g:=JP s i (by omega);obtain⟨A,z⟩:=QK g;have ht:=(sr s (show i<l.length by omega)).th;rw[zY w (by omega)];refine ⟨oL.step Gd.jl (g.a.mono λx h=>h.succ) _ A,λu=>?_⟩;rw[aea,pj];by_cases hu:(b8 l i).th=u
  .subst hu;rw[aC ⟨rfl,ht⟩,z,IU];omega
  .rw[ax λq=>hu q.1,g.t u,EC,ax hu]
theorem IV {w:WT} {l:Y ET} (a:TR (w,l)) {i:Nat} (h:i<l.length):(mR w l i).getD (b8 l i).th 0=(EC l (b8 l i).th i:Int)+1:=(QK (JP a i (by omega))).2
theorem ael {w:WT} {l:Y ET} (a:TR (w,l)) {i:Nat} (h:i<l.length):Gd w l (i+1) (mR w l i):=(QK (JP a i (by omega))).1
def OX (w:WT) (l:Y ET) (k j:Nat):Prop:=(EC l (b8 l k).th k:Int)+1<=(mR w l j).getD (b8 l k).th 0
theorem OX.le {w:WT} {l:Y ET} (a:TR (w,l)) {k j:Nat} (hk:k<=j) (hj:j<l.length) (h:OX w l k j):LE (mR w l k) (mR w l j):=(ael a hj).dn k (by omega) h
theorem OX.of {w:WT} {l:Y ET} (a:TR (w,l)) {k j:Nat} (hk:k<l.length) (h:LE (mR w l k) (mR w l j)):OX w l k j:=by
 have:=h.2 (b8 l k).th;rw[IV a hk]at this;exact this
theorem OX.own {w:WT} {l:Y ET} (a:TR (w,l)) {k j:Nat} (hk:k<j) (hj:j<l.length) (h:(b8 l k).th=(b8 l j).th):OX w l k j:=by
 unfold OX;rw[h,IV a hj];have:=W7 l (b8 l k).th (show k+1<=j from hk);rw[IU,h]at this;omega
theorem OX.trans {w:WT} {l:Y ET} (a:TR (w,l)) {i j k:Nat} (hi:i<=j) (hj:j<=k) (hk:k<l.length) (h:OX w l i j) (g:OX w l j k):OX w l i k:=OX.of a (by omega) ((h.le a hi (by omega)).trans (g.le a hj hk))
def Q8 (r:η):Prop:=Ip r/\∀z∈r,0<=z/\z<4
def P8 (s:Y (Int×η)):Prop:=∀x∈s,Q8 x.2
theorem P8.get {s:Y (Int×η)} (h:P8 s) (o:Int):Q8 (aI (T:=Bd) s o).2:=by
 unfold aI;rw[av];cases e:s[o.toNat]? with
 |none=>exact⟨trivial,λz a=>by cases a⟩
 |some x=>exact h x (aZ e)
theorem P8.set {s:Y (Int×η)} (h:P8 s) (o a:Int) {r:η} (hr:Q8 r):P8 (cK s o (a,r)):=λx z=>by
 rcases Dg z with z|rfl
 .exact h x z
 .exact hr
theorem CS (p:Int->Bool):∀{l:η},Ip l->Ip (l.filter p)
 |[],_=>trivial
 |x::r,h=>by
  rw[List.filter_cons];split
  .exact⟨λy a=>h.1 y ((xN.1 a).1),CS p h.2⟩
  .exact CS p h.2
theorem P8.ite {c:Prop} [Decidable c] {a b:SY×Int} (s:P8 a.1.1) (hb:P8 b.1.1):P8 (if c then a else b).1.1:=by by_cases h:c<;>simp[h,s,hb]
theorem P8.ap {w:WT} {s:SY} (h:P8 s.1) {t:Int} (k o v:Int) (t0:0<=t) (L:t<4):P8 (rJ w s t k o v).1.1:=by
 have ow:∀a b,P8 (owP s.1 a b):=λa b=>h.set a b (h.get a)
 have un:P8 (rdP s.1 o (xQ (aI (T:=Bd) s.1 o).2 [t])):=h.set _ _ ⟨Rk _ _,λz A=>by
  rcases I8.1 A with A|A
  .exact (h.get o).2 z A
  .rw[aJ]at A;subst A;exact⟨t0,L⟩⟩
 have wt:P8 (rdP s.1 o (wo (aI (T:=Bd) s.1 o).2 t)):=h.set _ _ ⟨CS _ (h.get o).1,λz A=>(h.get o).2 z (xN.1 A).1⟩;unfold rJ;exact P8.ite h (P8.ite h (P8.ite (ow _ _) (P8.ite (ow _ _) (P8.ite un (P8.ite wt (P8.ite h (P8.ite h (P8.ite h (P8.ite h (P8.ite (ow _ _) (P8.ite (ow _ _) (P8.ite (P8.ite h h) (P8.ite h (P8.ite h (P8.ite h h)))))))))))))))
def iM (w:WT) (l:Y ET):SN:=l.foldl (nxP w) (sn8 w)
theorem Nx (w:WT) {l:Y ET} {i:Nat} (h:i<l.length):iM w (l.take (i+1))=nxP w (iM w (l.take i)) (eN l i):=by
 rw[nh (T:=tE) h];unfold iM;rw[dA];rfl
structure K8 (w:WT) (l:List ET) (i:Nat) (s:SN):Prop where
 a:(s.1,s.2.1,s.2.2.1)=OO w (l.take i)
 r:P8 s.1.1
 c:s.2.1.length=w.1.length
 f:s.2.2.1.length=w.2.2.2.1.length
 k:s.2.2.2.length=w.2.2.2.2.1.length
 n:CN (l.take i) s.2.2.2
theorem XW {w:WT} {l:Y ET} (s:TR (w,l)):∀i:Nat,i<=l.length->K8 w l i (iM w (l.take i))
 |0,_=>⟨rfl,λx L=>by rw[qg L];exact⟨trivial,λz A=>by cases A⟩,by simp[iM,ce0],by simp[iM,fu0],by simp[iM],λt t0 t1=>by
   have:(aA w.2.2.2.2.1.length (0:Int)).getD t.toNat 0=0:=by rw[av,jC];split<;>rfl
   exact this⟩
 |i+1,h=>by
  obtain⟨a,r,c,f,k,n⟩:=XW s i (by omega);have sc:=s.sc (i:=i) (by omega);have hl:=s.len;have ht:=s.wb.t;dsimp only at hl ht;have en:=sc.en;have e1:=en.t1;have htk:=qK i l;rw[Nx w (by omega)];refine ⟨?_,r.ap _ _ _ en.t0 (by omega),?_,?_,?_,?_⟩
  .rw[Uv w (by omega),<-a];rfl
  .unfold nxP ceP;dsimp only;split
   .rw[bW];exact c
   .exact c
  .unfold nxP fuP;dsimp only;split
   .rw[bW];exact f
   .exact f
  .unfold nxP;rw[bW];exact k
  .have:=n.next (eN l i) en.t0 (by rw[k];exact e1) (by omega);rw[nh (T:=tE) (show i<l.length by omega)];exact this
theorem Pe {w:WT} {l:Y ET} (z:TR (w,l)) {i:Nat} (hi:i<l.length):f_ (w,iM w (l.take i),eN l i)=M (iM w (l.take (i+1)),J):=by
 obtain⟨a,r,c,f,k,n⟩:=XW z i (by omega);have sc:=z.sc hi;have A:=z.wx;have ht:=z.wb.t;have hls:=z.ls _ (Ky hi);dsimp only at A ht hls;rw[Nx w hi];rw[<- a]at sc;generalize iM w (l.take i)=s at*
 generalize eN l i=e at*
 have en:=sc.en;have e1:=en.t1;have l3:w.2.1.length=3:=by rw[A.l];rfl
 have L:=n e.1 en.t0 (by rw[k];exact e1);have b1:=z.wb.c;have b4:=z.wb.f;have b3:=z.wb.d;dsimp only at b1 b4 b3;have q1:=en.e1;have Z:=en.e2;have q3:=en.e3;dsimp only at q1 Z q3;refine aqn (n:=4) w s e ⟨⟨by omega,by omega,λx U=>?_,by omega,by omega⟩,by omega,by omega,by omega⟩ (by omega) (by omega) ⟨c,f,k⟩ en ⟨sc.rd,sc.s1,sc.s2,sc.de,sc.fr,by rw[L];exact sc.nd,by rw[L];exact sc.nf,sc.va⟩ hls.1 hls.2 (λh=>?_) (by omega) r (by omega)
 .have:=QU x.2 0 4 (r x U).1 (r x U).2;omega
 .have o1:=en.nm.lk (by omega);have o2:=en.nm.rw (by omega);generalize e.2.2.1=o at o1 o2;rw[A.l]at o1 o2;have:o=0\/o=1\/o=2:=by have:HJ.length=3:=rfl;omega
  rcases this with rfl|rfl|rfl
  .cases o2
  .cases o2
  .rfl
abbrev fN (l:Y ET) (i:Nat) (t:Int):θ:=fl (l.take i) t
theorem Qe {l:Y ET} {i:Nat} (h:i<l.length) {t:Int} (e:(eN l i).1=t):fN l (i+1) t=fN l i t++[ug (eN l i)]:=by
 unfold fN;rw[nh (T:=tE) h,vo,Af e]
theorem Qf {l:Y ET} {i:Nat} (h:i<l.length) {t:Int} (e:¬(eN l i).1=t):fN l (i+1) t=fN l i t:=by
 unfold fN;rw[nh (T:=tE) h,vo,xo e,ii]
theorem IB {w:WT} {l:Y ET} (a:TR (w,l)) {i:Nat} (hi:i<l.length) {t:Int} (e:(eN l i).1=t):cu (fN l i t,eN l i)=M J:=by
 have sc:=a.sc hi;have hls:=a.ls _ (Ky hi);subst e;exact aag _ _ sc.rd1 sc.rd2 hls.1 hls.2
theorem Qg (l:Y ET) (i:Nat) (t:Int):(fN l i t).length<=l.length:=dz (Yv _ _) (List.length_take_le' ..)
theorem ag2 {w:WT} {l:Y ET} (a:TR (w,l)) (hn:w.2.2.2.2.1.length=4):eH (w,l)=M (0,0):=by
 have hl:=a.len;dsimp only at hl;refine b_ ?_;unfold eH jY aY bi bu cF dZ kY bO fH ky qJ be bx bC bD aX cR aD cL;refine gd (gy.2 (by dsimp only[ak];omega)) (aR (VW8 a.wx a.vl) (dy (aR (CW a.wx) (bh (by show (c9 0 (aM w.2.2.2.2.1.length)&&c9 (aM w.2.2.2.2.1.length) (aM w.2.2.2.2.1.length)&&a8 (aQ (aM w.2.2.2.2.1.length)) 24&&decide ((aM w.2.2.2.2.1.length:Int)=4))=J;rw[hn];rfl) ?_))));refine jD l.length (by omega) (λi x=>x=((i:Int),(w,l),iM w (l.take i),fN l i 0,fN l i 1,fN l i 2,fN l i 3)) ?_ ?_ rfl
 .rintro i x hi rfl;have e1:=(a.sc hi).en.t1;have e0:=(a.sc hi).en.t0;have st:=Pe a hi;have fa:=λt=>Qg l i t
  have rd:=λt=>IB a hi (t:=t)
  have own:=λt=>Qe hi (t:=t)
  have oth:=λt=>Qf hi (t:=t)
  refine du ?_;refine cg (aT ?_);have ht:(eN l i).1=0\/(eN l i).1=1\/(eN l i).1=2\/(eN l i).1=3:=by omega
  have hg:aI (T:=tE) l (i:Int)=eN l i:=rfl;dsimp only;rw[hg];generalize eN l i=e at*
  refine aR st ?_;obtain⟨(t:Int),e⟩:=e;dsimp only at ht;rcases ht with rfl|rfl|rfl|rfl
  .refine aV (λx=>x=(af,(w,l),iM w (l.take i),(0,e),iM w (l.take (i+1)),fN l i 0,fN l i 1,fN l i 2,fN l i 3)) ?_ ?_
   .simp only[aU,bp,tW];exact aR (rd 0 rfl) (aj rfl)
   rintro x rfl;refine dy (aV (λx=>x=((w,l),iM w (l.take i),iM w (l.take (i+1)),fN l (i+1) 0,fN l (i+1) 1,fN l (i+1) 2,fN l (i+1) 3)) ?_ ?_)
   .simp only[aU,bp,tW];rw[own 0 rfl,oth 1 (by show ¬(0:Int)=1;decide),oth 2 (by show ¬(0:Int)=2;decide),oth 3 (by show ¬(0:Int)=3;decide)];have:=fa 0;refine aK (λh=>bd (by simp;omega) (by omega) (aj ?_)) λh=>bd (by simp;omega) (by omega) (aj ?_)
    .have:ug (0,e)=J:=by unfold ug;rw[aS h];rfl
     rw[this]
    .have:ug (0,e)=decide (e.1=23):=by unfold ug;rw[bB h];rfl
     rw[this]
   rintro x rfl;exact aj (by rw[gH (by omega)])
  .refine aV (λx=>x=(af,(w,l),iM w (l.take i),(1,e),iM w (l.take (i+1)),fN l i 0,fN l i 1,fN l i 2,fN l i 3)) ?_ ?_
   .simp only[aU,bp,tW];exact aR (rd 1 rfl) (aj rfl)
   rintro x rfl;refine dy (aV (λx=>x=((w,l),iM w (l.take i),iM w (l.take (i+1)),fN l (i+1) 0,fN l (i+1) 1,fN l (i+1) 2,fN l (i+1) 3)) ?_ ?_)
   .simp only[aU,bp,tW];rw[own 1 rfl,oth 0 (by show ¬(1:Int)=0;decide),oth 2 (by show ¬(1:Int)=2;decide),oth 3 (by show ¬(1:Int)=3;decide)];have:=fa 1;refine aK (λh=>bd (by simp;omega) (by omega) (aj ?_)) λh=>bd (by simp;omega) (by omega) (aj ?_)
    .have:ug (1,e)=J:=by unfold ug;rw[aS h];rfl
     rw[this]
    .have:ug (1,e)=decide (e.1=23):=by unfold ug;rw[bB h];rfl
     rw[this]
   rintro x rfl;exact aj (by rw[gH (by omega)])
  .refine aV (λx=>x=(af,(w,l),iM w (l.take i),(2,e),iM w (l.take (i+1)),fN l i 0,fN l i 1,fN l i 2,fN l i 3)) ?_ ?_
   .simp only[aU,bp,tW];exact aR (rd 2 rfl) (aj rfl)
   rintro x rfl;refine dy (aV (λx=>x=((w,l),iM w (l.take i),iM w (l.take (i+1)),fN l (i+1) 0,fN l (i+1) 1,fN l (i+1) 2,fN l (i+1) 3)) ?_ ?_)
   .simp only[aU,bp,tW];rw[own 2 rfl,oth 0 (by show ¬(2:Int)=0;decide),oth 1 (by show ¬(2:Int)=1;decide),oth 3 (by show ¬(2:Int)=3;decide)];have:=fa 2;refine aK (λh=>bd (by simp;omega) (by omega) (aj ?_)) λh=>bd (by simp;omega) (by omega) (aj ?_)
    .have:ug (2,e)=J:=by unfold ug;rw[aS h];rfl
     rw[this]
    .have:ug (2,e)=decide (e.1=23):=by unfold ug;rw[bB h];rfl
     rw[this]
   rintro x rfl;exact aj (by rw[gH (by omega)])
  .refine aV (λx=>x=(af,(w,l),iM w (l.take i),(3,e),iM w (l.take (i+1)),fN l i 0,fN l i 1,fN l i 2,fN l i 3)) ?_ ?_
   .simp only[aU,bp,tW];exact aR (rd 3 rfl) (aj rfl)
   rintro x rfl;refine dy (aV (λx=>x=((w,l),iM w (l.take i),iM w (l.take (i+1)),fN l (i+1) 0,fN l (i+1) 1,fN l (i+1) 2,fN l (i+1) 3)) ?_ ?_)
   .simp only[aU,bp,tW];rw[own 3 rfl,oth 0 (by show ¬(3:Int)=0;decide),oth 1 (by show ¬(3:Int)=1;decide),oth 2 (by show ¬(3:Int)=2;decide)];have:=fa 3;refine aK (λh=>bd (by simp;omega) (by omega) (aj ?_)) λh=>bd (by simp;omega) (by omega) (aj ?_)
    .have:ug (3,e)=J:=by unfold ug;rw[aS h];rfl
     rw[this]
    .have:ug (3,e)=decide (e.1=23):=by unfold ug;rw[bB h];rfl
     rw[this]
   rintro x rfl;exact aj (by rw[gH (by omega)])
 .rintro x rfl;exact dv (aj rfl)
theorem Gi {w:WT} {l:Y ET} (a:TR (w,l)) (hn:¬w.2.2.2.2.1.length=4):eH (w,l)=D:=by
 have hl:=a.len;dsimp only at hl;unfold eH jY aY bi bu cF dZ kY bO fH ky qJ be bx bC bD aX cR aD cL;rw[show fR 400 (aM (ai (w,l).2))=af from gy.2 (by dsimp only[ak];omega)];simp only[aU,bp,tW];rw[VW8 a.wx a.vl];simp only[aU,bp,tW];rw[CW a.wx];simp only[aU,bp,tW];rw[show decide ((aM w.2.2.2.2.1.length:Int)=4)=af from bB (by dsimp only[ak];omega),L4];rfl
theorem ag3 {w:WT} {l:Y ET} (a:TR (w,l)) (hn:w.2.2.2.2.1.length=3):dU (w,l)=M (0,0):=by
 have hl:=a.len;dsimp only at hl;refine b_ ?_;unfold dU jZ aY bi bu cF dZ bO cY fH ky be bx bC bD aX cR aD cL;refine gd (gy.2 (by dsimp only[ak];omega)) (aR (VW8 a.wx a.vl) (dy (aR (CW a.wx) (bh (by show (c9 0 (aM w.2.2.2.2.1.length)&&c9 (aM w.2.2.2.2.1.length) (aM w.2.2.2.2.1.length)&&a8 (aQ (aM w.2.2.2.2.1.length)) 24&&decide ((aM w.2.2.2.2.1.length:Int)=3))=J;rw[hn];rfl) ?_))));refine jD l.length (by omega) (λi x=>x=((i:Int),(w,l),iM w (l.take i),fN l i 0,fN l i 1,fN l i 2)) ?_ ?_ rfl
 .rintro i x hi rfl;have e1:=(a.sc hi).en.t1;have e0:=(a.sc hi).en.t0;have st:=Pe a hi;have fa:=λt=>Qg l i t
  have rd:=λt=>IB a hi (t:=t)
  have own:=λt=>Qe hi (t:=t)
  have oth:=λt=>Qf hi (t:=t)
  refine du ?_;refine cg (aT ?_);have ht:(eN l i).1=0\/(eN l i).1=1\/(eN l i).1=2:=by omega
  have hg:aI (T:=tE) l (i:Int)=eN l i:=rfl;dsimp only;rw[hg];generalize eN l i=e at*
  refine aR st ?_;obtain⟨(t:Int),e⟩:=e;dsimp only at ht;rcases ht with rfl|rfl|rfl
  .refine aV (λx=>x=(af,(w,l),iM w (l.take i),(0,e),iM w (l.take (i+1)),fN l i 0,fN l i 1,fN l i 2)) ?_ ?_
   .simp only[aU,bp,tW];exact aR (rd 0 rfl) (aj rfl)
   rintro x rfl;refine dy (aV (λx=>x=((w,l),iM w (l.take i),iM w (l.take (i+1)),fN l (i+1) 0,fN l (i+1) 1,fN l (i+1) 2)) ?_ ?_)
   .simp only[aU,bp,tW];rw[own 0 rfl,oth 1 (by show ¬(0:Int)=1;decide),oth 2 (by show ¬(0:Int)=2;decide)];have:=fa 0;refine aK (λh=>bd (by simp;omega) (by omega) (aj ?_)) λh=>bd (by simp;omega) (by omega) (aj ?_)
    .have:ug (0,e)=J:=by unfold ug;rw[aS h];rfl
     rw[this]
    .have:ug (0,e)=decide (e.1=23):=by unfold ug;rw[bB h];rfl
     rw[this]
   rintro x rfl;exact aj (by rw[gH (by omega)])
  .refine aV (λx=>x=(af,(w,l),iM w (l.take i),(1,e),iM w (l.take (i+1)),fN l i 0,fN l i 1,fN l i 2)) ?_ ?_
   .simp only[aU,bp,tW];exact aR (rd 1 rfl) (aj rfl)
   rintro x rfl;refine dy (aV (λx=>x=((w,l),iM w (l.take i),iM w (l.take (i+1)),fN l (i+1) 0,fN l (i+1) 1,fN l (i+1) 2)) ?_ ?_)
   .simp only[aU,bp,tW];rw[own 1 rfl,oth 0 (by show ¬(1:Int)=0;decide),oth 2 (by show ¬(1:Int)=2;decide)];have:=fa 1;refine aK (λh=>bd (by simp;omega) (by omega) (aj ?_)) λh=>bd (by simp;omega) (by omega) (aj ?_)
    .have:ug (1,e)=J:=by unfold ug;rw[aS h];rfl
     rw[this]
    .have:ug (1,e)=decide (e.1=23):=by unfold ug;rw[bB h];rfl
     rw[this]
   rintro x rfl;exact aj (by rw[gH (by omega)])
  .refine aV (λx=>x=(af,(w,l),iM w (l.take i),(2,e),iM w (l.take (i+1)),fN l i 0,fN l i 1,fN l i 2)) ?_ ?_
   .simp only[aU,bp,tW];exact aR (rd 2 rfl) (aj rfl)
   rintro x rfl;refine dy (aV (λx=>x=((w,l),iM w (l.take i),iM w (l.take (i+1)),fN l (i+1) 0,fN l (i+1) 1,fN l (i+1) 2)) ?_ ?_)
   .simp only[aU,bp,tW];rw[own 2 rfl,oth 0 (by show ¬(2:Int)=0;decide),oth 1 (by show ¬(2:Int)=1;decide)];have:=fa 2;refine aK (λh=>bd (by simp;omega) (by omega) (aj ?_)) λh=>bd (by simp;omega) (by omega) (aj ?_)
    .have:ug (2,e)=J:=by unfold ug;rw[aS h];rfl
     rw[this]
    .have:ug (2,e)=decide (e.1=23):=by unfold ug;rw[bB h];rfl
     rw[this]
   rintro x rfl;exact aj (by rw[gH (by omega)])
 .rintro x rfl;exact dv (aj rfl)
theorem O0 {w:WT} {l:Y ET} (a:TR (w,l)) (hn:¬w.2.2.2.2.1.length=3):dU (w,l)=D:=by
 have hl:=a.len;dsimp only at hl;unfold dU jZ aY bi bu cF dZ bO cY fH ky be bx bC bD aX cR aD cL;rw[show fR 400 (aM (ai (w,l).2))=af from gy.2 (by dsimp only[ak];omega)];simp only[aU,bp,tW];rw[VW8 a.wx a.vl];simp only[aU,bp,tW];rw[CW a.wx];simp only[aU,bp,tW];rw[show decide ((aM w.2.2.2.2.1.length:Int)=3)=af from bB (by dsimp only[ak];omega),L4];rfl
theorem ag4 {w:WT} {l:Y ET} (a:TR (w,l)) (hn:w.2.2.2.2.1.length=2):dE (w,l)=M (0,0):=by
 have hl:=a.len;dsimp only at hl;refine b_ ?_;unfold dE j6 aY bi bu cF bO dG fH be bx bC bD aX cR aD cL;refine gd (gy.2 (by dsimp only[ak];omega)) (aR (VW8 a.wx a.vl) (dy (aR (CW a.wx) (bh (by show (c9 0 (aM w.2.2.2.2.1.length)&&c9 (aM w.2.2.2.2.1.length) (aM w.2.2.2.2.1.length)&&a8 (aQ (aM w.2.2.2.2.1.length)) 24&&decide ((aM w.2.2.2.2.1.length:Int)=2))=J;rw[hn];rfl) ?_))));refine jD l.length (by omega) (λi x=>x=((i:Int),(w,l),iM w (l.take i),fN l i 0,fN l i 1)) ?_ ?_ rfl
 .rintro i x hi rfl;have e1:=(a.sc hi).en.t1;have e0:=(a.sc hi).en.t0;have st:=Pe a hi;have fa:=λt=>Qg l i t
  have rd:=λt=>IB a hi (t:=t)
  have own:=λt=>Qe hi (t:=t)
  have oth:=λt=>Qf hi (t:=t)
  refine du ?_;refine cg (aT ?_);have ht:(eN l i).1=0\/(eN l i).1=1:=by omega
  have hg:aI (T:=tE) l (i:Int)=eN l i:=rfl;dsimp only;rw[hg];generalize eN l i=e at*
  refine aR st ?_;obtain⟨(t:Int),e⟩:=e;dsimp only at ht;rcases ht with rfl|rfl
  .refine aV (λx=>x=(af,(w,l),iM w (l.take i),(0,e),iM w (l.take (i+1)),fN l i 0,fN l i 1)) ?_ ?_
   .simp only[aU,bp,tW];exact aR (rd 0 rfl) (aj rfl)
   rintro x rfl;refine dy (aV (λx=>x=((w,l),iM w (l.take i),iM w (l.take (i+1)),fN l (i+1) 0,fN l (i+1) 1)) ?_ ?_)
   .simp only[aU,bp,tW];rw[own 0 rfl,oth 1 (by show ¬(0:Int)=1;decide)];have:=fa 0;refine aK (λh=>bd (by simp;omega) (by omega) (aj ?_)) λh=>bd (by simp;omega) (by omega) (aj ?_)
    .have:ug (0,e)=J:=by unfold ug;rw[aS h];rfl
     rw[this]
    .have:ug (0,e)=decide (e.1=23):=by unfold ug;rw[bB h];rfl
     rw[this]
   rintro x rfl;exact aj (by rw[gH (by omega)])
  .refine aV (λx=>x=(af,(w,l),iM w (l.take i),(1,e),iM w (l.take (i+1)),fN l i 0,fN l i 1)) ?_ ?_
   .simp only[aU,bp,tW];exact aR (rd 1 rfl) (aj rfl)
   rintro x rfl;refine dy (aV (λx=>x=((w,l),iM w (l.take i),iM w (l.take (i+1)),fN l (i+1) 0,fN l (i+1) 1)) ?_ ?_)
   .simp only[aU,bp,tW];rw[own 1 rfl,oth 0 (by show ¬(1:Int)=0;decide)];have:=fa 1;refine aK (λh=>bd (by simp;omega) (by omega) (aj ?_)) λh=>bd (by simp;omega) (by omega) (aj ?_)
    .have:ug (1,e)=J:=by unfold ug;rw[aS h];rfl
     rw[this]
    .have:ug (1,e)=decide (e.1=23):=by unfold ug;rw[bB h];rfl
     rw[this]
   rintro x rfl;exact aj (by rw[gH (by omega)])
 .rintro x rfl;exact dv (aj rfl)
theorem abn {w:WT} {l:Y ET} (a:TR (w,l)) (hn:¬w.2.2.2.2.1.length=2):dE (w,l)=D:=by
 have hl:=a.len;dsimp only at hl;unfold dE j6 aY bi bu cF bO dG fH be bx bC bD aX cR aD cL;rw[show fR 400 (aM (ai (w,l).2))=af from gy.2 (by dsimp only[ak];omega)];simp only[aU,bp,tW];rw[VW8 a.wx a.vl];simp only[aU,bp,tW];rw[CW a.wx];simp only[aU,bp,tW];rw[show decide ((aM w.2.2.2.2.1.length:Int)=2)=af from bB (by dsimp only[ak];omega),L4];rfl
theorem ag5 {w:WT} {l:Y ET} (a:TR (w,l)) (hn:w.2.2.2.2.1.length=1):eJ (w,l)=M (0,0):=by
 have hl:=a.len;dsimp only at hl;refine b_ ?_;unfold eJ mj aY bi bu bO cY be bx bC bD aX cR aD cL;refine gd (gy.2 (by dsimp only[ak];omega)) (aR (VW8 a.wx a.vl) (dy (aR (CW a.wx) (bh (by show (c9 0 (aM w.2.2.2.2.1.length)&&c9 (aM w.2.2.2.2.1.length) (aM w.2.2.2.2.1.length)&&a8 (aQ (aM w.2.2.2.2.1.length)) 24&&decide ((aM w.2.2.2.2.1.length:Int)=1))=J;rw[hn];rfl) ?_))));refine jD l.length (by omega) (λi x=>x=((i:Int),(w,l),iM w (l.take i),fN l i 0)) ?_ ?_ rfl
 .rintro i x hi rfl;have e1:=(a.sc hi).en.t1;have e0:=(a.sc hi).en.t0;have st:=Pe a hi;have fa:=λt=>Qg l i t
  have rd:=λt=>IB a hi (t:=t)
  have own:=λt=>Qe hi (t:=t)
  have oth:=λt=>Qf hi (t:=t)
  refine du ?_;refine cg (aT ?_);have ht:(eN l i).1=0:=by omega
  have hg:aI (T:=tE) l (i:Int)=eN l i:=rfl;dsimp only;rw[hg];generalize eN l i=e at*
  refine aR st ?_;obtain⟨(t:Int),e⟩:=e;dsimp only at ht;subst ht
  .refine aV (λx=>x=(af,(w,l),iM w (l.take i),(0,e),iM w (l.take (i+1)),fN l i 0)) ?_ ?_
   .simp only[aU,bp,tW];exact aR (rd 0 rfl) (aj rfl)
   rintro x rfl;refine dy (aV (λx=>x=((w,l),iM w (l.take i),iM w (l.take (i+1)),fN l (i+1) 0)) ?_ ?_)
   .simp only[aU,bp,tW];rw[own 0 rfl];have:=fa 0;refine aK (λh=>bd (by simp;omega) (by omega) (aj ?_)) λh=>bd (by simp;omega) (by omega) (aj ?_)
    .have:ug (0,e)=J:=by unfold ug;rw[aS h];rfl
     rw[this]
    .have:ug (0,e)=decide (e.1=23):=by unfold ug;rw[bB h];rfl
     rw[this]
   rintro x rfl;exact aj (by rw[gH (by omega)])
 .rintro x rfl;exact dv (aj rfl)
theorem aoc {w:WT} {l:Y ET} (a:TR (w,l)):mT (w,l)=M (0,0):=by
 have h1:=a.vl.t0;have s:=a.vl.t;dsimp only at h1 s;unfold mT;have:w.2.2.2.2.1.length=4\/w.2.2.2.2.1.length=3\/w.2.2.2.2.1.length=2\/w.2.2.2.2.1.length=1:=by omega
 rcases this with h|h|h|h
 .rw[ag2 a h];rfl
 .rw[Gi a (by omega),ag3 a h];rfl
 .rw[Gi a (by omega),O0 a (by omega),ag4 a h];rfl
 .rw[Gi a (by omega),O0 a (by omega),abn a (by omega),ag5 a h];rfl
theorem aca {w:WT} {l:Y ET} (a:TR (w,l)):qw w=M (HS.zero w).t:=by
 have wb:=a.wb;dsimp only at wb;exact aff w (by have:=wb.c;unfold ua;omega) (by have:=wb.l;unfold ua;omega) (by have:=wb.f;unfold ua;omega) (by have:=wb.t;unfold ua;omega)
theorem ago {w:WT} {l:Y ET} (a:TR (w,l)) {i:Nat} (hi:i<l.length):s8 (w,(EZ w (l.take i)).t,eN l i)=M ((EZ w (l.take (i+1))).t,mR w l i):=by
 have hl:=a.len;dsimp only at hl;have:=aiy (zZ a i (by omega)).1 (by omega) (sr a hi) (lY a hi);rw[zY w hi];exact this
def tA {α:Type} (n:Nat) (f:Nat->α) (z:α) (i:Nat):Y α:=(bS n).map λk=>if k<i then f k else z
theorem zD {α:Type} (n:Nat) (f:Nat->α) (z:α) (i:Nat):(tA n f z i).length=n:=by simp[tA]
theorem Pb {α:Type} {n:Nat} {f:Nat->α} {z:α} {i:Nat} (h:i<n):(tA n f z i).set i (f i)=tA n f z (i+1):=by
 unfold tA;apply dj
 .simp
 intro k h1 h2;simp only[ig,bw,c_]at h1;rw[ne];simp only[kU,jv];by_cases e:i=k
 .subst e;rw[aC rfl,aC (by omega)]
 .rw[ax e];by_cases g:k<i
  .rw[aC g,aC (by omega)]
  .rw[ax g,ax (by omega)]
theorem Pa {α:Type} (n:Nat) (f:Nat->α) (z:α):tA n f z 0=aA n z:=by unfold tA;simp[List.map_const']
theorem Vd {α:Type} (n:Nat) (f:Nat->α) (z:α):tA n f z n=(bS n).map f:=iI λk hk=>by rw[aC (lK.1 hk)]
abbrev csN (w:WT) (l:Y ET):Y η:=(bS l.length).map (mR w l)
theorem ai3 {w:WT} {l:Y ET} {i:Nat} (h:i<l.length):(csN w l).getD i []=mR w l i:=by
 rw[av,bc,wN h];rfl
theorem Ez {w:WT} {l:Y ET} {i:Nat} (h:i<l.length):aI (T:=.sl (.int .i64)) (csN w l) (i:Int)=mR w l i:=by rw[rm];exact ai3 h
theorem abm {w:WT} {l:Y ET} (a:TR (w,l)):qa (w,l)=M (csN w l,0):=by
 have hl:=a.len;dsimp only at hl;refine b_ ?_;unfold qa yf aY bO ck bx jw bC bD aX cR aD cL;refine aR (aoc a) (dy (aR (aca a) (db (db (dI (by dsimp only[ak];omega) (dI (by omega) (bd (by simp;omega) (by omega) ?_)))))));refine jD l.length (by omega) (λi x=>x=((i:Int),(w,l),(EZ w (l.take i)).t,tA l.length (mR w l) [] i)) ?_ ?_ ?_
 .rintro i x hi rfl;refine du ?_;refine cg (aT ?_);refine aR (ago a hi) ?_;refine aP (by dsimp only;omega) (by dsimp only;rw[zD];omega) (aP (by dsimp only;omega) (by dsimp only;rw[zD];omega) (aj ?_));dsimp only;rw[gH (by omega),dM,Pb hi]
 .rintro x rfl;refine dv (aj ?_);dsimp only;rw[Vd]
 .show _=_;rw[Pa];rfl
def nB (x:Int×Int×Int×Int×Int×(η)×η):I (Bool):=
 (jn (be x.2.1 3 (aD J) (aD (decide ((x.2.1:Int)=4)))) λa=>(M a))
def mF (x:fD×Int×Int×Int×Int×Int×(η)×η):I (Bool):=
 (jn (au (nB x.2) λs=>(aF s (iR 0 x.p3 (bx x.p3 (aX x.1.1) (bD kX x.1.1 x.p3 λa=>(aD a.2.2.2.1)) (aD af)) (aD af)) (aD af))) λz=>(M z))
def mG (x:(Y jM)×Int):I (Int):=
 (iter (σ:=Int) (λa=>(iR 0 a (bD gX x.1 a λz=>(bD gX x.1 x.2 λs=>(be z.1 s.1 (aD a) (cR (bm .i64 (a-1)))))) (aD (-1)))) (bm .i64 (x.2-1)))
def uN (x:(Y jM)×Int):I (Int):=
 (au (mG x) λs=>(jn (bx s 0 (aD J) (bD gX x.1 s λz3=>(aD (!decide ((z3.2.1:Int)=16))))) λx2=>(aF x2 (M (-1)) (iter (σ:=Int) (λa=>(bx a x.2 (jn (bD gX x.1 a λz6=>(be z6.2.1 18 (bD gX x.1 a λz7=>(bD gX x.1 x.2 λz8=>(be z7.2.2.2.1 z8.1 (aD J) (bD gX x.1 a λz9=>(be z9.2.1 19 (bD gX x.1 a λZ=>(bD gX x.1 s λU=>(aD (decide ((Z.2.2.1:Int)=U.2.2.1))))) (aD af)))))) (bD gX x.1 a λL=>(be L.2.1 19 (bD gX x.1 a λA=>(bD gX x.1 s λz=>(aD (decide ((A.2.2.1:Int)=z.2.2.1))))) (aD af))))) λx5=>(aF x5 (aD a) (cR (cL a)))) (aD (-1)))) (cL s)))))
def wY (x:fD×(Y jM)×Int):I η:=
 (bD gX x.2.1 x.2.2 λz1=>(iter (σ:=Int×fD×(η)×Int×Int×Int×Int×Int×(η)×η) (λa=>(bx a.1 x.2.2 (bD gX x.2.1 a.1 λZ=>(jn (α:=fD×(η)×Int×Int×Int×Int×Int×(η)×η) (jn (be a.p4 1 (be Z.2.1 20 (aD ((decide ((Z.p2:Int)=a.p3)),a.2.1,a.p2,a.q3,Z)) (aD (af,a.2.1,a.p2,a.q3,Z))) (aD (af,a.2.1,a.p2,a.q3,Z))) λA=>(aF A.1 (bC (a8 (ai A.p2+ai ([a.1])) 8) (aD (A.2.1,(A.p2++([a.1])),A.p3))) (jn (be A.p3.2.1 21 (aD ((decide ((A.p4:Int)=A.p3.p2)),A.2)) (aD (af,A.2))) λz=>(aF z.1 (bC (a8 (ai z.p2+ai ([a.1])) 8) (aD (z.2.1,(z.p2++([a.1])),z.p3))) (jn (be z.p3.2.1 3 (au (mF (z.2.1,z.p3)) λy8=>(aF y8 (be z.p5 4 (aD ((decide ((z.p6:Int)=z.p3.p2)),z.2)) (aD (af,z.2))) (aD (af,z.2)))) (aD (af,z.2))) λs=>(aF s.1 (bC (a8 (ai s.p2+ai ([a.1])) 8) (aD (s.2.1,(s.p2++([a.1])),s.p3))) (jn (be s.p3.2.1 23 (be s.p5 22 (aD ((decide ((s.p6:Int)=s.p3.p2)),s.2.1,s.p2,s.p3)) (aD (af,s.2.1,s.p2,s.p3))) (aD (af,s.2.1,s.p2,s.p3))) λU=>(aF U.1 (bC (a8 (ai U.p2+ai ([a.1])) 8) (aD (U.2.1,(U.p2++([a.1])),U.q3))) (aD U.2))))))))) λx4=>(cR ((cL a.1),x4)))) (au (jn (α:=η) (be a.p4 17 (au (uN x.2) λL=>(iR 0 L (bC (a8 (ai a.p2+ai ([L])) 8) (aD (a.p2++([L])))) (aD a.p2))) (aD a.p2)) λx10=>(M x10)) λr=>M (bQ r)))) (0,x.1,([]:η),z1)))
def wW (x:fD×(Y jM)×Int):I η:=
 (bD gX x.2.1 x.2.2 λz1=>(au (pa (x.1,z1)) λZ=>(iter (σ:=Int×fD×η) (λa=>(bx a.1 x.2.2 (jn (α:=fD×η) (bD gX x.2.1 a.1 λz5=>(au (o9 (a.2.1,z5)) λy6=>(jn (iR 0 Z.1 (be y6.1 Z.1 (aF Z.2 (aF (!y6.2) (aD (J,a.2)) (bD gX x.2.1 x.2.2 λz8=>(be z8.2.1 12 (bD gX x.2.1 a.1 λz9=>(aD ((decide ((z9.2.1:Int)=13)),a.2))) (aD (af,a.2))))) (aD (J,a.2))) (bD gX x.2.1 x.2.2 λU=>(be U.2.1 12 (bD gX x.2.1 a.1 λL=>(aD ((decide ((L.2.1:Int)=13)),a.2))) (aD (af,a.2))))) (bD gX x.2.1 x.2.2 λA=>(be A.2.1 12 (bD gX x.2.1 a.1 λz=>(aD ((decide ((z.2.1:Int)=13)),a.2))) (aD (af,a.2))))) λs=>(aF s.1 (bC (a8 (ai s.2.2+ai ([a.1])) 8) (aD (s.2.1,(s.2.2++([a.1]))))) (aD s.2))))) λx4=>(cR ((cL a.1),x4))) (aD a.2.2))) (0,x.1,([]:η)))))
def sY (x:fD×Y jM):I (Y η):=
 (iter (σ:=Int×(fD×Y jM)×Y η) (λs=>(bx s.1 (aX x.2) (jn (α:=(η)×(fD×Y jM)×Y η) (au (mG (s.2.1.2,s.1)) λy3=>(iR 0 y3 (kO (.sl aL) s.2.2 y3 λz4=>(aD (z4,s.2))) (aD (([]:η),s.2)))) λU=>(au (wY (U.2.1.1,U.2.1.2,s.1)) λy5=>(iter (σ:=g_×(fD×Y jM)×Y η) (λz=>(bx z.1.2 (aX y5) (bD aL y5 z.1.2 λz7=>(kO (.sl aL) z.2.2 z7 λz8=>(au (qn (z.1.1,z8)) λy9=>(cR ((y9,(cL z.1.2)),z.2))))) (au (au (wW (z.2.1.1,z.2.1.2,s.1)) λL=>(iter (σ:=g_×(fD×Y jM)×Y η) (λa=>(bx a.1.2 (aX L) (bD aL L a.1.2 λz12=>(kO (.sl aL) a.2.2 z12 λz13=>(au (qn (a.1.1,z13)) λy14=>(cR ((y14,(cL a.1.2)),a.2))))) (au (bD gX a.2.1.2 s.1 λZ=>(au (qm (a.1.1,Z.1)) λA=>(bC (a8 (ai a.2.2+ai ([A])) 24) (cR ((cL s.1),a.2.1,(a.2.2++([A]))))))) λr=>M (bQ r)))) ((z.1.1,0),z.2))) λr=>M (bQ r)))) ((U.1,0),U.2)))) (aD s.2.2))) (0,x,([]:Y η)))
def nA (x:η×Int×Int):I (Bool):=
 (au (sI (x.1,x.2.2)) λa=>(M (c9 x.2.1 a)))
def epN (l:Y ET) (i:Nat):ν:=((EC l (b8 l i).th i:Int)+1,((b8 l i).th:Int))
theorem XK (c:η) (a:Int) (u:Nat):eU (c,a,(u:Int))=M (decide (a<=c.getD u 0)):=by
 unfold eU;dsimp only;rw[sB];rfl
theorem UD (w:vH) (o:Nat) (h:o<w.2.2.1.length) (h0:0<=(w.2.2.1.getD o ([],0)).2):rQ (w,(o:Int))=M ((Pu w.2.2.1 o:Nat):Int):=by
 have e1:(w.2.2.1.getD o ([],0)).2=((Pu w.2.2.1 o:Nat):Int):=by unfold Pu;omega
 unfold rQ aY bi bu cY bx wQ aX aD;simp only[];rw[u_ (by omega)];simp only[c4,ju];rw[N0 (by simp;omega)];simp only[c4];rw[cE (c5 h),P_,e1]
def CU (w:vH) (e:EV):Int×Bool:=if e.k=6\/e.k=10 then ((e.ob:Int),af) else if e.k=8 then ((e.ob:Int),J) else if e.k=17 then ((Pu w.2.2.1 e.ob:Nat),af) else (-1,af)
def Bf (w:vH) (e:EV):Int×Bool:=if e.k=7\/e.k=11 then ((e.ob:Int),af) else if e.k=9 then ((e.ob:Int),J) else if e.k=16 then ((Pu w.2.2.1 e.ob:Nat),af) else (-1,af)
theorem aoe {w:vH} {h:HS} {e:EV} (ok:EOK w h e) {x:ETp} (hx:EvT e x):pa (w,x)=M (CU w e):=by
 obtain⟨x1,x2,x3,x4,x5,x6,x7⟩:=x;obtain⟨w1,Z,U,L,A,z⟩:=w;obtain⟨th,k,ob,va⟩:=e;obtain⟨s,a,q3,q4⟩:=hx;simp only at s a q3 q4;subst s q4;unfold pa aY bi bu cF dZ cY ky be aD;rcases IF a ok.k1 ok.k2 with ⟨e,e'⟩|⟨e,e'⟩|⟨e,e'⟩|⟨e,e'⟩|⟨e,e'⟩|⟨e,e'⟩|⟨e,e'⟩|⟨e,e'⟩|⟨e,e'⟩|⟨e,e'⟩|⟨e,e'⟩|⟨e,e'⟩|⟨e,e'⟩|⟨e,e'⟩|⟨e,e'⟩|⟨e,e'⟩|⟨e,e'⟩|⟨e,e'⟩|⟨e,e'⟩|⟨e,e'⟩|⟨e,e'⟩|⟨e,e'⟩|⟨e,e'⟩<;>clear a<;>subst e<;>subst e'
 case inr.inr.inr.inr.inr.inl=>
  obtain rfl:=q3 (by decide);simp only[aU,cJ,cW,cZ,c4,ju,cV];rfl
 case inr.inr.inr.inr.inr.inr.inr.inr.inr.inl=>
  obtain rfl:=q3 (by decide);simp only[aU,cJ,cW,cZ,c4,ju,cV];rfl
 case inr.inr.inr.inr.inr.inr.inr.inl=>
  obtain rfl:=q3 (by decide);simp only[aU,cJ,cW,cZ,c4,ju,cV];rfl
 case inr.inr.inr.inr.inr.inr.inr.inr.inr.inr.inr.inr.inr.inr.inr.inr.inl=>
  obtain rfl:=q3 (by decide);obtain⟨d1,d2,d3⟩:=ok.cd (.inr rfl);have mu:=UD (w1,Z,U,L,A,z) ob d1 d2;simp only[aU,cJ,cW,cZ,c4,ju,cV,mu];rfl
 all_goals
  simp only[aU,cJ,cW,cZ,c4,ju,cV];rfl
theorem amy {w:vH} {h:HS} {e:EV} (ok:EOK w h e) {x:ETp} (hx:EvT e x):o9 (w,x)=M (Bf w e):=by
 obtain⟨x1,x2,x3,x4,x5,x6,x7⟩:=x;obtain⟨w1,Z,U,L,A,z⟩:=w;obtain⟨th,k,ob,va⟩:=e;obtain⟨s,a,q3,q4⟩:=hx;simp only at s a q3 q4;subst s q4;unfold o9 aY bi bu cF dZ cY ky be aD;rcases IF a ok.k1 ok.k2 with ⟨e,e'⟩|⟨e,e'⟩|⟨e,e'⟩|⟨e,e'⟩|⟨e,e'⟩|⟨e,e'⟩|⟨e,e'⟩|⟨e,e'⟩|⟨e,e'⟩|⟨e,e'⟩|⟨e,e'⟩|⟨e,e'⟩|⟨e,e'⟩|⟨e,e'⟩|⟨e,e'⟩|⟨e,e'⟩|⟨e,e'⟩|⟨e,e'⟩|⟨e,e'⟩|⟨e,e'⟩|⟨e,e'⟩|⟨e,e'⟩|⟨e,e'⟩<;>clear a<;>subst e<;>subst e'
 case inr.inr.inr.inr.inr.inr.inl=>
  obtain rfl:=q3 (by decide);simp only[aU,cJ,cW,cZ,c4,ju,cV];rfl
 case inr.inr.inr.inr.inr.inr.inr.inr.inr.inr.inl=>
  obtain rfl:=q3 (by decide);simp only[aU,cJ,cW,cZ,c4,ju,cV];rfl
 case inr.inr.inr.inr.inr.inr.inr.inr.inl=>
  obtain rfl:=q3 (by decide);simp only[aU,cJ,cW,cZ,c4,ju,cV];rfl
 case inr.inr.inr.inr.inr.inr.inr.inr.inr.inr.inr.inr.inr.inr.inr.inl=>
  obtain rfl:=q3 (by decide);obtain⟨d1,d2,d3⟩:=ok.cd (.inl rfl);have mu:=UD (w1,Z,U,L,A,z) ob d1 d2;simp only[aU,cJ,cW,cZ,c4,ju,cV,mu];rfl
 all_goals
  simp only[aU,cJ,cW,cZ,c4,ju,cV];rfl
theorem Ym (a b:η):jl a b=jl b a:=xj (by simp only[qy];omega) λi=>by simp only[wB,rc];omega
def JC (c:Nat->η) (p:Nat->Bool):Nat->η
 |0=>[]
 |i+1=>if p i=J then jl (JC c p i) (c i) else JC c p i
theorem XI (c:Nat->η) (p:Nat->Bool):∀i,(∀k,k<i->p k=af)->JC c p i=[]
 |0,_=>rfl
 |i+1,h=>by rw[JC,h i (by omega),ax (by simp)];exact XI c p i λk hk=>h k (by omega)
theorem Q7 {c:Nat->η} {p:Nat->Bool} {i:Nat} (h:p i=J):JC c p (i+1)=jl (JC c p i) (c i):=by rw[JC,aC h]
theorem ER {c:Nat->η} {p:Nat->Bool} {i:Nat} (h:p i=af):JC c p (i+1)=JC c p i:=by rw[JC,ax (by rw[h];simp)]
theorem apq (w:vH) (h:HS) (e:EV) (c:η):(j8 w h e c).S=if e.k=20 then h.S.set e.ob c else h.S:=by
 unfold j8;simp only[];repeat' split
 all_goals first|rfl|omega
theorem apt (w:vH) (h:HS) (e:EV) (c:η):(j8 w h e c).L=if (e.k=7\/e.k=11) then jat h.L e.ob c else if e.k=16 then jat h.L (Pu w.2.2.1 e.ob) c else h.L:=by
 unfold j8;simp only[];repeat' split
 all_goals first|rfl|omega
theorem apr (w:vH) (h:HS) (e:EV) (c:η):(j8 w h e c).R=if e.k=9 then jat h.R e.ob c else h.R:=by
 unfold j8;simp only[];repeat' split
 all_goals first|rfl|omega
theorem apv (w:vH) (h:HS) (e:EV) (c:η):(j8 w h e c).C=if e.k=4/\tH w.1 e.ob=J then jat h.C e.ob c else h.C:=by
 unfold j8;simp only[];repeat' split
 all_goals first|rfl|omega|(rename_i h1 h2;exact ca ⟨by assumption,by assumption⟩ h2)|(rename_i h1 h2;exact ca h2.2 h1)|(rename_i h1;exact ca h1.1 (by assumption))
theorem apu (w:vH) (h:HS) (e:EV) (c:η):(j8 w h e c).F=if e.k=22 then jat h.F e.ob c else h.F:=by
 unfold j8;simp only[];repeat' split
 all_goals first|rfl|omega
theorem apn (w:vH) (h:HS) (e:EV) (c:η):(j8 w h e c).X=if e.k=13 then jl h.X c else h.X:=by
 unfold j8;simp only[];repeat' split
 all_goals first|rfl|omega
theorem DC (l:Y η) (i:Nat) (c:η) (o:Nat) (h:i<l.length):(jat l i c).getD o []=if i=o then jl (l.getD o []) c else l.getD o []:=by
 unfold jat;rw[pj];by_cases e:i=o
 .subst e;rw[aC ⟨rfl,h⟩,aC rfl]
 .rw[ax λq=>e q.1,ax e]
abbrev pT (l:Y ET) (u k:Nat):Bool:=decide ((b8 l k).th=u)
abbrev pS (l:Y ET) (u k:Nat):Bool:=decide ((b8 l k).k=20/\(b8 l k).ob=u)
abbrev pL (w:WT) (l:Y ET) (x:Int×Bool) (k:Nat):Bool:=decide (Bf w (b8 l k)=x)
abbrev pC (w:WT) (l:Y ET) (o k:Nat):Bool:=decide ((b8 l k).k=4/\(b8 l k).ob=o/\tH w.1 o=J)
abbrev pF (l:Y ET) (o k:Nat):Bool:=decide ((b8 l k).k=22/\(b8 l k).ob=o)
abbrev pX (l:Y ET) (k:Nat):Bool:=decide ((b8 l k).k=13)
structure IN (w:WT) (l:List ET) (i:Nat) (h:HS):Prop where
 T:∀u,h.T.getD u []=JC (mR w l) (pT l u) i
 S:∀u,h.S.getD u []=JC (mR w l) (pS l u) i
 L:∀o:Nat,h.L.getD o []=JC (mR w l) (pL w l ((o:Int),af)) i
 R:∀o:Nat,h.R.getD o []=JC (mR w l) (pL w l ((o:Int),J)) i
 C:∀o,h.C.getD o []=JC (mR w l) (pC w l o) i
 F:∀o,h.F.getD o []=JC (mR w l) (pF l o) i
 X:h.X=JC (mR w l) (pX l) i
theorem acj {w:vH} {e:EV} (h:e.k=7\/e.k=11):Bf w e=((e.ob:Int),af):=by unfold Bf;rw[aC h]
theorem Vo {w:vH} {e:EV} (h:e.k=9):Bf w e=((e.ob:Int),J):=by unfold Bf;rw[ax (by omega),aC h]
theorem X5 {w:vH} {e:EV} (h:e.k=16):Bf w e=((Pu w.2.2.1 e.ob:Int),af):=by unfold Bf;rw[ax (by omega),ax (by omega),aC h]
theorem ali {w:vH} {e:EV} (h:¬(e.k=7\/e.k=11)) (h1:¬e.k=9) (h2:¬e.k=16):Bf w e=(-1,af):=by unfold Bf;rw[ax h,ax h1,ax h2]
theorem IN.zero (w:WT) (l:Y ET):IN w l 0 (HS.zero w):=
 have r:∀n:Nat,∀u,(aA n ([]:η)).getD u []=[]:=λn=>oL.repl (P:=λx=>x=[]) rfl n
 ⟨r _,r _,λ_=>r _ _,λ_=>r _ _,r _,r _,rfl⟩
theorem IN.step {w:WT} {l:Y ET} {i:Nat} {h:HS} (a:IN w l i h) (n:Int) (o:U6 n h) (hh:h=EZ w (l.take i)) (hi:i<l.length) (ok:EOK w h (b8 l i)) (z:(b8 l i).k=20->∀k,k<i->pS l (b8 l i).ob k=af):IN w l (i+1) (j8 w h (b8 l i) (mR w l i)):=by
 have hcT:LE (h.T.getD (b8 l i).th []) (mR w l i):=by rw[hh];exact akd w _ _
 have hc:En (n+1) (mR w l i):=by unfold mR;rw[<- hh];exact QI o ok.th4
 refine ⟨λu=>?_,λu=>?_,λx=>?_,λx=>?_,λx=>?_,λx=>?_,?_⟩
 .rw[aea,pj];by_cases e:(b8 l i).th=u
  .rw[aC ⟨e,ok.th⟩,Q7 (by simpa using e),<-a.T u,LE.jl (by rw[<- e];exact hcT)]
  .rw[ax λq=>e q.1,ER (by simpa using e)];exact a.T u
 .rw[apq];by_cases k:(b8 l i).k=20
  .rw[aC k,pj];by_cases e:(b8 l i).ob=u
   .rw[aC ⟨e,by rw[o.lS];exact ok.sp (.inl k)⟩,Q7 (by simp[k,e]),XI _ _ i (by rw[<- e];exact z k),alo hc]
   .rw[ax λq=>e q.1,ER (by simp[e])];exact a.S u
  .rw[ax k,ER (by simp[k])];exact a.S u
 .rw[apt];by_cases k:(b8 l i).k=7\/(b8 l i).k=11
  .rw[aC k,DC _ _ _ _ (ok.lk (by omega))];by_cases e:(b8 l i).ob=x
   .rw[aC e,Q7 (by simp[acj k,e]),<-a.L x]
   .rw[ax e,ER (by simp[acj k];omega)];exact a.L x
  rw[ax k];by_cases k2:(b8 l i).k=16
  .rw[aC k2,DC _ _ _ _ (ok.cd (.inl k2)).2.2];by_cases e:Pu w.2.2.1 (b8 l i).ob=x
   .rw[aC e,Q7 (by simp[X5 k2,e]),<-a.L x]
   .rw[ax e,ER (by simp[X5 k2];omega)];exact a.L x
  rw[ax k2,ER]
  .exact a.L x
  .by_cases s:(b8 l i).k=9
   .simp[Vo s]
   .simp[ali k s k2]
 .rw[apr];by_cases k:(b8 l i).k=9
  .rw[aC k,DC _ _ _ _ (by rw[o.lR];exact ok.lk (by omega))];by_cases e:(b8 l i).ob=x
   .rw[aC e,Q7 (by simp[Vo k,e]),<-a.R x]
   .rw[ax e,ER (by simp[Vo k];omega)];exact a.R x
  rw[ax k,ER]
  .exact a.R x
  .unfold pL Bf;repeat' split
   all_goals first|omega|simp
 .rw[apv];by_cases k:(b8 l i).k=4/\tH w.1 (b8 l i).ob=J
  .rw[aC k,DC _ _ _ _ (ok.ce (.inr k.1)).1];by_cases e:(b8 l i).ob=x
   .rw[aC e,Q7 (by simp[k.1,e];rw[<- e];exact k.2),<-a.C x]
   .rw[ax e,ER (by simp[e])];exact a.C x
  .rw[ax k,ER]
   .exact a.C x
   .refine bB λq=>k ⟨q.1,by rw[q.2.1];exact q.2.2⟩
 .rw[apu];by_cases k:(b8 l i).k=22
  .rw[aC k,DC _ _ _ _ (ok.fu (.inl k))];by_cases e:(b8 l i).ob=x
   .rw[aC e,Q7 (by simp[k,e]),<-a.F x]
   .rw[ax e,ER (by simp[e])];exact a.F x
  .rw[ax k,ER (by simp[k])];exact a.F x
 .rw[apn];by_cases k:(b8 l i).k=13
  .rw[aC k,Q7 (by simp[k]),<-a.X]
  .rw[ax k,ER (by simp[k])];exact a.X
abbrev gT (th:Y (Int×Int×Bool)) (u:Int):Int×Int×Bool:=aI (T:=jP) th u
theorem FE {T:Ty} (xs:Y T.den) (j k:Int) (x:T.den) (hj:0<=j) (hk:0<=k) (h2:k<xs.length):aI (cK xs j x) k=if k=j then x else aI xs k:=by
 by_cases h:j<xs.length
 .exact sk xs j k x hj h hk
 .rw[ax (by omega)];unfold aI cK;rw[av,av,ka,ax (by omega)]
theorem xR {th:Y (Int×Int×Bool)} {t u:Int} (s:Int) (t0:0<=t) (z:0<=u) (a:u<th.length):gT (yK th t s) u=if u=t then (s,(gT th u).2) else gT th u:=by
 unfold yK gT;rw[FE _ _ _ _ t0 z a];split
 .rename_i h;subst h;rfl
 .rfl
theorem YM {th:Y (Int×Int×Bool)} {t u:Int} (s:Int) (t0:0<=t) (z:0<=u) (a:u<th.length):gT (cdP th t s) u=if u=t then ((gT th u).1,s,(gT th u).2.2) else gT th u:=by
 unfold cdP gT;rw[FE _ _ _ _ t0 z a];split
 .rename_i h;subst h;rfl
 .rfl
theorem YQ {th:Y (Int×Int×Bool)} {t u:Int} (s:Bool) (t0:0<=t) (z:0<=u) (a:u<th.length):gT (atP th t s) u=if u=t then ((gT th u).1,(gT th u).2.1,s) else gT th u:=by
 unfold atP gT;rw[FE _ _ _ _ t0 z a];split
 .rename_i h;subst h;rfl
 .rfl
theorem ap9 {u:Int} (s:0<=u):∀(l:η) (th:Y (Int×Int×Bool)),(∀x∈l,0<=x)->u<th.length->gT (Ds th l) u=if u∈l then (4,(gT th u).2) else gT th u
 |[],th,_,_=>by simp[Ds]
 |x::r,th,h,h2=>by
  have e:Ds th (x::r)=Ds (yK th x 4) r:=rfl;rw[e,ap9 s r _ (λy z=>h y (cC _ z)) (by unfold yK;rw[bW];exact h2),xR 4 (h x (c8 ..)) s h2];by_cases a:u=x
  .subst a;simp
  .simp[a]
structure TH1 (k o v t u:Int) (g g':Int×Int×Bool):Prop where
 a:u=t->g.1≠0/\g.1≠3/\(k=16->g'.1=3/\g'.2.1=o)/\(k≠16->g'.1≠0/\g'.1≠3/\g'.1≠4)/\(k≠1->k≠17->g.1=2)
 b:u≠t->k=18->v=u->g.1=3/\g.2.1=o/\g'.1=4/\g'.2.1=o
 c:u≠t->k=19->g.1=3->g.2.1=o->g'.1=4/\g'.2.1=o
 d:u≠t->¬(k=18/\v=u)->¬(k=19/\g.1=3/\g.2.1=o)->g'.2.1=g.2.1/\(g'.1=g.1\/k=20/\o=u/\g.1=0/\g'.1=1)
 e:k=20->o=u->g'.1≠0
theorem TH1.same {k o v t u:Int} {g g':Int×Int×Bool} (h2:k≠1->k≠17->u=t->g.1=2) (e1:g'.1=g.1) (e2:g'.2.1=g.2.1) (n1:k≠1) (L:k≠17) (Z:k≠16) (s:k≠20) (A:k=18->v=u->u=t) (z:k=19->g.1=3->g.2.1=o->u=t):TH1 k o v t u g g':=
 ⟨λh=>(by have:=h2 n1 L h;rw[e1];omega),λh h1 a=>(h (A h1 a)).elim,λh h1 a U=>(h (z h1 a U)).elim,λ_ _ _=>⟨e2,.inl e1⟩,λh=>(s h).elim⟩
theorem ama (w:WT) (s:SY) (t k o v:Int) (en:EN w s t k o) (rd:XE w s t k o) (va:k=18->v=(rJ w s t k o v).2) (u:Int) (z:0<=u) (a:u<s.2.2.2.length):TH1 k o v t u (gT s.2.2.2 u) (gT (rJ w s t k o v).1.2.2.2 u):=by
 have t0:=en.t0;have r2:k≠1->k≠17->u=t->(gT s.2.2.2 u).1=2:=λh1 h2 U=>by subst U;exact rd.r h1 h2
 have nm:=en.nm;have k1:=nm.k1;have k2:=nm.k2;obtain⟨s1,s2,A,th⟩:=s;dsimp only at a r2;change TH1 k o v t u (gT th u) (gT (rJ w (s1,s2,A,th) t k o v).1.2.2.2 u);by_cases a1:k=1
 .subst a1;have e:gT (rJ w (s1,s2,A,th) t 1 o v).1.2.2.2 u=if u=t then (2,(gT th u).2) else gT th u:=xR 2 t0 z a
  rw[e];refine ⟨λh=>?_,λ_ h=>by omega,λ_ h=>by omega,λh _ _=>by rw[ax h];exact⟨rfl,.inl rfl⟩,λh=>by omega⟩;have b:=rd.b rfl;rw[aC h];subst h;have b:(gT th u).1=1:=b;dsimp only;omega
 by_cases a2:k=2
 .subst a2;have e:gT (rJ w (s1,s2,A,th) t 2 o v).1.2.2.2 u=if u=t then (5,(gT th u).2) else gT th u:=xR 5 t0 z a
  rw[e];refine ⟨λh=>?_,λ_ h=>by omega,λ_ h=>by omega,λh _ _=>by rw[ax h];exact⟨rfl,.inl rfl⟩,λh=>by omega⟩;have:=r2 (by omega) (by omega) h;rw[aC h];dsimp only;omega
 by_cases a14:k=14\/k=15
 .have e:∃b,gT (rJ w (s1,s2,A,th) t k o v).1.2.2.2 u=if u=t then ((gT th u).1,(gT th u).2.1,b) else gT th u:=by
   rcases a14 with rfl|rfl
   .exact⟨J,YQ J t0 z a⟩
   .exact⟨af,YQ af t0 z a⟩
  obtain⟨b,e⟩:=e;rw[e];refine TH1.same r2 (by split<;>rfl) (by split<;>rfl) a1 (by omega) (by omega) (by omega) (λh=>by omega) λh=>by omega
 by_cases a16:k=16
 .subst a16;have e:gT (rJ w (s1,s2,A,th) t 16 o v).1.2.2.2 u=if u=t then (3,o,(gT th u).2.2) else gT th u:=by
   have:gT (cdP (yK th t 3) t o) u=_:=YM o t0 z (by unfold yK;rw[bW];exact a);refine Eq.trans this ?_;rw[xR 3 t0 z a];split<;>rfl
  rw[e];refine ⟨λh=>?_,λ_ h=>by omega,λ_ h=>by omega,λh _ _=>by rw[ax h];exact⟨rfl,.inl rfl⟩,λh=>by omega⟩;have:=r2 (by omega) (by omega) h;rw[aC h];exact⟨by omega,by omega,λ_=>⟨rfl,rfl⟩,λh=>(h rfl).elim,λ_ _=>this⟩
 by_cases a17:k=17
 .subst a17;have e:gT (rJ w (s1,s2,A,th) t 17 o v).1.2.2.2 u=if u=t then (2,0,(gT th u).2.2) else gT th u:=by
   have:gT (cdP (yK th t 2) t 0) u=_:=YM 0 t0 z (by unfold yK;rw[bW];exact a);refine Eq.trans this ?_;rw[xR 2 t0 z a];split<;>rfl
  rw[e];refine ⟨λh=>?_,λ_ h=>by omega,λ_ h=>by omega,λh _ _=>by rw[ax h];exact⟨rfl,.inl rfl⟩,λh=>by omega⟩;have b:=(rd.wk rfl).1;rw[aC h];subst h;have b:(gT th u).1=4:=b;dsimp only;omega
 by_cases a18:k=18
 .subst a18;have va:=va rfl;rw[F']at va ⊢;dsimp only at va ⊢;by_cases hl:(wl th o th.length).length=0
  .rw[aC hl]at va ⊢;dsimp only at va ⊢;exact TH1.same r2 rfl rfl a1 (by omega) (by omega) (by omega) (λ_ h=>by omega) λh=>by omega
  .rw[ax hl]at va ⊢;dsimp only at va ⊢;have hv:v∈wl th o th.length:=by
    unfold B6 at va;rw[ax hl]at va;split at va
    .rename_i h;simpa using h
    .rw[va];exact bN (T:=.int .i64) (by omega) (by omega)
   rw[<- va];obtain⟨v0,v1,L⟩:=rM.1 hv;unfold I4 at L;simp only[al,ba]at L;rw[xR 4 v0 z a];refine ⟨λh=>?_,λh _ h2=>?_,λ_ h=>by omega,λh h2 _=>?_,λh=>by omega⟩
   .have:=r2 (by omega) (by omega) h;rw[ax (λq=>by rw[q]at this;exact ca (this.symm.trans L.1) (by decide))];omega
   .subst h2;rw[aC rfl];exact⟨L.1,L.2,rfl,L.2⟩
   .rw[ax λq=>h2 ⟨rfl,q.symm⟩];exact⟨rfl,.inl rfl⟩
 by_cases a19:k=19
 .subst a19;have e:gT (rJ w (s1,s2,A,th) t 19 o v).1.2.2.2 u=if u∈wl th o th.length then (4,(gT th u).2) else gT th u:=ap9 z _ th (λx hx=>(rM.1 hx).1) a
  rw[e];have hm:u∈wl th o th.length↔(gT th u).1=3/\(gT th u).2.1=o:=by
   rw[rM];unfold I4;simp only[al,ba];exact⟨λh=>h.2.2,λh=>⟨z,a,h⟩⟩
  refine ⟨λh=>?_,λ_ h=>by omega,λh _ U h4=>?_,λh _ U=>?_,λh=>by omega⟩
  .have:=r2 (by omega) (by omega) h;rw[ax (λq=>by have:=(hm.1 q).1;omega)];omega
  .rw[aC (hm.2 ⟨U,h4⟩)];exact⟨rfl,h4⟩
  .rw[ax λq=>U ⟨rfl,hm.1 q⟩];exact⟨rfl,.inl rfl⟩
 by_cases Z:k=20
 .subst Z;have sp:=rd.sp rfl;have o0:=(nm.th (.inl rfl)).1;have e:gT (rJ w (s1,s2,A,th) t 20 o v).1.2.2.2 u=if u=o then (1,(gT th u).2) else gT th u:=xR 1 o0 z a
  rw[e];refine ⟨λh=>?_,λ_ h=>by omega,λ_ h=>by omega,λh _ _=>?_,λ_ h=>?_⟩
  .have:=r2 (by omega) (by omega) h;rw[ax (λq=>sp.1 (by omega))];omega
  .by_cases q:u=o
   .subst q;rw[aC rfl];exact⟨rfl,.inr ⟨rfl,rfl,sp.2,rfl⟩⟩
   .rw[ax q];exact⟨rfl,.inl rfl⟩
  .rw[aC h.symm];show (1:Int)≠0;omega
 have e:(rJ w (s1,s2,A,th) t k o v).1.2.2.2=th:=by
  unfold rJ;rw[ax a1,ax a2];repeat' split
  all_goals first|rfl|omega
 rw[e];exact TH1.same r2 rfl rfl a1 a17 a16 Z (λh=>(a18 h).elim) λh=>(a19 h).elim
def uH (l:Y ET) (u:Nat):Nat->Int
 |0=> -1
 |i+1=>if (b8 l i).th=u then (i:Int) else uH l u i
def mtN (l:Y ET) (u i:Nat) (p:Int):Prop:=0<=p/\(b8 l p.toNat).k=16/\((b8 l i).k=18/\(b8 l i).va=u\/(b8 l i).k=19/\(b8 l i).ob=(b8 l p.toNat).ob)
def C_ (l:Y ET) (u:Nat):Nat->Int
 |0=> -1
 |i+1=>if (b8 l i).th=u then -1 else if 0<=C_ l u i then C_ l u i else @ite _ (mtN l u i (uH l u i)) (l9 _) (i:Int) (-1)
theorem XN {l:Y ET} {u i:Nat} (h:(b8 l i).th=u):C_ l u (i+1)= -1:=by rw[C_,aC h]
theorem XO {l:Y ET} {u i:Nat} (h:¬(b8 l i).th=u) (g:0<=C_ l u i):C_ l u (i+1)=C_ l u i:=by rw[C_,ax h,aC g]
theorem XQ {l:Y ET} {u i:Nat} (h:¬(b8 l i).th=u) (g:C_ l u i= -1) (m:mtN l u i (uH l u i)):C_ l u (i+1)=i:=by rw[C_,ax h,ax (by omega),aC m]
theorem XP {l:Y ET} {u i:Nat} (h:¬(b8 l i).th=u) (g:C_ l u i= -1) (m:¬mtN l u i (uH l u i)):C_ l u (i+1)= -1:=by rw[C_,ax h,ax (by omega),ax m]
theorem GR {α:Type} (l:Y α) (f:Nat->α->α) (u:Nat) (d:α) (h:u<l.length):(l.mapIdx f).getD u d=f u (l.getD u d):=by
 rw[av,EX,ay h,av,ay h];rfl
theorem apo (w:vH) (h:HS) (e:EV) (c:η) (u:Nat) (hu:u<h.W.length) (A:h.N.length=h.W.length):(j8 w h e c).W.getD u 0=if e.k=16/\e.th=u then (e.ob:Int) else if e.k=18/\e.va=u\/e.k=19/\h.W.getD u 0=e.ob then -1 else h.W.getD u 0:=by
 obtain⟨th,k,ob,va⟩:=e;dsimp only;by_cases a:k=16
 .subst a;have e:(j8 w h ⟨th,16,ob,va⟩ c).W=h.W.set th ob:=rfl;rw[e,pj];by_cases q:th=u
  .rw[aC ⟨q,by omega⟩,aC ⟨rfl,q⟩]
  .rw[ax λx=>q x.1,ax λx=>q x.2,ax (by omega)]
 rw[ax λx=>a x.1];by_cases z:k=18
 .subst z;have e:j8 w h ⟨th,18,ob,va⟩ c=if 0<=va/\va<h.N.length then {h with T:=h.T.set th c,N:=h.N.set va.toNat c,W:=h.W.set va.toNat (-1)} else {h with T:=h.T.set th c}:=rfl
  rw[e];split
  .show (h.W.set va.toNat (-1)).getD u 0=_;rw[pj];by_cases q:va=u
   .rw[aC ⟨by omega,by omega⟩,aC (.inl ⟨rfl,q⟩)]
   .rw[ax (by omega),ax (by omega)]
  .rw[ax (by omega)]
 by_cases s:k=19
 .subst s;have e:(j8 w h ⟨th,19,ob,va⟩ c).W=h.W.mapIdx λu x=>if decide (h.W.getD u 0=(ob:Int))=J then -1 else x:=rfl
  rw[e,GR _ _ _ _ hu];by_cases q:h.W.getD u 0=ob
  .rw[aC (aS q),aC (.inr ⟨rfl,q⟩)]
  .rw[ax (by simpa using q),ax (by omega)]
 rw[ax (by omega)];have e:(j8 w h ⟨th,k,ob,va⟩ c).W=h.W:=by
  unfold j8;simp only[];repeat' split
  all_goals first|rfl|omega
 rw[e]
theorem aps (w:vH) (h:HS) (e:EV) (c:η) (u:Nat) (hu:u<h.N.length):(j8 w h e c).N.getD u []=if e.k=18/\e.va=u\/e.k=19/\h.W.getD u 0=e.ob then c else h.N.getD u []:=by
 obtain⟨th,k,ob,va⟩:=e;dsimp only;by_cases s:k=18
 .subst s;have e:j8 w h ⟨th,18,ob,va⟩ c=if 0<=va/\va<h.N.length then {h with T:=h.T.set th c,N:=h.N.set va.toNat c,W:=h.W.set va.toNat (-1)} else {h with T:=h.T.set th c}:=rfl
  rw[e];split
  .show (h.N.set va.toNat c).getD u []=_;rw[pj];by_cases q:va=u
   .rw[aC ⟨by omega,by omega⟩,aC (.inl ⟨rfl,q⟩)]
   .rw[ax (by omega),ax (by omega)]
  .rw[ax (by omega)]
 by_cases a:k=19
 .subst a;have e:(j8 w h ⟨th,19,ob,va⟩ c).N=h.N.mapIdx λu x=>if decide (h.W.getD u 0=(ob:Int))=J then c else x:=rfl
  rw[e,GR _ _ _ _ hu];by_cases q:h.W.getD u 0=ob
  .rw[aC (aS q),aC (.inr ⟨rfl,q⟩)]
  .rw[ax (by simpa using q),ax (by omega)]
 rw[ax (by omega)];have e:(j8 w h ⟨th,k,ob,va⟩ c).N=h.N:=by
  unfold j8;simp only[];repeat' split
  all_goals first|rfl|omega
 rw[e]
abbrev gN9 (w:WT) (l:Y ET) (i u:Nat):Int×Int×Bool:=gT (OO w (l.take i)).1.2.2.2 (u:Int)
structure WI (w:WT) (l:List ET) (i:Nat) (h:HS) (u:Nat) (g:Int×Int×Bool):Prop where
 W:h.W.getD u 0=if g.1=3 then g.2.1 else -1
 p:g.1=3\/g.1=4->0<=uH l u i/\(b8 l (uH l u i).toNat).k=16/\((b8 l (uH l u i).toNat).ob:Int)=g.2.1
 a:g.1=3->C_ l u i= -1
 n:g.1=4->0<=C_ l u i/\h.N.getD u []=mR w l (C_ l u i).toNat
 s:g.1=0->∀k,k<i->pS l u k=af
theorem ald:∀n,∀x∈Y_ n,x.1=0\/x.1=1
 |0,x,h=>by cases h
 |n+1,x,h=>by
  rcases bl.1 h with rfl|h
  .exact .inr rfl
  .rw[qg h];exact .inl rfl
theorem WI.zero (w:WT) (l:Y ET) (u:Nat) (hu:u<w.2.2.2.2.1.length):WI w l 0 (HS.zero w) u (gN9 w l 0 u):=by
 have h1:(gN9 w l 0 u).1=0\/(gN9 w l 0 u).1=1:=ald _ _ (bN (T:=jP) (xs:=Y_ w.2.2.2.2.1.length) (j:=(u:Int)) (by omega) (by rw[Iy];omega));have hW:(HS.zero w).W.getD u 0= -1:=by
  have:(aA w.2.2.2.2.1.length (-1:Int)).getD u 0= -1:=by rw[av,jC,aC hu];rfl
  exact this
 exact⟨by rw[hW,ax (by omega)],λh=>by omega,λh=>by omega,λh=>by omega,λ_ k hk=>by omega⟩
theorem WI.step {w:WT} {l:Y ET} {i:Nat} {h:HS} {u:Nat} (a:WI w l i h u (gN9 w l i u)) (hi:i<l.length) (sc:SCx w (l.take i) (OO w (l.take i)).1 (OO w (l.take i)).2.1 (OO w (l.take i)).2.2 (eN l i)) (et:EvT (b8 l i) (eN l i)) (hu:u<w.2.2.2.2.1.length) (h1:h.W.length=w.2.2.2.2.1.length) (h2:h.N.length=w.2.2.2.2.1.length):WI w l (i+1) (j8 w h (b8 l i) (mR w l i)) u (gN9 w l (i+1) u):=by
 have en:=sc.en;have eg:gN9 w l (i+1) u=gT (rJ w (OO w (l.take i)).1 (eN l i).1 (eN l i).2.1 (eN l i).2.2.1 (eN l i).2.2.2.1).1.2.2.2 (u:Int):=by unfold gN9;rw[Uv w hi]
 have T1:TH1 (eN l i).2.1 (eN l i).2.2.1 (eN l i).2.2.2.1 (eN l i).1 (u:Int) (gN9 w l i u) (gN9 w l (i+1) u):=by
  rw[eg];exact ama w (OO w (l.take i)).1 (eN l i).1 (eN l i).2.1 (eN l i).2.2.1 (eN l i).2.2.2.1 en sc.rd (λh=>sc.va.el (by omega) (by omega) (by omega) (by omega) (by omega)) (u:Int) (by omega) (by rw[en.e3];omega)
 clear eg;have eW:=apo w h (b8 l i) (mR w l i) u (by omega) (by omega);have eN9:=aps w h (b8 l i) (mR w l i) u (by omega);have qt:=et.th;have qk:=et.k;have qv:=et.va;have Z:(b8 l i).k=16\/(b8 l i).k=19\/(b8 l i).k=20->(eN l i).2.2.1=((b8 l i).ob:Int):=λh=>et.ob (by rcases h with h|h|h<;>rw[h]<;>decide)
 have pv':uH l u (i+1)=if (b8 l i).th=u then (i:Int) else uH l u i:=rfl
 have ps:pS l u i=decide ((b8 l i).k=20/\(b8 l i).ob=u):=rfl;clear en sc;obtain⟨aW,ap,aa,an,as'⟩:=a;obtain⟨ta,tb,tc,td,te⟩:=T1;generalize gN9 w l (i+1) u=g' at*
 generalize gN9 w l i u=g at*
 by_cases s:(b8 l i).th=u
 .obtain⟨b1,b2,b3,b4,_⟩:=ta (by rw[qt,s]);have w0:C_ l u (i+1)= -1:=XN s;have hW':h.W.getD u 0= -1:=by rw[aW,ax b2]
  by_cases z:(b8 l i).k=16
  .obtain⟨c1,c2⟩:=b3 (by rw[qk,z];rfl);refine ⟨by rw[eW,aC ⟨z,s⟩,aC c1,c2,Z (.inl z)],λ_=>?_,λ_=>w0,λh=>by omega,λh=>by omega⟩;rw[pv',aC s,bY];exact⟨by omega,z,by rw[c2,Z (.inl z)]⟩
  .obtain⟨c1,c2,c3⟩:=b4 (by rw[qk];omega);refine ⟨?_,λh=>by omega,λh=>by omega,λh=>by omega,λh=>by omega⟩;rw[eW,ax (λx=>z x.1),ax c2,hW'];split<;>rfl
 have hut:(u:Int)≠(eN l i).1:=by rw[qt];omega
 rw[ax s]at pv';rw[ax (λx=>s x.2)]at eW;by_cases A:(b8 l i).k=18/\(b8 l i).va=u\/(b8 l i).k=19/\h.W.getD u 0=(b8 l i).ob
 .have B:g.1=3/\g'.1=4/\g'.2.1=g.2.1/\((b8 l i).k=19->g.2.1=(b8 l i).ob):=by
   rcases A with ⟨k,v⟩|⟨k,v⟩
   .obtain⟨U,L,d3,d4⟩:=tb hut (by rw[qk,k];rfl) (by rw[qv,v]);exact⟨U,d3,by rw[L,d4],λq=>by omega⟩
   .have g3:g.1=3:=by
     rw[aW]at v;split at v
     .assumption
     .omega
    rw[aW,aC g3]at v;obtain⟨U,L⟩:=tc hut (by rw[qk,k];rfl) g3 (by rw[v,Z (.inr (.inl k))]);exact⟨g3,U,by rw[L,v,Z (.inr (.inl k))],λ_=>v⟩
  obtain⟨U,L,d3,d4⟩:=B;obtain⟨p1,p2,p3⟩:=ap (.inl U);have hw:=XQ s (aa U) ⟨p1,p2,by
   rcases A with A|⟨k,_⟩
   .exact .inl A
   .exact .inr ⟨k,by have:=d4 k;omega⟩⟩
  rw[aC A]at eW eN9;refine ⟨by rw[eW,ax (by omega)],λ_=>by rw[pv',d3];exact⟨p1,p2,p3⟩,λh=>by omega,λ_=>by rw[hw,bY];exact⟨by omega,eN9⟩,λh=>by omega⟩
 rw[ax A]at eW eN9;have nv:¬((eN l i).2.1=18/\(eN l i).2.2.2.1=(u:Int)):=λq=>A (.inl ⟨by omega,by rw[<- qv];exact q.2⟩)
 have nw:¬((eN l i).2.1=19/\g.1=3/\g.2.1=(eN l i).2.2.1):=λq=>A (.inr ⟨by omega,by rw[aW,aC q.2.1,q.2.2,Z (.inr (.inl (by omega)))]⟩)
 obtain⟨U,L⟩:=td hut nv nw;have nm:g.1=3->¬mtN l u i (uH l u i):=λq ⟨_,_,m⟩=>by
  obtain⟨_,_,p3⟩:=ap (.inl q);rcases m with m|⟨k,m⟩
  .exact A (.inl m)
  .exact nw ⟨by omega,q,by rw[Z (.inr (.inl k)),m,p3]⟩
 refine ⟨?_,λq=>?_,λq=>?_,λq=>?_,λq k hk=>?_⟩
 .rw[eW,aW,U];rcases L with L|L
  .rw[L]
  .rw[ax (by omega),ax (by omega)]
 .rw[pv',U];exact ap (by omega)
 .have q:g.1=3:=by omega
  exact XP s (aa q) (nm q)
 .have q:g.1=4:=by omega
  obtain⟨n1,n2⟩:=an q;rw[XO s n1,eN9];exact⟨n1,n2⟩
 .have q0:g.1=0:=by omega
  by_cases e:k=i
  .subst e;rw[ps];exact bB λr=>te (by rw[qk,r.1];rfl) (by rw[Z (.inr (.inr r.1)),r.2]) q
  .exact as' q0 k (by omega)
theorem VR {w:WT} {l:Y ET} (z:TR (w,l)):∀i:Nat,i<=l.length->IN w l i (EZ w (l.take i))/\∀u,u<w.2.2.2.2.1.length->WI w l i (EZ w (l.take i)) u (gN9 w l i u)
 |0,_=>⟨IN.zero w l,λu hu=>WI.zero w l u hu⟩
 |i+1,h=>by
  obtain⟨a,b⟩:=VR z i (by omega);obtain⟨o,A⟩:=zZ z i (by omega);have hi:i<l.length:=by omega
  have sc:=z.sc hi;have et:=lY z hi;have ok:=sr z hi;rw[zY w hi];refine ⟨a.step _ o rfl hi ok λk=>?_,λu hu=>(b u hu).step hi sc et hu (o.lW.trans A.T) (o.lN.trans A.T)⟩;have sp:=(sc.rd.sp (by rw[et.k,k];rfl)).2;rw[et.ob (by rw[k];decide)]at sp;exact (b _ (by rw[<- A.T];exact ok.sp (.inl k))).s sp
theorem aq5 {w:WT} {l:Y ET} (a:TR (w,l)) (u:Nat):∀i:Nat,i<=l.length->(EZ w (l.take i)).T.getD u []=if 0<=uH l u i then mR w l (uH l u i).toNat else []
 |0,_=>oL.repl (P:=λx=>x=[]) rfl _ _
 |i+1,h=>by
  have s:=aq5 a u i (by omega);rw[zY w (by omega),aea,pj,uH];by_cases e:(b8 l i).th=u
  .rw[aC ⟨e,(sr a (by omega)).th⟩,aC e,aC (by omega),bY]
  .rw[ax λq=>e q.1,ax e];exact s
theorem vA {c:Nat->η} {p q:Nat->Bool}:∀i,(∀k,k<i->p k=q k)->JC c p i=JC c q i
 |0,_=>rfl
 |i+1,h=>by rw[JC,JC,h i (by omega),vA i λk hk=>h k (by omega)]
theorem al4 {c:Nat->η} {p q r:Nat->Bool}:∀i,(∀k,k<i->(r k=J↔p k=J\/q k=J)/\¬(p k=J/\q k=J))->JC c r i=jl (JC c p i) (JC c q i)
 |0,_=>rfl
 |i+1,h=>by
  have s:=al4 (c:=c) i λk hk=>h k (by omega)
  obtain⟨h1,h2⟩:=h i (by omega);rw[JC,JC,JC];by_cases a:p i=J
  .have b:¬q i=J:=λb=>h2 ⟨a,b⟩
   rw[aC (h1.2 (.inl a)),aC a,ax b,s,q_,q_,Ym (JC c q i)]
  .by_cases b:q i=J
   .rw[aC (h1.2 (.inr b)),ax a,aC b,s,q_]
   .rw[ax λq=>(h1.1 q).elim a b,ax a,ax b,s]
def II (w:WT) (l:Y ET) (j i:Nat):Prop:=((b8 l j).k=1/\(b8 l i).k=20/\(b8 l i).ob=(b8 l j).th)\/((b8 l j).k=21/\(b8 l i).th=(b8 l j).ob)\/((b8 l j).k=3/\tH w.1 (b8 l j).ob=J/\(b8 l i).k=4/\(b8 l i).ob=(b8 l j).ob)\/((b8 l j).k=23/\(b8 l i).k=22/\(b8 l i).ob=(b8 l j).ob)
def Rb (w:WT) (l:Y ET) (j i:Nat):Prop:=(0<=(CU w (b8 l j)).1/\(Bf w (b8 l i)).1=(CU w (b8 l j)).1/\¬((CU w (b8 l j)).2=J/\(Bf w (b8 l i)).2=J))\/((b8 l j).k=12/\(b8 l i).k=13)
def dB (p:Nat->Prop) (k:Nat):Bool:= @decide (p k) (l9 _)
theorem ai0 {p:Nat->Prop} {k:Nat}:dB p k=J↔p k:=by unfold dB;exact @decide_eq_true_iff (p k) (l9 _)
theorem ai1 {p:Nat->Prop} {k:Nat}:dB p k=af↔¬p k:=by unfold dB;exact @decide_eq_false_iff_not (p k) (l9 _)
theorem OH {p:Nat->Prop} {q:Bool} {k:Nat} (h:p k↔q=J):q=dB p k:=by
 cases q with
 |true=>exact (ai0.2 (h.2 rfl)).symm
 |false=>exact (ai1.2 λx=>by have:=h.1 x;cases this).symm
def wkC (w:WT) (l:Y ET) (j:Nat):η:=if (b8 l j).k=17 then mR w l (C_ l (b8 l j).th j).toNat else []
theorem am4 {w:WT} {l:Y ET} (tr:TR (w,l)) {j:Nat} (hj:j<l.length):mR w l j=tk (jl (jl (jl (if 0<=uH l (b8 l j).th j then mR w l (uH l (b8 l j).th j).toNat else []) (JC (mR w l) (dB (II w l j)) j)) (wkC w l j)) (JC (mR w l) (dB (Rb w l j)) j)) (b8 l j).th:=by
 obtain⟨a,b⟩:=VR tr j (by omega);have o:=(zZ tr j (by omega)).1;have ft:=(zZ tr j (by omega)).2;have ok:=sr tr hj;have sc:=tr.sc hj;have et:=lY tr hj;rw[<- aq5 tr _ j (by omega)];have nH:∀{p:Nat->Prop},(∀k,¬p k)->JC (mR w l) (dB p) j=[]:=λh=>XI _ _ _ λk _=>ai1.2 (h k)
 have oT:=o.T (b8 l j).th;have z:=En.nil o.n0;have e0:jl (jl ((EZ w (l.take j)).T.getD (b8 l j).th []) []) []=(EZ w (l.take j)).T.getD (b8 l j).th []:=by rw[mQ oT,mQ oT]
 have sN:¬(b8 l j).k=6->¬(b8 l j).k=10->¬(b8 l j).k=8->¬(b8 l j).k=17->¬(b8 l j).k=12->∀k,¬Rb w l j k:=λh1 h2 h3 h4 h5 k q=>by
  unfold Rb CU at q;rw[ax (by omega),ax h3,ax h4]at q;rcases q with ⟨q,_⟩|⟨q,_⟩
  .dsimp only at q;omega
  .exact h5 q
 unfold wkC;show F4 w (EZ w (l.take j)) (b8 l j)=_;unfold F4;congr 1;by_cases k1:(b8 l j).k=1
 .rw[ax (by omega),nH (sN (by omega) (by omega) (by omega) (by omega) (by omega))];unfold uc;rw[aC k1,vA (q:=pS l (b8 l j).th) j λk _=>(OH (by unfold II pS;rw[ba];omega)).symm,<-a.S];rw[mQ (oT.jl (o.S _)),mQ (oT.jl (o.S _))];rfl
 by_cases s:(b8 l j).k=21
 .rw[ax (by omega),nH (sN (by omega) (by omega) (by omega) (by omega) (by omega))];unfold uc;rw[ax k1,aC s,vA (q:=pT l (b8 l j).ob) j λk _=>(OH (by unfold II pT;rw[ba];omega)).symm,<-a.T];rw[mQ (oT.jl (o.T _)),mQ (oT.jl (o.T _))];rfl
 by_cases k3:(b8 l j).k=3
 .rw[ax (by omega),nH (sN (by omega) (by omega) (by omega) (by omega) (by omega))];unfold uc;rw[ax k1,ax s,ax (by omega),ax (by omega),ax (by omega),aC k3,vA (q:=pC w l (b8 l j).ob) j λk _=>(OH ?_).symm,<-a.C]
  .rw[mQ (oT.jl (o.C _)),mQ (oT.jl (o.C _))];rfl
  .unfold II pC;rw[ba];constructor
   .rintro (h|h|h|h)
    .omega
    .omega
    .exact⟨h.2.2.1,h.2.2.2,h.2.1⟩
    .omega
   .intro h;exact .inr (.inr (.inl ⟨k3,h.2.2,h.1,h.2.1⟩))
 by_cases k23:(b8 l j).k=23
 .rw[ax (by omega),nH (sN (by omega) (by omega) (by omega) (by omega) (by omega))];unfold uc;rw[ax k1,ax s,ax (by omega),ax (by omega),ax (by omega),ax k3,aC k23,vA (q:=pF l (b8 l j).ob) j λk _=>(OH (by unfold II pF;rw[ba];omega)).symm,<-a.F];rw[mQ (oT.jl (o.F _)),mQ (oT.jl (o.F _))];rfl
 have hN:∀k,¬II w l j k:=λk q=>by unfold II at q;omega
 rw[nH hN,mQ oT];by_cases Z:(b8 l j).k=12
 .rw[ax (by omega),mQ oT];unfold uc;rw[ax k1,ax s,ax (by omega),ax (by omega),ax (by omega),ax k3,ax k23,aC Z,vA (q:=pX l) j λk _=>(OH ?_).symm,<-a.X]
  .rfl
  .unfold Rb pX CU;rw[ba,ax (by omega),ax (by omega),ax (by omega)];dsimp only;constructor
   .rintro (h|h)
    .omega
    .exact h.2
   .intro h;exact .inr ⟨Z,h⟩
 have hor:∀m:Nat,(CU w (b8 l j)).1=(m:Int)->(CU w (b8 l j)).2=af->JC (mR w l) (dB (Rb w l j)) j=jl ((EZ w (l.take j)).L.getD m []) ((EZ w (l.take j)).R.getD m []):=λm h1 h2=>by
  rw[a.L,a.R];refine al4 j λk _=>?_
  rw[ai0,ba,ba];unfold Rb;rw[h1,h2];generalize Bf w (b8 l k)=x;obtain⟨x1,x2⟩:=x;simp only[aE];constructor
  .constructor
   .rintro (h|h)
    .cases x2 with
     |true=>exact .inr ⟨h.2.1,rfl⟩
     |false=>exact .inl ⟨h.2.1,rfl⟩
    .omega
   .rintro (h|h)<;>exact .inl ⟨by omega,h.1,λq=>by cases q.1⟩
  .rintro⟨⟨_,h⟩,⟨_,h'⟩⟩;rw[h]at h';cases h'
 by_cases U:(b8 l j).k=6\/(b8 l j).k=10
 .rw[ax (by omega),mQ oT,hor (b8 l j).ob (by unfold CU;rw[aC U]) (by unfold CU;rw[aC U])];unfold uc;rw[ax k1,ax s,aC U,<-q_];rfl
 by_cases k8:(b8 l j).k=8
 .have ha:CU w (b8 l j)=(((b8 l j).ob:Int),J):=by unfold CU;rw[ax U,aC k8]
  rw[ax (by omega),mQ oT];unfold uc;rw[ax k1,ax s,ax U,aC k8,vA (q:=pL w l (((b8 l j).ob:Int),af)) j λk _=>(OH ?_).symm,<-a.L]
  .rfl
  .unfold Rb pL;rw[ha,ba];generalize Bf w (b8 l k)=x;obtain⟨x1,x2⟩:=x;simp only[aE];constructor
   .rintro (h|h)
    .exact⟨h.2.1,by simpa using h.2.2⟩
    .omega
   .intro h;exact .inl ⟨by omega,h.1,by simp[h.2]⟩
 by_cases A:(b8 l j).k=17
 .have wk:=sc.rd.wk (by rw[et.k,A];rfl);have hth:(b8 l j).th<w.2.2.2.2.1.length:=by rw[<- ft.T];exact ok.th
  have hn:=(b _ hth).n (by have:=wk.1;rw[et.th]at this;exact this);rw[aC A,hor (Pu w.2.2.1 (b8 l j).ob) (by unfold CU;rw[ax U,ax k8,aC A]) (by unfold CU;rw[ax U,ax k8,aC A]),<-hn.2];unfold uc;rw[ax k1,ax s,ax U,ax k8,aC A];simp only[xO,List.foldl_nil];rw[q_,q_,q_,<-q_ _ _ ((EZ w (l.take j)).N.getD _ []),Ym ((EZ w (l.take j)).N.getD _ [])]
 .rw[ax A,nH (sN (by omega) (by omega) k8 A Z),mQ oT,mQ oT];unfold uc;rw[ax k1,ax s,ax U,ax k8,ax A,ax k3,ax k23,ax Z];rfl
theorem Yu {n:Int} {c:Nat->η} {p:Nat->Bool} {a:η} (s:En n a):∀i,((bS i).filter p).foldl (λx k=>jl x (c k)) a=jl a (JC c p i)
 |0=>(mQ s).symm
 |i+1=>by
  rw[Gk,yI,dA,Yu s i];by_cases h:p i=J
  .rw[Q7 h,List.filter_cons_of_pos h,<-q_];rfl
  .rw[ER (by simpa using h),List.filter_cons_of_neg h];rfl
theorem ac6 {w:WT} {l:Y ET} (s:TR (w,l)) {a b:Nat} (z:a<l.length) (hb:b<l.length):(eN l a).1=(eN l b).1↔(b8 l a).th=(b8 l b).th:=by
 have:=(lY s z).th;have:=(lY s hb).th;omega
theorem Vq (l:Y ET) (u:Nat):∀i:Nat,-1<=uH l u i/\uH l u i<i
 |0=>⟨dk _,by show (-1:Int)<0;omega⟩
 |i+1=>by have:=Vq l u i;rw[uH];split<;>omega
theorem Pm {l:Y ET} {u:Nat}:∀(j k:Nat),uH l u j<k->k<j->¬(b8 l k).th=u
 |j+1,k,h,hk=>by
  rw[uH]at h;by_cases q:(b8 l j).th=u
  .rw[aC q]at h;omega
  .rw[ax q]at h;by_cases e:k=j
   .subst e;exact q
   .exact Pm j k h (by omega)
theorem X7 {l:Y ET} {u:Nat}:∀j:Nat,0<=uH l u j->(b8 l (uH l u j).toNat).th=u
 |0,h=>ca h (by show ¬(0:Int)<= -1;omega)
 |j+1,h=>by
  rw[uH]at h ⊢;by_cases q:(b8 l j).th=u
  .rw[aC q];exact q
  .rw[ax q]at h ⊢;exact X7 j h
theorem RF {l:Y ET} {u:Nat}:∀(j k:Nat),uH l u j<k->k<=j->uH l u k=uH l u j
 |0,k,_,hk=>by rw[show k=0 by omega]
 |j+1,k,h,hk=>by
  by_cases e:k=j+1
  .rw[e]
  .have q:¬(b8 l j).th=u:=Pm (j+1) j (by omega) (by omega);rw[uH,ax q]at h ⊢;exact RF j k h (by omega)
theorem HI {w:WT} {l:Y ET} (a:TR (w,l)) {j:Nat} (hj:j<l.length):mG (l,(j:Int))=M (uH l (b8 l j).th j):=by
 have hl:=a.len;dsimp only at hl;refine b_ ?_;unfold mG be iR bD cR aD;refine b7 j (λi x=>x=((j:Int)-1-i)/\uH l (b8 l j).th (j-i)=uH l (b8 l j).th j) ?_ ?_ ⟨?_,by rw[Nat.sub_zero]⟩
 .rintro i x hi ⟨rfl,e⟩;refine eO (λ_=>?_) λg=>by omega
  rw[show (j:Int)-1-i=((j-i-1:Nat):Int) by omega];refine cg (aT (cg (aT (aK (λg=>aj ?_) λg=>aj ?_))))
  .have g:=(ac6 a (show j-i-1<l.length by omega) hj).1 g;dsimp only;rw[<- e,show j-i=j-i-1+1 by omega,uH,Nat.add_sub_cancel,aC g]
  .have g:¬_:=λq=>g ((ac6 a (show j-i-1<l.length by omega) hj).2 q)
   dsimp only;refine ⟨by rw[iz (by omega) (by omega)];omega,?_⟩;rw[<- e,show j-i=j-(i+1)+1 by omega,uH,show j-(i+1)=j-i-1 by omega,ax g]
 .rintro x ⟨rfl,e⟩;refine eO (λg=>by omega) λ_=>aj ?_
  rw[It]at e;exact e
 .dsimp only;rw[iz (by omega) (by omega)];omega
theorem abq (x:ET):nB x=M (decide (x.2.1=3\/x.2.1=4)):=by
 refine b_ ?_;unfold nB be aD;refine gL (aK (λh=>aj (aj ?_)) λh=>aj (aj ?_))
 .exact (aS (.inl h)).symm
 .by_cases q:x.2.1=4<;>simp[h,q]
def OP (e:EV):Bool:=decide (e.k=3\/e.k=4)
theorem U3 {w:WT} {l:Y ET} (a:TR (w,l)) {j:Nat} (hj:j<l.length):nB (eN l j)=M (OP (b8 l j)):=by
 rw[abq,(lY a hj).k];unfold OP;congr 1;rw[decide_eq_decide];omega
theorem HH {w:WT} {l:Y ET} (a:TR (w,l)) {j:Nat} (hj:j<l.length):mF (w,eN l j)=M (OP (b8 l j)&&tH w.1 (b8 l j).ob):=by
 refine b_ ?_;unfold mF bi bx iR bD aX aD;refine gL (aR (U3 a hj) (aO (λh=>?_) λh=>aj (aj ?_)))
 .have hk:=bf h;have ce:=((sr a hj).ce hk).2;have ob:(eN l j).2.2.1=((b8 l j).ob:Int):=(lY a hj).ob (by rcases hk with h|h<;>rw[h]<;>decide);rw[ob];refine eO (λ_=>du (cg (aT (aj (aj ?_))))) λg=>(by omega)
  rw[h,P9];rfl
 .rw[h];rfl
def fL (p:Nat->Bool) (i:Nat):η:=((bS i).filter p).map aM
theorem apk {p:Nat->Bool} {i:Nat} (h:p i=J):fL p (i+1)=fL p i++[(i:Int)]:=by
 unfold fL;rw[Gk,yI,cM,List.filter_cons_of_pos h];rfl
theorem apl {p:Nat->Bool} {i:Nat} (h:p i=af):fL p (i+1)=fL p i:=by
 unfold fL;rw[Gk,yI,cM,List.filter_cons_of_neg (by rw[h];decide)];simp
theorem Ko (p:Nat->Bool) (i:Nat):(fL p i).length<=i:=by
 unfold fL;rw[bw];exact dz (Cb p _) (Nat.le_of_eq c_)
theorem Kn {p:Nat->Bool} {i:Nat} {z:Int} (h:z∈fL p i):0<=z/\z<i:=by
 obtain⟨k,hk,rfl⟩:=dt.1 h;have:=lK.1 (xN.1 hk).1;exact⟨ec k,Int.ofNat_lt.2 this⟩
theorem aiz {w:WT} {l:Y ET} (z:TR (w,l)) {j:Nat} (hj:j<l.length):wW (w,l,(j:Int))=M (fL (dB (Rb w l j)) j):=by
 have hl:=z.len;dsimp only at hl;refine b_ ?_;unfold wW be bx iR bC bD cR aD cL;refine cg (aT (aR (aoe (sr z hj) (lY z hj)) ?_));have Z:=(lY z hj).k;refine b7 j (λi x=>x=((i:Int),w,fL (dB (Rb w l j)) i)) ?_ ?_ rfl
 .rintro i x hi rfl;have L:i<l.length:=by omega
  have ki:=(lY z L).k;refine du ?_;refine aV (λx=>x=(w,fL (dB (Rb w l j)) (i+1))) ?_ ?_
  .refine cg (aT (aR (amy (sr z L) (lY z L)) ?_));refine aV (λx=>x.2=(w,fL (dB (Rb w l j)) i)/\(x.1=J↔Rb w l j i)) ?_ ?_
   .unfold Rb;generalize CU w (b8 l j)=A;generalize Bf w (b8 l i)=R;obtain⟨A,a⟩:=A;obtain⟨R,r⟩:=R;refine eO (λU=>aK (λhr=>aO (λhb=>dS (λhs=>aj ⟨rfl,λ_=>.inl ⟨U,hr,λq=>by dsimp only at q hs;rw[hs]at q;cases q.2⟩,λ_=>rfl⟩) λhs=>?_) λhb=>aj ⟨rfl,λ_=>.inl ⟨U,hr,λq=>by dsimp only at q hb;rw[hb]at q;cases q.1⟩,λ_=>rfl⟩) λhr=>?_) λU=>?_
    all_goals refine cg (aT (aK (λs=>cg (aT (aj ⟨rfl,?_⟩))) λs=>aj ⟨rfl,?_⟩))
    all_goals dsimp only at s U ⊢
    all_goals rw[Z]at s
    all_goals try rw[ba,ki]
    all_goals try change ((b8 l i).k:Int)=13↔_
    all_goals first|(have s:((b8 l j).k:Int)=12:=s)|(have s:¬((b8 l j).k:Int)=12:=s)
    all_goals
     have hn:¬(0<=A/\R=A/\¬(a=J/\r=J)):=λq=>by first|exact q.2.2 ⟨hb,hs⟩|exact hr q.2.1|exact ca q.1 (by omega)
     rw[or_iff_right hn];first|exact⟨λq=>(by cases q),λq=>by omega⟩|omega
   rintro⟨x,y⟩ ⟨e,h⟩;dsimp only at e h;subst e;refine aO (λhb=>?_) λhb=>aj ?_
   .have hn:=Ko (dB (Rb w l j)) i;refine bd (by dsimp only[dc];omega) (by omega) (aj ?_);dsimp only;rw[apk (ai0.2 (h.1 hb))]
   .dsimp only;rw[apl (ai1.2 λq=>ca (h.2 q) (by rw[show x=af from hb];decide))]
  rintro x rfl;refine aj ?_;dsimp only;rw[gH (by omega)]
 .rintro x rfl;exact dv (aj rfl)
theorem Rj {l:Y ET} {u k:Nat} (h:0<=C_ l u k):∀m:Nat,(∀n,k<=n->n<k+m->¬(b8 l n).th=u)->C_ l u (k+m)=C_ l u k
 |0,_=>rfl
 |m+1,hn=>by
  have a:=Rj h m λn h1 h2=>hn n h1 (by omega)
  rw[<- qf,XO (hn (k+m) (by omega) (by omega)) (by rw[a];exact h)];exact a
theorem afa {w:WT} {l:Y ET} (s:TR (w,l)) {j:Nat} (hj:j<l.length) (h0:0<=uH l (b8 l j).th j) (a:(b8 l (uH l (b8 l j).th j).toNat).k=16) (hw:0<=C_ l (b8 l j).th j):uN (l,(j:Int))=M (C_ l (b8 l j).th j):=by
 have hl:=s.len;dsimp only at hl;have hlt:=(Vq l (b8 l j).th j).2;have hown:=X7 j h0;have hnot:=λk=>Pm (l:=l) (u:=(b8 l j).th) j k
 have hsame:=λk=>RF (l:=l) (u:=(b8 l j).th) j k
 refine b_ ?_;unfold uN be bx bD cR aD cL;refine aR (HI s hj) ?_;generalize uH l (b8 l j).th j=p at*
 obtain⟨p,rfl⟩:∃k:Nat,p=k:=⟨p.toNat,by omega⟩
 rw[bY]at a hown;have hp:p<l.length:=by omega
 have Z:=lY s hp;have ej:=lY s hj;have op:(eN l p).2.2.1=((b8 l p).ob:Int):=Z.ob (by rw[a];decide);refine aV (λx=>x=af) (bL (λg=>by omega) λ_=>cg (aT (aj ?_))) ?_
 .show (!decide ((eN l p).2.1=16))=af;rw[Z.k,a];rfl
 rintro x rfl;refine dy ?_;rw[gH (show p<9223372036854775807 by omega)];refine b7 (j-(p+1)) (λi x=>x=((p+1+i:Nat):Int)/\C_ l (b8 l j).th (p+1+i)= -1) ?_ ?_ ⟨rfl,XN hown⟩
 .rintro i x hi ⟨rfl,e⟩;have hk:p+1+i<l.length:=by omega
  have hu:=hnot (p+1+i) (by omega) (by omega);have hs:=hsame (p+1+i) (by omega) (by omega);have L:=lY s hk;refine du ?_;generalize hkk:p+1+i=k at*
  have ok':(b8 l k).k=19->(eN l k).2.2.1=((b8 l k).ob:Int):=λh=>L.ob (by rw[h];decide)
  have ekk:=L.k;have ekv:=L.va;have ejt:=ej.th;refine aV (λx=>x=J↔(b8 l k).k=18/\(b8 l k).va=(b8 l j).th\/(b8 l k).k=19/\(b8 l k).ob=(b8 l p).ob) ?_ ?_
  .have A:∀{R:Type} {Q:R⊕Bool->Prop},¬((b8 l k).k=18/\(b8 l k).va=(b8 l j).th)->(∀x,(x=J↔(b8 l k).k=18/\(b8 l k).va=(b8 l j).th\/(b8 l k).k=19/\(b8 l k).ob=(b8 l p).ob)->Q (.inr x))->Ok (chk (eX (k:Int) (ai l)) λ_=>lt (aI (T:=tE) l (k:Int)) λz=>aF (decide ((z.2.1:Int)=19)) (chk (eX (k:Int) (ai l)) λ_=>lt (aI (T:=tE) l (k:Int)) λz=>chk (eX (p:Int) (ai l)) λ_=>lt (aI (T:=tE) l (p:Int)) λy=>M (bQ (decide ((z.2.2.1:Int)=y.2.2.1)))) (M (bQ af))) Q:=λhn U=>by
    refine cg (aT (aK (λh=>?_) λh=>aj (U _ ?_)))
    .have h:(eN l k).2.1=19:=h;refine cg (aT (cg (aT (aj (U _ ?_)))));have o2:=ok' (by omega);change decide ((eN l k).2.2.1=(eN l p).2.2.1)=J↔_;rw[o2,op,ba,or_iff_right hn];omega
    .have h:¬(eN l k).2.1=19:=h;rw[or_iff_right hn];exact⟨λq=>(by cases q),λq=>by omega⟩
   refine cg (aT (aK (λh=>?_) λh=>?_))
   .have h:(eN l k).2.1=18:=h;refine cg (aT (cg (aT (aK (λg=>aj ?_) λg=>?_))))
    .have g:(eN l k).2.2.2.1=(eN l j).1:=g;exact⟨λ_=>.inl ⟨by omega,by omega⟩,λ_=>rfl⟩
    .have g:¬(eN l k).2.2.2.1=(eN l j).1:=g;exact A (λq=>g (by omega)) λx h=>h
   .have h:¬(eN l k).2.1=18:=h;exact A (λq=>h (by omega)) λx h=>h
  rintro x hx;have hm:mtN l (b8 l j).th k (uH l (b8 l j).th k)↔x=J:=by
   rw[hx,hs];unfold mtN;rw[bY];exact⟨λq=>q.2.2,λq=>⟨by omega,a,q⟩⟩
  refine aO (λhb=>aj ?_) λhb=>aj ?_
  .have e2:=XQ hu e (hm.2 hb);have e3:=Rj (k:=k+1) (by omega) (j-(k+1)) λn h1 h2=>hnot n (by omega) (by omega)
   rw[show k+1+(j-(k+1))=j by omega,e2]at e3;exact e3.symm
  .have e2:=XP hu e λq=>by rw[hm.1 q]at hb;cases hb
   exact⟨by rw[gH (by omega)];omega,by rw[<- e2];congr 1;omega⟩
 .rintro x ⟨rfl,e⟩;rw[show p+1+(j-(p+1))=j by omega]at e;omega
def ZI (w:WT) (l:Y ET) (j:Nat):η:=fL (dB (II w l j)) j++if (b8 l j).k=17 then [C_ l (b8 l j).th j] else []
theorem abx {w:WT} {l:Y ET} (a:TR (w,l)) {j:Nat} (hj:j<l.length) (h:(b8 l j).k=17):0<=uH l (b8 l j).th j/\(b8 l (uH l (b8 l j).th j).toNat).k=16/\0<=C_ l (b8 l j).th j:=by
 have b:=(VR a j (by omega)).2 (b8 l j).th (by rw[<- (zZ a j (by omega)).2.T];exact (sr a hj).th);have wk:=((a.sc hj).rd.wk (by rw[(lY a hj).k,h];rfl)).1;rw[(lY a hj).th]at wk;have g:=b.p (.inr wk);exact⟨g.1,g.2.1,(b.n wk).1⟩
theorem aji {w:WT} {l:Y ET} (s:TR (w,l)) {j:Nat} (hj:j<l.length):wY (w,l,(j:Int))=M (ZI w l j):=by
 have hl:=s.len;dsimp only at hl;refine b_ ?_;unfold wY aY bi bu cF dZ bO be bx iR bC bD cR aD cL;refine cg (aT ?_);have L:=lY s hj;have kj:(eN l j).2.1=(b8 l j).k:=L.k;refine b7 j (λi x=>x=((i:Int),w,fL (dB (II w l j)) i,eN l j)) ?_ ?_ rfl
 .rintro i x hi rfl;have hi':i<l.length:=by omega
  have U:=lY s hi';have ki:(eN l i).2.1=(b8 l i).k:=U.k;have hn:=Ko (dB (II w l j)) i;have Z:∀{R:Type} {Q:(R⊕(WT×η×ET))->Prop},II w l j i->Q (.inr (w,fL (dB (II w l j)) (i+1),eN l j))->Ok (chk (a8 ((fL (dB (II w l j)) i).length+[(i:Int)].length) 8) λ_=>M (bQ (w,fL (dB (II w l j)) i++[(i:Int)],eN l j))) Q:=λh q=>by
   refine bd (by rw[dc];omega) (by omega) (aj ?_);rw[<- apk (ai0.2 h)];exact q
  refine du ?_;refine cg (aT ?_);refine aV (λx=>x=(w,fL (dB (II w l j)) (i+1),eN l j)) ?_ ?_
  .refine aV (λx=>x.2=(w,fL (dB (II w l j)) i,eN l j,eN l i)/\(x.1=J↔(b8 l j).k=1/\(b8 l i).k=20/\(b8 l i).ob=(b8 l j).th)) ?_ ?_
   .refine aK (λh=>aK (λg=>aj ⟨rfl,?_⟩) λg=>aj ⟨rfl,?_⟩) λh=>aj ⟨rfl,?_⟩
    .have h:(eN l j).2.1=1:=h;have g:(eN l i).2.1=20:=g;have o:(eN l i).2.2.1=(b8 l i).ob:=U.ob (by rw[show (b8 l i).k=20 by omega];decide);have t:(eN l j).1=(b8 l j).th:=L.th;change decide ((eN l i).2.2.1=(eN l j).1)=J↔_;rw[ba];omega
    .have g:¬(eN l i).2.1=20:=g;exact⟨λq=>(by cases q),λq=>by omega⟩
    .have h:¬(eN l j).2.1=1:=h;exact⟨λq=>(by cases q),λq=>by omega⟩
   rintro⟨x,y⟩ ⟨e,h1⟩;dsimp only at e h1;subst e;refine aO (λhb=>Z (.inl (h1.1 hb)) rfl) λa=>?_
   have h1:¬_:=λq=>ca (h1.2 q) (by rw[show x=af from a];decide)
   clear a;refine aV (λx=>x.2=(w,fL (dB (II w l j)) i,eN l j,eN l i)/\(x.1=J↔(b8 l j).k=21/\(b8 l i).th=(b8 l j).ob)) ?_ ?_
   .refine aK (λh=>aj ⟨rfl,?_⟩) λh=>aj ⟨rfl,?_⟩
    .have h:(eN l j).2.1=21:=h;have o:(eN l j).2.2.1=(b8 l j).ob:=L.ob (by rw[show (b8 l j).k=21 by omega];decide);have t:(eN l i).1=(b8 l i).th:=U.th;change decide ((eN l i).1=(eN l j).2.2.1)=J↔_;rw[ba];omega
    .have h:¬(eN l j).2.1=21:=h;exact⟨λq=>(by cases q),λq=>by omega⟩
   rintro⟨x,y⟩ ⟨e,h2⟩;dsimp only at e h2;subst e;refine aO (λhb=>Z (.inr (.inl (h2.1 hb))) rfl) λa=>?_
   have h2:¬_:=λq=>ca (h2.2 q) (by rw[show x=af from a];decide)
   clear a;refine aV (λx=>x.2=(w,fL (dB (II w l j)) i,eN l j,eN l i)/\(x.1=J↔(b8 l j).k=3/\tH w.1 (b8 l j).ob=J/\(b8 l i).k=4/\(b8 l i).ob=(b8 l j).ob)) ?_ ?_
   .refine aK (λh=>?_) λh=>aj ⟨rfl,?_⟩
    .have h:(eN l j).2.1=3:=h;have h:(b8 l j).k=3:=by omega
     have o:(eN l j).2.2.1=(b8 l j).ob:=L.ob (by rw[h];decide);refine aR (HH s hj) (aO (λhv=>aK (λg=>aj ⟨rfl,?_⟩) λg=>aj ⟨rfl,?_⟩) λhv=>aj ⟨rfl,?_⟩)
     .have hv:=(pw.1 hv).2;have g:(eN l i).2.1=4:=g;have o':(eN l i).2.2.1=(b8 l i).ob:=U.ob (by rw[show (b8 l i).k=4 by omega];decide);change decide ((eN l i).2.2.1=(eN l j).2.2.1)=J↔_;rw[ba];exact⟨λq=>⟨h,hv,by omega,by omega⟩,λq=>by omega⟩
     .have g:¬(eN l i).2.1=4:=g;exact⟨λq=>(by cases q),λq=>by omega⟩
     .refine ⟨λq=>(by cases q),λq=>?_⟩;rw[q.2.1]at hv;unfold OP at hv;rw[aS (.inl h)]at hv;cases hv
    .have h:¬(eN l j).2.1=3:=h;exact⟨λq=>(by cases q),λq=>by omega⟩
   rintro⟨x,y⟩ ⟨e,A⟩;dsimp only at e A;subst e;refine aO (λhb=>Z (.inr (.inr (.inl (A.1 hb)))) rfl) λa=>?_
   have A:¬_:=λq=>ca (A.2 q) (by rw[show x=af from a];decide)
   clear a;refine aV (λx=>x.2=(w,fL (dB (II w l j)) i,eN l j)/\(x.1=J↔(b8 l j).k=23/\(b8 l i).k=22/\(b8 l i).ob=(b8 l j).ob)) ?_ ?_
   .refine aK (λh=>aK (λg=>aj ⟨rfl,?_⟩) λg=>aj ⟨rfl,?_⟩) λh=>aj ⟨rfl,?_⟩
    .have h:(eN l j).2.1=23:=h;have g:(eN l i).2.1=22:=g;have o:(eN l i).2.2.1=(b8 l i).ob:=U.ob (by rw[show (b8 l i).k=22 by omega];decide);have o':(eN l j).2.2.1=(b8 l j).ob:=L.ob (by rw[show (b8 l j).k=23 by omega];decide);change decide ((eN l i).2.2.1=(eN l j).2.2.1)=J↔_;rw[ba];omega
    .have g:¬(eN l i).2.1=22:=g;exact⟨λq=>(by cases q),λq=>by omega⟩
    .have h:¬(eN l j).2.1=23:=h;exact⟨λq=>(by cases q),λq=>by omega⟩
   rintro⟨x,y⟩ ⟨e,z⟩;dsimp only at e z;subst e;refine aO (λhb=>Z (.inr (.inr (.inr (z.1 hb)))) rfl) λa=>?_
   have z:¬_:=λq=>ca (z.2 q) (by rw[show x=af from a];decide)
   refine aj ?_;dsimp only;rw[apl (ai1.2 λq=>q.elim h1 λq=>q.elim h2 λq=>q.elim A z)]
  rintro x rfl;refine aj ?_;dsimp only;rw[gH (by omega)]
 .rintro x rfl;refine dv ?_;have hn:=Ko (dB (II w l j)) j;refine aw (P:=λy=>y=ZI w l j) (aV (λx=>x=ZI w l j) ?_ λx hx=>aj hx) λx hx=>aj hx
  unfold ZI;refine aK (λh=>?_) λh=>aj ?_
  .have h:(eN l j).2.1=17:=h;have h:(b8 l j).k=17:=by omega
   obtain⟨h0,h1,h2⟩:=abx s hj h;refine aR (afa s hj h0 h1 h2) (eO (λ_=>bd (by dsimp only[dc];omega) (by omega) (aj ?_)) λg=>(by omega));dsimp only;rw[aC h]
  .have h:¬(eN l j).2.1=17:=h;dsimp only;rw[ax (by omega),ii]
theorem fE {φ:PM} {O:Nat->Prop} {w:World} {v u:Value} (h:cS φ O w (.f (.raw v)) u):u=v:=by
 cases h with
 |f h=>cases h;rfl
theorem uF (h:HF) (nw:HF):fc h [] nw=h:=by funext t;simp[fc]
theorem HB:∀{l:ξ},Ly l=J->∀v∈l,v.oneCell'=J
 |[],_,v,hv=>by cases hv
 |x::r,h,v,hv=>by
  simp only[Ly,al]at h;rcases bl.1 hv with rfl|hv
  .exact h.1
  .exact HB h.2 v hv
theorem W5 {φ:PM} {O:Nat->Prop} {w:World} (v:Value):cS φ O w (F0 v) v:=by
 unfold F0;split
 .rename_i vs;split
  .rename_i h1;refine cS.agg (vs:=vs.toList) (by simp) (λx a=>?_) (λj x v a hv=>?_)
   .obtain⟨u,hu,rfl⟩:=dt.1 a;exact HB h1 u hu
   .rw[bc,hv]at a;simp only[ct,ah]at a;subst a;exact .f (.raw _)
  .exact .f (.raw _)
 .exact .f (.raw _)
theorem ur {φ:PM} {E:Nat->Prop} {h':HF} {w:World} {e:AD} {a:Act} {xs:Array Operand} (hrep:rK φ E h' w) (h:∀t,.tmp t∈xs->∀y,e.get t=M y->cS φ (tot E φ h') w y (a.tmps.getD t undef)) {x:Operand} {y:AV} (z:x∈xs) (s:ng e x=M y):cS φ (tot E φ h') w y (a.eval x):=by
 cases x with
 |tmp t=>exact h t z y s
 |const v=>simp only[ng,ah]at s;subst s;exact W5 v
 |func g=>
  simp only[ng,ah]at s;subst s;exact cS.clo (vs:=[]) (g:=g) (cells:=[]) rfl (by intro j x v z;simp at z)
 |global g=>
  simp only[ng]at s;cases hg:G g with
  |none=>rw[hg]at s;cases s
  |some cells=>rw[hg]at s;simp only[ah]at s;subst s;exact .f (hrep.gl g cells hg)
abbrev XD (φ:PM) (E:Nat->Prop) (h':HF) (w:World) (a:Act) (e:AD) (o:Oper):Prop:=∀x y,x∈o.op.operands->ng e x=M y->cS φ (tot E φ h') w y (a.eval x)
theorem gW.reads {P:Program} {o:Oper} {e:AD} {h:HF} {val:AV} {rd:ι} {nw:HF}
 (hv:∀(φ:PM) (E:Nat->Prop) (h':HF) (w:World) (a:Act),(∀i∈rd,h' i=h i)->XD φ E h' w a e o->rK φ E h' w->
   ∃v,(execOp a.eval o).run P w= .ok (.value v) w/\cS φ (tot E φ h') w val v):gW P o e.get h ⟨val,rd,[],nw,[]⟩:=by
 intro φ E h' w a h1 h2 L s U;obtain⟨v,r,rel⟩:=hv φ E h' w a h1 (λx y A z=>ur s L A z) s;unfold Is;rw[r];refine ⟨v,φ,rfl,?_,λ_ _ h=>.inl h,?_,?_⟩<;>rw[uF]
 .exact jp.refl _ _ _
 .exact s
 .exact rel
theorem dJ {x:AV} {R:CX} (h:rv x=M R):R=⟨x,[],[],[],[]⟩:=by simp only[rv,ah]at h;exact h.symm
section pure
variable {P:Program} {o:Oper} {e:AD} {h:oK} {nx:Nat} {R:CX}
theorem aq9 {x:Operand} (s:o.op= .move x\/o.op= .assign x) (z:eQ (.mv x) e h nx=M R):gW P o e.get h.get R.eff:=by
 simp only[eQ]at z;split at z
 .rename_i v hv;rw[dJ z];exact gW.reads λφ E h' w a _ hop _=>⟨a.eval x,by unfold execOp;rcases s with s|s<;>rw[s]<;>rfl,hop x v (by rcases s with s|s<;>rw[s]<;>simp[Op.operands]) hv⟩
 .cases z
theorem aml {c x y:Operand} (z:o.op= .pick c x y) (s:eQ (.pick c x y) e h nx=M R):gW P o e.get h.get R.eff:=by
 simp only[eQ]at s;split at s
 .rename_i t hc;split at s
  .rename_i v hv;rw[dJ s];refine gW.reads λφ E h' w a _ hop _=>?_
   have hcv:=fE (hop c _ (by rw[z];simp[Op.operands]) hc);refine ⟨a.eval (if t then x else y),?_,hop _ v (by rw[z];cases t<;>simp[Op.operands]) hv⟩;unfold execOp;rw[z];simp only[hcv];cases t<;>rfl
  .cases s
 .cases s
theorem amm {x:Operand} (s:o.op= .nilCheck x) (A:eQ (.nilc x) e h nx=M R):gW P o e.get h.get R.eff:=by
 simp only[eQ]at A;split at A
 .rename_i id off U;rw[dJ A];refine gW.reads λφ E h' w a _ hop _=>?_
  have h1:=hop x _ (by rw[s];simp[Op.operands]) U;generalize L:a.eval x=z at h1;cases h1 with
  |ptr hφ=>exact⟨_,by unfold execOp;rw[s];simp only[L];rfl,.ptr hφ⟩
 .rename_i cells off U;rw[dJ A];refine gW.reads λφ E h' w a _ hop _=>?_
  have h1:=hop x _ (by rw[s];simp[Op.operands]) U;generalize L:a.eval x=z at h1;cases h1 with
  |f h1=>
   have h2:=h1;cases h2 with
   |ptr _ _ b base us hO hb hcl hu hr=>exact⟨_,by unfold execOp;rw[s];simp only[L];rfl,.f h1⟩
 .rename_i g cap U;rw[dJ A];refine gW.reads λφ E h' w a _ hop _=>?_
  have h1:=hop x _ (by rw[s];simp[Op.operands]) U;generalize L:a.eval x=z at h1;cases h1 with
  |clo hl hr=>exact⟨_,by unfold execOp;rw[s];simp only[L];rfl,.clo hl hr⟩
 .cases A
theorem aq7 {x:Operand} {t:TypeId} (z:o.op= .unOp .not t x) (s:eQ (.not x) e h nx=M R):gW P o e.get h.get R.eff:=by
 simp only[eQ]at s;split at s
 .rename_i b A;rw[dJ s];refine gW.reads λφ E h' w a _ hop _=>?_
  have h1:=fE (hop x _ (by rw[z];simp[Op.operands]) A);exact⟨_,by unfold execOp;rw[z];simp only[h1];rfl,.f (.raw _)⟩
 .cases s
theorem zB (k:IntKind) (n:Int):bm k n=k.wrap n:=by
 rw[Iw];unfold Nr;split
 .split
  .rename_i h;simp only[c9,al,ba]at h;have:pu .i64 n=if n%18446744073709551616≥9223372036854775808 then n%18446744073709551616-18446744073709551616 else n%18446744073709551616:=by
    simp[pu,IntKind.bits,IntKind.signed]
   rw[this];split<;>omega
  .rfl
 .split
  .rename_i h;simp only[c9,al,ba]at h;have:pu .u8 n=n%256:=by
    simp[pu,IntKind.bits,IntKind.signed]
   rw[this];omega
  .rfl
 .rfl
theorem amu {x:Operand} {s d:TypeId} {k k':IntKind} (A:o.op= .convert s d x) (hs:P.underlying s=M (.int k')) (hd:P.underlying d=M (.int k)) (z:eQ (.conv k x) e h nx=M R):gW P o e.get h.get R.eff:=by
 simp only[eQ]at z;split at z
 .rename_i U n L;rw[dJ z];refine gW.reads λφ E h' w a _ hop _=>?_
  have h1:=fE (hop x _ (by rw[A];simp[Op.operands]) L);refine ⟨_,?_,.f (.raw _)⟩;unfold execOp;rw[A];simp[h1,convert,run_underlying hs,run_underlying hd,Conv.intToInt,zB]
 .cases z
theorem QQ (a:ByteArray):a.toList=a.data.toList:=by
 first|exact ByteArray.toList_eq a|simp[ByteArray.toList]|rfl
theorem ach {op:BinOp} {t:TypeId} {u v r:Value} (hr:ut op u v=M r) (x y:Operand) (w:World):
 (do eqGuard op t x y u v;binOp op t u v:Sem Value).run P w= .ok r w:=by
 unfold ut at hr;split at hr
 .rename_i k a k' b;split at hr
  .rename_i hk;have s:k=k':=by simpa using hk
   subst s;split at hr<;>first|(simp only[ah]at hr;subst hr;simp[eqGuard,binOp,Op.intCmp,Op.intArith,zB,c9,fR];done)|(split at hr<;>first|(cases hr;done)|(rename_i hb;simp only[ah]at hr;subst hr;simp[eqGuard,binOp,Op.intDiv,zB,show b≠0 from by simpa using hb];done))|(cases hr;done)
  .cases hr
 .rename_i a b;split at hr<;>first|(simp only[ah]at hr;subst hr;simp[eqGuard,binOp,Op.stringOp,sT,QQ];done)|(cases hr;done)
 .cases hr
theorem ajx {s:Sem Value} {r:Value} {w w':World} (hs:s.run P w= .ok r w'):(do let x<-s;pure (Next.value x):Sem Next).run P w= .ok (.value r) w':=by
 simp[hs]
theorem akr {op:BinOp} {x y:Operand} {t t':TypeId} (z:o.op= .binOp op t x y t') (s:eQ (.bin op x y) e h nx=M R):gW P o e.get h.get R.eff:=by
 simp only[eQ]at s;split at s
 .rename_i u v L A;split at s
  .rename_i r hr;rw[dJ s];refine gW.reads λφ E h' w a _ hop _=>?_
   have h1:=fE (hop x _ (by rw[z];simp[Op.operands]) L);have h2:=fE (hop y _ (by rw[z];simp[Op.operands]) A);refine ⟨r,?_,.f (.raw _)⟩;unfold execOp;rw[z];simp only[h1,h2];exact ajx (ach (P:=P) (t:=t) hr x y w)
  .cases s
 .cases s
theorem Wp {t:TypeId} (hu:P.underlying t=M .bool) (u v:Bool) (w:World):(Op.equal t (.bool u) (.bool v)).run P w= .ok (u==v) w:=by
 have key:∀d,(Op.equalIn (d+1) t (.bool u) (.bool v)).run P w= .ok (u==v) w:=λd=>by simp[Op.equalIn,run_underlying hu]
 exact key 9999
theorem S8 {t el:TypeId} (hu:P.underlying t=M (.slice el)) (A:I Addr) (n c:Nat) (w:World):(Op.equal t (.slice A n c) (.slice D 0 0)).run P w= .ok A.isNone w:=by
 have key:∀d,(Op.equalIn (d+1) t (.slice A n c) (.slice D 0 0)).run P w= .ok A.isNone w:=λd=>by cases A<;>simp[Op.equalIn,run_underlying hu]
 exact key 9999
theorem akq {neg:Bool} {op:BinOp} {x y:Operand} {t t':TypeId} (z:o.op= .binOp op t x y t') (hop:op=if neg then .neq else .eql) (hu:P.underlying t=M .bool) (s:eQ (.eqb neg x y) e h nx=M R):gW P o e.get h.get R.eff:=by
 simp only[eQ]at s;split at s
 .rename_i u v L A;rw[dJ s];refine gW.reads λφ E h' w a _ hp _=>?_
  have h1:=fE (hp x _ (by rw[z];simp[Op.operands]) L);have h2:=fE (hp y _ (by rw[z];simp[Op.operands]) A);refine ⟨_,?_,.f (.raw _)⟩;unfold execOp;rw[z];simp only[h1,h2];subst hop;cases neg<;>simp[eqGuard,binOp,Wp hu]
 .cases s
theorem YZ {neg:Bool} {op:BinOp} {x y:Operand} {t t' el:TypeId} (Z:o.op= .binOp op t x y t') (hop:op=if neg then .neq else .eql) (hy:y= .const (.slice D 0 0)) (hu:P.underlying t=M (.slice el)) (L:eQ (.isnil neg x) e h nx=M R):gW P o e.get h.get R.eff:=by
 have key:∀(v:Value) (w:World) (ρ:Operand->Value) (A:I Addr) (n c:Nat),ρ x= .slice A n c->ρ y= .slice D 0 0->(execOp ρ o).run P w= .ok (.value (.bool (A.isNone !=neg))) w:=by
  intro v w ρ A n c h1 h2;unfold execOp;rw[Z];simp only[h1,h2];subst hop;cases neg<;>simp[eqGuard,binOp,S8 hu]
 have hyv:∀a:Act,a.eval y= .slice D 0 0:=λa=>by rw[hy];rfl
 simp only[eQ]at L;split at L
 .rename_i id sz n s;rw[dJ L];refine gW.reads λφ E h' w a _ hp _=>?_
  have h1:=hp x _ (by rw[Z];simp[Op.operands]) s;generalize U:a.eval x=z at h1;cases h1 with
  |row hφ hn hc hs=>exact⟨_,key (.bool J) w a.eval _ _ _ U (hyv a),by simpa[raw] using cS.f (.raw _)⟩
 .rename_i id off n s;rw[dJ L];refine gW.reads λφ E h' w a _ hp _=>?_
  have h1:=hp x _ (by rw[Z];simp[Op.operands]) s;generalize U:a.eval x=z at h1;cases h1 with
  |sl hφ hn hc=>exact⟨_,key (.bool J) w a.eval _ _ _ U (hyv a),by simpa[raw] using cS.f (.raw _)⟩
 .rename_i cells n s;rw[dJ L];refine gW.reads λφ E h' w a _ hp _=>?_
  have h1:=hp x _ (by rw[Z];simp[Op.operands]) s;generalize U:a.eval x=z at h1;cases h1 with
  |f h1=>
   cases h1 with
   |sl=>exact⟨_,key (.bool J) w a.eval _ _ _ U (hyv a),by simpa[raw] using cS.f (.raw _)⟩
 .rename_i cells s;rw[dJ L];refine gW.reads λφ E h' w a _ hp _=>?_
  have h1:=hp x _ (by rw[Z];simp[Op.operands]) s;generalize U:a.eval x=z at h1;cases h1 with
  |f h1=>
   cases h1 with
   |nil=>exact⟨_,key (.bool J) w a.eval _ _ _ U (hyv a),.anyb⟩
   |sl=>exact⟨_,key (.bool J) w a.eval _ _ _ U (hyv a),.anyb⟩
 .rename_i s;rw[dJ L];refine gW.reads λφ E h' w a _ hp _=>?_
  have h1:=hp x _ (by rw[Z];simp[Op.operands]) s;generalize U:a.eval x=z at h1;cases h1 with
  |emp=>exact⟨_,key (.bool J) w a.eval _ _ _ U (hyv a),.anyb⟩
 .rename_i v s;split at L
  .rename_i hv;rw[dJ L];refine gW.reads λφ E h' w a _ hp _=>?_
   have h1:=fE (hp x _ (by rw[Z];simp[Op.operands]) s);unfold um at hv;split at hv
   .exact⟨_,key (.bool J) w a.eval _ _ _ h1 (hyv a),by simpa[raw] using cS.f (.raw _)⟩
   .cases hv
  .cases L
 .cases L
theorem gK {t:TypeId} {sz:Nat} (hs:fJ P t=M sz) (w:World):(sizeOf t).run P w= .ok sz w:=by
 unfold fJ at hs;cases hi:P.info? t with
 |none=>rw[hi]at hs;cases hs
 |some i=>rw[hi]at hs;simp at hs;simp[sizeOf,typeInfo,program,hi,kx,hs]
theorem Rz {t:TypeId} {ag:Bool} (hs:EL P t=M ag) (w:World):(isAgg t).run P w= .ok ag w:=by
 unfold EL at hs;cases hi:P.underlying t with
 |none=>rw[hi]at hs;cases hs
 |some d=>
  rw[hi]at hs;simp only[ct,ah]at hs;rw[<- hs];simp only[isAgg,eR,run_underlying hi,cU];cases d<;>rfl
theorem lH (b off i:Nat):(⟨b,off,D⟩:Addr).add i=⟨b,off+i,D⟩:=by
 unfold Addr.add;split<;>simp_all
theorem Ry {s:TypeId} {fs:Array Field} {k:Nat} {f:Field} {sz:Nat} (hu:P.underlying s=M (.struct fs)) (hf:fs[k]? =M f) (hs:fJ P f.type=M sz) (h0:sz≠0) (w:World) (b i:Nat):
 (Instr.fieldAt s (.pointer (M ⟨b,i,D⟩)) k).run P w= .ok (.pointer (M ⟨b,i+f.offset,D⟩)) w:=by
 have h1:=gK hs w;simp[Instr.fieldAt,run_underlying hu,hf,Instr.sureAddr,fieldPlace,h1,h0,lH]
theorem aqh {s:TypeId} {fs:Array Field} {k:Nat} {f:Field} {sz:Nat} {x:Operand} (Z:o.op= .fieldAddr s x k) (hu:P.underlying s=M (.struct fs)) (hf:fs[k]? =M f) (hs:fJ P f.type=M sz) (h0:sz≠0) (A:eQ (.fad f.offset x) e h nx=M R):gW P o e.get h.get R.eff:=by
 have key:∀(w:World) (ρ:Operand->Value) (b i:Nat),ρ x= .pointer (M ⟨b,i,D⟩)->(execOp ρ o).run P w= .ok (.value (.pointer (M ⟨b,i+f.offset,D⟩))) w:=by
  intro w ρ b i h1;unfold execOp;rw[Z];simp only[h1];exact ajx (Ry hu hf hs h0 w b i)
 simp only[eQ]at A;split at A
 .rename_i id off U;rw[dJ A];refine gW.reads λφ E h' w a _ hp _=>?_
  have h1:=hp x _ (by rw[Z];simp[Op.operands]) U;generalize L:a.eval x=z at h1;cases h1 with
  |ptr hφ=>exact⟨_,key w a.eval _ _ L,.ptr hφ⟩
 .rename_i cells off U;rw[dJ A];refine gW.reads λφ E h' w a _ hp _=>?_
  have h1:=hp x _ (by rw[Z];simp[Op.operands]) U;generalize L:a.eval x=z at h1;cases h1 with
  |f h1=>
   cases h1 with
   |ptr _ _ b base us hO hb hcl hu hr=>
    refine ⟨_,key w a.eval _ _ L,.f ?_⟩;rw[qf];exact .ptr cells _ b base us hO hb hcl hu hr
 .cases A
theorem Kp {t el:TypeId} {x y:Operand} {sz b off n c:Nat} {k:IntKind} {i:Int} {ρ:Operand->Value} {w:World} (z:o.op= .indexAddr t x y) (hu:P.underlying t=M (.slice el)) (hs:fJ P el=M sz) (s:ρ x= .slice (M ⟨b,off,D⟩) n c) (a:ρ y= .int k i) (h0:0<=i) (h1:i<n):
 (execOp ρ o).run P w= .ok (.value (.pointer (M ⟨b,off+i.toNat*sz,D⟩))) w:=by
 have h2:=gK hs w;unfold execOp;rw[z];simp[s,a,Instr.indexAt,asIntOf,run_underlying hu,h2,h0,h1,lH]
theorem aqf {t el:TypeId} {x y:Operand} {sz:Nat} (A:o.op= .indexAddr t x y) (hu:P.underlying t=M (.slice el)) (hs:fJ P el=M sz) (s:eQ (.iad sz x y) e h nx=M R):gW P o e.get h.get R.eff:=by
 simp only[eQ]at s;split at s
 .rename_i v k j Z hy;have hyv:∀{φ:PM} {E:Nat->Prop} {h':HF} {w:World} {a:Act},XD φ E h' w a e o->a.eval y= .int k j:=λhp=>fE (hp y _ (by rw[A];simp[Op.operands]) hy)
  split at s
  .split at s
   .rename_i id sz' n hc;simp only[c9,fR,al,ba,c7]at hc;obtain⟨⟨rfl,h0⟩,h1⟩:=hc;rw[dJ s];refine gW.reads λφ E h' w a _ hp _=>?_
    have hr:=hp x _ (by rw[A];simp[Op.operands]) Z;generalize L:a.eval x=z at hr;cases hr with
    |row hφ hn U hsh=>
     refine ⟨_,Kp A hu hs L (hyv hp) h0 h1,?_⟩;rw[bJ];exact .ptr hφ
   .cases s
  .split at s
   .rename_i id off n hc;simp only[c9,fR,al,ba]at hc;obtain⟨h0,h1⟩:=hc;rw[dJ s];refine gW.reads λφ E h' w a _ hp _=>?_
    have hr:=hp x _ (by rw[A];simp[Op.operands]) Z;generalize L:a.eval x=z at hr;cases hr with
    |sl hφ hn U=>exact⟨_,Kp A hu hs L (hyv hp) h0 h1,.ptr hφ⟩
   .cases s
  .split at s
   .rename_i cells n hc;simp only[c9,fR,al,ba]at hc;obtain⟨h0,h1⟩:=hc;rw[dJ s];refine gW.reads λφ E h' w a _ hp _=>?_
    have hr:=hp x _ (by rw[A];simp[Op.operands]) Z;generalize L:a.eval x=z at hr;cases hr with
    |f hr=>
     cases hr with
     |nil=>omega
     |sl _ _ c b base us hn U hO hb hcl hu' hr'=>exact⟨_,Kp A hu hs L (hyv hp) h0 h1,.f (.ptr cells _ b base us hO hb hcl hu' hr')⟩
   .cases s
  .cases s
 .cases s
theorem ams {t el:TypeId} {x y:Operand} {n sz:Nat} (A:o.op= .indexAddr t x y) (hu:P.underlying t=M (.array n el)) (hs:fJ P el=M sz) (s:eQ (.iada n sz x y) e h nx=M R):gW P o e.get h.get R.eff:=by
 have key:∀(w:World) (ρ:Operand->Value) (b off:Nat) (k:IntKind) (i:Int),ρ x= .pointer (M ⟨b,off,D⟩)->ρ y= .int k i->0<=i->i<n->(execOp ρ o).run P w= .ok (.value (.pointer (M ⟨b,off+i.toNat*sz,D⟩))) w:=by
  intro w ρ b off k i h1 h2 h3 h4;have h5:=gK hs w;unfold execOp;rw[A];simp[h1,h2,Instr.indexAt,asIntOf,run_underlying hu,h5,h3,h4,lH,Instr.sureAddr]
 simp only[eQ]at s;split at s
 .rename_i v k j hx hy;split at s
  .rename_i hc;simp only[c9,fR,al,ba]at hc;obtain⟨h0,h1⟩:=hc;split at s
   .rw[dJ s];refine gW.reads λφ E h' w a _ hp _=>?_
    have hr:=hp x _ (by rw[A];simp[Op.operands]) hx;have hyv:=fE (hp y _ (by rw[A];simp[Op.operands]) hy);generalize L:a.eval x=z at hr;cases hr with
    |ptr hφ=>exact⟨_,key w a.eval _ _ k j L hyv h0 h1,.ptr hφ⟩
   .rw[dJ s];refine gW.reads λφ E h' w a _ hp _=>?_
    have hr:=hp x _ (by rw[A];simp[Op.operands]) hx;have hyv:=fE (hp y _ (by rw[A];simp[Op.operands]) hy);generalize L:a.eval x=z at hr;cases hr with
    |f hr=>
     cases hr with
     |ptr _ _ b base us hO hb hcl U Z=>
      refine ⟨_,key w a.eval _ _ k j L hyv h0 h1,.f ?_⟩;rw[qf];exact .ptr _ _ b base us hO hb hcl U Z
   .cases s
  .cases s
 .cases s
theorem aqi {x:Operand} {i:Nat} (A:o.op= .extract x i) (s:eQ (.ext x i) e h nx=M R):gW P o e.get h.get R.eff:=by
 simp only[eQ]at s;split at s
 .rename_i l U;split at s
  .rename_i v hv;rw[dJ s];refine gW.reads λφ E h' w a _ hp _=>?_
   have hr:=hp x _ (by rw[A];simp[Op.operands]) U;generalize L:a.eval x=z at hr;cases hr with
   |@tup _ vs hl hrr=>
    have hlt:i<vs.length:=by
     rw[hl];exact (bn.1 hv).1
    refine ⟨vs[i],?_,hrr i v _ hv (ay hlt)⟩;unfold execOp;rw[A];simp[L,Instr.extract,hlt]
  .cases s
 .cases s
theorem aqd {x y:Operand} {A:Array TypeId} (z:o.op= .call {callee:=.builtin .max,args:=#[x,y],argTypes:=A}) (s:eQ (.max x y) e h nx=M R):gW P o e.get h.get R.eff:=by
 simp only[eQ]at s;split at s
 .rename_i k a b k' U L;rw[dJ s];refine gW.reads λφ E h' w a _ hp _=>?_
  have h1:=fE (hp x _ (by rw[z];simp[Op.operands,e_]) U);have h2:=fE (hp y _ (by rw[z];simp[Op.operands,e_]) L);refine ⟨_,?_,.f (.raw _)⟩;unfold execOp;rw[z];simp[resolve,invoke,builtin,Builtin.max_,Builtin.max2,h1,h2,fR]
 .cases s
theorem aqc {x y:Operand} {A:Array TypeId} (z:o.op= .call {callee:=.builtin .min,args:=#[x,y],argTypes:=A}) (s:eQ (.min x y) e h nx=M R):gW P o e.get h.get R.eff:=by
 simp only[eQ]at s;split at s
 .rename_i k a b k' U L;rw[dJ s];refine gW.reads λφ E h' w a _ hp _=>?_
  have h1:=fE (hp x _ (by rw[z];simp[Op.operands,e_]) U);have h2:=fE (hp y _ (by rw[z];simp[Op.operands,e_]) L);refine ⟨_,?_,.f (.raw _)⟩;unfold execOp;rw[z];simp[resolve,invoke,builtin,Builtin.min_,Builtin.min2,h1,h2,fR]
 .cases s
theorem aq8 {x:Operand} {t:TypeId} {k:IntKind} (z:o.op= .unOp .neg t x) (s:eQ (.bin .sub (.const (.int k 0)) x) e h nx=M R):gW P o e.get h.get R.eff:=by
 simp only[eQ,ng,F0]at s;split at s
 .rename_i u v hu A;cases hu;split at s
  .rename_i r hb;rw[dJ s];refine gW.reads λφ E h' w a _ hop _=>?_
   have h1:=fE (hop x _ (by rw[z];simp[Op.operands]) A);refine ⟨r,?_,.f (.raw _)⟩;unfold execOp;rw[z];cases v<;>simp only[ut]at hb<;>try (cases hb;done)
   split at hb
   .rename_i hk;have hk:=eq_of_beq hk;subst hk;simp only[ah]at hb;subst hb;simp[h1,Op.unary,Op.intArith,zB]
   .cases hb
  .cases s
 .cases s
theorem amk {x i:Operand} {t:TypeId} (A:o.op= .index t x i) (hu:P.underlying t=M .string) (z:eQ (.sidx x i) e h nx=M R):gW P o e.get h.get R.eff:=by
 simp only[eQ]at z;split at z
 .rename_i s k j L hi;split at z
  .rename_i h0;simp only[c9,ba]at h0;split at z
   .rename_i b hb;rw[dJ z];refine gW.reads λφ E h' w a _ hop _=>?_
    have h1:=fE (hop x _ (by rw[A];simp[Op.operands]) L);have h2:=fE (hop i _ (by rw[A];simp[Op.operands]) hi);refine ⟨_,?_,.f (.raw _)⟩;have hs:s[j.toNat]? =M b:=by
     rw[cD]at hb;obtain⟨hl,he⟩:=cI.1 hb;exact getElem?_pos s j.toNat hl▸gZ M he
    unfold execOp;rw[A];simp[Instr.index,run_underlying hu,h1,h2,asIntOf,h0,hs]
   .cases z
  .cases z
 .cases z
theorem aqb {f:FuncId} {caps:Array Operand} (Z:o.op= .makeFunc (.func f) #[] caps) (L:eQ (.mkf f caps.toList) e h nx=M R):gW P o e.get h.get R.eff:=by
 simp only[eQ]at L;split at L
 .rename_i l hl;rw[dJ L];refine gW.reads λφ E h' w a _ hp _=>?_
  refine ⟨_,by unfold execOp;rw[Z];rfl,?_⟩;have key:∀(xs:Y Operand) (s:Y AV),(∀x∈xs,x∈o.op.operands)->YA e xs=M s->s.length=xs.length/\∀(j:Nat) x v,s[j]? =M x->(xs.map a.eval)[j]? =M v->cS φ (tot E φ h') w x v:=by
   intro xs;induction xs with
   |nil=>intro s _ h;simp only[YA,ah]at h;subst h;exact⟨rfl,λj x v A=>by simp at A⟩
   |cons x xs ih=>
    intro s hm h;simp only[YA]at h;split at h
    .rename_i y hy;split at h
     .rename_i ys' hys;simp only[ah]at h;subst h;obtain⟨h1,h2⟩:=ih ys' (λx A=>hm x (cC _ A)) hys;refine ⟨by simp[h1],λj z v U hv=>?_⟩;cases j with
      |zero=>simp at U hv;subst U;subst hv;exact hp x _ (hm x (c8 ..)) hy
      |succ j=>exact h2 j z v (by simpa using U) (by simpa using hv)
     .cases h
    .cases h
  obtain⟨h1,h2⟩:=key caps.toList l (λx A=>by rw[Z];simpa[Op.operands] using A) hl;have h3:(caps.map a.eval)=(caps.toList.map a.eval).toArray:=by
   apply L5;simp
  have h4:(#[]:Array Operand).map a.eval=#[]:=by simp
  rw[h4,h3];exact .clo (by simp[h1]) h2
 .cases L
end pure
section
variable {P:Program} {o:Oper} {e:AD} {h:oK} {nx:Nat} {R:CX}
theorem XU {α:Type} {l cs:Y α} {off sz:Nat} (h:off+sz<=l.length) (he:(l.drop off).take sz=cs):cs.length=sz/\∀(j:Nat) x,cs[j]? =M x->l[off+j]? =M x:=by
 subst he;constructor
 .simp;omega
 .intro j x a;rw[cX]at a;split at a
  .rw[ic]at a;exact a
  .cases a
theorem yh (f:Nat->Value) (n j:Nat) (v:Value) (h:((bS n).map f)[j]? =M v):v=f j/\j<n:=by
 rw[bc]at h;rcases ci j n with hj|hj
 .rw[wN hj]at h;simp at h;exact⟨h.symm,hj⟩
 .rw[bG (by simpa using hj)]at h;cases h
def yH (φ:PM) (O:Nat->Prop) (w:World) (c:BC) (f:Nat->I Value):Prop:=∀j x,c.get j=M x->x.isCell=J/\∃v,f j=M v/\cS φ O w x v
theorem XT {φ:PM} {O:Nat->Prop} {w:World} {c:BC} {off sz:Nat} {ag:Bool} {val:AV} (hs:c.sub? off sz ag=M val) {f:Nat->I Value} (hc:yH φ O w c f):
 ∃cs:ξ,cs.length=sz/\(∀(j:Nat) v,cs[j]? =M v->f (off+j)=M v)/\(ag=af->sz=1)/\cS φ O w val (if ag then .agg cs.toArray else cs.getD 0 undef):=by
 cases ag with
 |false=>
  simp only[BC.sub?]at hs;split at hs
  .obtain⟨h0,v,h1,h2⟩:=hc off val hs;exact⟨[v],rfl,λj u hu=>by cases j with|zero=>simp at hu;subst hu;exact h1|succ j=>simp at hu,λ_=>rfl,by simpa using h2⟩
  .cases hs
 |true=>
  have fin:∀(g:Nat->I AV),(∀j,j<sz->∃x,g j=M x/\c.get (off+j)=M x)->
   ∃cs:ξ,cs.length=sz/\(∀(j:Nat) v,cs[j]? =M v->f (off+j)=M v)/\∀(j:Nat) x v,g j=M x->cs[j]? =M v->cS φ O w x v:=by
   intro g hg;refine ⟨(bS sz).map λj=>(f (off+j)).getD undef,by simp,λj v hv=>?_,λj x v a hv=>?_⟩
   .obtain⟨rfl,hj⟩:=yh _ _ _ _ hv;obtain⟨x,_,h2⟩:=hg j hj;obtain⟨_,v,s,_⟩:=hc _ _ h2;rw[s];rfl
   .obtain⟨rfl,hj⟩:=yh _ _ _ _ hv;obtain⟨A,h1,h2⟩:=hg j hj;rw[a]at h1;cases h1;obtain⟨_,v,s,z⟩:=hc _ _ h2;rw[s];exact z
  simp only[BC.sub?]at hs;split at hs
  .rename_i l;split at hs
   .rename_i hle;simp only[ah]at hs;subst hs;obtain⟨hl,hg⟩:=XU (a_ hle) (rfl:(l.drop off).take sz=_);obtain⟨cs,h1,h2,s⟩:=fin (λj=>(((l.drop off).take sz)[j]?).map AV.f) (λj hj=>by
     have hlt:j<((l.drop off).take sz).length:=by rw[hl];exact hj
     refine ⟨.f ((l.drop off).take sz)[j],by simp only[ay hlt,ct],?_⟩;simp only[BC.get,hg j _ (ay hlt),ct])
    refine ⟨cs,h1,h2,(λh=>by cases h),.f (.agg _ _ (by rw[h1,hl]) ?_ ?_)⟩
    .intro x a;obtain⟨j,hj⟩:=fw a;exact (hc (off+j) (.f x) (by simp only[BC.get,hg j x hj,ct])).1
    .intro j x v a hv;have:=s j (.f x) v (by simp only[a,ct]) hv;cases this with
     |f h=>exact h
   .cases hs
  .rename_i l;split at hs
   .rename_i hle;simp only[ah]at hs;subst hs;obtain⟨hl,hg⟩:=XU (a_ hle) (rfl:(l.drop off).take sz=_);obtain⟨cs,h1,h2,s⟩:=fin (λj=>(((l.drop off).take sz)[j]?)) (λj hj=>by
     have hlt:j<((l.drop off).take sz).length:=by rw[hl];exact hj
     exact⟨_,ay hlt,hg j _ (ay hlt)⟩)
    refine ⟨cs,h1,h2,(λh=>by cases h),.agg (by rw[h1,hl]) ?_ ?_⟩
    .intro x a;obtain⟨j,hj⟩:=fw a;exact (hc (off+j) x (hg j x hj)).1
    .intro j x v a hv;exact s j x v a hv
   .cases hs
  .cases hs
theorem Pk {t:TypeId} {sz:Nat} {ag:Bool} (hs:fJ P t=M sz) (a:EL P t=M ag) (w:World) (b off:Nat) (cs:ξ) (hl:cs.length=sz) (hc:∀(j:Nat) v,cs[j]? =M v->w.cell? ⟨b,off+j,D⟩=M v) (h1:ag=af->sz=1):
 (loadVar t ⟨b,off,D⟩).run P w= .ok (if ag then .agg cs.toArray else cs.getD 0 undef) w:=by
 unfold loadVar;simp only[eR,Rz a w,cU];cases ag with
 |true=>
  simp only[bI,eR,gK hs w,cU];rw[<- hl,run_loadCells_list (P:=P) w ⟨b,off,D⟩ cs (λj v hv=>by rw[lH];exact hc j v hv)];rfl
 |false=>
  have h1:=h1 rfl;cases cs with
  |nil=>simp at hl;omega
  |cons v r=>
   have:=hc 0 v rfl;simp only[dl]at this;simp[load,kx,this]
theorem JG {φ:PM} {O:Nat->Prop} {w:World} {t:TypeId} {sz:Nat} {ag:Bool} (hs:fJ P t=M sz) (a:EL P t=M ag) {c:BC} {b base off:Nat} {val:AV} (hv:c.sub? off sz ag=M val)
 (hc:yH φ O w c λj=>w.cell? ⟨b,base+j,D⟩):∃v,(loadVar t ⟨b,base+off,D⟩).run P w= .ok v w/\cS φ O w val v:=by
 obtain⟨cs,h1,h2,z,s⟩:=XT hv hc;exact⟨_,Pk hs a w b (base+off) cs h1 (λj v hj=>by rw[qf];exact h2 j v hj) z,s⟩
theorem Uk {φ:PM} {E:Nat->Prop} {h':HF} {w:World} (hrep:rK φ E h' w) {id k:Nat} {b:wK} (hb:h' id=M b) (hk:φ id=M k) (hc:b.c.isCells=J):yH φ (tot E φ h') w b.c λj=>w.cell? ⟨k,0+j,D⟩:=by
 obtain⟨k',h1,_,h2⟩:=hrep.at_ id b hb;rw[hk]at h1;cases h1;obtain⟨arr,z,Z,s⟩:=h2.cells hc;intro j x a;obtain⟨U,v,L,A⟩:=s j x a;exact⟨U,v,by simp[O1,z,L],A⟩
theorem Xg {φ:PM} {O:Nat->Prop} {w:World} {cells:Y FV} {b base:Nat} {us:Nat->Value} (hcl:∀x∈cells,x.isCell=J) (hu:∀j,j<cells.length->w.cell? ⟨b,base+j,D⟩=M (us j)) (hr:∀(j:Nat) x,cells[j]? =M x->oe O w x (us j)):
 yH φ O w (.fz cells) λj=>w.cell? ⟨b,base+j,D⟩:=by
 intro j y a;simp only[BC.get]at a;cases hc:cells[j]? with
 |none=>rw[hc]at a;cases a
 |some q=>
  rw[hc]at a;simp at a;subst a;have hj:j<cells.length:=(bn.1 hc).1;exact⟨hcl q (aZ hc),us j,hu j hj,.f (hr j q hc)⟩
theorem Rm {c:BC} {off sz:Nat} {ag:Bool} {v:AV} (h:c.sub? off sz ag=M v):c.isCells=J:=by
 cases c with
 |fz=>rfl
 |mx=>rfl
 |mp es=>cases ag<;>simp only[BC.sub?,BC.get]at h<;>(try split at h)<;>cases h
 |it s p=>cases ag<;>simp only[BC.sub?,BC.get]at h<;>(try split at h)<;>cases h
theorem Ut {t:TypeId} {sz:Nat} {ag:Bool} (hs:fJ P t=M sz) (hag:EL P t=M ag) {p:AV} (a:EK h sz ag p=M R):
 R.wr=[]/\R.nw=[]/\R.N=[]/\∀(φ:PM) (E:Nat->Prop) (h':HF) (w:World) (pv:Value),(∀i∈R.rd,h' i=h.get i)->rK φ E h' w->cS φ (tot E φ h') w p pv->
  ∃s v,pv= .pointer (M s)/\(loadVar t s).run P w= .ok v w/\cS φ (tot E φ h') w R.val v:=by
 unfold EK at a;split at a
 .rename_i id off;split at a
  .rename_i b hb;split at a
   .rename_i v hv;simp only[ah]at a;subst a;refine ⟨rfl,rfl,rfl,λφ E h' w pv hrd hrep hr=>?_⟩;have hh:h' id=M b:=by rw[hrd id (by simp)];exact hb
    cases hr with
    |@ptr _ _ k hφ=>
     obtain⟨u,h1,h2⟩:=JG hs hag (w:=w) (b:=k) (base:=0) hv (Uk hrep hh hφ (Rm hv));rw[bJ]at h1;exact⟨_,u,rfl,h1,h2⟩
   .cases a
  .cases a
 .rename_i cells off;split at a
  .rename_i v hv;rw[dJ a];refine ⟨rfl,rfl,rfl,λφ E h' w pv hrd hrep hr=>?_⟩;cases hr with
   |f hr=>
    cases hr with
    |ptr _ _ b base us hO hb hcl hu hr=>
     obtain⟨u,h1,h2⟩:=JG (φ:=φ) (O:=tot E φ h') hs hag (w:=w) (b:=b) (base:=base) hv (Xg hcl hu hr);exact⟨_,u,rfl,h1,h2⟩
  .cases a
 .cases a
theorem amo {t:TypeId} {x:Operand} {sz:Nat} {ag:Bool} (z:o.op= .load t x) (hs:fJ P t=M sz) (hag:EL P t=M ag) (s:eQ (.load sz ag x) e h nx=M R):gW P o e.get h.get R.eff:=by
 simp only[eQ]at s;split at s
 .rename_i p U;obtain⟨h1,h2,L,A⟩:=Ut hs hag s;obtain⟨val,rd,wr,nw,N⟩:=R;simp only at h1 h2 L A;subst h1;subst h2;subst L;refine gW.reads λφ E h' w a hrd hp hrep=>?_
  obtain⟨ad,v,h5,h6,Z⟩:=A φ E h' w _ hrd hrep (hp x _ (by rw[z];simp[Op.operands]) U);refine ⟨v,?_,Z⟩;unfold execOp;rw[z];simp[Instr.loadAt,h5,Instr.sureAddr,h6]
 .cases s
theorem X_ {φ:PM} {O:Nat->Prop} {w:World} {t:TypeId} {sz:Nat} {ag:Bool} (hs:fJ P t=M sz) (hag:EL P t=M ag) {c:BC} {off:Nat} {val:AV} (hv:c.sub? off sz ag=M val) {vs:ξ}
 (hc:yH φ O w c λj=>vs[j]?):∃v,(part t vs.toArray off).run P w= .ok v w/\cS φ O w val v:=by
 obtain⟨cs,h1,h2,s,a⟩:=XT hv hc;refine ⟨_,?_,a⟩;unfold part;simp only[eR,Rz hag w,cU];cases ag with
 |true=>
  simp only[bI,eR,gK hs w,cU];have:vs.toArray.extract off (off+sz)=cs.toArray:=by
   apply L5;simp only[Array.toList_extract,List.extract_eq_take_drop];apply List.ext_getElem?;intro j;rw[show off+sz-off=sz from by omega,cX,ic];rcases ci j sz with hj|hj
   .rw[aC hj];have:=h2 j _ (ay (by omega:j<cs.length));rw[this,ay (by omega:j<cs.length)]
   .rw[ax (by omega),bG (by omega)]
  rw[this];rfl
 |false=>
  have z:=s rfl;cases cs with
  |nil=>simp at h1;omega
  |cons v r=>
   have:=h2 0 v rfl;simp only[dl]at this;simp[this]
theorem Ul {φ:PM} {O:Nat->Prop} {w:World} {l:Y AV} {vs:ξ} (hl:vs.length=l.length) (hcl:∀x∈l,x.isCell=J) (hr:∀(j:Nat) x v,l[j]? =M x->vs[j]? =M v->cS φ O w x v):yH φ O w (.mx l) λj=>vs[j]? :=by
 intro j x a;simp only[BC.get]at a;have hj:j<vs.length:=by rw[hl];exact (bn.1 a).1
 exact⟨hcl x (aZ a),vs[j],ay hj,hr j x _ a (ay hj)⟩
theorem QN {φ:PM} {O:Nat->Prop} {w:World} {l:Y FV} {vs:ξ} (hl:vs.length=l.length) (hcl:∀x∈l,x.isCell=J) (hr:∀(j:Nat) x v,l[j]? =M x->vs[j]? =M v->oe O w x v):yH φ O w (.fz l) λj=>vs[j]? :=by
 intro j x a;simp only[BC.get]at a;cases hc:l[j]? with
 |none=>rw[hc]at a;cases a
 |some q=>
  rw[hc]at a;simp at a;subst a;have hj:j<vs.length:=by rw[hl];exact (bn.1 hc).1
  exact⟨hcl q (aZ hc),vs[j],ay hj,.f (hr j q _ hc (ay hj))⟩
theorem LK {φ:PM} {O:Nat->Prop} {w:World} {t:TypeId} {sz:Nat} {ag:Bool} (hs:fJ P t=M sz) (hag:EL P t=M ag) {x:AV} {z:Value} (hr:cS φ O w x z) {off:Nat} {val:AV}
 (hv:(∃l,x= .agg l/\(BC.mx l).sub? off sz ag=M val)\/(∃l,x= .f (.agg l)/\(BC.fz l).sub? off sz ag=M val)):∃cs v,z= .agg cs/\(part t cs off).run P w= .ok v w/\cS φ O w val v:=by
 rcases hv with ⟨l,rfl,hv⟩|⟨l,rfl,hv⟩
 .cases hr with
  |agg hl hcl hr=>
   obtain⟨v,h1,h2⟩:=X_ hs hag hv (Ul hl hcl hr);exact⟨_,v,rfl,h1,h2⟩
 .cases hr with
  |f hr=>
   cases hr with
   |agg _ vs hl hcl hr=>
    obtain⟨v,h1,h2⟩:=X_ (φ:=φ) hs hag hv (QN hl hcl hr);exact⟨_,v,rfl,h1,h2⟩
theorem aqg {s:TypeId} {fs:Array Field} {k:Nat} {f:Field} {sz:Nat} {ag:Bool} {x:Operand} (L:o.op= .field s x k) (hu:P.underlying s=M (.struct fs)) (hf:fs[k]? =M f) (hs:fJ P f.type=M sz) (hag:EL P f.type=M ag) (z:eQ (.fld f.offset sz ag x) e h nx=M R):gW P o e.get h.get R.eff:=by
 have fin:∀(y:AV) (val:AV),ng e x=M y->((∃l,y= .agg l/\(BC.mx l).sub? f.offset sz ag=M val)\/(∃l,y= .f (.agg l)/\(BC.fz l).sub? f.offset sz ag=M val))->rv val=M R->gW P o e.get h.get R.eff:=by
  intro y val A hv U;rw[dJ U];refine gW.reads λφ E h' w a _ hp _=>?_
  obtain⟨cs,v,h1,h2,Z⟩:=LK hs hag (hp x _ (by rw[L];simp[Op.operands]) A) hv;refine ⟨v,?_,Z⟩;unfold execOp;rw[L];simp[Instr.field,run_underlying hu,hf,h1,asAgg,h2]
 simp only[eQ]at z;split at z
 .rename_i l A;split at z
  .rename_i v hv;exact fin _ v A (.inl ⟨l,rfl,hv⟩) z
  .cases z
 .rename_i l A;split at z
  .rename_i v hv;exact fin _ v A (.inr ⟨l,rfl,hv⟩) z
  .cases z
 .cases z
theorem aqe {t el:TypeId} {n sz:Nat} {ag:Bool} {x y:Operand} (z:o.op= .index t x y) (hu:P.underlying t=M (.array n el)) (hs:fJ P el=M sz) (hag:EL P el=M ag) (s:eQ (.idx n sz ag x y) e h nx=M R):gW P o e.get h.get R.eff:=by
 simp only[eQ]at s;split at s
 .rename_i v0 k j L A;split at s
  .rename_i hc;simp only[c9,fR,al,ba]at hc;obtain⟨h0,h1⟩:=hc;have fin:∀(val:AV),((∃l,v0= .agg l/\(BC.mx l).sub? (j.toNat*sz) sz ag=M val)\/(∃l,v0= .f (.agg l)/\(BC.fz l).sub? (j.toNat*sz) sz ag=M val))->rv val=M R->gW P o e.get h.get R.eff:=by
    intro val hv U;rw[dJ U];refine gW.reads λφ E h' w a _ hp _=>?_
    have hyv:=fE (hp y _ (by rw[z];simp[Op.operands]) A);obtain⟨cs,v,h3,h4,h5⟩:=LK hs hag (hp x _ (by rw[z];simp[Op.operands]) L) hv;refine ⟨v,?_,h5⟩;have Z:=gK hs w;unfold execOp;rw[z];simp[Instr.index,run_underlying hu,hyv,asIntOf,h3,h0,h1,Z,h4]
   split at s
   .rename_i l;split at s
    .rename_i v hv;exact fin v (.inl ⟨l,rfl,hv⟩) s
    .cases s
   .rename_i l;split at s
    .rename_i v hv;exact fin v (.inr ⟨l,rfl,hv⟩) s
    .cases s
   .cases s
  .cases s
 .cases s
theorem amr {t el:TypeId} {x:Operand} (U:o.op= .call {callee:=.builtin .len,args:=#[x],argTypes:=#[t]}) (hu:P.underlying t=M (.slice el)) (s:eQ (.len x) e h nx=M R):gW P o e.get h.get R.eff:=by
 simp only[eQ]at s;split at s
 .rename_i y Z;split at s
  .rename_i n hn;rw[dJ s];refine gW.reads λφ E h' w a _ hp _=>?_
   have hr:=hp x _ (by rw[U];simp[Op.operands,e_]) Z;refine ⟨_,?_,.f (.raw _)⟩;have L:∃A c,a.eval x= .slice A n c:=by
    generalize a.eval x=z at hr;unfold AV.slen at hn;split at hn<;>try (simp only[ah]at hn;subst hn)
    .cases hr with
     |f hr=>cases hr with
      |nil=>exact⟨_,_,rfl⟩
      |sl=>exact⟨_,_,rfl⟩
    .cases fE hr;exact⟨_,_,rfl⟩
    .cases hr;exact⟨_,_,rfl⟩
    .cases hr;exact⟨_,_,rfl⟩
    .cases hr;exact⟨_,_,rfl⟩
    .cases hn
   obtain⟨A,c,L⟩:=L;unfold execOp;rw[U];simp[resolve,invoke,builtin,Builtin.len_,run_underlying hu,L,goInt]
  .cases s
 .cases s
theorem amq {t:TypeId} {x:Operand} (A:o.op= .call {callee:=.builtin .len,args:=#[x],argTypes:=#[t]}) (hu:P.underlying t=M .string) (z:eQ (.lens x) e h nx=M R):gW P o e.get h.get R.eff:=by
 simp only[eQ]at z;split at z
 .rename_i s L;rw[dJ z];refine gW.reads λφ E h' w a _ hp _=>?_
  have hr:=fE (hp x _ (by rw[A];simp[Op.operands,e_]) L);refine ⟨_,?_,.f (.raw _)⟩;unfold execOp;rw[A];simp[resolve,invoke,builtin,Builtin.len_,run_underlying hu,hr,goInt]
 .cases z
theorem amp {t k v:TypeId} {x:Operand} (L:o.op= .call {callee:=.builtin .len,args:=#[x],argTypes:=#[t]}) (hu:P.underlying t=M (.map k v)) (s:eQ (.lenm x) e h nx=M R):gW P o e.get h.get R.eff:=by
 simp only[eQ]at s;split at s
 .rename_i id Z;split at s
  .rename_i es hid;simp only[ah]at s;subst s;refine gW.reads λφ E h' w a hrd hp hrep=>?_
   have hr:=hp x _ (by rw[L];simp[Op.operands,e_]) Z;have hh:h' id=M ⟨0,.mp es⟩:=by rw[hrd id (by simp)];exact hid
   generalize U:a.eval x=z at hr;cases hr with
   |@mp _ b hφ=>
    obtain⟨b',h1,_,ob,h2,h3⟩:=hrep.at_ id _ hh;rw[hφ]at h1;cases h1;obtain⟨ents,clock,rfl,A,_⟩:=h3;have h5:ents.size=es.length:=by have A:ents.toList.map (·.key)=es.map (·.1):=A;have:=gZ ai A;simpa using this
    refine ⟨_,?_,.f (.raw _)⟩;unfold execOp;rw[L];simp[resolve,invoke,builtin,Builtin.len_,run_underlying hu,U,goInt,getObj,kx,h2,h5]
  .cases s
 .cases s
end
end
end Go.Proofs.YtloaobgmjdjhhaaGreatDoor.AI
